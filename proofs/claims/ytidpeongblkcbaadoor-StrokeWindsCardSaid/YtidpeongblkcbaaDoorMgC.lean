import Derived.Test.YtidpeongblkcbaaDoorMgB
import Derived.ProofKit
import Derived.OpenShut
import Derived.Deep.Slices
import Derived.LaidMore
import Derived.Stop.Joined
/- An evaluator of a part of Go's operations over a memory of its own, part sixteen: words for walks by it. Conditions: those that each theorem names. -/
namespace Go.Proofs.YtidpeongblkcbaaDoor.Sy
open Go
set_option linter.unusedVariables false
set_option linter.unusedSimpArgs false

/-- From the evaluator to the machine: a law that comes to true. -/
theorem law_calls {P : Program} {ng : Nat} {T : Nat → Option SFun} {mds : Nat → Nat → Mode} {clss : Nat → Nat → List (List Nat) × List (Nat × Nat)} (hmix : P.follows .mixedOrders = true)
    (hT : ∀ f sf, T f = some sf → ∃ fn, P.funcs[f]? = some fn ∧ slimF P ng (mds f) (clss f) fn = some sf) {f : Nat} {args : List Reg} {m : Mem} {n : Nat} (h : Fn T f args m n (fun r _ _ => r = .one (.sc (.bool true))))
    {ρ : Loc} {w : World} {vs : List Value} (hm : MRel ρ n w m) (hg : Glob ng ρ n) (hargs : RRels ρ n w args vs) (hown : ∀ id b, m id = some b → b.own = false) :
    Calls P f vs.toArray w (fun e w' => e = .returned (.bool true) ∧ Go.RowKit.Below w.heap.size w w') := by
  obtain ⟨k, r, m', n', h1, rfl⟩ := h
  refine (run_ok hmix hT k f args m n _ m' n' h1 ρ w vs hm hg hargs).2.mono fun e w' he => ?_
  obtain ⟨v, ρ', rfl, h2, h3⟩ := he
  have hv := sc_inv h3
  subst hv
  exact ⟨rfl, h2.fr.below (fun k hk => by obtain ⟨id, b, h4, h5, _⟩ := hk; rw [hown id b h4] at h5; cases h5)⟩

theorem noMem (ρ : Loc) (n : Nat) (w : World) : MRel ρ n w (fun _ => none) :=
  ⟨fun id b hb => (by cases hb), fun id b hb => (by cases hb), fun id b hb => (by cases hb), fun id b hb => (by cases hb), fun id b hb => (by cases hb)⟩

/-! ### numbers, Bools -/
abbrev I (n : Int) : Cell := .sc (.int .i64 n)
abbrev RI (n : Int) : Reg := .one (.sc (.int .i64 n))
abbrev RB (b : Bool) : Reg := .one (.sc (.bool b))
abbrev rnil : Reg := .one (.sc (.slice none 0 0))

theorem wr_eq {x : Int} (h0 : -9223372036854775808 ≤ x) (h1 : x ≤ 9223372036854775807) : IntKind.i64.wrap x = x := by
  simp [IntKind.wrap, IntKind.bits, IntKind.signed]; omega

section
variable {T : Nat → Option SFun} {d : Option Nat} {os : List SOper} {env : Nat → Reg} {Q : (Nat → Reg) → Mem → Nat → Prop}
theorem Then_some {r : Reg} {m : Mem} {n : Nat} : Then T d os env Q (some (r, m, n)) = R T os (putE env d r) m n Q := rfl
theorem Then_none : Then T d os env Q none = False := rfl
end

theorem upd_upd {α : Type} {f : Nat → α} {k : Nat} {x y : α} : upd (upd f k x) k y = upd f k y := by
  funext i
  unfold upd
  split <;> rfl
theorem unfrz_at {m m' : Mem} {n id : Nat} : unfrz m n m' id = if id < n then m id else m' id := rfl
theorem putE_some {env : Nat → Reg} {d : Nat} {r : Reg} : putE env (some d) r = upd env d r := rfl
theorem putE_none {env : Nat → Reg} {r : Reg} : putE env none r = env := rfl
theorem upd_at {α : Type} {f : Nat → α} {k i : Nat} {x : α} : upd f k x i = if i = k then x else f i := rfl

def condK (r : Reg) (p q : Prop) : Prop :=
  match r with
  | .one (.sc (.bool t)) => if t = true then p else q
  | _ => False
theorem condK_bool {t : Bool} {p q : Prop} : condK (RB t) p q = if t = true then p else q := rfl
theorem X_condK {T : Nat → Option SFun} {c : O} {a b : SC} {s : St} {Q : Ex → St → Prop} : X T (.cond c a b) s Q = condK (evO s.e c) (X T a s Q) (X T b s Q) := by
  unfold condK
  split
  · rename_i t h; exact X_cond h
  · rename_i h
    apply propext
    constructor
    · rintro ⟨k, e, s', h1, h2⟩
      simp only [exec] at h1
      first
        | (cases h1; done)
        | (split at h1
           · rename_i t ht; exact absurd ht (h t)
           · cases h1)
    · exact fun h => h.elim

theorem boolOf_b {b : Bool} : boolOf (RB b) = some b := rfl
theorem boolOf_tup {rs : List Reg} : boolOf (.tup rs) = none := rfl

section
variable {a b : Int}
theorem bin_add : binV .add (.int .i64 a) (.int .i64 b) = some (.int .i64 (IntKind.i64.wrap (a + b))) := rfl
theorem bin_sub : binV .sub (.int .i64 a) (.int .i64 b) = some (.int .i64 (IntKind.i64.wrap (a - b))) := rfl
theorem bin_mul : binV .mul (.int .i64 a) (.int .i64 b) = some (.int .i64 (IntKind.i64.wrap (a * b))) := rfl
theorem bin_lss : binV .lss (.int .i64 a) (.int .i64 b) = some (.bool (decide (a < b))) := rfl
theorem bin_leq : binV .leq (.int .i64 a) (.int .i64 b) = some (.bool (decide (a ≤ b))) := rfl
theorem bin_gtr : binV .gtr (.int .i64 a) (.int .i64 b) = some (.bool (decide (b < a))) := rfl
theorem bin_geq : binV .geq (.int .i64 a) (.int .i64 b) = some (.bool (decide (b ≤ a))) := rfl
theorem bin_eql : binV .eql (.int .i64 a) (.int .i64 b) = some (.bool (decide (a = b))) := rfl
theorem bin_neq : binV .neq (.int .i64 a) (.int .i64 b) = some (.bool (!decide (a = b))) := rfl
theorem bin_quo (h : b ≠ 0) : binV .quo (.int .i64 a) (.int .i64 b) = some (.int .i64 (IntKind.i64.wrap (a.tdiv b))) := by simp [binV, h]
theorem bin_rem (h : b ≠ 0) : binV .rem (.int .i64 a) (.int .i64 b) = some (.int .i64 (a.tmod b)) := by simp [binV, h]
theorem bin_shl (h : 0 ≤ b) (h1 : b ≤ 64) : binV .shl (.int .i64 a) (.int .i64 b) = some (.int .i64 (IntKind.i64.wrap (a * 2 ^ b.toNat))) := by
  have : ¬ b < 0 := by omega
  have h2 : min b.toNat IntKind.i64.bits = b.toNat := by simp [IntKind.bits]; omega
  simp [binV, this, h2]
theorem bin_shr (h : 0 ≤ b) (h1 : b ≤ 64) : binV .shr (.int .i64 a) (.int .i64 b) = some (.int .i64 (a.fdiv (2 ^ b.toNat))) := by
  have : ¬ b < 0 := by omega
  have h2 : min b.toNat IntKind.i64.bits = b.toNat := by simp [IntKind.bits]; omega
  simp [binV, this, h2]
theorem bin_shr1 {k : IntKind} : binV .shr (.int .i64 a) (.int k 1) = some (.int .i64 (a / 2)) := by
  show some (Value.int .i64 (a.fdiv (2 ^ 1))) = _
  rw [Int.fdiv_eq_ediv_of_nonneg _ (by decide)]; rfl
theorem un_not {t : Bool} : unV .not (.bool t) = some (.bool !t) := rfl
theorem un_neg : unV .neg (.int .i64 a) = some (.int .i64 (IntKind.i64.wrap (0 - a))) := rfl
end

def lenO (r : Reg) : Option Int :=
  match r with
  | .one (.sl _ _ len _ _) => some len
  | .one (.sc (.slice none 0 0)) => some 0
  | _ => none
theorem lenO_sl {id off len sz : Nat} {cap : Option Nat} : lenO (.one (.sl id off len cap sz)) = some (len : Int) := rfl
theorem lenO_nil : lenO rnil = some 0 := rfl

section
variable {T : Nat → Option SFun} {d : Option Nat} {os : List SOper} {env : Nat → Reg} {m : Mem} {n : Nat} {Q : (Nat → Reg) → Mem → Nat → Prop}
theorem R_mv {x : O} : R T (⟨d, .mv x, none⟩ :: os) env m n Q = Then T d os env Q (evalOp noCall env m n (.mv x)) := R_op rfl
theorem R_pick {x : O} {y : O} {z : O} : R T (⟨d, .pick x y z, none⟩ :: os) env m n Q = Then T d os env Q (evalOp noCall env m n (.pick x y z)) := R_op rfl
theorem R_alloc {zz : List Cell} : R T (⟨d, .alloc zz, none⟩ :: os) env m n Q = Then T d os env Q (evalOp noCall env m n (.alloc zz)) := R_op rfl
theorem R_box {x : O} : R T (⟨d, .box x, none⟩ :: os) env m n Q = Then T d os env Q (evalOp noCall env m n (.box x)) := R_op rfl
theorem R_build {zz : List Cell} {ps : List (Nat × Nat × O)} : R T (⟨d, .build zz ps, none⟩ :: os) env m n Q = Then T d os env Q (evalOp noCall env m n (.build zz ps)) := R_op rfl
theorem R_bslice {zz : List Cell} {k1 : Nat} {k2 : Nat} {ps : List (Nat × Nat × O)} : R T (⟨d, .bslice zz k1 k2 ps, none⟩ :: os) env m n Q = Then T d os env Q (evalOp noCall env m n (.bslice zz k1 k2 ps)) := R_op rfl
theorem R_load1 {x : O} : R T (⟨d, .load1 x, none⟩ :: os) env m n Q = Then T d os env Q (evalOp noCall env m n (.load1 x)) := R_op rfl
theorem R_loadA {k1 : Nat} {x : O} : R T (⟨d, .loadA k1 x, none⟩ :: os) env m n Q = Then T d os env Q (evalOp noCall env m n (.loadA k1 x)) := R_op rfl
theorem R_store {k1 : Nat} {x : O} {y : O} : R T (⟨d, .store k1 x y, none⟩ :: os) env m n Q = Then T d os env Q (evalOp noCall env m n (.store k1 x y)) := R_op rfl
theorem R_nilchk {x : O} : R T (⟨d, .nilchk x, none⟩ :: os) env m n Q = Then T d os env Q (evalOp noCall env m n (.nilchk x)) := R_op rfl
theorem R_bin {bo : BinOp} {x : O} {y : O} : R T (⟨d, .bin bo x y, none⟩ :: os) env m n Q = Then T d os env Q (evalOp noCall env m n (.bin bo x y)) := R_op rfl
theorem R_beq {bb : Bool} {x : O} {y : O} : R T (⟨d, .beq bb x y, none⟩ :: os) env m n Q = Then T d os env Q (evalOp noCall env m n (.beq bb x y)) := R_op rfl
theorem R_eqv {ks : List Sk} {bb : Bool} {x : O} {y : O} : R T (⟨d, .eqv ks bb x y, none⟩ :: os) env m n Q = Then T d os env Q (evalOp noCall env m n (.eqv ks bb x y)) := R_op rfl
theorem R_eqnil {k1 : Nat} {bb : Bool} {x : O} : R T (⟨d, .eqnil k1 bb x, none⟩ :: os) env m n Q = Then T d os env Q (evalOp noCall env m n (.eqnil k1 bb x)) := R_op rfl
theorem R_un {uo : UnOp} {x : O} : R T (⟨d, .un uo x, none⟩ :: os) env m n Q = Then T d os env Q (evalOp noCall env m n (.un uo x)) := R_op rfl
theorem R_conv {ik : IntKind} {x : O} : R T (⟨d, .conv ik x, none⟩ :: os) env m n Q = Then T d os env Q (evalOp noCall env m n (.conv ik x)) := R_op rfl
theorem R_mkfn {k1 : Nat} {xs : List O} : R T (⟨d, .mkfn k1 xs, none⟩ :: os) env m n Q = Then T d os env Q (evalOp noCall env m n (.mkfn k1 xs)) := R_op rfl
theorem R_mkslice {zz : List Cell} {k1 : Nat} {k2 : Nat} {x : O} {y : O} : R T (⟨d, .mkslice zz k1 k2 x y, none⟩ :: os) env m n Q = Then T d os env Q (evalOp noCall env m n (.mkslice zz k1 k2 x y)) := R_op rfl
theorem R_slS {k1 : Nat} {x : O} {l1 : Option O} {l2 : Option O} {l3 : Option O} : R T (⟨d, .slS k1 x l1 l2 l3, none⟩ :: os) env m n Q = Then T d os env Q (evalOp noCall env m n (.slS k1 x l1 l2 l3)) := R_op rfl
theorem R_slA {k1 : Nat} {k2 : Nat} {x : O} {l1 : Option O} {l2 : Option O} {l3 : Option O} : R T (⟨d, .slA k1 k2 x l1 l2 l3, none⟩ :: os) env m n Q = Then T d os env Q (evalOp noCall env m n (.slA k1 k2 x l1 l2 l3)) := R_op rfl
theorem R_fadr {k1 : Nat} {x : O} : R T (⟨d, .fadr k1 x, none⟩ :: os) env m n Q = Then T d os env Q (evalOp noCall env m n (.fadr k1 x)) := R_op rfl
theorem R_fld {k1 : Nat} {k2 : Nat} {bb : Bool} {x : O} : R T (⟨d, .fld k1 k2 bb x, none⟩ :: os) env m n Q = Then T d os env Q (evalOp noCall env m n (.fld k1 k2 bb x)) := R_op rfl
theorem R_iadrA {k1 : Nat} {k2 : Nat} {x : O} {y : O} : R T (⟨d, .iadrA k1 k2 x y, none⟩ :: os) env m n Q = Then T d os env Q (evalOp noCall env m n (.iadrA k1 k2 x y)) := R_op rfl
theorem R_iadrS {k1 : Nat} {x : O} {y : O} : R T (⟨d, .iadrS k1 x y, none⟩ :: os) env m n Q = Then T d os env Q (evalOp noCall env m n (.iadrS k1 x y)) := R_op rfl
theorem R_idxA {k1 : Nat} {k2 : Nat} {bb : Bool} {x : O} {y : O} : R T (⟨d, .idxA k1 k2 bb x y, none⟩ :: os) env m n Q = Then T d os env Q (evalOp noCall env m n (.idxA k1 k2 bb x y)) := R_op rfl
theorem R_ext {x : O} {k1 : Nat} : R T (⟨d, .ext x k1, none⟩ :: os) env m n Q = Then T d os env Q (evalOp noCall env m n (.ext x k1)) := R_op rfl
theorem R_len {x : O} : R T (⟨d, .len x, none⟩ :: os) env m n Q = Then T d os env Q ((lenO (evO env x)).map fun k => (RI k, m, n)) := by
  rw [R_op rfl]
  congr 1
  simp only [evalOp, lenO]
  split <;> simp_all
theorem R_lenC {k1 : Nat} : R T (⟨d, .lenC k1, none⟩ :: os) env m n Q = Then T d os env Q (evalOp noCall env m n (.lenC k1)) := R_op rfl
theorem R_cap {x : O} : R T (⟨d, .cap x, none⟩ :: os) env m n Q = Then T d os env Q (evalOp noCall env m n (.cap x)) := R_op rfl
theorem R_app {k1 : Nat} {k2 : Nat} {x : O} {y : O} : R T (⟨d, .app k1 k2 x y, none⟩ :: os) env m n Q = Then T d os env Q (evalOp noCall env m n (.app k1 k2 x y)) := R_op rfl
theorem R_cpy {k1 : Nat} {x : O} {y : O} : R T (⟨d, .cpy k1 x y, none⟩ :: os) env m n Q = Then T d os env Q (evalOp noCall env m n (.cpy k1 x y)) := R_op rfl
theorem R_mn {xs : List O} : R T (⟨d, .mn xs, none⟩ :: os) env m n Q = Then T d os env Q (evalOp noCall env m n (.mn xs)) := R_op rfl
theorem R_mx {xs : List O} : R T (⟨d, .mx xs, none⟩ :: os) env m n Q = Then T d os env Q (evalOp noCall env m n (.mx xs)) := R_op rfl
end


/-! ### numbers that differ -/
section
variable {n : Nat}
theorem sn1 : (n = n + 1) = False := eq_false (by omega)
theorem ns1 : (n + 1 = n) = False := eq_false (by omega)
theorem sn2 : (n = n + 1 + 1) = False := eq_false (by omega)
theorem ns2 : (n + 1 + 1 = n) = False := eq_false (by omega)
theorem sn3 : (n = n + 1 + 1 + 1) = False := eq_false (by omega)
theorem ns3 : (n + 1 + 1 + 1 = n) = False := eq_false (by omega)
theorem sn4 : (n = n + 1 + 1 + 1 + 1) = False := eq_false (by omega)
theorem ns4 : (n + 1 + 1 + 1 + 1 = n) = False := eq_false (by omega)
theorem sn5 : (n = n + 1 + 1 + 1 + 1 + 1) = False := eq_false (by omega)
theorem ns5 : (n + 1 + 1 + 1 + 1 + 1 = n) = False := eq_false (by omega)
theorem sn6 : (n = n + 1 + 1 + 1 + 1 + 1 + 1) = False := eq_false (by omega)
theorem ns6 : (n + 1 + 1 + 1 + 1 + 1 + 1 = n) = False := eq_false (by omega)
theorem sn7 : (n = n + 1 + 1 + 1 + 1 + 1 + 1 + 1) = False := eq_false (by omega)
theorem ns7 : (n + 1 + 1 + 1 + 1 + 1 + 1 + 1 = n) = False := eq_false (by omega)
theorem sn8 : (n = n + 1 + 1 + 1 + 1 + 1 + 1 + 1 + 1) = False := eq_false (by omega)
theorem ns8 : (n + 1 + 1 + 1 + 1 + 1 + 1 + 1 + 1 = n) = False := eq_false (by omega)
theorem sn9 : (n = n + 1 + 1 + 1 + 1 + 1 + 1 + 1 + 1 + 1) = False := eq_false (by omega)
theorem ns9 : (n + 1 + 1 + 1 + 1 + 1 + 1 + 1 + 1 + 1 = n) = False := eq_false (by omega)
theorem sn10 : (n = n + 1 + 1 + 1 + 1 + 1 + 1 + 1 + 1 + 1 + 1) = False := eq_false (by omega)
theorem ns10 : (n + 1 + 1 + 1 + 1 + 1 + 1 + 1 + 1 + 1 + 1 = n) = False := eq_false (by omega)
theorem sn11 : (n = n + 1 + 1 + 1 + 1 + 1 + 1 + 1 + 1 + 1 + 1 + 1) = False := eq_false (by omega)
theorem ns11 : (n + 1 + 1 + 1 + 1 + 1 + 1 + 1 + 1 + 1 + 1 + 1 = n) = False := eq_false (by omega)
theorem sn12 : (n = n + 1 + 1 + 1 + 1 + 1 + 1 + 1 + 1 + 1 + 1 + 1 + 1) = False := eq_false (by omega)
theorem ns12 : (n + 1 + 1 + 1 + 1 + 1 + 1 + 1 + 1 + 1 + 1 + 1 + 1 = n) = False := eq_false (by omega)
theorem sk1_2 : (n + 1 = n + 1 + 1) = False := eq_false (by omega)
theorem sk1_3 : (n + 1 = n + 1 + 1 + 1) = False := eq_false (by omega)
theorem sk1_4 : (n + 1 = n + 1 + 1 + 1 + 1) = False := eq_false (by omega)
theorem sk1_5 : (n + 1 = n + 1 + 1 + 1 + 1 + 1) = False := eq_false (by omega)
theorem sk1_6 : (n + 1 = n + 1 + 1 + 1 + 1 + 1 + 1) = False := eq_false (by omega)
theorem sk1_7 : (n + 1 = n + 1 + 1 + 1 + 1 + 1 + 1 + 1) = False := eq_false (by omega)
theorem sk1_8 : (n + 1 = n + 1 + 1 + 1 + 1 + 1 + 1 + 1 + 1) = False := eq_false (by omega)
theorem sk2_1 : (n + 1 + 1 = n + 1) = False := eq_false (by omega)
theorem sk2_3 : (n + 1 + 1 = n + 1 + 1 + 1) = False := eq_false (by omega)
theorem sk2_4 : (n + 1 + 1 = n + 1 + 1 + 1 + 1) = False := eq_false (by omega)
theorem sk2_5 : (n + 1 + 1 = n + 1 + 1 + 1 + 1 + 1) = False := eq_false (by omega)
theorem sk2_6 : (n + 1 + 1 = n + 1 + 1 + 1 + 1 + 1 + 1) = False := eq_false (by omega)
theorem sk2_7 : (n + 1 + 1 = n + 1 + 1 + 1 + 1 + 1 + 1 + 1) = False := eq_false (by omega)
theorem sk2_8 : (n + 1 + 1 = n + 1 + 1 + 1 + 1 + 1 + 1 + 1 + 1) = False := eq_false (by omega)
theorem sk3_1 : (n + 1 + 1 + 1 = n + 1) = False := eq_false (by omega)
theorem sk3_2 : (n + 1 + 1 + 1 = n + 1 + 1) = False := eq_false (by omega)
theorem sk3_4 : (n + 1 + 1 + 1 = n + 1 + 1 + 1 + 1) = False := eq_false (by omega)
theorem sk3_5 : (n + 1 + 1 + 1 = n + 1 + 1 + 1 + 1 + 1) = False := eq_false (by omega)
theorem sk3_6 : (n + 1 + 1 + 1 = n + 1 + 1 + 1 + 1 + 1 + 1) = False := eq_false (by omega)
theorem sk3_7 : (n + 1 + 1 + 1 = n + 1 + 1 + 1 + 1 + 1 + 1 + 1) = False := eq_false (by omega)
theorem sk3_8 : (n + 1 + 1 + 1 = n + 1 + 1 + 1 + 1 + 1 + 1 + 1 + 1) = False := eq_false (by omega)
theorem sk4_1 : (n + 1 + 1 + 1 + 1 = n + 1) = False := eq_false (by omega)
theorem sk4_2 : (n + 1 + 1 + 1 + 1 = n + 1 + 1) = False := eq_false (by omega)
theorem sk4_3 : (n + 1 + 1 + 1 + 1 = n + 1 + 1 + 1) = False := eq_false (by omega)
theorem sk4_5 : (n + 1 + 1 + 1 + 1 = n + 1 + 1 + 1 + 1 + 1) = False := eq_false (by omega)
theorem sk4_6 : (n + 1 + 1 + 1 + 1 = n + 1 + 1 + 1 + 1 + 1 + 1) = False := eq_false (by omega)
theorem sk4_7 : (n + 1 + 1 + 1 + 1 = n + 1 + 1 + 1 + 1 + 1 + 1 + 1) = False := eq_false (by omega)
theorem sk4_8 : (n + 1 + 1 + 1 + 1 = n + 1 + 1 + 1 + 1 + 1 + 1 + 1 + 1) = False := eq_false (by omega)
theorem sk5_1 : (n + 1 + 1 + 1 + 1 + 1 = n + 1) = False := eq_false (by omega)
theorem sk5_2 : (n + 1 + 1 + 1 + 1 + 1 = n + 1 + 1) = False := eq_false (by omega)
theorem sk5_3 : (n + 1 + 1 + 1 + 1 + 1 = n + 1 + 1 + 1) = False := eq_false (by omega)
theorem sk5_4 : (n + 1 + 1 + 1 + 1 + 1 = n + 1 + 1 + 1 + 1) = False := eq_false (by omega)
theorem sk5_6 : (n + 1 + 1 + 1 + 1 + 1 = n + 1 + 1 + 1 + 1 + 1 + 1) = False := eq_false (by omega)
theorem sk5_7 : (n + 1 + 1 + 1 + 1 + 1 = n + 1 + 1 + 1 + 1 + 1 + 1 + 1) = False := eq_false (by omega)
theorem sk5_8 : (n + 1 + 1 + 1 + 1 + 1 = n + 1 + 1 + 1 + 1 + 1 + 1 + 1 + 1) = False := eq_false (by omega)
theorem sk6_1 : (n + 1 + 1 + 1 + 1 + 1 + 1 = n + 1) = False := eq_false (by omega)
theorem sk6_2 : (n + 1 + 1 + 1 + 1 + 1 + 1 = n + 1 + 1) = False := eq_false (by omega)
theorem sk6_3 : (n + 1 + 1 + 1 + 1 + 1 + 1 = n + 1 + 1 + 1) = False := eq_false (by omega)
theorem sk6_4 : (n + 1 + 1 + 1 + 1 + 1 + 1 = n + 1 + 1 + 1 + 1) = False := eq_false (by omega)
theorem sk6_5 : (n + 1 + 1 + 1 + 1 + 1 + 1 = n + 1 + 1 + 1 + 1 + 1) = False := eq_false (by omega)
theorem sk6_7 : (n + 1 + 1 + 1 + 1 + 1 + 1 = n + 1 + 1 + 1 + 1 + 1 + 1 + 1) = False := eq_false (by omega)
theorem sk6_8 : (n + 1 + 1 + 1 + 1 + 1 + 1 = n + 1 + 1 + 1 + 1 + 1 + 1 + 1 + 1) = False := eq_false (by omega)
theorem sk7_1 : (n + 1 + 1 + 1 + 1 + 1 + 1 + 1 = n + 1) = False := eq_false (by omega)
theorem sk7_2 : (n + 1 + 1 + 1 + 1 + 1 + 1 + 1 = n + 1 + 1) = False := eq_false (by omega)
theorem sk7_3 : (n + 1 + 1 + 1 + 1 + 1 + 1 + 1 = n + 1 + 1 + 1) = False := eq_false (by omega)
theorem sk7_4 : (n + 1 + 1 + 1 + 1 + 1 + 1 + 1 = n + 1 + 1 + 1 + 1) = False := eq_false (by omega)
theorem sk7_5 : (n + 1 + 1 + 1 + 1 + 1 + 1 + 1 = n + 1 + 1 + 1 + 1 + 1) = False := eq_false (by omega)
theorem sk7_6 : (n + 1 + 1 + 1 + 1 + 1 + 1 + 1 = n + 1 + 1 + 1 + 1 + 1 + 1) = False := eq_false (by omega)
theorem sk7_8 : (n + 1 + 1 + 1 + 1 + 1 + 1 + 1 = n + 1 + 1 + 1 + 1 + 1 + 1 + 1 + 1) = False := eq_false (by omega)
theorem sk8_1 : (n + 1 + 1 + 1 + 1 + 1 + 1 + 1 + 1 = n + 1) = False := eq_false (by omega)
theorem sk8_2 : (n + 1 + 1 + 1 + 1 + 1 + 1 + 1 + 1 = n + 1 + 1) = False := eq_false (by omega)
theorem sk8_3 : (n + 1 + 1 + 1 + 1 + 1 + 1 + 1 + 1 = n + 1 + 1 + 1) = False := eq_false (by omega)
theorem sk8_4 : (n + 1 + 1 + 1 + 1 + 1 + 1 + 1 + 1 = n + 1 + 1 + 1 + 1) = False := eq_false (by omega)
theorem sk8_5 : (n + 1 + 1 + 1 + 1 + 1 + 1 + 1 + 1 = n + 1 + 1 + 1 + 1 + 1) = False := eq_false (by omega)
theorem sk8_6 : (n + 1 + 1 + 1 + 1 + 1 + 1 + 1 + 1 = n + 1 + 1 + 1 + 1 + 1 + 1) = False := eq_false (by omega)
theorem sk8_7 : (n + 1 + 1 + 1 + 1 + 1 + 1 + 1 + 1 = n + 1 + 1 + 1 + 1 + 1 + 1 + 1) = False := eq_false (by omega)
end

theorem pack_one {r : Reg} : pack [r] = r := rfl
theorem pack_two {r s : Reg} : pack [r, s] = .tup [r, s] := rfl
theorem pack_three {r s t : Reg} : pack [r, s, t] = .tup [r, s, t] := rfl
theorem pack_none : pack [] = .tup [] := rfl
theorem getD_nil {t : Nat} : ([] : List Reg).getD t (.tup []) = .tup [] := by simp

/-! ### slices that are read -/
def Rd (m : Mem) (n : Nat) (r : Reg) (cs : List Cell) (len sz : Nat) : Prop :=
  (r = rnil ∧ len = 0 ∧ cs = []) ∨ ∃ id off cap, r = .one (.sl id off len cap sz) ∧ id < n ∧ rd m id off (len * sz) = some cs

theorem rd_frz (m : Mem) (id off k : Nat) : rd (frz m) id off k = rd m id off k := by
  unfold rd frz
  cases m id <;> rfl

theorem rd_len {m : Mem} {id off k : Nat} {cs : List Cell} (h : rd m id off k = some cs) : cs.length = k := by
  unfold rd at h
  split at h
  case h_2 => cases h
  split at h
  case isFalse => cases h
  cases h
  simp; omega

/-- A part of what is read. -/
theorem rd_part {m : Mem} {id off k a b : Nat} {cs : List Cell} (h : rd m id off k = some cs) (hab : a + b ≤ k) : rd m id (off + a) b = some ((cs.drop a).take b) := by
  unfold rd at h ⊢
  split at h
  case h_2 => cases h
  rename_i blk hb
  split at h
  case isFalse => cases h
  rename_i hle
  cases h
  rw [if_pos (by omega)]
  congr 1
  rw [List.drop_take, List.take_take, List.drop_drop]
  congr 1
  omega

theorem rd_cell {m : Mem} {id off k a : Nat} {cs : List Cell} {c : Cell} (h : rd m id off k = some cs) (hc : cs[a]? = some c) : ∃ b, m id = some b ∧ b.cells[off + a]? = some c := by
  have hl := rd_len h
  unfold rd at h
  split at h
  case h_2 => cases h
  rename_i blk hb
  split at h
  case isFalse => cases h
  rename_i hle
  cases h
  have ha : a < k := by rw [← hl]; exact (List.getElem?_eq_some_iff.1 hc).1
  refine ⟨blk, hb, ?_⟩
  rwa [List.getElem?_take_of_lt ha, List.getElem?_drop] at hc

theorem Rd.frz {m : Mem} {n : Nat} {r : Reg} {cs : List Cell} {len sz : Nat} (h : Rd m n r cs len sz) : Rd (frz m) n r cs len sz := by
  rcases h with h | ⟨id, off, cap, h1, h2, h3⟩
  · exact Or.inl h
  · exact Or.inr ⟨id, off, cap, h1, h2, by rw [rd_frz]; exact h3⟩

/-- What is read stays, where the old memory stays. -/
theorem Rd.keep {m m' : Mem} {n n' : Nat} {r : Reg} {cs : List Cell} {len sz : Nat} (h : Rd m n r cs len sz) (hn : n ≤ n') (hm : ∀ id, id < n → m' id = m id) : Rd m' n' r cs len sz := by
  rcases h with h | ⟨id, off, cap, h1, h2, h3⟩
  · exact Or.inl h
  · refine Or.inr ⟨id, off, cap, h1, by omega, ?_⟩
    have : rd m' id off (len * sz) = rd m id off (len * sz) := by unfold rd; rw [hm id h2]
    rw [this]; exact h3

theorem Rd.len {m : Mem} {n : Nat} {r : Reg} {cs : List Cell} {len sz : Nat} (h : Rd m n r cs len sz) : lenO r = some (len : Int) := by
  rcases h with ⟨rfl, rfl, rfl⟩ | ⟨id, off, cap, rfl, h2, h3⟩ <;> rfl
theorem len_Rd {call : Callf} {env : Nat → Reg} {m : Mem} {n : Nat} {r : Reg} {cs : List Cell} {len sz : Nat} {x : O} (h : Rd m n r cs len sz) (hx : evO env x = r) : evalOp call env m n (.len x) = some (RI len, m, n) := by
  rcases h with ⟨rfl, rfl, rfl⟩ | ⟨id, off, cap, rfl, h2, h3⟩ <;> simp [evalOp, hx]

def rdB (b : Blk) (off k : Nat) : Option (List Cell) := if off + k ≤ b.cells.length then some ((b.cells.drop off).take k) else none
theorem rd_upd {m : Mem} {k id off j : Nat} {b : Blk} : rd (upd m k (some b)) id off j = if id = k then rdB b off j else rd m id off j := by
  unfold rd rdB
  by_cases h : id = k
  · subst h; rw [upd_same, if_pos rfl]
  · rw [upd_ne _ _ h, if_neg h]
theorem lt0 {id n : Nat} (h : id < n) : (id = n) = False := eq_false (by omega)
theorem lt1 {id n : Nat} (h : id < n) : (id = n + 1) = False := eq_false (by omega)
theorem lt2 {id n : Nat} (h : id < n) : (id = n + 1 + 1) = False := eq_false (by omega)
theorem lt3 {id n : Nat} (h : id < n) : (id = n + 1 + 1 + 1) = False := eq_false (by omega)
theorem lt4 {id n : Nat} (h : id < n) : (id = n + 1 + 1 + 1 + 1) = False := eq_false (by omega)
theorem wr_nat {i : Nat} (h : i < 4294967296) : IntKind.i64.wrap ((i : Int) + 1) = ((i + 1 : Nat) : Int) := by
  rw [wr_eq (by omega) (by omega)]; rfl

/-- Rows of records: the record i. -/
theorem flatMap_at {α : Type} (enc : α → List Cell) (sz : Nat) (hsz : ∀ x, (enc x).length = sz) : ∀ (l : List α) (i : Nat) (x : α), l[i]? = some x → ((l.flatMap enc).drop (i * sz)).take sz = enc x
  | [], i, x, h => by simp at h
  | y :: l, 0, x, h => by
    simp only [List.getElem?_cons_zero, Option.some.injEq] at h
    subst h
    rw [Nat.zero_mul, List.drop_zero, List.flatMap_cons, List.take_append_of_le_length (by rw [hsz]; exact Nat.le_refl _), List.take_of_length_le (by rw [hsz]; exact Nat.le_refl _)]
  | y :: l, i + 1, x, h => by
    rw [List.flatMap_cons, List.drop_append, List.drop_of_length_le (by rw [hsz, Nat.add_mul]; omega), List.nil_append, hsz, show (i + 1) * sz - sz = i * sz by rw [Nat.add_mul]; omega]
    exact flatMap_at enc sz hsz l i x (by simpa using h)
theorem flatMap_len {α : Type} (enc : α → List Cell) (sz : Nat) (hsz : ∀ x, (enc x).length = sz) (l : List α) : (l.flatMap enc).length = l.length * sz := by
  induction l with
  | nil => simp
  | cons x l ih => rw [List.flatMap_cons, List.length_append, hsz, ih, List.length_cons, Nat.add_mul]; omega
theorem rd_at {α : Type} {enc : α → List Cell} {sz : Nat} (hsz : ∀ x, (enc x).length = sz) {m : Mem} {id off : Nat} {l : List α} {i : Nat} {x : α} (h : rd m id off (l.length * sz) = some (l.flatMap enc)) (hi : l[i]? = some x) : rd m id (off + i * sz) sz = some (enc x) := by
  have hlt : i < l.length := (List.getElem?_eq_some_iff.1 hi).1
  have h1 : i * sz + sz ≤ l.length * sz := by
    have := Nat.mul_le_mul_right sz (show i + 1 ≤ l.length from hlt)
    rw [Nat.add_mul] at this; omega
  rw [rd_part h h1, flatMap_at enc sz hsz l i x hi]

/-! ### rules that do not hold for any memory -/
theorem R_then {T : Nat → Option SFun} {d : Option Nat} {op : SOp} {os : List SOper} {env : Nat → Reg} {m m' : Mem} {n n' : Nat} {r : Reg} {Q : (Nat → Reg) → Mem → Nat → Prop} (hc : isCall op = false)
    (h : evalOp noCall env m n op = some (r, m', n')) (hR : R T os (putE env d r) m' n' Q) : R T (⟨d, op, none⟩ :: os) env m n Q := by
  rw [R_op hc, h]
  exact hR
end Go.Proofs.YtidpeongblkcbaaDoor.Sy

/- SyQ: arguments of a law, opened for the evaluator. A plain library of this session's own; conditions: none beyond those that each theorem names. -/
namespace Go.Proofs.YtidpeongblkcbaaDoor.Sy
open Go.RowKit Go.ChangeShapes Go.WideShapes Go.Deep

inductive CK where
  | int (k : IntKind)
  | bool

/-- Cells of these kinds. -/
def CksOk : List CK → List Value → Prop
  | [], vs => vs = []
  | .int k :: ks, vs => ∃ n r, vs = .int k n :: r ∧ (k.min ≤ n ∧ n ≤ k.max) ∧ CksOk ks r
  | .bool :: ks, vs => ∃ b r, vs = .bool b :: r ∧ CksOk ks r

def goF (P : Program) (rec : TypeId → Option (List CK)) : List Field → Nat → Option (List CK)
  | [], _ => some []
  | f :: fs, off =>
    match rec f.type with
    | none => none
    | some ks => if f.offset = off ∧ ks.length = P.cellsOf f.type then (goF P rec fs (off + ks.length)).map (ks ++ ·) else none

/-- The kinds of a type's cells, where all are numbers or Bools. -/
def kindsK (P : Program) : Nat → TypeId → Option (List CK)
  | 0, _ => none
  | n + 1, t =>
    match P.underlying t with
    | some (.int k) => some [.int k]
    | some .bool => some [.bool]
    | some (.struct fs) => (goF P (kindsK P n) fs.toList 0).bind fun ks => if ks.length = P.cellsOf t then some ks else none
    | some (.array m e) => (kindsK P n e).bind fun ks => if ks.length = P.cellsOf e ∧ m * ks.length = P.cellsOf t then some (List.replicate m ks).flatten else none
    | _ => none

theorem CksOk.app : ∀ {ks ls : List CK} {a b : List Value}, CksOk ks a → CksOk ls b → CksOk (ks ++ ls) (a ++ b)
  | [], ls, a, b, h, h' => by simp only [CksOk] at h; subst h; exact h'
  | .int k :: ks, ls, a, b, h, h' => by
    obtain ⟨n, r, rfl, h1, h2⟩ := h
    exact ⟨n, r ++ b, rfl, h1, CksOk.app h2 h'⟩
  | .bool :: ks, ls, a, b, h, h' => by
    obtain ⟨n, r, rfl, h2⟩ := h
    exact ⟨n, r ++ b, rfl, CksOk.app h2 h'⟩

theorem CksOk.len : ∀ {ks : List CK} {a : List Value}, CksOk ks a → a.length = ks.length
  | [], a, h => by simp only [CksOk] at h; subst h; rfl
  | .int k :: ks, a, h => by
    obtain ⟨n, r, rfl, h1, h2⟩ := h
    simp [CksOk.len h2]
  | .bool :: ks, a, h => by
    obtain ⟨n, r, rfl, h2⟩ := h
    simp [CksOk.len h2]

theorem CksOk.rel {ρ : Loc} {n : Nat} {w : World} : ∀ {ks : List CK} {a : List Value}, CksOk ks a → CRels ρ n w (a.map .sc) a
  | [], a, h => by simp only [CksOk] at h; subst h; simp [CRels]
  | .int k :: ks, a, h => by
    obtain ⟨m, r, rfl, h1, h2⟩ := h
    simp only [List.map_cons, CRels]
    exact ⟨_, _, rfl, ⟨rfl, rfl⟩, CksOk.rel h2⟩
  | .bool :: ks, a, h => by
    obtain ⟨m, r, rfl, h2⟩ := h
    simp only [List.map_cons, CRels]
    exact ⟨_, _, rfl, ⟨rfl, rfl⟩, CksOk.rel h2⟩

/-- Whatever reads as_ data of the type has these cells. -/
def OpK (P : Program) (T : TypeId) (ks : List CK) : Prop :=
  ∀ (H : Type) (enc : TypeId × Value → H) (w : World) (base : Nat) (spare : Nat → Bool) (held : Bool) (fuel : Nat) (cs : List Value) (x : DataW H × List MemPlace),
    DataW.trod enc P w base spare held fuel T cs = some x → CksOk ks cs

theorem has_of_wf {k : IntKind} {n : Int} (h : (Lit.int k n).wf = true) : k.min ≤ n ∧ n ≤ k.max := by
  simpa only [Lit.wf, Bool.and_eq_true, decide_eq_true_eq] using h

theorem goF_ok {P : Program} {rec : TypeId → Option (List CK)} (hrec : ∀ t ks, rec t = some ks → OpK P t ks) {H : Type} {enc : TypeId × Value → H} {w : World} {base : Nat} {spare : Nat → Bool} {held : Bool} {fuel : Nat} :
    ∀ {fs : List Field} {off : Nat} {ks : List CK} {cs : List Value}, goF P rec fs off = some ks → cs.length = off + ks.length →
      (∀ f ∈ fs, ∃ x, DataW.trod enc P w base spare held fuel f.type ((cs.drop f.offset).take (P.cellsOf f.type)) = some x) → CksOk ks (cs.drop off)
  | [], off, ks, cs, h, hl, hf => by
    simp only [goF, Option.some.injEq] at h
    subst h
    show cs.drop off = []
    exact List.drop_eq_nil_of_le (by simp at hl; omega)
  | f :: fs, off, ks, cs, h, hl, hf => by
    simp only [goF] at h
    split at h
    · cases h
    rename_i ks1 h1
    split at h
    case isFalse => cases h
    rename_i hc
    obtain ⟨ks2, h2, rfl⟩ := Option.map_eq_some_iff.1 h
    obtain ⟨x, hx⟩ := hf f (by simp)
    have h3 := hrec _ _ h1 H enc w base spare held fuel _ _ hx
    rw [hc.1, ← hc.2] at h3
    have h4 := goF_ok hrec (fs := fs) (off := off + ks1.length) (cs := cs) h2 (by simp at hl; omega) (fun g hg => hf g (by simp [hg]))
    have := h3.app h4
    rwa [← List.drop_drop, List.take_append_drop] at this

theorem rep_ok {ks : List CK} : ∀ (m : Nat) (cs : List Value), cs.length = m * ks.length → (∀ i, i < m → CksOk ks ((cs.drop (i * ks.length)).take ks.length)) → CksOk (List.replicate m ks).flatten cs
  | 0, cs, hl, h => by
    simp only [Nat.zero_mul, List.length_eq_zero_iff] at hl
    subst hl
    exact rfl
  | m + 1, cs, hl, h => by
    rw [List.replicate_succ, List.flatten_cons]
    have h0 := h 0 (by omega)
    rw [Nat.zero_mul, List.drop_zero] at h0
    have h1 := rep_ok (ks := ks) m (cs.drop ks.length) (by rw [List.length_drop, hl, Nat.succ_mul]; omega) (fun i hi => by
      have := h (i + 1) (by omega)
      rwa [Nat.succ_mul, Nat.add_comm, ← List.drop_drop] at this)
    have := h0.app h1
    rwa [List.take_append_drop] at this

theorem kindsK_ok {P : Program} : ∀ {k : Nat} {T : TypeId} {ks : List CK}, kindsK P k T = some ks → OpK P T ks
  | 0, T, ks, h => by simp [kindsK] at h
  | k + 1, T, ks, h => by
    intro H enc w base spare held fuel cs x hx
    simp only [kindsK] at h
    split at h
    · rename_i kd ht
      cases h
      obtain ⟨n, rfl, _, hw⟩ := DataW.trod_int ht hx
      exact ⟨n, [], rfl, has_of_wf hw, rfl⟩
    · rename_i ht
      cases h
      obtain ⟨b, rfl, _⟩ := DataW.trod_bool ht hx
      exact ⟨b, [], rfl, rfl⟩
    · rename_i fs ht
      obtain ⟨ks', h1, h2⟩ := Option.bind_eq_some_iff.1 h
      split at h2
      case isFalse => cases h2
      cases h2
      rename_i hlen
      obtain ⟨xs, n, _, _, hl, hxs, hf⟩ := DataW.trod_struct ht hx
      have := goF_ok (fun t ks h => kindsK_ok h) (H := H) (enc := enc) (w := w) (base := base) (spare := spare) (held := held) (fuel := n) (cs := cs) h1 (by rw [hl, hlen]; omega) (fun f hfm => by
        obtain ⟨i, hi, rfl⟩ := List.mem_iff_getElem.1 hfm
        have hi' : i < fs.size := by simpa using hi
        have := hf i fs[i] (by simp [hi'])
        rw [List.getElem?_eq_getElem (by omega)] at this
        exact ⟨_, by simpa using this⟩)
      rwa [List.drop_zero] at this
    · rename_i m e ht
      obtain ⟨ks', h1, h2⟩ := Option.bind_eq_some_iff.1 h
      split at h2
      case isFalse => cases h2
      cases h2
      rename_i hc
      obtain ⟨xs, n, _, _, hl, hxs, hf⟩ := DataW.trod_array ht hx
      refine rep_ok m cs (by rw [hl, hc.2]) (fun i hi => ?_)
      have := hf i hi
      rw [List.getElem?_eq_getElem (by omega), ← hc.1] at this
      exact kindsK_ok h1 H enc w base spare held n _ _ this
    · cases h

/-- A flat argument that is a struct or an array. -/
theorem arg_agg {P : Program} {T : TypeId} {ks : List CK} {k : Nat} (hk : kindsK P k T = some ks) {H : Type} {enc : TypeId × Value → H} {w : World} {base : Nat} {spare : Nat → Bool} {held : Bool} {cs : Array Value} {d : DataW H} {ps : List MemPlace}
    (h : DataW.Trod enc P w base spare held T (.agg cs) d ps) : ∃ l : List Value, cs = l.toArray ∧ CksOk ks l := by
  obtain ⟨fuel, hf⟩ := h
  exact ⟨cs.toList, by simp, kindsK_ok hk H enc w base spare held fuel _ _ hf⟩

theorem arg_int {P : Program} {T : TypeId} {k : IntKind} {w : World} {base : Nat} {v : Value} (ht : P.underlying T = some (.int k)) (h : Value.okWide P w .any base T v) : ∃ n, v = .int k n ∧ k.min ≤ n ∧ n ≤ k.max := by
  simp only [Value.okWide, ht, Cell.okWide] at h
  cases v <;> simp_all [Cell.ok, IntKind.has]

theorem arg_arr {P : Program} {w : World} {r : Reach} {base : Nat} {t e : TypeId} {n : Nat} {v : Value} (ht : P.underlying t = some (.array n e)) (h : Value.okWide P w r base t v) : ∃ cs, v = .agg cs ∧ cs.size = P.cellsOf t := by
  simp only [Value.okWide, ht] at h
  obtain ⟨cs, h1, h2, _⟩ := h
  exact ⟨cs, h1, h2⟩

/-- Rows of cells of these kinds. -/
def RowsOk (ks : List CK) (n : Nat) (vs : List Value) : Prop := CksOk (List.replicate n ks).flatten vs

/-- A slice of flat elements: nil, or a row of cells that stands in the world. -/
theorem arg_slice {P : Program} {T e : TypeId} {ks : List CK} {k : Nat} (ht : P.underlying T = some (.slice e)) (hk : kindsK P k e = some ks) (hc : P.cellsOf e = ks.length) (h0 : ks.length ≠ 0) {H : Type} {enc : TypeId × Value → H} {w : World} {base base' : Nat} {held : Bool} {v : Value} {d : DataW H} {ps : List MemPlace}
    (hv : Value.okWide P w .any base' T v) (h : DataW.Trod enc P w base (fun _ => true) held T v d ps) :
    v = .slice none 0 0 ∨ ∃ b o len cap vs, v = .slice (some ⟨b, o, none⟩) len cap ∧ b < w.heap.size ∧ len ≤ cap ∧ cap ≤ maxLen ∧ RowsOk ks cap vs ∧ ∀ (i : Nat) (x : Value), vs[i]? = some x → w.cell? ⟨b, o + i, none⟩ = some x := by
  obtain ⟨a, len, cap, rfl⟩ := okWide_slice ht hv
  obtain ⟨fuel, hf⟩ := h
  rcases open_slice ht hf with ⟨hcs, _⟩ | ⟨a', len', cap', m, n, D, Pl, hcs, _, hl, hm, hmm, _, hx⟩
  · left
    exact (List.cons.inj hcs).1
  · right
    obtain ⟨rfl, rfl, rfl⟩ := Value.slice.inj (List.cons.inj hcs).1
    rw [if_pos rfl] at hmm
    subst hmm
    have hspot : a'.spot = none ∧ a'.block < w.heap.size := by
      simp only [Value.okWide, ht, Cell.okWide, Cell.ok] at hv
      obtain ⟨_, _, _, h1, row, cells, h2, _⟩ := hv
      refine ⟨h1, ?_⟩
      unfold World.shape? at h2
      split at h2
      · rename_i hb
        exact (Array.getElem?_eq_some_iff.1 hb).1
      · cases h2
    obtain ⟨b, o, sp⟩ := a'
    obtain ⟨rfl, hb⟩ := hspot
    refine ⟨b, o, len, m, (List.range (m * ks.length)).map (fun i => (w.cell? ⟨b, o + i, none⟩).getD (.bool false)), rfl, hb, hl, hm, ?_, ?_⟩
    · refine rep_ok m _ (by simp) (fun i hi => ?_)
      obtain ⟨cs', h1, h2⟩ := hx i hi
      have h3 := kindsK_ok hk H enc w base _ held n _ _ h2
      obtain ⟨_, h4, h5⟩ := World.cells?_some h1
      have hle : i * ks.length + ks.length ≤ m * ks.length := by
        have := Nat.mul_le_mul_right ks.length (show i + 1 ≤ m from hi)
        rwa [Nat.succ_mul] at this
      have : ((List.map (fun i => (w.cell? ⟨b, o + i, none⟩).getD (.bool false)) (List.range (m * ks.length))).drop (i * ks.length)).take ks.length = cs' := by
        refine List.ext_getElem? (fun j => ?_)
        rw [hc] at h4 h5
        by_cases hj : j < ks.length
        · rw [List.getElem?_take_of_lt hj, List.getElem?_drop, List.getElem?_map, List.getElem?_range (by omega)]
          have h6 := h5 j hj
          rw [Deep.add_add] at h6
          have h7 : (⟨b, o, none⟩ : Addr).add (i * ks.length + j) = ⟨b, o + (i * ks.length + j), none⟩ := by
            unfold Addr.add
            split
            · rename_i hz; rw [hz]; rfl
            · rfl
          rw [h7] at h6
          rw [Option.map_some, h6, List.getElem?_eq_getElem (by omega)]
          rfl
        · rw [List.getElem?_eq_none (by simp; omega), List.getElem?_eq_none (by omega)]
      rw [this]
      exact h3
    · intro i x hi
      rw [List.getElem?_map] at hi
      obtain ⟨j, hj, rfl⟩ := Option.map_eq_some_iff.1 hi
      obtain ⟨hj1, rfl⟩ := List.getElem?_eq_some_iff.1 hj
      rw [List.getElem_range] at hj ⊢
      have hj2 : i < m * ks.length := by simpa using hj1
      have hpos : 0 < ks.length := by omega
      have hdm := Nat.div_add_mod i ks.length
      have hmod := Nat.mod_lt i hpos
      have hdiv : i / ks.length < m := Nat.div_lt_of_lt_mul (by rwa [Nat.mul_comm])
      obtain ⟨cs', h1, _⟩ := hx _ hdiv
      obtain ⟨_, h4, h5⟩ := World.cells?_some h1
      rw [hc] at h4 h5
      have h6 := h5 _ hmod
      rw [Deep.add_add] at h6
      have h7 : (⟨b, o, none⟩ : Addr).add (i / ks.length * ks.length + i % ks.length) = ⟨b, o + i, none⟩ := by
        unfold Addr.add
        rw [Nat.mul_comm, hdm]
        split
        · rename_i hz; rw [hz]; rfl
        · rfl
      rw [h7, List.getElem?_eq_getElem (by omega)] at h6
      rw [h6]
      rfl

/-! ### memory -/
def Held (m : Mem) : Prop := ∀ id b, m id = some b → b.own = false
theorem held_none : Held (fun _ => none) := fun _ _ h => by cases h
theorem held_upd {m : Mem} (h : Held m) (k : Nat) (cs : List Cell) : Held (upd m k (some ⟨cs, false⟩)) := by
  intro id b hb
  unfold upd at hb
  split at hb
  · cases hb; rfl
  · exact h id b hb

def atL (ρ : Loc) (n b o : Nat) : Loc := fun id => if id = n then (b, o) else ρ id

theorem atL_le {ρ : Loc} {n : Nat} {w : World} {b o : Nat} : Le ρ n w (atL ρ n b o) (n + 1) w :=
  ⟨by omega, fun id hi => by unfold atL; rw [if_neg (by omega)], fun _ h => h⟩

theorem rows_rel {ρ : Loc} {n : Nat} {w : World} {ks : List CK} {cap : Nat} {vs : List Value} (h : RowsOk ks cap vs) : ∀ (i : Nat) (x : Value), vs[i]? = some x → CRel ρ n w (.sc x) x := by
  intro i x hx
  have h1 : ∀ {ks : List CK} {vs : List Value}, CksOk ks vs → ∀ v ∈ vs, v.oneCell' = true := by
    intro ks vs h
    have hr : CRels ρ n w (vs.map .sc) vs := h.rel
    exact CRels.all_one _ _ hr
  exact ⟨rfl, h1 h x (List.mem_of_getElem? hx)⟩

/-- One row of cells more, held. -/
theorem addRow {ρ : Loc} {n : Nat} {w : World} {m : Mem} (hm : MRel ρ n w m) (hh : Held m) {b o cap : Nat} {ks : List CK} {vs : List Value} (hb : b < w.heap.size) (hr : RowsOk ks cap vs) (hc : ∀ (i : Nat) (x : Value), vs[i]? = some x → w.cell? ⟨b, o + i, none⟩ = some x) :
    MRel (atL ρ n b o) (n + 1) w (upd m n (some ⟨vs.map .sc, false⟩)) := by
  refine ⟨fun id bl h => ?_, fun id bl h => ?_, fun id bl h i c hi => ?_, fun id bl h ho => ?_, fun id bl h ho => ?_⟩
  · unfold upd at h
    split at h
    · omega
    · have := hm.lt id bl h; omega
  · unfold upd at h
    unfold atL
    split at h
    · rename_i he; rw [if_pos he]; exact hb
    · rename_i he; rw [if_neg he]; exact hm.blk id bl h
  · unfold upd at h
    split at h
    · rename_i he
      cases h
      subst he
      rw [List.getElem?_map] at hi
      obtain ⟨x, hx, rfl⟩ := Option.map_eq_some_iff.1 hi
      refine ⟨x, ?_, rows_rel hr i x hx⟩
      unfold atL
      rw [if_pos rfl]
      exact hc i x hx
    · rename_i he
      obtain ⟨v, h1, h2⟩ := hm.cells id bl h i c hi
      refine ⟨v, ?_, CRel.mono atL_le _ _ h2⟩
      unfold atL
      rw [if_neg he]
      exact h1
  · rw [held_upd hh n _ id bl h] at ho; cases ho
  · rw [held_upd hh n _ id bl h] at ho; cases ho

/-- The slice over such a row. -/
theorem addSl {ρ : Loc} {n : Nat} {w : World} {b o len cap sz : Nat} {vs : List Value} (hl : len ≤ cap) (hv : vs.length = cap * sz) (hc : ∀ (i : Nat) (x : Value), vs[i]? = some x → w.cell? ⟨b, o + i, none⟩ = some x) :
    RRel (atL ρ n b o) (n + 1) w (.one (.sl n 0 len none sz)) (.slice (some ⟨b, o, none⟩) len cap) := by
  have h0 : (atL ρ n b o) n = (b, o) := if_pos rfl
  refine ⟨by omega, o, cap, by rw [h0], fun _ => by rw [h0]; rfl, hl, (by intro c h; cases h), fun j hj => ?_⟩
  rw [h0]
  rw [hc j _ (List.getElem?_eq_getElem (by omega))]
  rfl
end Go.Proofs.YtidpeongblkcbaaDoor.Sy

/- A package variable that holds a table of ints, opened for the evaluator. Conditions: those that each theorem names. -/
namespace Go.Proofs.YtidpeongblkcbaaDoor.Sy
open Go.RowKit Go.ChangeShapes Go.WideShapes Go.Deep
set_option linter.unusedVariables false

/-- Its cells. -/
theorem tab_cells {P : Program} {W : World} {name : String} {g t e k : Nat} {vals : List Int} (hg : P.globalNamed name = some g) (ht : (P.globals[g]?).map (·.type) = some t) (hu : P.underlying t = some (.array k e)) (hi : P.underlying e = some (.int .i64))
    (hc : P.cellsOf e = 1) (h : laidMet P [(name, .agg (vals.map fun v => .lit (.int .i64 v)))] W) : g < W.heap.size ∧ ∀ j v, vals[j]? = some v → W.cell? ⟨g, j, none⟩ = some (.int .i64 v) := by
  obtain ⟨ps, ⟨g0, t0, cs0, f0, p0, q0, hg0, ht0, hv0, hd0, hr⟩, _, _⟩ := h
  obtain rfl := Option.some.inj (hg.symm.trans hg0)
  obtain rfl := Option.some.inj (ht.symm.trans ht0)
  have hcell := World.var?_cell hg0 hv0
  obtain ⟨xs, m1, rfl, hx1, hlen, hn3, hel⟩ := DataW.trod_array hu hd0
  simp only [Prod.mk.injEq, DataW.agg.injEq] at hx1
  have hmap := hx1.1
  have key : ∀ j v, vals[j]? = some v → W.cell? ⟨g, j, none⟩ = some (.int .i64 v) := by
    intro j v hj
    have h1 : (xs.map (·.1))[j]? = some (.lit (.int .i64 v)) := by
      rw [← hmap, List.getElem?_map, hj]; rfl
    rw [List.getElem?_map] at h1
    obtain ⟨x, hxj, hx2⟩ := Option.map_eq_some_iff.1 h1
    have hjk : j < k := by rw [← hn3]; exact (List.getElem?_eq_some_iff.1 hxj).1
    have h2 := hel j hjk
    rw [hc, hxj] at h2
    obtain ⟨z, e1, e2, _⟩ := DataW.trod_int hi h2
    rw [e2] at hx2
    simp only [DataW.lit.injEq, Lit.int.injEq, true_and] at hx2
    subst hx2
    rw [hcell]
    have h3 : ((cs0.toList.drop (j * 1)).take 1)[0]? = some (.int .i64 z) := by rw [e1]; rfl
    rw [List.getElem?_take_of_lt (by decide), List.getElem?_drop] at h3
    simpa using h3
  refine ⟨?_, key⟩
  simp only [World.var?, hg0, Option.bind_some] at hv0
  split at hv0
  · rename_i hb
    exact (Array.getElem?_eq_some_iff.1 hb).1
  · cases hv0
/-- A memory that has the table alone. -/
def tabM (cs : List Cell) : Mem := upd (fun _ => none) 0 (some ⟨cs, false⟩)
theorem tab_mem {W : World} {vals : List Int} (hb : 0 < W.heap.size) (hc : ∀ j v, vals[j]? = some v → W.cell? ⟨0, j, none⟩ = some (.int .i64 v)) : MRel (fun _ => (0, 0)) 1 W (tabM (vals.map I)) := by
  have h0 : ∀ id b, tabM (vals.map I) id = some b → id = 0 ∧ b = ⟨vals.map I, false⟩ := by
    intro id b h
    unfold tabM upd at h
    split at h
    · rename_i e
      cases h
      exact ⟨e, rfl⟩
    · cases h
  refine ⟨fun id b h => ?_, fun id b h => ?_, fun id b h i c hi => ?_, fun id b h ho => ?_, fun id b h ho => ?_⟩
  · obtain ⟨rfl, _⟩ := h0 id b h; omega
  · exact hb
  · obtain ⟨rfl, rfl⟩ := h0 id b h
    simp only [List.getElem?_map] at hi
    obtain ⟨v, h1, h2⟩ := Option.map_eq_some_iff.1 hi
    subst h2
    refine ⟨.int .i64 v, ?_, ?_⟩
    · have := hc i v h1
      simpa using this
    · simp [CRel, Value.oneCell']
  · obtain ⟨_, rfl⟩ := h0 id b h; cases ho
  · obtain ⟨_, rfl⟩ := h0 id b h; cases ho
theorem tab_held {cs : List Cell} : Held (tabM cs) := by
  intro id b h
  unfold tabM upd at h
  split at h
  · cases h; rfl
  · cases h
theorem tab_glob : Glob 1 (fun _ => (0, 0)) 1 := fun g hg => ⟨hg, by simp; omega⟩
end Go.Proofs.YtidpeongblkcbaaDoor.Sy
