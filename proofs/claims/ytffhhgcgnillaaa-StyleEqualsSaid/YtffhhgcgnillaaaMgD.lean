import Derived.Test.YtffhhgcgnillaaaMgC
import Derived.RowKit
import Derived.Laws.Bits64
import Derived.Laws.BitsLemmas
/- An evaluator of a part of Go's operations over a memory of its own, part sixteen: words for walks by it. Conditions: those that each theorem names. -/
namespace Go.Proofs.Ytffhhgcgnillaaa.Sy
open Go
set_option linter.unusedVariables false
set_option linter.unusedSimpArgs false

/-- From the evaluator to the machine: a law that comes to true. -/
theorem law_calls {P : Program} {ng : Nat} {T : Nat → Option SFun} {mds : Nat → Nat → Mode} {clss : Nat → Nat → List (List Nat) × List (Nat × Nat)} (hmix : P.follows .mixedOrders = true)
    (hT : ∀ f sf, T f = some sf → ∃ fn, P.funcs[f]? = some fn ∧ slimF P ng (mds f) (clss f) fn = some sf) {f : Nat} {args : List Reg} {m : Mem} {n : Nat} (h : Fn T f args m n (fun r _ _ => r = .one (.sc (.bool true))))
    {ρ : Loc} {w : World} {vs : List Value} (hm : MRel ρ n w m) (hg : Glob ng ρ n) (hargs : RRels ρ n w args vs) (hown : ∀ id b, m id = some b → b.own = false) :
    Calls P f vs.toArray w (fun e w' => e = .returned (.bool true) ∧ Go.RowKit.Below w.heap.size w w') := by
  obtain ⟨k, r, m', n', h1, rfl⟩ := h
  refine (run_ok hmix hT k f args m n _ m' n' h1 ρ w vs hm hg hargs).2.mono fun e w' he => ?_
  obtain ⟨v, ρ', rfl, h2, h3⟩ := he
  have hv := sc_inv h3
  subst hv
  exact ⟨rfl, h2.fr.below (fun k hk => by obtain ⟨id, b, h4, h5, _⟩ := hk; rw [hown id b h4] at h5; cases h5)⟩

theorem noMem (ρ : Loc) (n : Nat) (w : World) : MRel ρ n w (fun _ => none) :=
  ⟨fun id b hb => (by cases hb), fun id b hb => (by cases hb), fun id b hb => (by cases hb), fun id b hb => (by cases hb), fun id b hb => (by cases hb)⟩

/-! ### numbers, Bools -/
abbrev I (n : Int) : Cell := .sc (.int .i64 n)
abbrev RI (n : Int) : Reg := .one (.sc (.int .i64 n))
abbrev RB (b : Bool) : Reg := .one (.sc (.bool b))
abbrev rnil : Reg := .one (.sc (.slice none 0 0))

theorem wr_eq {x : Int} (h0 : -9223372036854775808 ≤ x) (h1 : x ≤ 9223372036854775807) : IntKind.i64.wrap x = x := by
  simp [IntKind.wrap, IntKind.bits, IntKind.signed]; omega

section
variable {T : Nat → Option SFun} {d : Option Nat} {os : List SOper} {env : Nat → Reg} {Q : (Nat → Reg) → Mem → Nat → Prop}
theorem Then_some {r : Reg} {m : Mem} {n : Nat} : Then T d os env Q (some (r, m, n)) = R T os (putE env d r) m n Q := rfl
theorem Then_none : Then T d os env Q none = False := rfl
end

theorem upd_upd {α : Type} {f : Nat → α} {k : Nat} {x y : α} : upd (upd f k x) k y = upd f k y := by
  funext i
  unfold upd
  split <;> rfl
theorem unfrz_at {m m' : Mem} {n id : Nat} : unfrz m n m' id = if id < n then m id else m' id := rfl
theorem putE_some {env : Nat → Reg} {d : Nat} {r : Reg} : putE env (some d) r = upd env d r := rfl
theorem putE_none {env : Nat → Reg} {r : Reg} : putE env none r = env := rfl
theorem upd_at {α : Type} {f : Nat → α} {k i : Nat} {x : α} : upd f k x i = if i = k then x else f i := rfl

def condK (r : Reg) (p q : Prop) : Prop :=
  match r with
  | .one (.sc (.bool t)) => if t = true then p else q
  | _ => False
theorem condK_bool {t : Bool} {p q : Prop} : condK (RB t) p q = if t = true then p else q := rfl
theorem X_condK {T : Nat → Option SFun} {c : O} {a b : SC} {s : St} {Q : Ex → St → Prop} : X T (.cond c a b) s Q = condK (evO s.e c) (X T a s Q) (X T b s Q) := by
  unfold condK
  split
  · rename_i t h; exact X_cond h
  · rename_i h
    apply propext
    constructor
    · rintro ⟨k, e, s', h1, h2⟩
      simp only [exec] at h1
      first
        | (cases h1; done)
        | (split at h1
           · rename_i t ht; exact absurd ht (h t)
           · cases h1)
    · exact fun h => h.elim

theorem boolOf_b {b : Bool} : boolOf (RB b) = some b := rfl
theorem boolOf_tup {rs : List Reg} : boolOf (.tup rs) = none := rfl

section
variable {a b : Int}
theorem bin_add : binV .add (.int .i64 a) (.int .i64 b) = some (.int .i64 (IntKind.i64.wrap (a + b))) := rfl
theorem bin_sub : binV .sub (.int .i64 a) (.int .i64 b) = some (.int .i64 (IntKind.i64.wrap (a - b))) := rfl
theorem bin_mul : binV .mul (.int .i64 a) (.int .i64 b) = some (.int .i64 (IntKind.i64.wrap (a * b))) := rfl
theorem bin_lss : binV .lss (.int .i64 a) (.int .i64 b) = some (.bool (decide (a < b))) := rfl
theorem bin_leq : binV .leq (.int .i64 a) (.int .i64 b) = some (.bool (decide (a ≤ b))) := rfl
theorem bin_gtr : binV .gtr (.int .i64 a) (.int .i64 b) = some (.bool (decide (b < a))) := rfl
theorem bin_geq : binV .geq (.int .i64 a) (.int .i64 b) = some (.bool (decide (b ≤ a))) := rfl
theorem bin_eql : binV .eql (.int .i64 a) (.int .i64 b) = some (.bool (decide (a = b))) := rfl
theorem bin_neq : binV .neq (.int .i64 a) (.int .i64 b) = some (.bool (!decide (a = b))) := rfl
theorem bin_quo (h : b ≠ 0) : binV .quo (.int .i64 a) (.int .i64 b) = some (.int .i64 (IntKind.i64.wrap (a.tdiv b))) := by simp [binV, h]
theorem bin_rem (h : b ≠ 0) : binV .rem (.int .i64 a) (.int .i64 b) = some (.int .i64 (a.tmod b)) := by simp [binV, h]
theorem bin_shl (h : 0 ≤ b) (h1 : b ≤ 64) : binV .shl (.int .i64 a) (.int .i64 b) = some (.int .i64 (IntKind.i64.wrap (a * 2 ^ b.toNat))) := by
  have : ¬ b < 0 := by omega
  have h2 : min b.toNat IntKind.i64.bits = b.toNat := by simp [IntKind.bits]; omega
  simp [binV, this, h2]
theorem bin_shr (h : 0 ≤ b) (h1 : b ≤ 64) : binV .shr (.int .i64 a) (.int .i64 b) = some (.int .i64 (a.fdiv (2 ^ b.toNat))) := by
  have : ¬ b < 0 := by omega
  have h2 : min b.toNat IntKind.i64.bits = b.toNat := by simp [IntKind.bits]; omega
  simp [binV, this, h2]
theorem bin_shr1 {k : IntKind} : binV .shr (.int .i64 a) (.int k 1) = some (.int .i64 (a / 2)) := by
  show some (Value.int .i64 (a.fdiv (2 ^ 1))) = _
  rw [Int.fdiv_eq_ediv_of_nonneg _ (by decide)]; rfl
theorem un_not {t : Bool} : unV .not (.bool t) = some (.bool !t) := rfl
theorem un_neg : unV .neg (.int .i64 a) = some (.int .i64 (IntKind.i64.wrap (0 - a))) := rfl
end

def lenO (r : Reg) : Option Int :=
  match r with
  | .one (.sl _ _ len _ _) => some len
  | .one (.sc (.slice none 0 0)) => some 0
  | _ => none
theorem lenO_sl {id off len sz : Nat} {cap : Option Nat} : lenO (.one (.sl id off len cap sz)) = some (len : Int) := rfl
theorem lenO_nil : lenO rnil = some 0 := rfl

section
variable {T : Nat → Option SFun} {d : Option Nat} {os : List SOper} {env : Nat → Reg} {m : Mem} {n : Nat} {Q : (Nat → Reg) → Mem → Nat → Prop}
theorem R_mv {x : O} : R T (⟨d, .mv x, none⟩ :: os) env m n Q = Then T d os env Q (evalOp noCall env m n (.mv x)) := R_op rfl
theorem R_pick {x : O} {y : O} {z : O} : R T (⟨d, .pick x y z, none⟩ :: os) env m n Q = Then T d os env Q (evalOp noCall env m n (.pick x y z)) := R_op rfl
theorem R_alloc {zz : List Cell} : R T (⟨d, .alloc zz, none⟩ :: os) env m n Q = Then T d os env Q (evalOp noCall env m n (.alloc zz)) := R_op rfl
theorem R_box {x : O} : R T (⟨d, .box x, none⟩ :: os) env m n Q = Then T d os env Q (evalOp noCall env m n (.box x)) := R_op rfl
theorem R_build {zz : List Cell} {ps : List (Nat × Nat × O)} : R T (⟨d, .build zz ps, none⟩ :: os) env m n Q = Then T d os env Q (evalOp noCall env m n (.build zz ps)) := R_op rfl
theorem R_bslice {zz : List Cell} {k1 : Nat} {k2 : Nat} {ps : List (Nat × Nat × O)} : R T (⟨d, .bslice zz k1 k2 ps, none⟩ :: os) env m n Q = Then T d os env Q (evalOp noCall env m n (.bslice zz k1 k2 ps)) := R_op rfl
theorem R_load1 {x : O} : R T (⟨d, .load1 x, none⟩ :: os) env m n Q = Then T d os env Q (evalOp noCall env m n (.load1 x)) := R_op rfl
theorem R_loadA {k1 : Nat} {x : O} : R T (⟨d, .loadA k1 x, none⟩ :: os) env m n Q = Then T d os env Q (evalOp noCall env m n (.loadA k1 x)) := R_op rfl
theorem R_store {k1 : Nat} {x : O} {y : O} : R T (⟨d, .store k1 x y, none⟩ :: os) env m n Q = Then T d os env Q (evalOp noCall env m n (.store k1 x y)) := R_op rfl
theorem R_nilchk {x : O} : R T (⟨d, .nilchk x, none⟩ :: os) env m n Q = Then T d os env Q (evalOp noCall env m n (.nilchk x)) := R_op rfl
theorem R_bin {bo : BinOp} {x : O} {y : O} : R T (⟨d, .bin bo x y, none⟩ :: os) env m n Q = Then T d os env Q (evalOp noCall env m n (.bin bo x y)) := R_op rfl
theorem R_beq {bb : Bool} {x : O} {y : O} : R T (⟨d, .beq bb x y, none⟩ :: os) env m n Q = Then T d os env Q (evalOp noCall env m n (.beq bb x y)) := R_op rfl
theorem R_eqv {ks : List Sk} {bb : Bool} {x : O} {y : O} : R T (⟨d, .eqv ks bb x y, none⟩ :: os) env m n Q = Then T d os env Q (evalOp noCall env m n (.eqv ks bb x y)) := R_op rfl
theorem R_eqnil {k1 : Nat} {bb : Bool} {x : O} : R T (⟨d, .eqnil k1 bb x, none⟩ :: os) env m n Q = Then T d os env Q (evalOp noCall env m n (.eqnil k1 bb x)) := R_op rfl
theorem R_un {uo : UnOp} {x : O} : R T (⟨d, .un uo x, none⟩ :: os) env m n Q = Then T d os env Q (evalOp noCall env m n (.un uo x)) := R_op rfl
theorem R_conv {ik : IntKind} {x : O} : R T (⟨d, .conv ik x, none⟩ :: os) env m n Q = Then T d os env Q (evalOp noCall env m n (.conv ik x)) := R_op rfl
theorem R_mkfn {k1 : Nat} {xs : List O} : R T (⟨d, .mkfn k1 xs, none⟩ :: os) env m n Q = Then T d os env Q (evalOp noCall env m n (.mkfn k1 xs)) := R_op rfl
theorem R_mkslice {zz : List Cell} {k1 : Nat} {k2 : Nat} {x : O} {y : O} : R T (⟨d, .mkslice zz k1 k2 x y, none⟩ :: os) env m n Q = Then T d os env Q (evalOp noCall env m n (.mkslice zz k1 k2 x y)) := R_op rfl
theorem R_slS {k1 : Nat} {x : O} {l1 : Option O} {l2 : Option O} {l3 : Option O} : R T (⟨d, .slS k1 x l1 l2 l3, none⟩ :: os) env m n Q = Then T d os env Q (evalOp noCall env m n (.slS k1 x l1 l2 l3)) := R_op rfl
theorem R_slA {k1 : Nat} {k2 : Nat} {x : O} {l1 : Option O} {l2 : Option O} {l3 : Option O} : R T (⟨d, .slA k1 k2 x l1 l2 l3, none⟩ :: os) env m n Q = Then T d os env Q (evalOp noCall env m n (.slA k1 k2 x l1 l2 l3)) := R_op rfl
theorem R_fadr {k1 : Nat} {x : O} : R T (⟨d, .fadr k1 x, none⟩ :: os) env m n Q = Then T d os env Q (evalOp noCall env m n (.fadr k1 x)) := R_op rfl
theorem R_fld {k1 : Nat} {k2 : Nat} {bb : Bool} {x : O} : R T (⟨d, .fld k1 k2 bb x, none⟩ :: os) env m n Q = Then T d os env Q (evalOp noCall env m n (.fld k1 k2 bb x)) := R_op rfl
theorem R_iadrA {k1 : Nat} {k2 : Nat} {x : O} {y : O} : R T (⟨d, .iadrA k1 k2 x y, none⟩ :: os) env m n Q = Then T d os env Q (evalOp noCall env m n (.iadrA k1 k2 x y)) := R_op rfl
theorem R_iadrS {k1 : Nat} {x : O} {y : O} : R T (⟨d, .iadrS k1 x y, none⟩ :: os) env m n Q = Then T d os env Q (evalOp noCall env m n (.iadrS k1 x y)) := R_op rfl
theorem R_idxA {k1 : Nat} {k2 : Nat} {bb : Bool} {x : O} {y : O} : R T (⟨d, .idxA k1 k2 bb x y, none⟩ :: os) env m n Q = Then T d os env Q (evalOp noCall env m n (.idxA k1 k2 bb x y)) := R_op rfl
theorem R_ext {x : O} {k1 : Nat} : R T (⟨d, .ext x k1, none⟩ :: os) env m n Q = Then T d os env Q (evalOp noCall env m n (.ext x k1)) := R_op rfl
theorem R_len {x : O} : R T (⟨d, .len x, none⟩ :: os) env m n Q = Then T d os env Q ((lenO (evO env x)).map fun k => (RI k, m, n)) := by
  rw [R_op rfl]
  congr 1
  simp only [evalOp, lenO]
  split <;> simp_all
theorem R_lenC {k1 : Nat} : R T (⟨d, .lenC k1, none⟩ :: os) env m n Q = Then T d os env Q (evalOp noCall env m n (.lenC k1)) := R_op rfl
theorem R_cap {x : O} : R T (⟨d, .cap x, none⟩ :: os) env m n Q = Then T d os env Q (evalOp noCall env m n (.cap x)) := R_op rfl
theorem R_app {k1 : Nat} {k2 : Nat} {x : O} {y : O} : R T (⟨d, .app k1 k2 x y, none⟩ :: os) env m n Q = Then T d os env Q (evalOp noCall env m n (.app k1 k2 x y)) := R_op rfl
theorem R_cpy {k1 : Nat} {x : O} {y : O} : R T (⟨d, .cpy k1 x y, none⟩ :: os) env m n Q = Then T d os env Q (evalOp noCall env m n (.cpy k1 x y)) := R_op rfl
theorem R_mn {xs : List O} : R T (⟨d, .mn xs, none⟩ :: os) env m n Q = Then T d os env Q (evalOp noCall env m n (.mn xs)) := R_op rfl
theorem R_mx {xs : List O} : R T (⟨d, .mx xs, none⟩ :: os) env m n Q = Then T d os env Q (evalOp noCall env m n (.mx xs)) := R_op rfl
end


/-! ### numbers that differ -/
section
variable {n : Nat}
theorem sn1 : (n = n + 1) = False := eq_false (by omega)
theorem ns1 : (n + 1 = n) = False := eq_false (by omega)
theorem sn2 : (n = n + 1 + 1) = False := eq_false (by omega)
theorem ns2 : (n + 1 + 1 = n) = False := eq_false (by omega)
theorem sn3 : (n = n + 1 + 1 + 1) = False := eq_false (by omega)
theorem ns3 : (n + 1 + 1 + 1 = n) = False := eq_false (by omega)
theorem sn4 : (n = n + 1 + 1 + 1 + 1) = False := eq_false (by omega)
theorem ns4 : (n + 1 + 1 + 1 + 1 = n) = False := eq_false (by omega)
theorem sn5 : (n = n + 1 + 1 + 1 + 1 + 1) = False := eq_false (by omega)
theorem ns5 : (n + 1 + 1 + 1 + 1 + 1 = n) = False := eq_false (by omega)
theorem sn6 : (n = n + 1 + 1 + 1 + 1 + 1 + 1) = False := eq_false (by omega)
theorem ns6 : (n + 1 + 1 + 1 + 1 + 1 + 1 = n) = False := eq_false (by omega)
theorem sn7 : (n = n + 1 + 1 + 1 + 1 + 1 + 1 + 1) = False := eq_false (by omega)
theorem ns7 : (n + 1 + 1 + 1 + 1 + 1 + 1 + 1 = n) = False := eq_false (by omega)
theorem sn8 : (n = n + 1 + 1 + 1 + 1 + 1 + 1 + 1 + 1) = False := eq_false (by omega)
theorem ns8 : (n + 1 + 1 + 1 + 1 + 1 + 1 + 1 + 1 = n) = False := eq_false (by omega)
theorem sn9 : (n = n + 1 + 1 + 1 + 1 + 1 + 1 + 1 + 1 + 1) = False := eq_false (by omega)
theorem ns9 : (n + 1 + 1 + 1 + 1 + 1 + 1 + 1 + 1 + 1 = n) = False := eq_false (by omega)
theorem sn10 : (n = n + 1 + 1 + 1 + 1 + 1 + 1 + 1 + 1 + 1 + 1) = False := eq_false (by omega)
theorem ns10 : (n + 1 + 1 + 1 + 1 + 1 + 1 + 1 + 1 + 1 + 1 = n) = False := eq_false (by omega)
theorem sn11 : (n = n + 1 + 1 + 1 + 1 + 1 + 1 + 1 + 1 + 1 + 1 + 1) = False := eq_false (by omega)
theorem ns11 : (n + 1 + 1 + 1 + 1 + 1 + 1 + 1 + 1 + 1 + 1 + 1 = n) = False := eq_false (by omega)
theorem sn12 : (n = n + 1 + 1 + 1 + 1 + 1 + 1 + 1 + 1 + 1 + 1 + 1 + 1) = False := eq_false (by omega)
theorem ns12 : (n + 1 + 1 + 1 + 1 + 1 + 1 + 1 + 1 + 1 + 1 + 1 + 1 = n) = False := eq_false (by omega)
theorem sk1_2 : (n + 1 = n + 1 + 1) = False := eq_false (by omega)
theorem sk1_3 : (n + 1 = n + 1 + 1 + 1) = False := eq_false (by omega)
theorem sk1_4 : (n + 1 = n + 1 + 1 + 1 + 1) = False := eq_false (by omega)
theorem sk1_5 : (n + 1 = n + 1 + 1 + 1 + 1 + 1) = False := eq_false (by omega)
theorem sk1_6 : (n + 1 = n + 1 + 1 + 1 + 1 + 1 + 1) = False := eq_false (by omega)
theorem sk1_7 : (n + 1 = n + 1 + 1 + 1 + 1 + 1 + 1 + 1) = False := eq_false (by omega)
theorem sk1_8 : (n + 1 = n + 1 + 1 + 1 + 1 + 1 + 1 + 1 + 1) = False := eq_false (by omega)
theorem sk2_1 : (n + 1 + 1 = n + 1) = False := eq_false (by omega)
theorem sk2_3 : (n + 1 + 1 = n + 1 + 1 + 1) = False := eq_false (by omega)
theorem sk2_4 : (n + 1 + 1 = n + 1 + 1 + 1 + 1) = False := eq_false (by omega)
theorem sk2_5 : (n + 1 + 1 = n + 1 + 1 + 1 + 1 + 1) = False := eq_false (by omega)
theorem sk2_6 : (n + 1 + 1 = n + 1 + 1 + 1 + 1 + 1 + 1) = False := eq_false (by omega)
theorem sk2_7 : (n + 1 + 1 = n + 1 + 1 + 1 + 1 + 1 + 1 + 1) = False := eq_false (by omega)
theorem sk2_8 : (n + 1 + 1 = n + 1 + 1 + 1 + 1 + 1 + 1 + 1 + 1) = False := eq_false (by omega)
theorem sk3_1 : (n + 1 + 1 + 1 = n + 1) = False := eq_false (by omega)
theorem sk3_2 : (n + 1 + 1 + 1 = n + 1 + 1) = False := eq_false (by omega)
theorem sk3_4 : (n + 1 + 1 + 1 = n + 1 + 1 + 1 + 1) = False := eq_false (by omega)
theorem sk3_5 : (n + 1 + 1 + 1 = n + 1 + 1 + 1 + 1 + 1) = False := eq_false (by omega)
theorem sk3_6 : (n + 1 + 1 + 1 = n + 1 + 1 + 1 + 1 + 1 + 1) = False := eq_false (by omega)
theorem sk3_7 : (n + 1 + 1 + 1 = n + 1 + 1 + 1 + 1 + 1 + 1 + 1) = False := eq_false (by omega)
theorem sk3_8 : (n + 1 + 1 + 1 = n + 1 + 1 + 1 + 1 + 1 + 1 + 1 + 1) = False := eq_false (by omega)
theorem sk4_1 : (n + 1 + 1 + 1 + 1 = n + 1) = False := eq_false (by omega)
theorem sk4_2 : (n + 1 + 1 + 1 + 1 = n + 1 + 1) = False := eq_false (by omega)
theorem sk4_3 : (n + 1 + 1 + 1 + 1 = n + 1 + 1 + 1) = False := eq_false (by omega)
theorem sk4_5 : (n + 1 + 1 + 1 + 1 = n + 1 + 1 + 1 + 1 + 1) = False := eq_false (by omega)
theorem sk4_6 : (n + 1 + 1 + 1 + 1 = n + 1 + 1 + 1 + 1 + 1 + 1) = False := eq_false (by omega)
theorem sk4_7 : (n + 1 + 1 + 1 + 1 = n + 1 + 1 + 1 + 1 + 1 + 1 + 1) = False := eq_false (by omega)
theorem sk4_8 : (n + 1 + 1 + 1 + 1 = n + 1 + 1 + 1 + 1 + 1 + 1 + 1 + 1) = False := eq_false (by omega)
theorem sk5_1 : (n + 1 + 1 + 1 + 1 + 1 = n + 1) = False := eq_false (by omega)
theorem sk5_2 : (n + 1 + 1 + 1 + 1 + 1 = n + 1 + 1) = False := eq_false (by omega)
theorem sk5_3 : (n + 1 + 1 + 1 + 1 + 1 = n + 1 + 1 + 1) = False := eq_false (by omega)
theorem sk5_4 : (n + 1 + 1 + 1 + 1 + 1 = n + 1 + 1 + 1 + 1) = False := eq_false (by omega)
theorem sk5_6 : (n + 1 + 1 + 1 + 1 + 1 = n + 1 + 1 + 1 + 1 + 1 + 1) = False := eq_false (by omega)
theorem sk5_7 : (n + 1 + 1 + 1 + 1 + 1 = n + 1 + 1 + 1 + 1 + 1 + 1 + 1) = False := eq_false (by omega)
theorem sk5_8 : (n + 1 + 1 + 1 + 1 + 1 = n + 1 + 1 + 1 + 1 + 1 + 1 + 1 + 1) = False := eq_false (by omega)
theorem sk6_1 : (n + 1 + 1 + 1 + 1 + 1 + 1 = n + 1) = False := eq_false (by omega)
theorem sk6_2 : (n + 1 + 1 + 1 + 1 + 1 + 1 = n + 1 + 1) = False := eq_false (by omega)
theorem sk6_3 : (n + 1 + 1 + 1 + 1 + 1 + 1 = n + 1 + 1 + 1) = False := eq_false (by omega)
theorem sk6_4 : (n + 1 + 1 + 1 + 1 + 1 + 1 = n + 1 + 1 + 1 + 1) = False := eq_false (by omega)
theorem sk6_5 : (n + 1 + 1 + 1 + 1 + 1 + 1 = n + 1 + 1 + 1 + 1 + 1) = False := eq_false (by omega)
theorem sk6_7 : (n + 1 + 1 + 1 + 1 + 1 + 1 = n + 1 + 1 + 1 + 1 + 1 + 1 + 1) = False := eq_false (by omega)
theorem sk6_8 : (n + 1 + 1 + 1 + 1 + 1 + 1 = n + 1 + 1 + 1 + 1 + 1 + 1 + 1 + 1) = False := eq_false (by omega)
theorem sk7_1 : (n + 1 + 1 + 1 + 1 + 1 + 1 + 1 = n + 1) = False := eq_false (by omega)
theorem sk7_2 : (n + 1 + 1 + 1 + 1 + 1 + 1 + 1 = n + 1 + 1) = False := eq_false (by omega)
theorem sk7_3 : (n + 1 + 1 + 1 + 1 + 1 + 1 + 1 = n + 1 + 1 + 1) = False := eq_false (by omega)
theorem sk7_4 : (n + 1 + 1 + 1 + 1 + 1 + 1 + 1 = n + 1 + 1 + 1 + 1) = False := eq_false (by omega)
theorem sk7_5 : (n + 1 + 1 + 1 + 1 + 1 + 1 + 1 = n + 1 + 1 + 1 + 1 + 1) = False := eq_false (by omega)
theorem sk7_6 : (n + 1 + 1 + 1 + 1 + 1 + 1 + 1 = n + 1 + 1 + 1 + 1 + 1 + 1) = False := eq_false (by omega)
theorem sk7_8 : (n + 1 + 1 + 1 + 1 + 1 + 1 + 1 = n + 1 + 1 + 1 + 1 + 1 + 1 + 1 + 1) = False := eq_false (by omega)
theorem sk8_1 : (n + 1 + 1 + 1 + 1 + 1 + 1 + 1 + 1 = n + 1) = False := eq_false (by omega)
theorem sk8_2 : (n + 1 + 1 + 1 + 1 + 1 + 1 + 1 + 1 = n + 1 + 1) = False := eq_false (by omega)
theorem sk8_3 : (n + 1 + 1 + 1 + 1 + 1 + 1 + 1 + 1 = n + 1 + 1 + 1) = False := eq_false (by omega)
theorem sk8_4 : (n + 1 + 1 + 1 + 1 + 1 + 1 + 1 + 1 = n + 1 + 1 + 1 + 1) = False := eq_false (by omega)
theorem sk8_5 : (n + 1 + 1 + 1 + 1 + 1 + 1 + 1 + 1 = n + 1 + 1 + 1 + 1 + 1) = False := eq_false (by omega)
theorem sk8_6 : (n + 1 + 1 + 1 + 1 + 1 + 1 + 1 + 1 = n + 1 + 1 + 1 + 1 + 1 + 1) = False := eq_false (by omega)
theorem sk8_7 : (n + 1 + 1 + 1 + 1 + 1 + 1 + 1 + 1 = n + 1 + 1 + 1 + 1 + 1 + 1 + 1) = False := eq_false (by omega)
end

theorem pack_one {r : Reg} : pack [r] = r := rfl
theorem pack_two {r s : Reg} : pack [r, s] = .tup [r, s] := rfl
theorem pack_three {r s t : Reg} : pack [r, s, t] = .tup [r, s, t] := rfl
theorem pack_none : pack [] = .tup [] := rfl
theorem getD_nil {t : Nat} : ([] : List Reg).getD t (.tup []) = .tup [] := by simp

/-! ### slices that are read -/
def Rd (m : Mem) (n : Nat) (r : Reg) (cs : List Cell) (len sz : Nat) : Prop :=
  (r = rnil ∧ len = 0 ∧ cs = []) ∨ ∃ id off cap, r = .one (.sl id off len cap sz) ∧ id < n ∧ rd m id off (len * sz) = some cs

theorem rd_frz (m : Mem) (id off k : Nat) : rd (frz m) id off k = rd m id off k := by
  unfold rd frz
  cases m id <;> rfl

theorem rd_len {m : Mem} {id off k : Nat} {cs : List Cell} (h : rd m id off k = some cs) : cs.length = k := by
  unfold rd at h
  split at h
  case h_2 => cases h
  split at h
  case isFalse => cases h
  cases h
  simp; omega

/-- A part of what is read. -/
theorem rd_part {m : Mem} {id off k a b : Nat} {cs : List Cell} (h : rd m id off k = some cs) (hab : a + b ≤ k) : rd m id (off + a) b = some ((cs.drop a).take b) := by
  unfold rd at h ⊢
  split at h
  case h_2 => cases h
  rename_i blk hb
  split at h
  case isFalse => cases h
  rename_i hle
  cases h
  rw [if_pos (by omega)]
  congr 1
  rw [List.drop_take, List.take_take, List.drop_drop]
  congr 1
  omega

theorem rd_cell {m : Mem} {id off k a : Nat} {cs : List Cell} {c : Cell} (h : rd m id off k = some cs) (hc : cs[a]? = some c) : ∃ b, m id = some b ∧ b.cells[off + a]? = some c := by
  have hl := rd_len h
  unfold rd at h
  split at h
  case h_2 => cases h
  rename_i blk hb
  split at h
  case isFalse => cases h
  rename_i hle
  cases h
  have ha : a < k := by rw [← hl]; exact (List.getElem?_eq_some_iff.1 hc).1
  refine ⟨blk, hb, ?_⟩
  rwa [List.getElem?_take_of_lt ha, List.getElem?_drop] at hc

theorem Rd.frz {m : Mem} {n : Nat} {r : Reg} {cs : List Cell} {len sz : Nat} (h : Rd m n r cs len sz) : Rd (frz m) n r cs len sz := by
  rcases h with h | ⟨id, off, cap, h1, h2, h3⟩
  · exact Or.inl h
  · exact Or.inr ⟨id, off, cap, h1, h2, by rw [rd_frz]; exact h3⟩

/-- What is read stays, where the old memory stays. -/
theorem Rd.keep {m m' : Mem} {n n' : Nat} {r : Reg} {cs : List Cell} {len sz : Nat} (h : Rd m n r cs len sz) (hn : n ≤ n') (hm : ∀ id, id < n → m' id = m id) : Rd m' n' r cs len sz := by
  rcases h with h | ⟨id, off, cap, h1, h2, h3⟩
  · exact Or.inl h
  · refine Or.inr ⟨id, off, cap, h1, by omega, ?_⟩
    have : rd m' id off (len * sz) = rd m id off (len * sz) := by unfold rd; rw [hm id h2]
    rw [this]; exact h3

theorem Rd.len {m : Mem} {n : Nat} {r : Reg} {cs : List Cell} {len sz : Nat} (h : Rd m n r cs len sz) : lenO r = some (len : Int) := by
  rcases h with ⟨rfl, rfl, rfl⟩ | ⟨id, off, cap, rfl, h2, h3⟩ <;> rfl
theorem len_Rd {call : Callf} {env : Nat → Reg} {m : Mem} {n : Nat} {r : Reg} {cs : List Cell} {len sz : Nat} {x : O} (h : Rd m n r cs len sz) (hx : evO env x = r) : evalOp call env m n (.len x) = some (RI len, m, n) := by
  rcases h with ⟨rfl, rfl, rfl⟩ | ⟨id, off, cap, rfl, h2, h3⟩ <;> simp [evalOp, hx]

def rdB (b : Blk) (off k : Nat) : Option (List Cell) := if off + k ≤ b.cells.length then some ((b.cells.drop off).take k) else none
theorem rd_upd {m : Mem} {k id off j : Nat} {b : Blk} : rd (upd m k (some b)) id off j = if id = k then rdB b off j else rd m id off j := by
  unfold rd rdB
  by_cases h : id = k
  · subst h; rw [upd_same, if_pos rfl]
  · rw [upd_ne _ _ h, if_neg h]
theorem lt0 {id n : Nat} (h : id < n) : (id = n) = False := eq_false (by omega)
theorem lt1 {id n : Nat} (h : id < n) : (id = n + 1) = False := eq_false (by omega)
theorem lt2 {id n : Nat} (h : id < n) : (id = n + 1 + 1) = False := eq_false (by omega)
theorem lt3 {id n : Nat} (h : id < n) : (id = n + 1 + 1 + 1) = False := eq_false (by omega)
theorem lt4 {id n : Nat} (h : id < n) : (id = n + 1 + 1 + 1 + 1) = False := eq_false (by omega)
theorem wr_nat {i : Nat} (h : i < 4294967296) : IntKind.i64.wrap ((i : Int) + 1) = ((i + 1 : Nat) : Int) := by
  rw [wr_eq (by omega) (by omega)]; rfl

/-- Rows of records: the record i. -/
theorem flatMap_at {α : Type} (enc : α → List Cell) (sz : Nat) (hsz : ∀ x, (enc x).length = sz) : ∀ (l : List α) (i : Nat) (x : α), l[i]? = some x → ((l.flatMap enc).drop (i * sz)).take sz = enc x
  | [], i, x, h => by simp at h
  | y :: l, 0, x, h => by
    simp only [List.getElem?_cons_zero, Option.some.injEq] at h
    subst h
    rw [Nat.zero_mul, List.drop_zero, List.flatMap_cons, List.take_append_of_le_length (by rw [hsz]; exact Nat.le_refl _), List.take_of_length_le (by rw [hsz]; exact Nat.le_refl _)]
  | y :: l, i + 1, x, h => by
    rw [List.flatMap_cons, List.drop_append, List.drop_of_length_le (by rw [hsz, Nat.add_mul]; omega), List.nil_append, hsz, show (i + 1) * sz - sz = i * sz by rw [Nat.add_mul]; omega]
    exact flatMap_at enc sz hsz l i x (by simpa using h)
theorem flatMap_len {α : Type} (enc : α → List Cell) (sz : Nat) (hsz : ∀ x, (enc x).length = sz) (l : List α) : (l.flatMap enc).length = l.length * sz := by
  induction l with
  | nil => simp
  | cons x l ih => rw [List.flatMap_cons, List.length_append, hsz, ih, List.length_cons, Nat.add_mul]; omega
theorem rd_at {α : Type} {enc : α → List Cell} {sz : Nat} (hsz : ∀ x, (enc x).length = sz) {m : Mem} {id off : Nat} {l : List α} {i : Nat} {x : α} (h : rd m id off (l.length * sz) = some (l.flatMap enc)) (hi : l[i]? = some x) : rd m id (off + i * sz) sz = some (enc x) := by
  have hlt : i < l.length := (List.getElem?_eq_some_iff.1 hi).1
  have h1 : i * sz + sz ≤ l.length * sz := by
    have := Nat.mul_le_mul_right sz (show i + 1 ≤ l.length from hlt)
    rw [Nat.add_mul] at this; omega
  rw [rd_part h h1, flatMap_at enc sz hsz l i x hi]

/-! ### rules that do not hold for any memory -/
theorem R_then {T : Nat → Option SFun} {d : Option Nat} {op : SOp} {os : List SOper} {env : Nat → Reg} {m m' : Mem} {n n' : Nat} {r : Reg} {Q : (Nat → Reg) → Mem → Nat → Prop} (hc : isCall op = false)
    (h : evalOp noCall env m n op = some (r, m', n')) (hR : R T os (putE env d r) m' n' Q) : R T (⟨d, op, none⟩ :: os) env m n Q := by
  rw [R_op hc, h]
  exact hR
end Go.Proofs.Ytffhhgcgnillaaa.Sy

/- An evaluator of a part of Go's operations over a memory of its own, part seventeen: calls told as_ values. Conditions: those that each theorem names. -/
namespace Go.Proofs.Ytffhhgcgnillaaa.Sy
open Go
set_option linter.unusedVariables false
set_option linter.unusedSimpArgs false

open Classical in
/-- A function's answer, whatever the rounds. -/
noncomputable def callR (T : Nat → Option SFun) : Callf := fun f a m n => if h : ∃ x, ∃ k, run T k f a m n = some x then some (Classical.choose h) else none

theorem callR_of {T : Nat → Option SFun} {k f : Nat} {a : List Reg} {m : Mem} {n : Nat} {x : Reg × Mem × Nat} (h : run T k f a m n = some x) : callR T f a m n = some x := by
  have hx : ∃ x, ∃ k, run T k f a m n = some x := ⟨x, k, h⟩
  unfold callR
  rw [dif_pos hx]
  obtain ⟨k2, h2⟩ := Classical.choose_spec hx
  have e1 := run_mono (Nat.le_max_left k k2) _ _ _ _ _ h
  have e2 := run_mono (Nat.le_max_right k k2) _ _ _ _ _ h2
  rw [e1] at e2
  exact e2.symm ▸ rfl

theorem callR_inv {T : Nat → Option SFun} {f : Nat} {a : List Reg} {m : Mem} {n : Nat} {x : Reg × Mem × Nat} (h : callR T f a m n = some x) : ∃ k, run T k f a m n = some x := by
  unfold callR at h
  split at h
  case isFalse => cases h
  rename_i hx
  cases h
  exact Classical.choose_spec hx

theorem run_le {T : Nat → Option SFun} (k : Nat) : CallLe (run T k) (callR T) := fun _ _ _ _ _ h => callR_of h

theorem doCall_R {T : Nat → Option SFun} {md : Mode} {f : Nat} {a : List Reg} {m : Mem} {n : Nat} {x : Reg × Mem × Nat} (h : doCall (callR T) md f a m n = some x) : ∃ k, doCall (run T k) md f a m n = some x := by
  unfold doCall at h ⊢
  cases md with
  | q =>
    simp only at h ⊢
    split at h
    case h_2 => cases h
    rename_i r m1 n1 h1
    obtain ⟨k, hk⟩ := callR_inv h1
    exact ⟨k, by rw [hk]; exact h⟩
  | k =>
    simp only at h ⊢
    split at h
    case h_2 => cases h
    rename_i r m1 n1 h1
    obtain ⟨k, hk⟩ := callR_inv h1
    exact ⟨k, by rw [hk]; exact h⟩
  | w => exact callR_inv h
  | z g =>
    simp only at h ⊢
    split at h
    case isFalse => cases h
    rename_i hf
    split at h
    case h_2 => cases h
    rename_i r m1 n1 h1
    obtain ⟨k, hk⟩ := callR_inv h1
    exact ⟨k, by rw [if_pos hf, hk]; exact h⟩

section
variable {T : Nat → Option SFun} {d : Option Nat} {os : List SOper} {env : Nat → Reg} {m : Mem} {n : Nat} {Q : (Nat → Reg) → Mem → Nat → Prop}

theorem R_call {md : Mode} {f : Nat} {xs : List O} : R T (⟨d, .call md f xs, none⟩ :: os) env m n Q = Then T d os env Q (doCall (callR T) md f (evOs env xs) m n) := by
  apply propext
  constructor
  · rintro ⟨k, e, m', n', h1, h2⟩
    simp only [evalOps, wantedS, evalOp] at h1
    split at h1
    case h_2 => cases h1
    rename_i r m1 n1 h3
    rw [doCall_mono (run_le k) h3]
    exact ⟨k, e, m', n', h1, h2⟩
  · intro h
    cases h3 : doCall (callR T) md f (evOs env xs) m n with
    | none => rw [h3] at h; exact h.elim
    | some y =>
      obtain ⟨r, m1, n1⟩ := y
      rw [h3] at h
      obtain ⟨k2, e, m', n', h1, h2⟩ := h
      obtain ⟨k1, hk⟩ := doCall_R h3
      refine ⟨max k1 k2, e, m', n', ?_, h2⟩
      simp only [evalOps, wantedS, evalOp]
      rw [doCall_mono (run_mono (Nat.le_max_left k1 k2)) hk]
      exact evalOps_mono (run_mono (Nat.le_max_right k1 k2)) h1

/-- A quiet function's answer. -/
noncomputable def callF (T : Nat → Option SFun) (f : Nat) (a : List Reg) (m : Mem) (n : Nat) : Option Reg := (callR T f a m n).map (·.1)
theorem callF_of {f : Nat} {a : List Reg} {r0 : Reg} (h : Fn T f a m n (fun r _ _ => r = r0)) : callF T f a m n = some r0 := by
  obtain ⟨k, r, m', n', h1, rfl⟩ := h
  unfold callF
  rw [callR_of h1]
  rfl

theorem evOs_c (rs : List Reg) : evOs env (rs.map O.c) = rs := by
  induction rs with
  | nil => rfl
  | cons r rs ih => simp [evOs, evO, ih]

end

theorem iter_mono {f : St → Option (Ex × St)} {x : Ex × St} : ∀ {j k : Nat} {s : St}, j ≤ k → iter f j s = some x → iter f k s = some x
  | 0, _, _, _, h => by simp [iter] at h
  | j + 1, 0, _, hle, _ => by omega
  | j + 1, k + 1, s, hle, h => by
    simp only [iter] at h ⊢
    cases h1 : f s with
    | none => rw [h1] at h; cases h
    | some y =>
      rw [h1] at h
      obtain ⟨e, s'⟩ := y
      cases e with
      | n => exact iter_mono (by omega) h
      | x id => exact h
      | r => exact h

theorem X_loopE {T : Nat → Option SFun} {b : SC} {s : St} {Q : Ex → St → Prop} : X T (.loop b) s Q = X T b s (Next Q (fun s' => X T (.loop b) s' Q)) := by
  apply propext
  constructor
  · rintro ⟨k, e, s', h1, h2⟩
    simp only [exec] at h1
    cases k with
    | zero => simp [iter] at h1
    | succ k =>
      simp only [iter] at h1
      cases h3 : exec (run T (k + 1)) (k + 1) b s with
      | none => rw [h3] at h1; cases h1
      | some y =>
        rw [h3] at h1
        obtain ⟨e1, s1⟩ := y
        cases e1 with
        | n => exact ⟨k + 1, .n, s1, h3, k + 1, e, s', by simp only [exec]; exact iter_mono (Nat.le_succ k) h1, h2⟩
        | x id => cases h1; exact ⟨k + 1, _, _, h3, h2⟩
        | r => cases h1; exact ⟨k + 1, _, _, h3, h2⟩
  · exact X_loop

/-! ### a walk as_ a machine: what comes later is data, so that a walk's simp does not look into it -/
inductive Kt where
  | top (Q : Ex → St → Prop)
  | fin (rs : List SRes) (Q : Reg → Mem → Nat → Prop)
  | seq (b : SC) (k : Kt)
  | blk (id : Nat) (k : Kt)
  | lp (b : SC) (k : Kt)
  | chk (dis : List (Nat × Nat)) (k : Kt)
  | chku (es : List Nat) (dis : List (Nat × Nat)) (m : Mem) (k : Kt)

section
variable {T : Nat → Option SFun}
def Kt.den (T : Nat → Option SFun) : Kt → Ex → St → Prop
  | .top Q => Q
  | .fin rs Q => Ret rs Q
  | .seq b k => Next (k.den T) (fun s => X T b s (k.den T))
  | .blk id k => Out id (k.den T)
  | .lp b k => Next (k.den T) (fun s => X T (.loop b) s (k.den T))
  | .chk dis k => Next (k.den T) (fun s => disOk s.e dis = true ∧ k.den T .n s)
  | .chku es dis m k => Next (k.den T) (fun s => (disOk s.e dis = true ∧ safeOk m s.e es = true) ∧ k.den T .n s)
def XK (T : Nat → Option SFun) (c : SC) (s : St) (k : Kt) : Prop := X T c s (k.den T)
def RK (T : Nat → Option SFun) (os : List SOper) (e : Nat → Reg) (m : Mem) (n : Nat) (k : Kt) : Prop := R T os e m n (fun e m n => k.den T .n ⟨e, m, n⟩)
def KN (T : Nat → Option SFun) (k : Kt) (s : St) : Prop := k.den T .n s
def KX (T : Nat → Option SFun) (k : Kt) (id : Nat) (s : St) : Prop := k.den T (.x id) s
def KR (T : Nat → Option SFun) (k : Kt) (s : St) : Prop := k.den T .r s
/-- A fork. -/
def FK (T : Nat → Option SFun) (r : Reg) (a b : SC) (s : St) (k : Kt) : Prop := condK r (XK T a s k) (XK T b s k)
/-- An operation behind a guard. -/
def GK (T : Nat → Option SFun) (t : Option Bool) (b : Bool) (d : Option Nat) (op : SOp) (os : List SOper) (e : Nat → Reg) (m : Mem) (n : Nat) (k : Kt) : Prop :=
  if t = some b then RK T (⟨d, op, none⟩ :: os) e m n k else RK T os (putE e d (.tup [])) m n k
def ThenK (T : Nat → Option SFun) (d : Option Nat) (os : List SOper) (e : Nat → Reg) (k : Kt) : Option (Reg × Mem × Nat) → Prop
  | some (r, m, n) => RK T os (putE e d r) m n k
  | none => False
def QK (T : Nat → Option SFun) (d : Option Nat) (os : List SOper) (e : Nat → Reg) (m : Mem) (n : Nat) (k : Kt) : Option Reg → Prop
  | some r => r.flat = true ∧ RK T os (putE e d r) m n k
  | none => False
def VK (T : Nat → Option SFun) (d : Option Nat) (md : Mode) (as_ : List Reg) (os : List SOper) (e : Nat → Reg) (m : Mem) (n : Nat) (k : Kt) : Reg → Prop
  | .one (.clo f caps) => RK T (⟨d, .call md f ((as_ ++ caps.map Reg.one).map O.c), none⟩ :: os) e m n k
  | _ => False
def plainOp : SOp → Bool
  | .call .. | .callv .. | .len .. => false
  | _ => true

variable {c : O} {a b : SC} {s : St} {k : Kt} {id j : Nat} {e : Nat → Reg} {m : Mem} {n : Nat} {d : Option Nat} {op : SOp} {os : List SOper}
theorem XK_seq : XK T (.seq a b) s k = XK T a s (.seq b k) := X_seq
theorem XK_block : XK T (.block id b) s k = XK T b s (.blk id k) := X_block
theorem XK_skip : XK T .skip s k = KN T k s := X_skip
theorem XK_exit : XK T (.exit id) s k = KX T k id s := X_exit
theorem XK_ret : XK T .ret s k = KR T k s := X_ret
theorem XK_cond : XK T (.cond c a b) s k = FK T (evO s.e c) a b s k := X_condK
theorem XK_reg : XK T (.reg os) s k = RK T os s.e s.m s.n k := X_reg
theorem XK_dreg {dis : List (Nat × Nat)} : XK T (.dreg dis os) s k = RK T os s.e s.m s.n (.chk dis k) := X_dreg
theorem XK_ureg {es : List Nat} {dis : List (Nat × Nat)} : XK T (.ureg es dis os) s k = RK T os s.e s.m s.n (.chku es dis s.m k) := X_ureg
theorem XK_loop : XK T (.loop b) s k = XK T b s (.lp b k) := X_loopE
theorem KN_seq : KN T (.seq b k) s = XK T b s k := rfl
theorem KN_blk : KN T (.blk id k) s = KN T k s := rfl
theorem KN_lp : KN T (.lp b k) s = XK T (.loop b) s k := rfl
theorem KN_chk {dis : List (Nat × Nat)} : KN T (.chk dis k) s = (disOk s.e dis = true ∧ KN T k s) := rfl
theorem KN_chku {es : List Nat} {dis : List (Nat × Nat)} : KN T (.chku es dis m k) s = ((disOk s.e dis = true ∧ safeOk m s.e es = true) ∧ KN T k s) := rfl
theorem KN_top {Q : Ex → St → Prop} : KN T (.top Q) s = Q .n s := rfl
theorem KN_fin {rs : List SRes} {Q : Reg → Mem → Nat → Prop} : KN T (.fin rs Q) s = ∃ regs, evRes s rs = some regs ∧ Q (pack regs) s.m s.n := rfl
theorem KX_seq : KX T (.seq b k) id s = KX T k id s := rfl
theorem KX_lp : KX T (.lp b k) id s = KX T k id s := rfl
theorem KX_blk : KX T (.blk j k) id s = if id = j then KN T k s else KX T k id s := rfl
theorem KX_chk {dis : List (Nat × Nat)} : KX T (.chk dis k) id s = KX T k id s := rfl
theorem KX_top {Q : Ex → St → Prop} : KX T (.top Q) id s = Q (.x id) s := rfl
theorem KR_seq : KR T (.seq b k) s = KR T k s := rfl
theorem KR_blk : KR T (.blk id k) s = KR T k s := rfl
theorem KR_lp : KR T (.lp b k) s = KR T k s := rfl
theorem KR_chk {dis : List (Nat × Nat)} : KR T (.chk dis k) s = KR T k s := rfl
theorem KR_top {Q : Ex → St → Prop} : KR T (.top Q) s = Q .r s := rfl
theorem KR_fin {rs : List SRes} {Q : Reg → Mem → Nat → Prop} : KR T (.fin rs Q) s = ∃ regs, evRes s rs = some regs ∧ Q (pack regs) s.m s.n := rfl
theorem FK_true : FK T (RB true) a b s k = XK T a s k := by simp [FK, condK_bool]
theorem FK_false : FK T (RB false) a b s k = XK T b s k := by simp [FK, condK_bool]
theorem RK_nil : RK T [] e m n k = KN T k ⟨e, m, n⟩ := R_nil
theorem RK_op (h : plainOp op = true) : RK T (⟨d, op, none⟩ :: os) e m n k = ThenK T d os e k (evalOp noCall e m n op) := by
  have hc : isCall op = false := by cases op <;> simp_all [plainOp, isCall]
  unfold RK
  rw [R_op hc]
  cases evalOp noCall e m n op with
  | none => rfl
  | some x => rfl
theorem RK_mv {x : O} : RK T (⟨d, .mv x, none⟩ :: os) e m n k = ThenK T d os e k (evalOp noCall e m n (.mv x)) := RK_op rfl
theorem RK_pick {x : O} {y : O} {z : O} : RK T (⟨d, .pick x y z, none⟩ :: os) e m n k = ThenK T d os e k (evalOp noCall e m n (.pick x y z)) := RK_op rfl
theorem RK_alloc {zz : List Cell} : RK T (⟨d, .alloc zz, none⟩ :: os) e m n k = ThenK T d os e k (evalOp noCall e m n (.alloc zz)) := RK_op rfl
theorem RK_box {x : O} : RK T (⟨d, .box x, none⟩ :: os) e m n k = ThenK T d os e k (evalOp noCall e m n (.box x)) := RK_op rfl
theorem RK_build {zz : List Cell} {ps : List (Nat × Nat × O)} : RK T (⟨d, .build zz ps, none⟩ :: os) e m n k = ThenK T d os e k (evalOp noCall e m n (.build zz ps)) := RK_op rfl
theorem RK_bslice {zz : List Cell} {k1 : Nat} {k2 : Nat} {ps : List (Nat × Nat × O)} : RK T (⟨d, .bslice zz k1 k2 ps, none⟩ :: os) e m n k = ThenK T d os e k (evalOp noCall e m n (.bslice zz k1 k2 ps)) := RK_op rfl
theorem RK_load1 {x : O} : RK T (⟨d, .load1 x, none⟩ :: os) e m n k = ThenK T d os e k (evalOp noCall e m n (.load1 x)) := RK_op rfl
theorem RK_loadA {k1 : Nat} {x : O} : RK T (⟨d, .loadA k1 x, none⟩ :: os) e m n k = ThenK T d os e k (evalOp noCall e m n (.loadA k1 x)) := RK_op rfl
theorem RK_store {k1 : Nat} {x : O} {y : O} : RK T (⟨d, .store k1 x y, none⟩ :: os) e m n k = ThenK T d os e k (evalOp noCall e m n (.store k1 x y)) := RK_op rfl
theorem RK_nilchk {x : O} : RK T (⟨d, .nilchk x, none⟩ :: os) e m n k = ThenK T d os e k (evalOp noCall e m n (.nilchk x)) := RK_op rfl
theorem RK_bin {bo : BinOp} {x : O} {y : O} : RK T (⟨d, .bin bo x y, none⟩ :: os) e m n k = ThenK T d os e k (evalOp noCall e m n (.bin bo x y)) := RK_op rfl
theorem RK_beq {bb : Bool} {x : O} {y : O} : RK T (⟨d, .beq bb x y, none⟩ :: os) e m n k = ThenK T d os e k (evalOp noCall e m n (.beq bb x y)) := RK_op rfl
theorem RK_eqv {ks : List Sk} {bb : Bool} {x : O} {y : O} : RK T (⟨d, .eqv ks bb x y, none⟩ :: os) e m n k = ThenK T d os e k (evalOp noCall e m n (.eqv ks bb x y)) := RK_op rfl
theorem RK_eqnil {k1 : Nat} {bb : Bool} {x : O} : RK T (⟨d, .eqnil k1 bb x, none⟩ :: os) e m n k = ThenK T d os e k (evalOp noCall e m n (.eqnil k1 bb x)) := RK_op rfl
theorem RK_un {uo : UnOp} {x : O} : RK T (⟨d, .un uo x, none⟩ :: os) e m n k = ThenK T d os e k (evalOp noCall e m n (.un uo x)) := RK_op rfl
theorem RK_conv {ik : IntKind} {x : O} : RK T (⟨d, .conv ik x, none⟩ :: os) e m n k = ThenK T d os e k (evalOp noCall e m n (.conv ik x)) := RK_op rfl
theorem RK_mkfn {k1 : Nat} {xs : List O} : RK T (⟨d, .mkfn k1 xs, none⟩ :: os) e m n k = ThenK T d os e k (evalOp noCall e m n (.mkfn k1 xs)) := RK_op rfl
theorem RK_mkslice {zz : List Cell} {k1 : Nat} {k2 : Nat} {x : O} {y : O} : RK T (⟨d, .mkslice zz k1 k2 x y, none⟩ :: os) e m n k = ThenK T d os e k (evalOp noCall e m n (.mkslice zz k1 k2 x y)) := RK_op rfl
theorem RK_slS {k1 : Nat} {x : O} {l1 : Option O} {l2 : Option O} {l3 : Option O} : RK T (⟨d, .slS k1 x l1 l2 l3, none⟩ :: os) e m n k = ThenK T d os e k (evalOp noCall e m n (.slS k1 x l1 l2 l3)) := RK_op rfl
theorem RK_slA {k1 : Nat} {k2 : Nat} {x : O} {l1 : Option O} {l2 : Option O} {l3 : Option O} : RK T (⟨d, .slA k1 k2 x l1 l2 l3, none⟩ :: os) e m n k = ThenK T d os e k (evalOp noCall e m n (.slA k1 k2 x l1 l2 l3)) := RK_op rfl
theorem RK_fadr {k1 : Nat} {x : O} : RK T (⟨d, .fadr k1 x, none⟩ :: os) e m n k = ThenK T d os e k (evalOp noCall e m n (.fadr k1 x)) := RK_op rfl
theorem RK_fld {k1 : Nat} {k2 : Nat} {bb : Bool} {x : O} : RK T (⟨d, .fld k1 k2 bb x, none⟩ :: os) e m n k = ThenK T d os e k (evalOp noCall e m n (.fld k1 k2 bb x)) := RK_op rfl
theorem RK_iadrA {k1 : Nat} {k2 : Nat} {x : O} {y : O} : RK T (⟨d, .iadrA k1 k2 x y, none⟩ :: os) e m n k = ThenK T d os e k (evalOp noCall e m n (.iadrA k1 k2 x y)) := RK_op rfl
theorem RK_iadrS {k1 : Nat} {x : O} {y : O} : RK T (⟨d, .iadrS k1 x y, none⟩ :: os) e m n k = ThenK T d os e k (evalOp noCall e m n (.iadrS k1 x y)) := RK_op rfl
theorem RK_idxA {k1 : Nat} {k2 : Nat} {bb : Bool} {x : O} {y : O} : RK T (⟨d, .idxA k1 k2 bb x y, none⟩ :: os) e m n k = ThenK T d os e k (evalOp noCall e m n (.idxA k1 k2 bb x y)) := RK_op rfl
theorem RK_ext {x : O} {k1 : Nat} : RK T (⟨d, .ext x k1, none⟩ :: os) e m n k = ThenK T d os e k (evalOp noCall e m n (.ext x k1)) := RK_op rfl
theorem RK_lenC {k1 : Nat} : RK T (⟨d, .lenC k1, none⟩ :: os) e m n k = ThenK T d os e k (evalOp noCall e m n (.lenC k1)) := RK_op rfl
theorem RK_cap {x : O} : RK T (⟨d, .cap x, none⟩ :: os) e m n k = ThenK T d os e k (evalOp noCall e m n (.cap x)) := RK_op rfl
theorem RK_app {k1 : Nat} {k2 : Nat} {x : O} {y : O} : RK T (⟨d, .app k1 k2 x y, none⟩ :: os) e m n k = ThenK T d os e k (evalOp noCall e m n (.app k1 k2 x y)) := RK_op rfl
theorem RK_cpy {k1 : Nat} {x : O} {y : O} : RK T (⟨d, .cpy k1 x y, none⟩ :: os) e m n k = ThenK T d os e k (evalOp noCall e m n (.cpy k1 x y)) := RK_op rfl
theorem RK_mn {xs : List O} : RK T (⟨d, .mn xs, none⟩ :: os) e m n k = ThenK T d os e k (evalOp noCall e m n (.mn xs)) := RK_op rfl
theorem RK_mx {xs : List O} : RK T (⟨d, .mx xs, none⟩ :: os) e m n k = ThenK T d os e k (evalOp noCall e m n (.mx xs)) := RK_op rfl
theorem RK_carry {bb : Bool} {xs : List O} : RK T (⟨d, .carry bb xs, none⟩ :: os) e m n k = ThenK T d os e k (evalOp noCall e m n (.carry bb xs)) := RK_op rfl
theorem RK_clr {zz : List Cell} {k1 : Nat} {x : O} : RK T (⟨d, .clr zz k1 x, none⟩ :: os) e m n k = ThenK T d os e k (evalOp noCall e m n (.clr zz k1 x)) := RK_op rfl
theorem RK_len {x : O} : RK T (⟨d, .len x, none⟩ :: os) e m n k = ThenK T d os e k ((lenO (evO e x)).map fun l => (RI l, m, n)) := by
  unfold RK
  rw [R_len]
  cases lenO (evO e x) with
  | none => rfl
  | some x => rfl
theorem ThenK_some {r : Reg} : ThenK T d os e k (some (r, m, n)) = RK T os (putE e d r) m n k := rfl
theorem RK_guard {t : Nat} {w : Bool} : RK T (⟨d, op, some (some t, w)⟩ :: os) e m n k = GK T (boolOf (e t)) w d op os e m n k := R_guard
theorem GK_tt : GK T (some true) true d op os e m n k = RK T (⟨d, op, none⟩ :: os) e m n k := by simp [GK]
theorem GK_ff : GK T (some false) false d op os e m n k = RK T (⟨d, op, none⟩ :: os) e m n k := by simp [GK]
theorem GK_tf : GK T (some true) false d op os e m n k = RK T os (putE e d (.tup [])) m n k := by simp [GK]
theorem GK_ft : GK T (some false) true d op os e m n k = RK T os (putE e d (.tup [])) m n k := by simp [GK]
theorem GK_none {w : Bool} : GK T none w d op os e m n k = RK T os (putE e d (.tup [])) m n k := by simp [GK]
theorem QK_some {r : Reg} : QK T d os e m n k (some r) = (r.flat = true ∧ RK T os (putE e d r) m n k) := rfl
theorem RK_callQ {f : Nat} {xs : List O} : RK T (⟨d, .call .q f xs, none⟩ :: os) e m n k = QK T d os e m n k (callF T f (evOs e xs) (frz m) n) := by
  unfold RK
  rw [R_call]
  simp only [doCall, callF]
  cases callR T f (evOs e xs) (frz m) n with
  | none => rfl
  | some x =>
    obtain ⟨r, m', n'⟩ := x
    simp only [Option.map_some, QK]
    split
    · rename_i h; simp [Then, h, RK]
    · rename_i h; simp [Then, h]
theorem RK_callZ {g f : Nat} {xs : List O} : RK T (⟨d, .call (.z g) f xs, none⟩ :: os) e m n k = (flats (evOs e xs) = true ∧ QK T d os e m n k (callF T f (evOs e xs) (fun _ => none) g)) := by
  unfold RK
  rw [R_call]
  simp only [doCall, callF]
  by_cases hf : flats (evOs e xs) = true
  · rw [if_pos hf]
    cases callR T f (evOs e xs) (fun _ => none) g with
    | none => simp [Then, QK]
    | some x =>
      obtain ⟨r, m', n'⟩ := x
      simp only [Option.map_some, QK, hf, true_and]
      split
      · rename_i h; simp [Then, h, RK]
      · rename_i h; simp [Then, h]
  · rw [if_neg hf]
    simp [Then, hf]
theorem VK_clo {md : Mode} {as_ : List Reg} {f : Nat} {caps : List Cell} : VK T d md as_ os e m n k (.one (.clo f caps)) = RK T (⟨d, .call md f ((as_ ++ caps.map Reg.one).map O.c), none⟩ :: os) e m n k := rfl
theorem RK_callV {md : Mode} {x : O} {xs : List O} : RK T (⟨d, .callv md x xs, none⟩ :: os) e m n k = VK T d md (evOs e xs) os e m n k (evO e x) := by
  unfold VK
  split
  · rename_i f caps hx
    unfold RK
    apply propext
    constructor
    · rintro ⟨k, e', m', n', h1, h2⟩
      refine ⟨k, e', m', n', ?_, h2⟩
      simp only [evalOps, wantedS, evalOp, evOs_c] at h1 ⊢
      rw [hx] at h1
      exact h1
    · exact fun h => R_callv hx h
  · rename_i hx
    apply propext
    constructor
    · rintro ⟨k, e', m', n', h1, h2⟩
      simp only [evalOps, wantedS, evalOp] at h1
      cases h1
    · exact fun h => h.elim
theorem RK_callk {f : Nat} {xs : List O} (h : Fn T f (evOs e xs) (frz m) n (fun r m' n' => RK T os (putE e d r) (unfrz m n m') (max n n') k)) : RK T (⟨d, .call .k f xs, none⟩ :: os) e m n k := R_callk h
theorem RK_callw {f : Nat} {xs : List O} (h : Fn T f (evOs e xs) m n (fun r m' n' => RK T os (putE e d r) m' n' k)) : RK T (⟨d, .call .w f xs, none⟩ :: os) e m n k := R_callw h
theorem RK_callq {f : Nat} {xs : List O} (h : Fn T f (evOs e xs) (frz m) n (fun r _ _ => r.flat = true ∧ RK T os (putE e d r) m n k)) : RK T (⟨d, .call .q f xs, none⟩ :: os) e m n k := R_callq h
theorem RK_callz {g f : Nat} {xs : List O} (hf : flats (evOs e xs) = true) (h : Fn T f (evOs e xs) (fun _ => none) g (fun r _ _ => r.flat = true ∧ RK T os (putE e d r) m n k)) : RK T (⟨d, .call (.z g) f xs, none⟩ :: os) e m n k := R_callz hf h
theorem Fn_ofK {f : Nat} {fn : SFun} {a : List Reg} {m : Mem} {n : Nat} {Q : Reg → Mem → Nat → Prop} (hT : T f = some fn) (hl : a.length ≤ fn.nt)
    (h : XK T fn.body ⟨fun t => a.getD t (.tup []), m, n⟩ (.fin fn.res Q)) : Fn T f a m n Q := Fn_of hT hl h

/-- A loop of a known number of rounds. -/
theorem XK_iter {T : Nat → Option SFun} {b : SC} {k : Kt} (inv : Nat → St → Prop) (N : Nat)
    (h : ∀ B, B = b → (∀ i, i < N → ∀ s, inv i s → (∀ s', inv (i + 1) s' → XK T (.loop B) s' k) → XK T b s (.lp B k)) ∧ (∀ s, inv N s → XK T b s (.lp B k))) :
    ∀ i, i ≤ N → ∀ s, inv i s → XK T (.loop b) s k := by
  obtain ⟨h1, h2⟩ := h b rfl
  intro i hi
  obtain ⟨d, hd⟩ : ∃ d, d = N - i := ⟨_, rfl⟩
  induction d generalizing i with
  | zero =>
    intro s hs
    have : i = N := by omega
    subst this
    rw [XK_loop]
    exact h2 s hs
  | succ d ih =>
    intro s hs
    rw [XK_loop]
    exact h1 i (by omega) s hs (fun s' hs' => ih (i + 1) (by omega) (by omega) s' hs')

/-- A loop whose measure goes down. -/
theorem XK_down {T : Nat → Option SFun} {b : SC} {k : Kt} (inv : Nat → St → Prop)
    (h : ∀ B, B = b → ∀ d s, inv d s → (∀ d' s', d' < d → inv d' s' → XK T (.loop B) s' k) → XK T b s (.lp B k)) : ∀ d s, inv d s → XK T (.loop b) s k := by
  intro d
  induction d using Nat.strongRecOn with
  | _ d ih =>
    intro s hs
    rw [XK_loop]
    exact h b rfl d s hs (fun d' s' hd hs' => ih d' hd s' hs')

/-! forks -/
theorem FK_split {t : Bool} (h1 : t = true → XK T a s k) (h2 : t = false → XK T b s k) : FK T (RB t) a b s k := by
  cases t
  · rw [FK_false]; exact h2 rfl
  · rw [FK_true]; exact h1 rfl
theorem GK_split {t w : Bool} (h1 : t = w → RK T (⟨d, op, none⟩ :: os) e m n k) (h2 : t = !w → RK T os (putE e d (.tup [])) m n k) : GK T (some t) w d op os e m n k := by
  unfold GK
  by_cases h : t = w
  · rw [if_pos (by rw [h])]; exact h1 h
  · rw [if_neg (fun e => h (Option.some.inj e))]
    exact h2 (by cases t <;> cases w <;> simp_all)
end

theorem rd_of {m : Mem} {id off k : Nat} {b : Blk} (h : m id = some b) : rd m id off k = rdB b off k := by unfold rd rdB; rw [h]
theorem rd_updn {m : Mem} {k id off j : Nat} : rd (upd m k none) id off j = if id = k then none else rd m id off j := by
  unfold rd
  by_cases h : id = k
  · subst h; rw [upd_same, if_pos rfl]
  · rw [upd_ne _ _ h, if_neg h]
theorem frz_at {m : Mem} {id : Nat} : frz m id = (m id).map fun b => ⟨b.cells, false⟩ := rfl
theorem ite_both {c : Prop} [Decidable c] {p q : Prop} (h1 : c → p) (h2 : ¬ c → q) : if c then p else q := by
  by_cases h : c
  · rw [if_pos h]; exact h1 h
  · rw [if_neg h]; exact h2 h

theorem mem_frz {m : Mem} {id : Nat} {b : Blk} (h : m id = some b) : frz m id = some ⟨b.cells, false⟩ := by unfold frz; rw [h]; rfl
theorem Cell.flat_sc {v : Value} : Cell.flat (.sc v) = true := rfl
theorem Cell.flat_ptr {a b : Nat} : Cell.flat (.ptr a b) = false := rfl
theorem Reg.flat_one {c : Cell} : Reg.flat (.one c) = c.flat := rfl
theorem Reg.flat_agg {cs : List Cell} : Reg.flat (.agg cs) = cs.all Cell.flat := rfl
theorem Reg.flat_tup {rs : List Reg} : Reg.flat (.tup rs) = flats rs := rfl
theorem flats_nil : flats [] = true := rfl
theorem flats_cons {r : Reg} {rs : List Reg} : flats (r :: rs) = (r.flat && flats rs) := rfl
theorem callF_closed {T : Nat → Option SFun} {k f : Nat} {a : List Reg} {m : Mem} {n : Nat} {r : Reg} (h : (run T k f a m n).map (·.1) = some r) : callF T f a m n = some r := by
  obtain ⟨x, h1, h2⟩ := Option.map_eq_some_iff.1 h
  unfold callF
  rw [callR_of h1]
  exact congrArg some h2

theorem um0 {a : Int} : (0 ≤ a % 18446744073709551616) = True := eq_true (Int.emod_nonneg _ (by decide))
theorem um1 {a : Int} : (a % 18446744073709551616 < 18446744073709551616) = True := eq_true (Int.emod_lt_of_pos _ (by decide))
/-! ### the numbers of blocks -/
section
variable {n k id a b : Nat}
theorem nadd : n + k + 1 = n + (k + 1) := Nat.add_assoc _ _ _
theorem na_eq : (n = n + k) = (k = 0) := by apply propext; omega
theorem na_eq' : (n + k = n) = (k = 0) := by apply propext; omega
theorem na_lt : (n < n + k) = (0 < k) := by apply propext; omega
theorem na_ee : (n + a = n + b) = (a = b) := by apply propext; omega
theorem na_ll : (n + a < n + b) = (a < b) := by apply propext; omega
theorem na_ne (h : id < n) : (id = n + k) = False := eq_false (by omega)
theorem na_ne' (h : id < n) : (n + k = id) = False := eq_false (by omega)
theorem na_tt (h : id < n) : (id < n + k) = True := eq_true (by omega)
theorem na_0 (h : id < n) : (id = n) = False := eq_false (by omega)
theorem na_0' (h : id < n) : (n = id) = False := eq_false (by omega)
end
end Go.Proofs.Ytffhhgcgnillaaa.Sy

/- An evaluator of a part of Go's operations over a memory of its own, part eighteen: numbers of all kinds. Conditions: those that each theorem names. -/
namespace Go.Proofs.Ytffhhgcgnillaaa.Sy
open Go
set_option linter.unusedVariables false
set_option linter.unusedSimpArgs false

abbrev U (n : Int) : Cell := .sc (.int .u64 n)
abbrev RU (n : Int) : Reg := .one (.sc (.int .u64 n))

section
variable {k k' : IntKind} {a b : Int}
theorem bV_add : binV .add (.int k a) (.int k b) = some (.int k (k.wrap (a + b))) := by simp [binV]
theorem bV_sub : binV .sub (.int k a) (.int k b) = some (.int k (k.wrap (a - b))) := by simp [binV]
theorem bV_mul : binV .mul (.int k a) (.int k b) = some (.int k (k.wrap (a * b))) := by simp [binV]
theorem bV_eql : binV .eql (.int k a) (.int k b) = some (.bool (decide (a = b))) := by
  simp only [binV, if_true, Option.some.injEq, Value.bool.injEq]
  by_cases h : a = b <;> simp [h]
theorem bV_neq : binV .neq (.int k a) (.int k b) = some (.bool (!decide (a = b))) := by
  simp only [binV, if_true, Option.some.injEq, Value.bool.injEq]
  by_cases h : a = b <;> simp [h]
theorem bV_lss : binV .lss (.int k a) (.int k b) = some (.bool (decide (a < b))) := by simp [binV]
theorem bV_leq : binV .leq (.int k a) (.int k b) = some (.bool (decide (a ≤ b))) := by simp [binV]
theorem bV_gtr : binV .gtr (.int k a) (.int k b) = some (.bool (decide (b < a))) := by simp [binV]
theorem bV_geq : binV .geq (.int k a) (.int k b) = some (.bool (decide (b ≤ a))) := by simp [binV]
theorem bV_quo (h : (b = 0) = False) : binV .quo (.int k a) (.int k b) = some (.int k (k.wrap (a.tdiv b))) := by simp [binV, h]
theorem bV_rem (h : (b = 0) = False) : binV .rem (.int k a) (.int k b) = some (.int k (a.tmod b)) := by simp [binV, h]
theorem bV_shr (h : 0 ≤ b) : binV .shr (.int k a) (.int k' b) = some (.int k (a / 2 ^ min b.toNat k.bits)) := by
  have : ¬ b < 0 := by omega
  simp only [binV, this, if_false]
  rw [Int.fdiv_eq_ediv_of_nonneg _ (Int.le_of_lt (Int.pow_pos (by decide)))]
theorem bV_shl (h : 0 ≤ b) : binV .shl (.int k a) (.int k' b) = some (.int k (k.wrap (a * 2 ^ min b.toNat k.bits))) := by
  have : ¬ b < 0 := by omega
  simp only [binV, this, if_false]
theorem uV_not {t : Bool} : unV .not (.bool t) = some (.bool !t) := rfl
theorem uV_neg : unV .neg (.int k a) = some (.int k (k.wrap (0 - a))) := rfl
end

theorem wrapU (n : Int) : IntKind.u64.wrap n = n % 18446744073709551616 := IntKind.wrap_u64 n
theorem wrapI (n : Int) : IntKind.i64.wrap n = Go.RowKit.wrap64 n := by
  simp [IntKind.wrap, IntKind.bits, IntKind.signed, Go.RowKit.wrap64]
  omega

theorem bits_and {k : IntKind} {a b : Int} : binV .and (.int k a) (.int k b) = some (.int k (Go.bits .and k a b)) := by
  simp [binV, Go.bits]
theorem bits_or {k : IntKind} {a b : Int} : binV .or (.int k a) (.int k b) = some (.int k (Go.bits .or k a b)) := by
  simp [binV, Go.bits]
theorem bits_xor {k : IntKind} {a b : Int} : binV .xor (.int k a) (.int k b) = some (.int k (Go.bits .xor k a b)) := by
  simp [binV, Go.bits]

def mnI (a b : Int) : Int := if b < a then b else a
def mxI (a b : Int) : Int := if a < b then b else a
theorem minI_two {kd : IntKind} (a b : Int) : minI a [.one (.sc (.int kd b))] = some (mnI a b) := by simp [minI, mnI]
theorem maxI_two {kd : IntKind} (a b : Int) : maxI a [.one (.sc (.int kd b))] = some (mxI a b) := by simp [maxI, mxI]
theorem maxI_three {kd kd' : IntKind} (a b c : Int) : maxI a [.one (.sc (.int kd b)), .one (.sc (.int kd' c))] = some (mxI (mxI a b) c) := rfl
end Go.Proofs.Ytffhhgcgnillaaa.Sy

/- Rows of records in memory: read, made, appended. Conditions: those that each theorem names. -/
namespace Go.Proofs.Ytffhhgcgnillaaa.Sy
open Go Go.Proofs
set_option linter.unusedSimpArgs false
set_option linter.unusedVariables false

theorem callF_ex {T : Nat → Option SFun} {f : Nat} {a : List Reg} {m : Mem} {n : Nat} {P : Reg → Prop} (h : Fn T f a m n (fun r _ _ => P r)) : ∃ r, callF T f a m n = some r ∧ P r := by
  obtain ⟨k, r, m', n', h1, h2⟩ := h
  exact ⟨r, by unfold callF; rw [callR_of h1]; rfl, h2⟩
/-- The number of the block that a slice lies in. -/
def sid : Reg → Option Nat
  | .one (.sl id _ _ _ _) => some id
  | _ => none

section
variable {α : Type} {enc : α → List Cell} {sz : Nat}
/-- The register reads as_ these records. -/
def RL (enc : α → List Cell) (sz : Nat) (m : Mem) (n : Nat) (r : Reg) (l : List α) : Prop :=
  (r = rnil ∧ l = []) ∨ ∃ id off cap, r = .one (.sl id off l.length cap sz) ∧ id < n ∧ rd m id off (l.length * sz) = some (l.flatMap enc)
/-- The register is a slice of the call's own, made behind base. -/
def OL (enc : α → List Cell) (sz base : Nat) (m : Mem) (n : Nat) (r : Reg) (l : List α) : Prop :=
  (r = rnil ∧ l = []) ∨ ∃ id, r = .one (.sl id 0 l.length none sz) ∧ base ≤ id ∧ id < n ∧ m id = some ⟨l.flatMap enc, true⟩

theorem OL.nil {base : Nat} {m : Mem} {n : Nat} : OL enc sz base m n rnil [] := Or.inl ⟨rfl, rfl⟩
theorem RL.nil {m : Mem} {n : Nat} : RL enc sz m n rnil [] := Or.inl ⟨rfl, rfl⟩
theorem OL.rl (hsz : ∀ x, (enc x).length = sz) {base : Nat} {m : Mem} {n : Nat} {r : Reg} {l : List α} (h : OL enc sz base m n r l) : RL enc sz m n r l := by
  rcases h with h | ⟨id, h1, h2, h3, h4⟩
  · exact Or.inl h
  · refine Or.inr ⟨id, 0, none, h1, h3, ?_⟩
    have hl := flatMap_len enc sz hsz l
    rw [rd_of h4]
    unfold rdB
    rw [if_pos (by rw [hl]; omega), List.drop_zero, ← hl, List.take_length]
theorem OL.keep {base : Nat} {m m' : Mem} {n n' : Nat} {r : Reg} {l : List α} (h : OL enc sz base m n r l) (hn : n ≤ n') (hm : ∀ id, base ≤ id → id < n → m' id = m id) : OL enc sz base m' n' r l := by
  rcases h with h | ⟨id, h1, h2, h3, h4⟩
  · exact Or.inl h
  · exact Or.inr ⟨id, h1, h2, by omega, by rw [hm id h2 h3]; exact h4⟩
theorem OL.base {b b' : Nat} {m : Mem} {n : Nat} {r : Reg} {l : List α} (h : OL enc sz b m n r l) (hb : b' ≤ b) : OL enc sz b' m n r l := by
  rcases h with h | ⟨id, h1, h2, h3, h4⟩
  · exact Or.inl h
  · exact Or.inr ⟨id, h1, by omega, h3, h4⟩
theorem RL.keep {m m' : Mem} {n n' : Nat} {r : Reg} {l : List α} (h : RL enc sz m n r l) (hn : n ≤ n') (hm : ∀ id, id < n → m' id = m id) : RL enc sz m' n' r l := by
  rcases h with h | ⟨id, off, cap, h1, h2, h3⟩
  · exact Or.inl h
  · refine Or.inr ⟨id, off, cap, h1, by omega, ?_⟩
    have : rd m' id off (l.length * sz) = rd m id off (l.length * sz) := by unfold rd; rw [hm id h2]
    rw [this]; exact h3
theorem RL.keep' {m m' : Mem} {n n' : Nat} {r : Reg} {l : List α} (h : RL enc sz m n r l) (hn : n ≤ n') (hm : ∀ id, sid r = some id → m' id = m id) : RL enc sz m' n' r l := by
  rcases h with h | ⟨id, off, cap, h1, h2, h3⟩
  · exact Or.inl h
  · refine Or.inr ⟨id, off, cap, h1, by omega, ?_⟩
    have : rd m' id off (l.length * sz) = rd m id off (l.length * sz) := by unfold rd; rw [hm id (by rw [h1]; rfl)]
    rw [this]; exact h3
theorem RL.frz {m : Mem} {n : Nat} {r : Reg} {l : List α} (h : RL enc sz m n r l) : RL enc sz (frz m) n r l := by
  rcases h with h | ⟨id, off, cap, h1, h2, h3⟩
  · exact Or.inl h
  · exact Or.inr ⟨id, off, cap, h1, h2, by rw [rd_frz]; exact h3⟩
theorem RL.lt {m : Mem} {n : Nat} {r : Reg} {l : List α} (h : RL enc sz m n r l) {i : Nat} (hi : sid r = some i) : i < n := by
  rcases h with ⟨rfl, _⟩ | ⟨id, off, cap, rfl, h2, h3⟩
  · cases hi
  · simp only [sid, Option.some.injEq] at hi; omega
theorem RL.len {m : Mem} {n : Nat} {r : Reg} {l : List α} (h : RL enc sz m n r l) : lenO r = some (l.length : Int) := by
  rcases h with ⟨rfl, rfl⟩ | ⟨id, off, cap, rfl, h2, h3⟩ <;> rfl
/-- The record i of a slice that is read. -/
theorem RL.at (hsz : ∀ x, (enc x).length = sz) {m : Mem} {n : Nat} {r : Reg} {l : List α} {i : Nat} {x : α} (h : RL enc sz m n r l) (hi : l[i]? = some x) :
    ∃ id off cap, r = .one (.sl id off l.length cap sz) ∧ id < n ∧ rd m id (off + i * sz) sz = some (enc x) := by
  rcases h with ⟨rfl, rfl⟩ | ⟨id, off, cap, h1, h2, h3⟩
  · simp at hi
  · exact ⟨id, off, cap, h1, h2, rd_at hsz h3 hi⟩

/-- One record more. -/
theorem K_push {T : Nat → Option SFun} (hsz : ∀ x, (enc x).length = sz) (hpos : 0 < sz) {base n0 n : Nat} {m0 m : Mem} {r0 : Reg} {l : List α} {p : α} {j by' : Nat} {o : Bool} {d : Option Nat} {os : List SOper} {e : Nat → Reg} {k : Kt}
    (ho : OL enc sz base m0 n0 r0 l) (hn : n0 ≤ n) (hm : ∀ id, base ≤ id → id < n0 → m id = m0 id) (hj : m j = some ⟨enc p, o⟩) (hsm : l.length + 1 ≤ 4294967296) (hbase : base ≤ n)
    (next : ∀ r m', OL enc sz base m' (n + 1) r (l ++ [p]) → (∀ id, id < base → m' id = m id) → (∀ id, id < n → sid r0 ≠ some id → m' id = m id) → RK T os (putE e d r) m' (n + 1) k) :
    ThenK T d os e k (evApp m n sz by' r0 (.one (.sl j 0 1 (some 1) sz))) := by
  have hx : newsOf m sz (.one (.sl j 0 1 (some 1) sz)) = some (1, enc p) := by
    simp only [newsOf, if_true]
    rw [rd_of hj]
    simp [rdB, hsz]
    exact List.take_of_length_le (by rw [hsz]; exact Nat.le_refl _)
  rcases ho with ⟨rfl, rfl⟩ | ⟨id, rfl, h2, h3, h4⟩
  · simp only [evApp, hx]
    rw [if_neg (by omega), if_pos (by omega)]
    refine next _ _ (Or.inr ⟨n, rfl, hbase, by omega, ?_⟩) (fun id hid => upd_ne _ _ (by omega)) (fun id hid _ => upd_ne _ _ (by omega))
    rw [upd_same]
    simp
  · have h5 : m id = some ⟨l.flatMap enc, true⟩ := by rw [hm id h2 h3]; exact h4
    have hl := flatMap_len enc sz hsz l
    have h6 : rd m id 0 (l.length * sz) = some (l.flatMap enc) := by
      rw [rd_of h5]
      unfold rdB
      rw [if_pos (by rw [hl]; omega), List.drop_zero, ← hl, List.take_length]
    simp only [evApp, hx, if_true, h5, h6, Option.map_some, true_and, if_pos hsm]
    refine next _ _ (Or.inr ⟨n, by simp, hbase, by omega, ?_⟩) (fun i hi => ?_) (fun i hi hs => ?_)
    · rw [upd_same]; simp
    · rw [upd_ne _ _ (by omega), upd_ne _ _ (by omega)]
    · rw [upd_ne _ _ (by omega), upd_ne _ _ (fun e => hs (by rw [e]; rfl))]
end
end Go.Proofs.Ytffhhgcgnillaaa.Sy

/- Patterns walked (chapter 09): the reference's answer. Conditions: those that each theorem names. -/
namespace Go.Proofs.Ytffhhgcgnillaaa.Sy
open Go Go.Proofs
set_option linter.unusedSimpArgs false
set_option linter.unusedVariables false
set_option maxRecDepth 20000
attribute [local go_sem] XK_seq XK_block XK_skip XK_exit XK_ret XK_cond XK_reg XK_dreg XK_ureg KN_seq KN_blk KN_lp KN_chk KN_chku KN_top KN_fin KX_seq KX_lp KX_blk KX_chk KX_top KR_seq KR_blk KR_lp KR_chk KR_top KR_fin FK_true FK_false RK_nil RK_mv RK_pick RK_alloc RK_box RK_build RK_bslice RK_load1 RK_loadA RK_store RK_nilchk RK_bin RK_beq RK_eqv RK_eqnil RK_un RK_conv RK_mkfn RK_mkslice RK_slS RK_slA RK_fadr RK_fld RK_iadrA RK_iadrS RK_idxA RK_ext RK_lenC RK_cap RK_app RK_cpy RK_mn RK_mx RK_len RK_carry RK_clr carryR um0 um1 ThenK_some RK_guard GK_tt GK_ff GK_tf GK_ft GK_none QK_some RK_callQ RK_callZ VK_clo RK_callV
  evalOp evO evOs upd_at unfrz_at putE_some putE_none boolOf_b boolOf_tup Option.map_some evRes pack_one pack_two pack_three pack_none List.getD_cons_zero List.getD_cons_succ getD_nil
  Option.some.injEq exists_eq_left' Reg.cs? fillC setL List.set_cons_zero List.set_cons_succ List.length_cons List.length_nil rd_upd rd_updn rdB wr List.drop_zero List.drop_succ_cons List.take_succ_cons List.take_zero List.getElem?_cons_zero List.getElem?_cons_succ
  ix Int.toNat_zero lenO_sl lenO_nil nadd na_eq na_eq' na_lt na_ee na_ll na_ne na_ne' na_tt
attribute [local go_sem] Reg.flat_one Reg.flat_agg Reg.flat_tup flats_nil flats_cons Cell.flat_sc Cell.flat_ptr List.all_cons List.all_nil disOk safeOk safeR decide_eq_true_eq decide_eq_false_iff_not
  List.map_cons List.map_nil List.cons_append List.nil_append List.append_nil evalOp.capsOf Bool.false_bne Bool.bne_false Bool.true_bne Bool.bne_true bne_self_eq_false beq_self_eq_true Bool.not_not Bool.false_and Bool.and_false Bool.true_or Bool.or_true beq_iff_eq eqCells
  Bool.true_beq Bool.false_beq Bool.not_eq_true' Bool.not_eq_eq_eq_not Bool.not_eq_false' and_false false_and frz_at idOf Option.isSome_some Bool.and_eq_true
attribute [local go_sem] wr_eq bV_add bV_sub bV_mul bV_eql bV_neq bV_lss bV_leq bV_gtr bV_geq bV_quo bV_rem bV_shr bV_shl uV_not uV_neg wrapU bits_and bits_or bits_xor IntKind.bits Nat.min_eq_left Nat.min_eq_right Nat.min_self
attribute [local go_sem] bne_iff_ne Int.cast_ofNat_Int Nat.zero_add Nat.add_zero and_self and_true true_and ne_eq not_false_eq_true not_true_eq_false decide_true decide_false Bool.false_eq_true Bool.not_true Bool.not_false Bool.true_and Bool.and_true Bool.or_false Bool.false_or Bool.and_self

abbrev encI (x : Int) : List Cell := [I x]
abbrev RIn := RL encI 1
theorem ci1 (x : Int) : (encI x).length = 1 := rfl
theorem RL.int {m : Mem} {n : Nat} {r : Reg} {l : List Int} {i : Nat} {x : Int} (h : RIn m n r l) (hi : l[i]? = some x) :
    ∃ id off cap b, r = .one (.sl id off l.length cap 1) ∧ id < n ∧ m id = some b ∧ b.cells[off + i]? = some (I x) := by
  obtain ⟨id, off, cap, h1, h2, h3⟩ := h.at ci1 hi
  obtain ⟨b, h4, h5⟩ := rd_cell h3 (a := 0) (c := I x) rfl
  exact ⟨id, off, cap, b, h1, h2, h4, by rw [Nat.mul_one, Nat.add_zero] at h5; exact h5⟩
def okD (x : Int) : Bool := decide (1 ≤ x) && decide (x ≤ 1048576)
theorem okD_iff {x : Int} : okD x = true ↔ 1 ≤ x ∧ x ≤ 1048576 := by simp [okD]
def rightB (l : List Int) (ph : Int) : Bool :=
  if l = [] then decide (ph = 0) else if l.length = 2 ∨ l.length = 4 ∨ l.length = 6 ∨ l.length = 8 then l.all okD && (decide (0 ≤ ph) && decide (ph < l.sum)) else false
theorem sum_snoc {l : List Int} {i : Nat} {x : Int} (hx : l[i]? = some x) : (l.take (i + 1)).sum = (l.take i).sum + x := by
  rw [List.take_add_one, hx]
  simp
theorem allD_snoc {l : List Int} {i : Nat} {x : Int} (hx : l[i]? = some x) : (l.take (i + 1)).all okD = ((l.take i).all okD && okD x) := by
  rw [List.take_add_one, hx, List.all_append]
  simp
theorem sum_bd : ∀ (l : List Int), l.all okD = true → 0 ≤ l.sum ∧ l.sum ≤ 1048576 * (l.length : Int)
  | [], _ => by simp
  | x :: l, h => by
    simp only [List.all_cons, Bool.and_eq_true] at h
    have := sum_bd l h.2
    have h1 := okD_iff.1 h.1
    simp only [List.sum_cons, List.length_cons]
    omega
theorem v_Right (r : Reg) (l : List Int) (ph : Int) (m : Mem) (n : Nat) (hr : RIn m n r l) (hl : l.length < 4294967296) : callF TA 22 [r, RI ph] m n = some (RB (rightB l ph)) := by
  refine callF_of (Fn_ofK (fn := F22) rfl (by simp [F22]) ?_)
  have hlen := hr.len
  by_cases g0 : l.length = 0
  · have e : l = [] := List.length_eq_zero_iff.1 g0
    have e2 : rightB l ph = decide (ph = 0) := by unfold rightB; rw [if_pos e]
    have g0' : ((l.length : Int) = 0) = True := eq_true (by omega)
    try simp only [r22_0, r22_1, r22_2, r22_3, r22_4, r22_5, r22_6, r22_7, r22_9, r22_10, r22_11, r22_8, r22_12, c22, F22, hlen, g0', e2, go_sem, Int.reduceTMod, Int.reduceTDiv, Int.reduceDiv, Int.reduceMod, Int.reduceAdd, Int.reduceSub, Int.reduceMul, Int.reduceNeg, Int.reducePow, Int.reduceEq, ↓reduceIte, Nat.reduceEqDiff, Nat.reduceAdd, Nat.reduceMul, Nat.reduceLeDiff, Nat.reduceSub, Nat.reduceLT, Int.reduceToNat, Int.reduceLT, Int.reduceLE, reduceCtorEq]
    repeat' ((first | refine FK_split (fun h_ => ?_) (fun h_ => ?_) | refine GK_split (fun h_ => ?_) (fun h_ => ?_) | refine ite_both (fun h_ => ?_) (fun h_ => ?_)) <;> (try simp only [decide_eq_true_eq, decide_eq_false_iff_not, Bool.not_true, Bool.not_false, Bool.not_eq_true', Bool.not_eq_false', Bool.not_eq_eq_eq_not, Decidable.not_not] at h_) <;> (try simp only [r22_0, r22_1, r22_2, r22_3, r22_4, r22_5, r22_6, r22_7, r22_9, r22_10, r22_11, r22_8, r22_12, c22, F22, hlen, g0', e2, h_, go_sem, Int.reduceTMod, Int.reduceTDiv, Int.reduceDiv, Int.reduceMod, Int.reduceAdd, Int.reduceSub, Int.reduceMul, Int.reduceNeg, Int.reducePow, Int.reduceEq, ↓reduceIte, Nat.reduceEqDiff, Nat.reduceAdd, Nat.reduceMul, Nat.reduceLeDiff, Nat.reduceSub, Nat.reduceLT, Int.reduceToNat, Int.reduceLT, Int.reduceLE, reduceCtorEq]))
  · have g0' : ((l.length : Int) = 0) = False := eq_false (by omega)
    have e : ¬ l = [] := fun h => g0 (by rw [h]; rfl)
    by_cases g1 : l.length = 2 ∨ l.length = 4 ∨ l.length = 6 ∨ l.length = 8
    · have e2 : rightB l ph = (l.all okD && (decide (0 ≤ ph) && decide (ph < l.sum))) := by unfold rightB; rw [if_neg e, if_pos g1]
      rw [e2]
      have hloop : ∀ s : St, s.e 6 = RI ((0 : Nat) : Int) → s.e 5 = RI 0 → s.e 0 = r → s.e 1 = RI ph → s.m = m → s.n = n → XK TA (.loop l22_0) s (.blk 0 (.seq (.seq (.reg r22_12) .ret) (.fin F22.res fun r' _ _ => r' = RB (l.all okD && (decide (0 ≤ ph) && decide (ph < l.sum)))))) := by
        intro s0 w6 w5 w0 w1 wm wn
        refine XK_iter (inv := fun i s => s.e 6 = RI i ∧ s.e 5 = RI (l.take i).sum ∧ s.e 0 = r ∧ s.e 1 = RI ph ∧ s.m = m ∧ s.n = n ∧ (l.take i).all okD = true) l.length
          (fun L _ => ⟨fun i hi s hs next => ?_, fun s hs => ?_⟩) 0 (by omega) _ ?_
        · obtain ⟨q6, q5, q0, q1, qm, qn, qa⟩ := hs
          have hx : l[i]? = some l[i] := List.getElem?_eq_getElem hi
          obtain ⟨id, off, cap, b, hr1, hid, hb, hc⟩ := RL.int hr hx
          generalize l[i] = x at *
          have c2 : ((i : Int) < (l.length : Int)) = True := eq_true (by omega)
          have c3 : (0 ≤ (i : Int)) = True := eq_true (by omega)
          have c7 : IntKind.i64.wrap ((i : Int) + 1) = ((i + 1 : Nat) : Int) := wr_nat (by omega)
          have hs1 := sum_snoc hx
          have ha1 := allD_snoc hx
          rw [hr1] at q0
          cases hk : okD x with
          | true =>
            have hk' := okD_iff.1 hk
            have d1 : (x < 1) = False := eq_false (by omega)
            have d2 : (1048576 < x) = False := eq_false (by omega)
            have sb := sum_bd _ qa
            have hlt : (l.take i).length ≤ 8 := by rw [List.length_take]; omega
            have w : IntKind.i64.wrap ((l.take i).sum + x) = (l.take i).sum + x := wr_eq (by omega) (by omega)
            try simp only [r22_0, r22_1, r22_2, r22_3, r22_4, r22_5, r22_6, r22_7, r22_9, r22_10, r22_11, r22_8, r22_12, c22, F22, l22_0, q6, q5, q0, q1, qm, qn, c2, c3, c7, hb, hc, d1, d2, w, Int.toNat_natCast, Nat.mul_one, go_sem, Int.reduceTMod, Int.reduceTDiv, Int.reduceDiv, Int.reduceMod, Int.reduceAdd, Int.reduceSub, Int.reduceMul, Int.reduceNeg, Int.reducePow, Int.reduceEq, ↓reduceIte, Nat.reduceEqDiff, Nat.reduceAdd, Nat.reduceMul, Nat.reduceLeDiff, Nat.reduceSub, Nat.reduceLT, Int.reduceToNat, Int.reduceLT, Int.reduceLE, reduceCtorEq]
            repeat' ((first | refine FK_split (fun h_ => ?_) (fun h_ => ?_) | refine GK_split (fun h_ => ?_) (fun h_ => ?_) | refine ite_both (fun h_ => ?_) (fun h_ => ?_)) <;> (try simp only [decide_eq_true_eq, decide_eq_false_iff_not, Bool.not_true, Bool.not_false, Bool.not_eq_true', Bool.not_eq_false', Bool.not_eq_eq_eq_not, Decidable.not_not] at h_) <;> (try simp only [r22_0, r22_1, r22_2, r22_3, r22_4, r22_5, r22_6, r22_7, r22_9, r22_10, r22_11, r22_8, r22_12, c22, F22, l22_0, q6, q5, q0, q1, qm, qn, c2, c3, c7, hb, hc, d1, d2, w, Int.toNat_natCast, Nat.mul_one, h_, go_sem, Int.reduceTMod, Int.reduceTDiv, Int.reduceDiv, Int.reduceMod, Int.reduceAdd, Int.reduceSub, Int.reduceMul, Int.reduceNeg, Int.reducePow, Int.reduceEq, ↓reduceIte, Nat.reduceEqDiff, Nat.reduceAdd, Nat.reduceMul, Nat.reduceLeDiff, Nat.reduceSub, Nat.reduceLT, Int.reduceToNat, Int.reduceLT, Int.reduceLE, reduceCtorEq]))
            refine next _ ⟨?_, ?_, ?_, ?_, ?_, ?_, ?_⟩
            all_goals simp only [q6, q5, q0, q1, qm, qn, hr1, hs1, ha1, qa, hk, go_sem, Int.reduceTMod, Int.reduceTDiv, Int.reduceDiv, Int.reduceMod, Int.reduceAdd, Int.reduceSub, Int.reduceMul, Int.reduceNeg, Int.reducePow, Int.reduceEq, ↓reduceIte, Nat.reduceEqDiff, Nat.reduceAdd, Nat.reduceMul, Nat.reduceLeDiff, Nat.reduceSub, Nat.reduceLT, Int.reduceToNat, Int.reduceLT, Int.reduceLE, reduceCtorEq]
          | false =>
            have hl0 : l.all okD = false := by
              rw [List.all_eq_false]
              exact ⟨x, List.mem_of_getElem? hx, by simp [hk]⟩
            by_cases d1 : x < 1
            · skip
              try simp only [r22_0, r22_1, r22_2, r22_3, r22_4, r22_5, r22_6, r22_7, r22_9, r22_10, r22_11, r22_8, r22_12, c22, F22, l22_0, q6, q5, q0, q1, qm, qn, c2, c3, c7, hb, hc, d1, hl0, Int.toNat_natCast, Nat.mul_one, go_sem, Int.reduceTMod, Int.reduceTDiv, Int.reduceDiv, Int.reduceMod, Int.reduceAdd, Int.reduceSub, Int.reduceMul, Int.reduceNeg, Int.reducePow, Int.reduceEq, ↓reduceIte, Nat.reduceEqDiff, Nat.reduceAdd, Nat.reduceMul, Nat.reduceLeDiff, Nat.reduceSub, Nat.reduceLT, Int.reduceToNat, Int.reduceLT, Int.reduceLE, reduceCtorEq]
              repeat' ((first | refine FK_split (fun h_ => ?_) (fun h_ => ?_) | refine GK_split (fun h_ => ?_) (fun h_ => ?_) | refine ite_both (fun h_ => ?_) (fun h_ => ?_)) <;> (try simp only [decide_eq_true_eq, decide_eq_false_iff_not, Bool.not_true, Bool.not_false, Bool.not_eq_true', Bool.not_eq_false', Bool.not_eq_eq_eq_not, Decidable.not_not] at h_) <;> (try simp only [r22_0, r22_1, r22_2, r22_3, r22_4, r22_5, r22_6, r22_7, r22_9, r22_10, r22_11, r22_8, r22_12, c22, F22, l22_0, q6, q5, q0, q1, qm, qn, c2, c3, c7, hb, hc, d1, hl0, Int.toNat_natCast, Nat.mul_one, h_, go_sem, Int.reduceTMod, Int.reduceTDiv, Int.reduceDiv, Int.reduceMod, Int.reduceAdd, Int.reduceSub, Int.reduceMul, Int.reduceNeg, Int.reducePow, Int.reduceEq, ↓reduceIte, Nat.reduceEqDiff, Nat.reduceAdd, Nat.reduceMul, Nat.reduceLeDiff, Nat.reduceSub, Nat.reduceLT, Int.reduceToNat, Int.reduceLT, Int.reduceLE, reduceCtorEq]))
            · have d2 : (1048576 < x) = True := eq_true (by
                have : ¬ (1 ≤ x ∧ x ≤ 1048576) := fun h => by rw [okD_iff.2 h] at hk; cases hk
                omega)
              try simp only [r22_0, r22_1, r22_2, r22_3, r22_4, r22_5, r22_6, r22_7, r22_9, r22_10, r22_11, r22_8, r22_12, c22, F22, l22_0, q6, q5, q0, q1, qm, qn, c2, c3, c7, hb, hc, d1, d2, hl0, Int.toNat_natCast, Nat.mul_one, go_sem, Int.reduceTMod, Int.reduceTDiv, Int.reduceDiv, Int.reduceMod, Int.reduceAdd, Int.reduceSub, Int.reduceMul, Int.reduceNeg, Int.reducePow, Int.reduceEq, ↓reduceIte, Nat.reduceEqDiff, Nat.reduceAdd, Nat.reduceMul, Nat.reduceLeDiff, Nat.reduceSub, Nat.reduceLT, Int.reduceToNat, Int.reduceLT, Int.reduceLE, reduceCtorEq]
              repeat' ((first | refine FK_split (fun h_ => ?_) (fun h_ => ?_) | refine GK_split (fun h_ => ?_) (fun h_ => ?_) | refine ite_both (fun h_ => ?_) (fun h_ => ?_)) <;> (try simp only [decide_eq_true_eq, decide_eq_false_iff_not, Bool.not_true, Bool.not_false, Bool.not_eq_true', Bool.not_eq_false', Bool.not_eq_eq_eq_not, Decidable.not_not] at h_) <;> (try simp only [r22_0, r22_1, r22_2, r22_3, r22_4, r22_5, r22_6, r22_7, r22_9, r22_10, r22_11, r22_8, r22_12, c22, F22, l22_0, q6, q5, q0, q1, qm, qn, c2, c3, c7, hb, hc, d1, d2, hl0, Int.toNat_natCast, Nat.mul_one, h_, go_sem, Int.reduceTMod, Int.reduceTDiv, Int.reduceDiv, Int.reduceMod, Int.reduceAdd, Int.reduceSub, Int.reduceMul, Int.reduceNeg, Int.reducePow, Int.reduceEq, ↓reduceIte, Nat.reduceEqDiff, Nat.reduceAdd, Nat.reduceMul, Nat.reduceLeDiff, Nat.reduceSub, Nat.reduceLT, Int.reduceToNat, Int.reduceLT, Int.reduceLE, reduceCtorEq]))
        · obtain ⟨q6, q5, q0, q1, qm, qn, qa⟩ := hs
          have c2 : ((l.length : Int) < (l.length : Int)) = False := eq_false (by omega)
          rw [List.take_length] at qa q5
          by_cases p1 : 0 ≤ ph
          · skip
            try simp only [r22_0, r22_1, r22_2, r22_3, r22_4, r22_5, r22_6, r22_7, r22_9, r22_10, r22_11, r22_8, r22_12, c22, F22, l22_0, q6, q5, q0, q1, qm, qn, hlen, c2, qa, p1, go_sem, Int.reduceTMod, Int.reduceTDiv, Int.reduceDiv, Int.reduceMod, Int.reduceAdd, Int.reduceSub, Int.reduceMul, Int.reduceNeg, Int.reducePow, Int.reduceEq, ↓reduceIte, Nat.reduceEqDiff, Nat.reduceAdd, Nat.reduceMul, Nat.reduceLeDiff, Nat.reduceSub, Nat.reduceLT, Int.reduceToNat, Int.reduceLT, Int.reduceLE, reduceCtorEq]
            repeat' ((first | refine FK_split (fun h_ => ?_) (fun h_ => ?_) | refine GK_split (fun h_ => ?_) (fun h_ => ?_) | refine ite_both (fun h_ => ?_) (fun h_ => ?_)) <;> (try simp only [decide_eq_true_eq, decide_eq_false_iff_not, Bool.not_true, Bool.not_false, Bool.not_eq_true', Bool.not_eq_false', Bool.not_eq_eq_eq_not, Decidable.not_not] at h_) <;> (try simp only [r22_0, r22_1, r22_2, r22_3, r22_4, r22_5, r22_6, r22_7, r22_9, r22_10, r22_11, r22_8, r22_12, c22, F22, l22_0, q6, q5, q0, q1, qm, qn, hlen, c2, qa, p1, h_, go_sem, Int.reduceTMod, Int.reduceTDiv, Int.reduceDiv, Int.reduceMod, Int.reduceAdd, Int.reduceSub, Int.reduceMul, Int.reduceNeg, Int.reducePow, Int.reduceEq, ↓reduceIte, Nat.reduceEqDiff, Nat.reduceAdd, Nat.reduceMul, Nat.reduceLeDiff, Nat.reduceSub, Nat.reduceLT, Int.reduceToNat, Int.reduceLT, Int.reduceLE, reduceCtorEq]))
          · skip
            try simp only [r22_0, r22_1, r22_2, r22_3, r22_4, r22_5, r22_6, r22_7, r22_9, r22_10, r22_11, r22_8, r22_12, c22, F22, l22_0, q6, q5, q0, q1, qm, qn, hlen, c2, qa, p1, go_sem, Int.reduceTMod, Int.reduceTDiv, Int.reduceDiv, Int.reduceMod, Int.reduceAdd, Int.reduceSub, Int.reduceMul, Int.reduceNeg, Int.reducePow, Int.reduceEq, ↓reduceIte, Nat.reduceEqDiff, Nat.reduceAdd, Nat.reduceMul, Nat.reduceLeDiff, Nat.reduceSub, Nat.reduceLT, Int.reduceToNat, Int.reduceLT, Int.reduceLE, reduceCtorEq]
            repeat' ((first | refine FK_split (fun h_ => ?_) (fun h_ => ?_) | refine GK_split (fun h_ => ?_) (fun h_ => ?_) | refine ite_both (fun h_ => ?_) (fun h_ => ?_)) <;> (try simp only [decide_eq_true_eq, decide_eq_false_iff_not, Bool.not_true, Bool.not_false, Bool.not_eq_true', Bool.not_eq_false', Bool.not_eq_eq_eq_not, Decidable.not_not] at h_) <;> (try simp only [r22_0, r22_1, r22_2, r22_3, r22_4, r22_5, r22_6, r22_7, r22_9, r22_10, r22_11, r22_8, r22_12, c22, F22, l22_0, q6, q5, q0, q1, qm, qn, hlen, c2, qa, p1, h_, go_sem, Int.reduceTMod, Int.reduceTDiv, Int.reduceDiv, Int.reduceMod, Int.reduceAdd, Int.reduceSub, Int.reduceMul, Int.reduceNeg, Int.reducePow, Int.reduceEq, ↓reduceIte, Nat.reduceEqDiff, Nat.reduceAdd, Nat.reduceMul, Nat.reduceLeDiff, Nat.reduceSub, Nat.reduceLT, Int.reduceToNat, Int.reduceLT, Int.reduceLE, reduceCtorEq]))
        · exact ⟨w6, by rw [w5, List.take_zero]; rfl, w0, w1, wm, wn, by rw [List.take_zero]; rfl⟩
      rcases g1 with h | h | h | h
      all_goals
        rw [h] at hlen
        try simp only [r22_0, r22_1, r22_2, r22_3, r22_4, r22_5, r22_6, r22_7, r22_9, r22_10, r22_11, r22_8, r22_12, c22, F22, hlen, go_sem, Int.reduceTMod, Int.reduceTDiv, Int.reduceDiv, Int.reduceMod, Int.reduceAdd, Int.reduceSub, Int.reduceMul, Int.reduceNeg, Int.reducePow, Int.reduceEq, ↓reduceIte, Nat.reduceEqDiff, Nat.reduceAdd, Nat.reduceMul, Nat.reduceLeDiff, Nat.reduceSub, Nat.reduceLT, Int.reduceToNat, Int.reduceLT, Int.reduceLE, reduceCtorEq]
        repeat' ((first | refine FK_split (fun h_ => ?_) (fun h_ => ?_) | refine GK_split (fun h_ => ?_) (fun h_ => ?_) | refine ite_both (fun h_ => ?_) (fun h_ => ?_)) <;> (try simp only [decide_eq_true_eq, decide_eq_false_iff_not, Bool.not_true, Bool.not_false, Bool.not_eq_true', Bool.not_eq_false', Bool.not_eq_eq_eq_not, Decidable.not_not] at h_) <;> (try simp only [r22_0, r22_1, r22_2, r22_3, r22_4, r22_5, r22_6, r22_7, r22_9, r22_10, r22_11, r22_8, r22_12, c22, F22, hlen, h_, go_sem, Int.reduceTMod, Int.reduceTDiv, Int.reduceDiv, Int.reduceMod, Int.reduceAdd, Int.reduceSub, Int.reduceMul, Int.reduceNeg, Int.reducePow, Int.reduceEq, ↓reduceIte, Nat.reduceEqDiff, Nat.reduceAdd, Nat.reduceMul, Nat.reduceLeDiff, Nat.reduceSub, Nat.reduceLT, Int.reduceToNat, Int.reduceLT, Int.reduceLE, reduceCtorEq]))
        refine hloop _ ?_ ?_ ?_ ?_ ?_ ?_
        all_goals simp only [go_sem, Int.reduceTMod, Int.reduceTDiv, Int.reduceDiv, Int.reduceMod, Int.reduceAdd, Int.reduceSub, Int.reduceMul, Int.reduceNeg, Int.reducePow, Int.reduceEq, ↓reduceIte, Nat.reduceEqDiff, Nat.reduceAdd, Nat.reduceMul, Nat.reduceLeDiff, Nat.reduceSub, Nat.reduceLT, Int.reduceToNat, Int.reduceLT, Int.reduceLE, reduceCtorEq]
    · have e2 : rightB l ph = false := by unfold rightB; rw [if_neg e, if_neg g1]
      have f1 : ((l.length : Int) = 2) = False := eq_false (by omega)
      have f2 : ((l.length : Int) = 4) = False := eq_false (by omega)
      have f3 : ((l.length : Int) = 6) = False := eq_false (by omega)
      have f4 : ((l.length : Int) = 8) = False := eq_false (by omega)
      try simp only [r22_0, r22_1, r22_2, r22_3, r22_4, r22_5, r22_6, r22_7, r22_9, r22_10, r22_11, r22_8, r22_12, c22, F22, hlen, g0', f1, f2, f3, f4, e2, go_sem, Int.reduceTMod, Int.reduceTDiv, Int.reduceDiv, Int.reduceMod, Int.reduceAdd, Int.reduceSub, Int.reduceMul, Int.reduceNeg, Int.reducePow, Int.reduceEq, ↓reduceIte, Nat.reduceEqDiff, Nat.reduceAdd, Nat.reduceMul, Nat.reduceLeDiff, Nat.reduceSub, Nat.reduceLT, Int.reduceToNat, Int.reduceLT, Int.reduceLE, reduceCtorEq]
      repeat' ((first | refine FK_split (fun h_ => ?_) (fun h_ => ?_) | refine GK_split (fun h_ => ?_) (fun h_ => ?_) | refine ite_both (fun h_ => ?_) (fun h_ => ?_)) <;> (try simp only [decide_eq_true_eq, decide_eq_false_iff_not, Bool.not_true, Bool.not_false, Bool.not_eq_true', Bool.not_eq_false', Bool.not_eq_eq_eq_not, Decidable.not_not] at h_) <;> (try simp only [r22_0, r22_1, r22_2, r22_3, r22_4, r22_5, r22_6, r22_7, r22_9, r22_10, r22_11, r22_8, r22_12, c22, F22, hlen, g0', f1, f2, f3, f4, e2, h_, go_sem, Int.reduceTMod, Int.reduceTDiv, Int.reduceDiv, Int.reduceMod, Int.reduceAdd, Int.reduceSub, Int.reduceMul, Int.reduceNeg, Int.reducePow, Int.reduceEq, ↓reduceIte, Nat.reduceEqDiff, Nat.reduceAdd, Nat.reduceMul, Nat.reduceLeDiff, Nat.reduceSub, Nat.reduceLT, Int.reduceToNat, Int.reduceLT, Int.reduceLE, reduceCtorEq]))

/- Patterns walked (chapter 09): the program's. Conditions: those that each theorem names. -/
open Go Go.Proofs
set_option linter.unusedSimpArgs false
set_option linter.unusedVariables false

theorem v_Sum (c : Cell) (l : List Int) (ph : Int) (m : Mem) (n : Nat) (hr : RIn m n (.one c) l) (hk : l.all okD = true) (hl : l.length ≤ 1000) : callF TA 47 [.agg [c, I ph]] m n = some (RI l.sum) := by
  refine callF_of (Fn_ofK (fn := F47) rfl (by simp [F47]) ?_)
  have hlen := hr.len
  have hr2 : RIn (upd m n (some ⟨[c, I ph], true⟩)) (n + 1) (.one c) l := hr.keep (by omega) (fun id hid => upd_ne _ _ (by omega))
  try simp only [r47_0, r47_1, r47_2, r47_3, r47_4, r47_5, r47_6, r47_7, c47, F47, hlen, go_sem, Int.reduceTMod, Int.reduceTDiv, Int.reduceDiv, Int.reduceMod, Int.reduceAdd, Int.reduceSub, Int.reduceMul, Int.reduceNeg, Int.reducePow, Int.reduceEq, ↓reduceIte, Nat.reduceEqDiff, Nat.reduceAdd, Nat.reduceMul, Nat.reduceLeDiff, Nat.reduceSub, Nat.reduceLT, Int.reduceToNat, Int.reduceLT, Int.reduceLE, reduceCtorEq]
  repeat' ((first | refine FK_split (fun h_ => ?_) (fun h_ => ?_) | refine GK_split (fun h_ => ?_) (fun h_ => ?_) | refine ite_both (fun h_ => ?_) (fun h_ => ?_)) <;> (try simp only [decide_eq_true_eq, decide_eq_false_iff_not, Bool.not_true, Bool.not_false, Bool.not_eq_true', Bool.not_eq_false', Bool.not_eq_eq_eq_not, Decidable.not_not] at h_) <;> (try simp only [r47_0, r47_1, r47_2, r47_3, r47_4, r47_5, r47_6, r47_7, c47, F47, hlen, h_, go_sem, Int.reduceTMod, Int.reduceTDiv, Int.reduceDiv, Int.reduceMod, Int.reduceAdd, Int.reduceSub, Int.reduceMul, Int.reduceNeg, Int.reducePow, Int.reduceEq, ↓reduceIte, Nat.reduceEqDiff, Nat.reduceAdd, Nat.reduceMul, Nat.reduceLeDiff, Nat.reduceSub, Nat.reduceLT, Int.reduceToNat, Int.reduceLT, Int.reduceLE, reduceCtorEq]))
  refine XK_iter (inv := fun i s => s.e 9 = RI i ∧ s.e 8 = RI l.length ∧ s.e 7 = .one c ∧ s.e 3 = RI (l.take i).sum ∧ s.m = upd m n (some ⟨[c, I ph], true⟩)) l.length
    (fun L _ => ⟨fun i hi s hs next => ?_, fun s hs => ?_⟩) 0 (by omega) _ ?_
  · obtain ⟨q9, q8, q7, q3, qm⟩ := hs
    have hx : l[i]? = some l[i] := List.getElem?_eq_getElem hi
    obtain ⟨id, off, cap, b, hr1, hid, hb, hc⟩ := RL.int hr2 hx
    generalize l[i] = x at *
    have c2 : ((i : Int) < (l.length : Int)) = True := eq_true (by omega)
    have c3 : (0 ≤ (i : Int)) = True := eq_true (by omega)
    have c7 : IntKind.i64.wrap ((i : Int) + 1) = ((i + 1 : Nat) : Int) := wr_nat (by omega)
    have hs1 := sum_snoc hx
    have hxk : okD x = true := List.all_eq_true.1 hk x (List.mem_of_getElem? hx)
    have hxk' := okD_iff.1 hxk
    have sb := sum_bd (l.take i) (List.all_eq_true.2 fun y hy => List.all_eq_true.1 hk y (List.mem_of_mem_take hy))
    have hlt : (l.take i).length ≤ 1000 := by rw [List.length_take]; omega
    have w : IntKind.i64.wrap ((l.take i).sum + x) = (l.take i).sum + x := wr_eq (by omega) (by omega)
    have hb' : s.m id = some b := by rw [qm]; exact hb
    rw [hr1] at q7
    try simp only [r47_0, r47_1, r47_2, r47_3, r47_4, r47_5, r47_6, r47_7, c47, F47, l47_0, q9, q8, q7, q3, c2, c3, c7, hb', hc, w, Int.toNat_natCast, Nat.mul_one, go_sem, Int.reduceTMod, Int.reduceTDiv, Int.reduceDiv, Int.reduceMod, Int.reduceAdd, Int.reduceSub, Int.reduceMul, Int.reduceNeg, Int.reducePow, Int.reduceEq, ↓reduceIte, Nat.reduceEqDiff, Nat.reduceAdd, Nat.reduceMul, Nat.reduceLeDiff, Nat.reduceSub, Nat.reduceLT, Int.reduceToNat, Int.reduceLT, Int.reduceLE, reduceCtorEq]
    repeat' ((first | refine FK_split (fun h_ => ?_) (fun h_ => ?_) | refine GK_split (fun h_ => ?_) (fun h_ => ?_) | refine ite_both (fun h_ => ?_) (fun h_ => ?_)) <;> (try simp only [decide_eq_true_eq, decide_eq_false_iff_not, Bool.not_true, Bool.not_false, Bool.not_eq_true', Bool.not_eq_false', Bool.not_eq_eq_eq_not, Decidable.not_not] at h_) <;> (try simp only [r47_0, r47_1, r47_2, r47_3, r47_4, r47_5, r47_6, r47_7, c47, F47, l47_0, q9, q8, q7, q3, c2, c3, c7, hb', hc, w, Int.toNat_natCast, Nat.mul_one, h_, go_sem, Int.reduceTMod, Int.reduceTDiv, Int.reduceDiv, Int.reduceMod, Int.reduceAdd, Int.reduceSub, Int.reduceMul, Int.reduceNeg, Int.reducePow, Int.reduceEq, ↓reduceIte, Nat.reduceEqDiff, Nat.reduceAdd, Nat.reduceMul, Nat.reduceLeDiff, Nat.reduceSub, Nat.reduceLT, Int.reduceToNat, Int.reduceLT, Int.reduceLE, reduceCtorEq]))
    refine next _ ⟨?_, ?_, ?_, ?_, ?_⟩
    all_goals simp only [q9, q8, q7, q3, qm, hr1, hs1, go_sem, Int.reduceTMod, Int.reduceTDiv, Int.reduceDiv, Int.reduceMod, Int.reduceAdd, Int.reduceSub, Int.reduceMul, Int.reduceNeg, Int.reducePow, Int.reduceEq, ↓reduceIte, Nat.reduceEqDiff, Nat.reduceAdd, Nat.reduceMul, Nat.reduceLeDiff, Nat.reduceSub, Nat.reduceLT, Int.reduceToNat, Int.reduceLT, Int.reduceLE, reduceCtorEq]
  · obtain ⟨q9, q8, q7, q3, qm⟩ := hs
    have c2 : ((l.length : Int) < (l.length : Int)) = False := eq_false (by omega)
    rw [List.take_length] at q3
    try simp only [r47_0, r47_1, r47_2, r47_3, r47_4, r47_5, r47_6, r47_7, c47, F47, l47_0, q9, q8, q7, q3, c2, go_sem, Int.reduceTMod, Int.reduceTDiv, Int.reduceDiv, Int.reduceMod, Int.reduceAdd, Int.reduceSub, Int.reduceMul, Int.reduceNeg, Int.reducePow, Int.reduceEq, ↓reduceIte, Nat.reduceEqDiff, Nat.reduceAdd, Nat.reduceMul, Nat.reduceLeDiff, Nat.reduceSub, Nat.reduceLT, Int.reduceToNat, Int.reduceLT, Int.reduceLE, reduceCtorEq]
    repeat' ((first | refine FK_split (fun h_ => ?_) (fun h_ => ?_) | refine GK_split (fun h_ => ?_) (fun h_ => ?_) | refine ite_both (fun h_ => ?_) (fun h_ => ?_)) <;> (try simp only [decide_eq_true_eq, decide_eq_false_iff_not, Bool.not_true, Bool.not_false, Bool.not_eq_true', Bool.not_eq_false', Bool.not_eq_eq_eq_not, Decidable.not_not] at h_) <;> (try simp only [r47_0, r47_1, r47_2, r47_3, r47_4, r47_5, r47_6, r47_7, c47, F47, l47_0, q9, q8, q7, q3, c2, h_, go_sem, Int.reduceTMod, Int.reduceTDiv, Int.reduceDiv, Int.reduceMod, Int.reduceAdd, Int.reduceSub, Int.reduceMul, Int.reduceNeg, Int.reducePow, Int.reduceEq, ↓reduceIte, Nat.reduceEqDiff, Nat.reduceAdd, Nat.reduceMul, Nat.reduceLeDiff, Nat.reduceSub, Nat.reduceLT, Int.reduceToNat, Int.reduceLT, Int.reduceLE, reduceCtorEq]))
  · simp only [List.take_zero, List.sum_nil, go_sem, Int.reduceTMod, Int.reduceTDiv, Int.reduceDiv, Int.reduceMod, Int.reduceAdd, Int.reduceSub, Int.reduceMul, Int.reduceNeg, Int.reducePow, Int.reduceEq, ↓reduceIte, Nat.reduceEqDiff, Nat.reduceAdd, Nat.reduceMul, Nat.reduceLeDiff, Nat.reduceSub, Nat.reduceLT, Int.reduceToNat, Int.reduceLT, Int.reduceLE, reduceCtorEq]

theorem v_Check (c : Cell) (l : List Int) (ph : Int) (m : Mem) (n : Nat) (hr : RIn m n (.one c) l) (hl : l.length < 4294967296) : callF TA 39 [.agg [c, I ph]] m n = some (RI (if rightB l ph = true then 0 else 30)) := by
  refine callF_of (Fn_ofK (fn := F39) rfl (by simp [F39]) ?_)
  have hlen := hr.len
  have hr2 : RIn (upd m n (some ⟨[c, I ph], true⟩)) (n + 1) (.one c) l := hr.keep (by omega) (fun id hid => upd_ne _ _ (by omega))
  by_cases g0 : l.length = 0
  · have e : l = [] := List.length_eq_zero_iff.1 g0
    have g0' : ((l.length : Int) = 0) = True := eq_true (by omega)
    by_cases p : ph = 0
    · subst p
      have e2 : rightB l 0 = true := by unfold rightB; rw [if_pos e]; exact decide_eq_true rfl
      try simp only [r39_0, r39_1, r39_2, r39_3, r39_4, r39_5, r39_6, r39_7, r39_8, r39_9, r39_10, r39_11, r39_12, r39_13, c39, F39, hlen, g0', e2, go_sem, Int.reduceTMod, Int.reduceTDiv, Int.reduceDiv, Int.reduceMod, Int.reduceAdd, Int.reduceSub, Int.reduceMul, Int.reduceNeg, Int.reducePow, Int.reduceEq, ↓reduceIte, Nat.reduceEqDiff, Nat.reduceAdd, Nat.reduceMul, Nat.reduceLeDiff, Nat.reduceSub, Nat.reduceLT, Int.reduceToNat, Int.reduceLT, Int.reduceLE, reduceCtorEq]
      repeat' ((first | refine FK_split (fun h_ => ?_) (fun h_ => ?_) | refine GK_split (fun h_ => ?_) (fun h_ => ?_) | refine ite_both (fun h_ => ?_) (fun h_ => ?_)) <;> (try simp only [decide_eq_true_eq, decide_eq_false_iff_not, Bool.not_true, Bool.not_false, Bool.not_eq_true', Bool.not_eq_false', Bool.not_eq_eq_eq_not, Decidable.not_not] at h_) <;> (try simp only [r39_0, r39_1, r39_2, r39_3, r39_4, r39_5, r39_6, r39_7, r39_8, r39_9, r39_10, r39_11, r39_12, r39_13, c39, F39, hlen, g0', e2, h_, go_sem, Int.reduceTMod, Int.reduceTDiv, Int.reduceDiv, Int.reduceMod, Int.reduceAdd, Int.reduceSub, Int.reduceMul, Int.reduceNeg, Int.reducePow, Int.reduceEq, ↓reduceIte, Nat.reduceEqDiff, Nat.reduceAdd, Nat.reduceMul, Nat.reduceLeDiff, Nat.reduceSub, Nat.reduceLT, Int.reduceToNat, Int.reduceLT, Int.reduceLE, reduceCtorEq]))
    · have e2 : rightB l ph = false := by unfold rightB; rw [if_pos e]; exact decide_eq_false p
      try simp only [r39_0, r39_1, r39_2, r39_3, r39_4, r39_5, r39_6, r39_7, r39_8, r39_9, r39_10, r39_11, r39_12, r39_13, c39, F39, hlen, g0', e2, p, go_sem, Int.reduceTMod, Int.reduceTDiv, Int.reduceDiv, Int.reduceMod, Int.reduceAdd, Int.reduceSub, Int.reduceMul, Int.reduceNeg, Int.reducePow, Int.reduceEq, ↓reduceIte, Nat.reduceEqDiff, Nat.reduceAdd, Nat.reduceMul, Nat.reduceLeDiff, Nat.reduceSub, Nat.reduceLT, Int.reduceToNat, Int.reduceLT, Int.reduceLE, reduceCtorEq]
      repeat' ((first | refine FK_split (fun h_ => ?_) (fun h_ => ?_) | refine GK_split (fun h_ => ?_) (fun h_ => ?_) | refine ite_both (fun h_ => ?_) (fun h_ => ?_)) <;> (try simp only [decide_eq_true_eq, decide_eq_false_iff_not, Bool.not_true, Bool.not_false, Bool.not_eq_true', Bool.not_eq_false', Bool.not_eq_eq_eq_not, Decidable.not_not] at h_) <;> (try simp only [r39_0, r39_1, r39_2, r39_3, r39_4, r39_5, r39_6, r39_7, r39_8, r39_9, r39_10, r39_11, r39_12, r39_13, c39, F39, hlen, g0', e2, p, h_, go_sem, Int.reduceTMod, Int.reduceTDiv, Int.reduceDiv, Int.reduceMod, Int.reduceAdd, Int.reduceSub, Int.reduceMul, Int.reduceNeg, Int.reducePow, Int.reduceEq, ↓reduceIte, Nat.reduceEqDiff, Nat.reduceAdd, Nat.reduceMul, Nat.reduceLeDiff, Nat.reduceSub, Nat.reduceLT, Int.reduceToNat, Int.reduceLT, Int.reduceLE, reduceCtorEq]))
  · have g0' : ((l.length : Int) = 0) = False := eq_false (by omega)
    have e : ¬ l = [] := fun h => g0 (by rw [h]; rfl)
    have em : (l.length : Int).tmod 2 = (l.length : Int) % 2 := Int.tmod_eq_emod_of_nonneg (by omega)
    by_cases g1 : l.length = 2 ∨ l.length = 4 ∨ l.length = 6 ∨ l.length = 8
    · have e2 : rightB l ph = (l.all okD && (decide (0 ≤ ph) && decide (ph < l.sum))) := by unfold rightB; rw [if_neg e, if_pos g1]
      rw [e2]
      have f1 : (8 < (l.length : Int)) = False := eq_false (by omega)
      have f2 : ((l.length : Int) % 2 = 0) = True := eq_true (by omega)
      try simp only [r39_0, r39_1, r39_2, r39_3, r39_4, r39_5, r39_6, r39_7, r39_8, r39_9, r39_10, r39_11, r39_12, r39_13, c39, F39, hlen, g0', em, f1, f2, go_sem, Int.reduceTMod, Int.reduceTDiv, Int.reduceDiv, Int.reduceMod, Int.reduceAdd, Int.reduceSub, Int.reduceMul, Int.reduceNeg, Int.reducePow, Int.reduceEq, ↓reduceIte, Nat.reduceEqDiff, Nat.reduceAdd, Nat.reduceMul, Nat.reduceLeDiff, Nat.reduceSub, Nat.reduceLT, Int.reduceToNat, Int.reduceLT, Int.reduceLE, reduceCtorEq]
      repeat' ((first | refine FK_split (fun h_ => ?_) (fun h_ => ?_) | refine GK_split (fun h_ => ?_) (fun h_ => ?_) | refine ite_both (fun h_ => ?_) (fun h_ => ?_)) <;> (try simp only [decide_eq_true_eq, decide_eq_false_iff_not, Bool.not_true, Bool.not_false, Bool.not_eq_true', Bool.not_eq_false', Bool.not_eq_eq_eq_not, Decidable.not_not] at h_) <;> (try simp only [r39_0, r39_1, r39_2, r39_3, r39_4, r39_5, r39_6, r39_7, r39_8, r39_9, r39_10, r39_11, r39_12, r39_13, c39, F39, hlen, g0', em, f1, f2, h_, go_sem, Int.reduceTMod, Int.reduceTDiv, Int.reduceDiv, Int.reduceMod, Int.reduceAdd, Int.reduceSub, Int.reduceMul, Int.reduceNeg, Int.reducePow, Int.reduceEq, ↓reduceIte, Nat.reduceEqDiff, Nat.reduceAdd, Nat.reduceMul, Nat.reduceLeDiff, Nat.reduceSub, Nat.reduceLT, Int.reduceToNat, Int.reduceLT, Int.reduceLE, reduceCtorEq]))
      refine XK_iter (inv := fun i s => s.e 34 = RI i ∧ s.e 33 = RI l.length ∧ s.e 32 = .one c ∧ s.e 1 = .one (.ptr n 0) ∧ s.m = upd m n (some ⟨[c, I ph], true⟩) ∧ s.n = n + 1 ∧ (l.take i).all okD = true) l.length
        (fun L _ => ⟨fun i hi s hs next => ?_, fun s hs => ?_⟩) 0 (by omega) _ ?_
      · obtain ⟨q34, q33, q32, q1, qm, qn, qa⟩ := hs
        have hx : l[i]? = some l[i] := List.getElem?_eq_getElem hi
        obtain ⟨id, off, cap, b, hr1, hid, hb, hc⟩ := RL.int hr2 hx
        generalize l[i] = x at *
        have c2 : ((i : Int) < (l.length : Int)) = True := eq_true (by omega)
        have c3 : (0 ≤ (i : Int)) = True := eq_true (by omega)
        have c7 : IntKind.i64.wrap ((i : Int) + 1) = ((i + 1 : Nat) : Int) := wr_nat (by omega)
        have ha1 := allD_snoc hx
        have hb' : s.m id = some b := by rw [qm]; exact hb
        rw [hr1] at q32
        cases hk : okD x with
        | true =>
          have hk' := okD_iff.1 hk
          have d1 : (x < 1) = False := eq_false (by omega)
          have d2 : (1048576 < x) = False := eq_false (by omega)
          try simp only [r39_0, r39_1, r39_2, r39_3, r39_4, r39_5, r39_6, r39_7, r39_8, r39_9, r39_10, r39_11, r39_12, r39_13, c39, F39, l39_0, q34, q33, q32, q1, c2, c3, c7, hb', hc, d1, d2, Int.toNat_natCast, Nat.mul_one, go_sem, Int.reduceTMod, Int.reduceTDiv, Int.reduceDiv, Int.reduceMod, Int.reduceAdd, Int.reduceSub, Int.reduceMul, Int.reduceNeg, Int.reducePow, Int.reduceEq, ↓reduceIte, Nat.reduceEqDiff, Nat.reduceAdd, Nat.reduceMul, Nat.reduceLeDiff, Nat.reduceSub, Nat.reduceLT, Int.reduceToNat, Int.reduceLT, Int.reduceLE, reduceCtorEq]
          repeat' ((first | refine FK_split (fun h_ => ?_) (fun h_ => ?_) | refine GK_split (fun h_ => ?_) (fun h_ => ?_) | refine ite_both (fun h_ => ?_) (fun h_ => ?_)) <;> (try simp only [decide_eq_true_eq, decide_eq_false_iff_not, Bool.not_true, Bool.not_false, Bool.not_eq_true', Bool.not_eq_false', Bool.not_eq_eq_eq_not, Decidable.not_not] at h_) <;> (try simp only [r39_0, r39_1, r39_2, r39_3, r39_4, r39_5, r39_6, r39_7, r39_8, r39_9, r39_10, r39_11, r39_12, r39_13, c39, F39, l39_0, q34, q33, q32, q1, c2, c3, c7, hb', hc, d1, d2, Int.toNat_natCast, Nat.mul_one, h_, go_sem, Int.reduceTMod, Int.reduceTDiv, Int.reduceDiv, Int.reduceMod, Int.reduceAdd, Int.reduceSub, Int.reduceMul, Int.reduceNeg, Int.reducePow, Int.reduceEq, ↓reduceIte, Nat.reduceEqDiff, Nat.reduceAdd, Nat.reduceMul, Nat.reduceLeDiff, Nat.reduceSub, Nat.reduceLT, Int.reduceToNat, Int.reduceLT, Int.reduceLE, reduceCtorEq]))
          refine next _ ⟨?_, ?_, ?_, ?_, ?_, ?_, ?_⟩
          all_goals simp only [q34, q33, q32, q1, qm, qn, hr1, ha1, qa, hk, go_sem, Int.reduceTMod, Int.reduceTDiv, Int.reduceDiv, Int.reduceMod, Int.reduceAdd, Int.reduceSub, Int.reduceMul, Int.reduceNeg, Int.reducePow, Int.reduceEq, ↓reduceIte, Nat.reduceEqDiff, Nat.reduceAdd, Nat.reduceMul, Nat.reduceLeDiff, Nat.reduceSub, Nat.reduceLT, Int.reduceToNat, Int.reduceLT, Int.reduceLE, reduceCtorEq]
        | false =>
          have hl0 : l.all okD = false := by
            rw [List.all_eq_false]
            exact ⟨x, List.mem_of_getElem? hx, by simp [hk]⟩
          by_cases d1 : x < 1
          · skip
            try simp only [r39_0, r39_1, r39_2, r39_3, r39_4, r39_5, r39_6, r39_7, r39_8, r39_9, r39_10, r39_11, r39_12, r39_13, c39, F39, l39_0, q34, q33, q32, q1, c2, c3, c7, hb', hc, d1, hl0, Int.toNat_natCast, Nat.mul_one, go_sem, Int.reduceTMod, Int.reduceTDiv, Int.reduceDiv, Int.reduceMod, Int.reduceAdd, Int.reduceSub, Int.reduceMul, Int.reduceNeg, Int.reducePow, Int.reduceEq, ↓reduceIte, Nat.reduceEqDiff, Nat.reduceAdd, Nat.reduceMul, Nat.reduceLeDiff, Nat.reduceSub, Nat.reduceLT, Int.reduceToNat, Int.reduceLT, Int.reduceLE, reduceCtorEq]
            repeat' ((first | refine FK_split (fun h_ => ?_) (fun h_ => ?_) | refine GK_split (fun h_ => ?_) (fun h_ => ?_) | refine ite_both (fun h_ => ?_) (fun h_ => ?_)) <;> (try simp only [decide_eq_true_eq, decide_eq_false_iff_not, Bool.not_true, Bool.not_false, Bool.not_eq_true', Bool.not_eq_false', Bool.not_eq_eq_eq_not, Decidable.not_not] at h_) <;> (try simp only [r39_0, r39_1, r39_2, r39_3, r39_4, r39_5, r39_6, r39_7, r39_8, r39_9, r39_10, r39_11, r39_12, r39_13, c39, F39, l39_0, q34, q33, q32, q1, c2, c3, c7, hb', hc, d1, hl0, Int.toNat_natCast, Nat.mul_one, h_, go_sem, Int.reduceTMod, Int.reduceTDiv, Int.reduceDiv, Int.reduceMod, Int.reduceAdd, Int.reduceSub, Int.reduceMul, Int.reduceNeg, Int.reducePow, Int.reduceEq, ↓reduceIte, Nat.reduceEqDiff, Nat.reduceAdd, Nat.reduceMul, Nat.reduceLeDiff, Nat.reduceSub, Nat.reduceLT, Int.reduceToNat, Int.reduceLT, Int.reduceLE, reduceCtorEq]))
          · have d2 : (1048576 < x) = True := eq_true (by
              have : ¬ (1 ≤ x ∧ x ≤ 1048576) := fun h => by rw [okD_iff.2 h] at hk; cases hk
              omega)
            try simp only [r39_0, r39_1, r39_2, r39_3, r39_4, r39_5, r39_6, r39_7, r39_8, r39_9, r39_10, r39_11, r39_12, r39_13, c39, F39, l39_0, q34, q33, q32, q1, c2, c3, c7, hb', hc, d1, d2, hl0, Int.toNat_natCast, Nat.mul_one, go_sem, Int.reduceTMod, Int.reduceTDiv, Int.reduceDiv, Int.reduceMod, Int.reduceAdd, Int.reduceSub, Int.reduceMul, Int.reduceNeg, Int.reducePow, Int.reduceEq, ↓reduceIte, Nat.reduceEqDiff, Nat.reduceAdd, Nat.reduceMul, Nat.reduceLeDiff, Nat.reduceSub, Nat.reduceLT, Int.reduceToNat, Int.reduceLT, Int.reduceLE, reduceCtorEq]
            repeat' ((first | refine FK_split (fun h_ => ?_) (fun h_ => ?_) | refine GK_split (fun h_ => ?_) (fun h_ => ?_) | refine ite_both (fun h_ => ?_) (fun h_ => ?_)) <;> (try simp only [decide_eq_true_eq, decide_eq_false_iff_not, Bool.not_true, Bool.not_false, Bool.not_eq_true', Bool.not_eq_false', Bool.not_eq_eq_eq_not, Decidable.not_not] at h_) <;> (try simp only [r39_0, r39_1, r39_2, r39_3, r39_4, r39_5, r39_6, r39_7, r39_8, r39_9, r39_10, r39_11, r39_12, r39_13, c39, F39, l39_0, q34, q33, q32, q1, c2, c3, c7, hb', hc, d1, d2, hl0, Int.toNat_natCast, Nat.mul_one, h_, go_sem, Int.reduceTMod, Int.reduceTDiv, Int.reduceDiv, Int.reduceMod, Int.reduceAdd, Int.reduceSub, Int.reduceMul, Int.reduceNeg, Int.reducePow, Int.reduceEq, ↓reduceIte, Nat.reduceEqDiff, Nat.reduceAdd, Nat.reduceMul, Nat.reduceLeDiff, Nat.reduceSub, Nat.reduceLT, Int.reduceToNat, Int.reduceLT, Int.reduceLE, reduceCtorEq]))
      · obtain ⟨q34, q33, q32, q1, qm, qn, qa⟩ := hs
        have c2 : ((l.length : Int) < (l.length : Int)) = False := eq_false (by omega)
        rw [List.take_length] at qa
        have hs := v_Sum c l ph _ _ hr2.frz qa (by omega)
        have hbn : s.m n = some ⟨[c, I ph], true⟩ := by rw [qm]; exact upd_same _ _ _
        rw [← qm] at hs
        by_cases p1 : ph < 0
        · have p2 : (0 ≤ ph) = False := eq_false (by omega)
          try simp only [r39_0, r39_1, r39_2, r39_3, r39_4, r39_5, r39_6, r39_7, r39_8, r39_9, r39_10, r39_11, r39_12, r39_13, c39, F39, l39_0, q34, q33, q32, q1, qn, hbn, rd_of hbn, hs, c2, qa, p1, p2, go_sem, Int.reduceTMod, Int.reduceTDiv, Int.reduceDiv, Int.reduceMod, Int.reduceAdd, Int.reduceSub, Int.reduceMul, Int.reduceNeg, Int.reducePow, Int.reduceEq, ↓reduceIte, Nat.reduceEqDiff, Nat.reduceAdd, Nat.reduceMul, Nat.reduceLeDiff, Nat.reduceSub, Nat.reduceLT, Int.reduceToNat, Int.reduceLT, Int.reduceLE, reduceCtorEq]
          repeat' ((first | refine FK_split (fun h_ => ?_) (fun h_ => ?_) | refine GK_split (fun h_ => ?_) (fun h_ => ?_) | refine ite_both (fun h_ => ?_) (fun h_ => ?_)) <;> (try simp only [decide_eq_true_eq, decide_eq_false_iff_not, Bool.not_true, Bool.not_false, Bool.not_eq_true', Bool.not_eq_false', Bool.not_eq_eq_eq_not, Decidable.not_not] at h_) <;> (try simp only [r39_0, r39_1, r39_2, r39_3, r39_4, r39_5, r39_6, r39_7, r39_8, r39_9, r39_10, r39_11, r39_12, r39_13, c39, F39, l39_0, q34, q33, q32, q1, qn, hbn, rd_of hbn, hs, c2, qa, p1, p2, h_, go_sem, Int.reduceTMod, Int.reduceTDiv, Int.reduceDiv, Int.reduceMod, Int.reduceAdd, Int.reduceSub, Int.reduceMul, Int.reduceNeg, Int.reducePow, Int.reduceEq, ↓reduceIte, Nat.reduceEqDiff, Nat.reduceAdd, Nat.reduceMul, Nat.reduceLeDiff, Nat.reduceSub, Nat.reduceLT, Int.reduceToNat, Int.reduceLT, Int.reduceLE, reduceCtorEq]))
        · have p2 : (0 ≤ ph) = True := eq_true (by omega)
          by_cases p3 : ph < l.sum
          · have p4 : (l.sum ≤ ph) = False := eq_false (by omega)
            try simp only [r39_0, r39_1, r39_2, r39_3, r39_4, r39_5, r39_6, r39_7, r39_8, r39_9, r39_10, r39_11, r39_12, r39_13, c39, F39, l39_0, q34, q33, q32, q1, qn, hbn, rd_of hbn, hs, c2, qa, p1, p2, p3, p4, go_sem, Int.reduceTMod, Int.reduceTDiv, Int.reduceDiv, Int.reduceMod, Int.reduceAdd, Int.reduceSub, Int.reduceMul, Int.reduceNeg, Int.reducePow, Int.reduceEq, ↓reduceIte, Nat.reduceEqDiff, Nat.reduceAdd, Nat.reduceMul, Nat.reduceLeDiff, Nat.reduceSub, Nat.reduceLT, Int.reduceToNat, Int.reduceLT, Int.reduceLE, reduceCtorEq]
            repeat' ((first | refine FK_split (fun h_ => ?_) (fun h_ => ?_) | refine GK_split (fun h_ => ?_) (fun h_ => ?_) | refine ite_both (fun h_ => ?_) (fun h_ => ?_)) <;> (try simp only [decide_eq_true_eq, decide_eq_false_iff_not, Bool.not_true, Bool.not_false, Bool.not_eq_true', Bool.not_eq_false', Bool.not_eq_eq_eq_not, Decidable.not_not] at h_) <;> (try simp only [r39_0, r39_1, r39_2, r39_3, r39_4, r39_5, r39_6, r39_7, r39_8, r39_9, r39_10, r39_11, r39_12, r39_13, c39, F39, l39_0, q34, q33, q32, q1, qn, hbn, rd_of hbn, hs, c2, qa, p1, p2, p3, p4, h_, go_sem, Int.reduceTMod, Int.reduceTDiv, Int.reduceDiv, Int.reduceMod, Int.reduceAdd, Int.reduceSub, Int.reduceMul, Int.reduceNeg, Int.reducePow, Int.reduceEq, ↓reduceIte, Nat.reduceEqDiff, Nat.reduceAdd, Nat.reduceMul, Nat.reduceLeDiff, Nat.reduceSub, Nat.reduceLT, Int.reduceToNat, Int.reduceLT, Int.reduceLE, reduceCtorEq]))
          · have p4 : (l.sum ≤ ph) = True := eq_true (by omega)
            try simp only [r39_0, r39_1, r39_2, r39_3, r39_4, r39_5, r39_6, r39_7, r39_8, r39_9, r39_10, r39_11, r39_12, r39_13, c39, F39, l39_0, q34, q33, q32, q1, qn, hbn, rd_of hbn, hs, c2, qa, p1, p2, p3, p4, go_sem, Int.reduceTMod, Int.reduceTDiv, Int.reduceDiv, Int.reduceMod, Int.reduceAdd, Int.reduceSub, Int.reduceMul, Int.reduceNeg, Int.reducePow, Int.reduceEq, ↓reduceIte, Nat.reduceEqDiff, Nat.reduceAdd, Nat.reduceMul, Nat.reduceLeDiff, Nat.reduceSub, Nat.reduceLT, Int.reduceToNat, Int.reduceLT, Int.reduceLE, reduceCtorEq]
            repeat' ((first | refine FK_split (fun h_ => ?_) (fun h_ => ?_) | refine GK_split (fun h_ => ?_) (fun h_ => ?_) | refine ite_both (fun h_ => ?_) (fun h_ => ?_)) <;> (try simp only [decide_eq_true_eq, decide_eq_false_iff_not, Bool.not_true, Bool.not_false, Bool.not_eq_true', Bool.not_eq_false', Bool.not_eq_eq_eq_not, Decidable.not_not] at h_) <;> (try simp only [r39_0, r39_1, r39_2, r39_3, r39_4, r39_5, r39_6, r39_7, r39_8, r39_9, r39_10, r39_11, r39_12, r39_13, c39, F39, l39_0, q34, q33, q32, q1, qn, hbn, rd_of hbn, hs, c2, qa, p1, p2, p3, p4, h_, go_sem, Int.reduceTMod, Int.reduceTDiv, Int.reduceDiv, Int.reduceMod, Int.reduceAdd, Int.reduceSub, Int.reduceMul, Int.reduceNeg, Int.reducePow, Int.reduceEq, ↓reduceIte, Nat.reduceEqDiff, Nat.reduceAdd, Nat.reduceMul, Nat.reduceLeDiff, Nat.reduceSub, Nat.reduceLT, Int.reduceToNat, Int.reduceLT, Int.reduceLE, reduceCtorEq]))
      · simp only [List.take_zero, List.all_nil, go_sem, Int.reduceTMod, Int.reduceTDiv, Int.reduceDiv, Int.reduceMod, Int.reduceAdd, Int.reduceSub, Int.reduceMul, Int.reduceNeg, Int.reducePow, Int.reduceEq, ↓reduceIte, Nat.reduceEqDiff, Nat.reduceAdd, Nat.reduceMul, Nat.reduceLeDiff, Nat.reduceSub, Nat.reduceLT, Int.reduceToNat, Int.reduceLT, Int.reduceLE, reduceCtorEq]
    · have e2 : rightB l ph = false := by unfold rightB; rw [if_neg e, if_neg g1]
      by_cases f1 : 8 < (l.length : Int)
      · skip
        try simp only [r39_0, r39_1, r39_2, r39_3, r39_4, r39_5, r39_6, r39_7, r39_8, r39_9, r39_10, r39_11, r39_12, r39_13, c39, F39, hlen, g0', em, f1, e2, go_sem, Int.reduceTMod, Int.reduceTDiv, Int.reduceDiv, Int.reduceMod, Int.reduceAdd, Int.reduceSub, Int.reduceMul, Int.reduceNeg, Int.reducePow, Int.reduceEq, ↓reduceIte, Nat.reduceEqDiff, Nat.reduceAdd, Nat.reduceMul, Nat.reduceLeDiff, Nat.reduceSub, Nat.reduceLT, Int.reduceToNat, Int.reduceLT, Int.reduceLE, reduceCtorEq]
        repeat' ((first | refine FK_split (fun h_ => ?_) (fun h_ => ?_) | refine GK_split (fun h_ => ?_) (fun h_ => ?_) | refine ite_both (fun h_ => ?_) (fun h_ => ?_)) <;> (try simp only [decide_eq_true_eq, decide_eq_false_iff_not, Bool.not_true, Bool.not_false, Bool.not_eq_true', Bool.not_eq_false', Bool.not_eq_eq_eq_not, Decidable.not_not] at h_) <;> (try simp only [r39_0, r39_1, r39_2, r39_3, r39_4, r39_5, r39_6, r39_7, r39_8, r39_9, r39_10, r39_11, r39_12, r39_13, c39, F39, hlen, g0', em, f1, e2, h_, go_sem, Int.reduceTMod, Int.reduceTDiv, Int.reduceDiv, Int.reduceMod, Int.reduceAdd, Int.reduceSub, Int.reduceMul, Int.reduceNeg, Int.reducePow, Int.reduceEq, ↓reduceIte, Nat.reduceEqDiff, Nat.reduceAdd, Nat.reduceMul, Nat.reduceLeDiff, Nat.reduceSub, Nat.reduceLT, Int.reduceToNat, Int.reduceLT, Int.reduceLE, reduceCtorEq]))
      · have f2 : ((l.length : Int) % 2 = 0) = False := eq_false (by omega)
        try simp only [r39_0, r39_1, r39_2, r39_3, r39_4, r39_5, r39_6, r39_7, r39_8, r39_9, r39_10, r39_11, r39_12, r39_13, c39, F39, hlen, g0', em, f1, f2, e2, go_sem, Int.reduceTMod, Int.reduceTDiv, Int.reduceDiv, Int.reduceMod, Int.reduceAdd, Int.reduceSub, Int.reduceMul, Int.reduceNeg, Int.reducePow, Int.reduceEq, ↓reduceIte, Nat.reduceEqDiff, Nat.reduceAdd, Nat.reduceMul, Nat.reduceLeDiff, Nat.reduceSub, Nat.reduceLT, Int.reduceToNat, Int.reduceLT, Int.reduceLE, reduceCtorEq]
        repeat' ((first | refine FK_split (fun h_ => ?_) (fun h_ => ?_) | refine GK_split (fun h_ => ?_) (fun h_ => ?_) | refine ite_both (fun h_ => ?_) (fun h_ => ?_)) <;> (try simp only [decide_eq_true_eq, decide_eq_false_iff_not, Bool.not_true, Bool.not_false, Bool.not_eq_true', Bool.not_eq_false', Bool.not_eq_eq_eq_not, Decidable.not_not] at h_) <;> (try simp only [r39_0, r39_1, r39_2, r39_3, r39_4, r39_5, r39_6, r39_7, r39_8, r39_9, r39_10, r39_11, r39_12, r39_13, c39, F39, hlen, g0', em, f1, f2, e2, h_, go_sem, Int.reduceTMod, Int.reduceTDiv, Int.reduceDiv, Int.reduceMod, Int.reduceAdd, Int.reduceSub, Int.reduceMul, Int.reduceNeg, Int.reducePow, Int.reduceEq, ↓reduceIte, Nat.reduceEqDiff, Nat.reduceAdd, Nat.reduceMul, Nat.reduceLeDiff, Nat.reduceSub, Nat.reduceLT, Int.reduceToNat, Int.reduceLT, Int.reduceLE, reduceCtorEq]))

/- Stops of shades: read, compared, told right or not; both walked. Conditions: those that each theorem names. -/
open Go Go.Proofs
set_option linter.unusedSimpArgs false
set_option linter.unusedVariables false

abbrev U8 (x : Int) : Cell := .sc (.int .u8 x)
structure Stp where
  a : Int
  c0 : Int
  c1 : Int
  c2 : Int
  c3 : Int
  deriving DecidableEq
abbrev Stp.cs (s : Stp) : List Cell := [I s.a, U8 s.c0, U8 s.c1, U8 s.c2, U8 s.c3]
abbrev Stp.ri (s : Stp) : List Cell := [I s.a, I s.c0, I s.c1, I s.c2, I s.c3]
theorem cs5 (s : Stp) : s.cs.length = 5 := rfl
theorem ri5 (s : Stp) : s.ri.length = 5 := rfl
abbrev RSt := RL Stp.cs 5
abbrev RRi := RL Stp.ri 5
def byteB (x : Int) : Prop := 0 ≤ x ∧ x ≤ 255
def Stp.by (s : Stp) : Prop := (byteB s.c0 ∧ byteB s.c1) ∧ byteB s.c2 ∧ byteB s.c3
def crB (c0 c1 c2 c3 : Int) : Bool := decide (c0 ≤ c3) && (decide (c1 ≤ c3) && decide (c2 ≤ c3))
theorem v_CRight (c0 c1 c2 c3 : Int) (m : Mem) (n : Nat) : callF TA 19 [.agg [U8 c0, U8 c1, U8 c2, U8 c3]] m n = some (RB (crB c0 c1 c2 c3)) := by
  refine callF_of (Fn_ofK (fn := F19) rfl (by simp [F19]) ?_)
  have e : decide (mxI (mxI c0 c1) c2 ≤ c3) = crB c0 c1 c2 c3 := by
    unfold crB
    rw [← Bool.decide_and, ← Bool.decide_and]
    congr 1
    apply propext
    unfold mxI
    repeat' split
    all_goals omega
  try simp only [r19_0, r19_1, c19, F19, maxI_three, e, go_sem, Int.reduceTMod, Int.reduceTDiv, Int.reduceDiv, Int.reduceMod, Int.reduceAdd, Int.reduceSub, Int.reduceMul, Int.reduceNeg, Int.reducePow, Int.reduceEq, ↓reduceIte, Nat.reduceEqDiff, Nat.reduceAdd, Nat.reduceMul, Nat.reduceLeDiff, Nat.reduceSub, Nat.reduceLT, Int.reduceToNat, Int.reduceLT, Int.reduceLE, reduceCtorEq]
  repeat' ((first | refine FK_split (fun h_ => ?_) (fun h_ => ?_) | refine GK_split (fun h_ => ?_) (fun h_ => ?_) | refine ite_both (fun h_ => ?_) (fun h_ => ?_)) <;> (try simp only [decide_eq_true_eq, decide_eq_false_iff_not, Bool.not_true, Bool.not_false, Bool.not_eq_true', Bool.not_eq_false', Bool.not_eq_eq_eq_not, Decidable.not_not] at h_) <;> (try simp only [r19_0, r19_1, c19, F19, maxI_three, e, h_, go_sem, Int.reduceTMod, Int.reduceTDiv, Int.reduceDiv, Int.reduceMod, Int.reduceAdd, Int.reduceSub, Int.reduceMul, Int.reduceNeg, Int.reducePow, Int.reduceEq, ↓reduceIte, Nat.reduceEqDiff, Nat.reduceAdd, Nat.reduceMul, Nat.reduceLeDiff, Nat.reduceSub, Nat.reduceLT, Int.reduceToNat, Int.reduceLT, Int.reduceLE, reduceCtorEq]))
theorem v_rCRight (c0 c1 c2 c3 : Int) (m : Mem) (n : Nat) : callF TA 25 [.agg [I c0, I c1, I c2, I c3]] m n = some (RB (crB c0 c1 c2 c3)) := by
  refine callF_of (Fn_ofK (fn := F25) rfl (by simp [F25]) ?_)
  unfold crB
  try simp only [r25_0, r25_1, c25, F25, go_sem, Int.reduceTMod, Int.reduceTDiv, Int.reduceDiv, Int.reduceMod, Int.reduceAdd, Int.reduceSub, Int.reduceMul, Int.reduceNeg, Int.reducePow, Int.reduceEq, ↓reduceIte, Nat.reduceEqDiff, Nat.reduceAdd, Nat.reduceMul, Nat.reduceLeDiff, Nat.reduceSub, Nat.reduceLT, Int.reduceToNat, Int.reduceLT, Int.reduceLE, reduceCtorEq]
  repeat' ((first | refine FK_split (fun h_ => ?_) (fun h_ => ?_) | refine GK_split (fun h_ => ?_) (fun h_ => ?_) | refine ite_both (fun h_ => ?_) (fun h_ => ?_)) <;> (try simp only [decide_eq_true_eq, decide_eq_false_iff_not, Bool.not_true, Bool.not_false, Bool.not_eq_true', Bool.not_eq_false', Bool.not_eq_eq_eq_not, Decidable.not_not] at h_) <;> (try simp only [r25_0, r25_1, c25, F25, h_, go_sem, Int.reduceTMod, Int.reduceTDiv, Int.reduceDiv, Int.reduceMod, Int.reduceAdd, Int.reduceSub, Int.reduceMul, Int.reduceNeg, Int.reducePow, Int.reduceEq, ↓reduceIte, Nat.reduceEqDiff, Nat.reduceAdd, Nat.reduceMul, Nat.reduceLeDiff, Nat.reduceSub, Nat.reduceLT, Int.reduceToNat, Int.reduceLT, Int.reduceLE, reduceCtorEq]))
theorem v_refColor {c0 c1 c2 c3 : Int} (h0 : byteB c0) (h1 : byteB c1) (h2 : byteB c2) (h3 : byteB c3) (m : Mem) (n : Nat) : callF TA 13 [.agg [U8 c0, U8 c1, U8 c2, U8 c3]] m n = some (.agg [I c0, I c1, I c2, I c3]) := by
  refine callF_of (Fn_ofK (fn := F13) rfl (by simp [F13]) ?_)
  have w : ∀ x, byteB x → IntKind.i64.wrap x = x := fun x h => by unfold byteB at h; exact wr_eq (by omega) (by omega)
  try simp only [r13_0, r13_1, c13, F13, w c0 h0, w c1 h1, w c2 h2, w c3 h3, go_sem, Int.reduceTMod, Int.reduceTDiv, Int.reduceDiv, Int.reduceMod, Int.reduceAdd, Int.reduceSub, Int.reduceMul, Int.reduceNeg, Int.reducePow, Int.reduceEq, ↓reduceIte, Nat.reduceEqDiff, Nat.reduceAdd, Nat.reduceMul, Nat.reduceLeDiff, Nat.reduceSub, Nat.reduceLT, Int.reduceToNat, Int.reduceLT, Int.reduceLE, reduceCtorEq]
  repeat' ((first | refine FK_split (fun h_ => ?_) (fun h_ => ?_) | refine GK_split (fun h_ => ?_) (fun h_ => ?_) | refine ite_both (fun h_ => ?_) (fun h_ => ?_)) <;> (try simp only [decide_eq_true_eq, decide_eq_false_iff_not, Bool.not_true, Bool.not_false, Bool.not_eq_true', Bool.not_eq_false', Bool.not_eq_eq_eq_not, Decidable.not_not] at h_) <;> (try simp only [r13_0, r13_1, c13, F13, w c0 h0, w c1 h1, w c2 h2, w c3 h3, h_, go_sem, Int.reduceTMod, Int.reduceTDiv, Int.reduceDiv, Int.reduceMod, Int.reduceAdd, Int.reduceSub, Int.reduceMul, Int.reduceNeg, Int.reducePow, Int.reduceEq, ↓reduceIte, Nat.reduceEqDiff, Nat.reduceAdd, Nat.reduceMul, Nat.reduceLeDiff, Nat.reduceSub, Nat.reduceLT, Int.reduceToNat, Int.reduceLT, Int.reduceLE, reduceCtorEq]))
theorem v_refStops (r : Reg) (l : List Stp) (m : Mem) (n : Nat) (hr : RSt m n r l) (hb : ∀ s ∈ l, s.by) (hl : l.length < 4294967296) :
    Fn TA 15 [r] m n (fun r' m' n' => OL Stp.ri 5 n m' n' r' l ∧ n ≤ n') := by
  refine Fn_ofK (fn := F15) rfl (by simp [F15]) ?_
  have hlen := hr.len
  try simp only [r15_0, r15_1, r15_2, r15_3, r15_4, r15_5, r15_6, r15_7, c15, F15, hlen, go_sem, Int.reduceTMod, Int.reduceTDiv, Int.reduceDiv, Int.reduceMod, Int.reduceAdd, Int.reduceSub, Int.reduceMul, Int.reduceNeg, Int.reducePow, Int.reduceEq, ↓reduceIte, Nat.reduceEqDiff, Nat.reduceAdd, Nat.reduceMul, Nat.reduceLeDiff, Nat.reduceSub, Nat.reduceLT, Int.reduceToNat, Int.reduceLT, Int.reduceLE, reduceCtorEq]
  repeat' ((first | refine FK_split (fun h_ => ?_) (fun h_ => ?_) | refine GK_split (fun h_ => ?_) (fun h_ => ?_) | refine ite_both (fun h_ => ?_) (fun h_ => ?_)) <;> (try simp only [decide_eq_true_eq, decide_eq_false_iff_not, Bool.not_true, Bool.not_false, Bool.not_eq_true', Bool.not_eq_false', Bool.not_eq_eq_eq_not, Decidable.not_not] at h_) <;> (try simp only [r15_0, r15_1, r15_2, r15_3, r15_4, r15_5, r15_6, r15_7, c15, F15, hlen, h_, go_sem, Int.reduceTMod, Int.reduceTDiv, Int.reduceDiv, Int.reduceMod, Int.reduceAdd, Int.reduceSub, Int.reduceMul, Int.reduceNeg, Int.reducePow, Int.reduceEq, ↓reduceIte, Nat.reduceEqDiff, Nat.reduceAdd, Nat.reduceMul, Nat.reduceLeDiff, Nat.reduceSub, Nat.reduceLT, Int.reduceToNat, Int.reduceLT, Int.reduceLE, reduceCtorEq]))
  refine XK_iter (inv := fun i s => s.e 8 = RI i ∧ s.e 7 = RI l.length ∧ s.e 6 = r ∧ n ≤ s.n ∧ (∀ id, id < n → s.m id = m id) ∧ OL Stp.ri 5 n s.m s.n (s.e 3) (l.take i)) l.length
    (fun L _ => ⟨fun i hi s hs next => ?_, fun s hs => ?_⟩) 0 (by omega) _ ?_
  · obtain ⟨e, M, N⟩ := s
    obtain ⟨q8, q7, q6, qn, qm, qo⟩ := hs
    simp only at q8 q7 q6 qn qm qo
    have hp : l[i]? = some l[i] := List.getElem?_eq_getElem hi
    have hbp := hb l[i] (List.getElem_mem hi)
    obtain ⟨id, off, cap, hr1, hid, hrd⟩ := hr.at cs5 hp
    have hts : l.take (i + 1) = l.take i ++ [l[i]] := by rw [List.take_add_one, hp]; rfl
    generalize l[i] = p at *
    have c2 : ((i : Int) < (l.length : Int)) = True := eq_true (by omega)
    have c3 : (0 ≤ (i : Int)) = True := eq_true (by omega)
    have c7 : IntKind.i64.wrap ((i : Int) + 1) = ((i + 1 : Nat) : Int) := wr_nat (by omega)
    rw [hr1] at q6
    rw [show rd m id (off + i * 5) 5 = rd M id (off + i * 5) 5 by unfold rd; rw [qm id hid]] at hrd
    have hidN : id < N := by omega
    have n1 := na_0 hidN
    have vc := v_refColor hbp.1.1 hbp.1.2 hbp.2.1 hbp.2.2
    try simp only [r15_0, r15_1, r15_2, r15_3, r15_4, r15_5, r15_6, r15_7, c15, F15, l15_0, q8, q7, q6, c2, c3, c7, hrd, n1, vc, Int.toNat_natCast, go_sem, Int.reduceTMod, Int.reduceTDiv, Int.reduceDiv, Int.reduceMod, Int.reduceAdd, Int.reduceSub, Int.reduceMul, Int.reduceNeg, Int.reducePow, Int.reduceEq, ↓reduceIte, Nat.reduceEqDiff, Nat.reduceAdd, Nat.reduceMul, Nat.reduceLeDiff, Nat.reduceSub, Nat.reduceLT, Int.reduceToNat, Int.reduceLT, Int.reduceLE, reduceCtorEq]
    repeat' ((first | refine FK_split (fun h_ => ?_) (fun h_ => ?_) | refine GK_split (fun h_ => ?_) (fun h_ => ?_) | refine ite_both (fun h_ => ?_) (fun h_ => ?_)) <;> (try simp only [decide_eq_true_eq, decide_eq_false_iff_not, Bool.not_true, Bool.not_false, Bool.not_eq_true', Bool.not_eq_false', Bool.not_eq_eq_eq_not, Decidable.not_not] at h_) <;> (try simp only [r15_0, r15_1, r15_2, r15_3, r15_4, r15_5, r15_6, r15_7, c15, F15, l15_0, q8, q7, q6, c2, c3, c7, hrd, n1, vc, Int.toNat_natCast, h_, go_sem, Int.reduceTMod, Int.reduceTDiv, Int.reduceDiv, Int.reduceMod, Int.reduceAdd, Int.reduceSub, Int.reduceMul, Int.reduceNeg, Int.reducePow, Int.reduceEq, ↓reduceIte, Nat.reduceEqDiff, Nat.reduceAdd, Nat.reduceMul, Nat.reduceLeDiff, Nat.reduceSub, Nat.reduceLT, Int.reduceToNat, Int.reduceLT, Int.reduceLE, reduceCtorEq]))
    refine K_push ri5 (by decide) (p := p) (o := true) qo (by omega) (fun id h1 h2 => by simp only [na_0 h2, na_ne h2, go_sem, Int.reduceTMod, Int.reduceTDiv, Int.reduceDiv, Int.reduceMod, Int.reduceAdd, Int.reduceSub, Int.reduceMul, Int.reduceNeg, Int.reducePow, Int.reduceEq, ↓reduceIte, Nat.reduceEqDiff, Nat.reduceAdd, Nat.reduceMul, Nat.reduceLeDiff, Nat.reduceSub, Nat.reduceLT, Int.reduceToNat, Int.reduceLT, Int.reduceLE, reduceCtorEq]) (by simp only [go_sem, Int.reduceTMod, Int.reduceTDiv, Int.reduceDiv, Int.reduceMod, Int.reduceAdd, Int.reduceSub, Int.reduceMul, Int.reduceNeg, Int.reducePow, Int.reduceEq, ↓reduceIte, Nat.reduceEqDiff, Nat.reduceAdd, Nat.reduceMul, Nat.reduceLeDiff, Nat.reduceSub, Nat.reduceLT, Int.reduceToNat, Int.reduceLT, Int.reduceLE, reduceCtorEq]) (by rw [List.length_take]; omega) (by omega) ?_
    intro r' m' ho h1 h2
    try simp only [r15_0, r15_1, r15_2, r15_3, r15_4, r15_5, r15_6, r15_7, c15, F15, q8, q7, q6, c7, go_sem, Int.reduceTMod, Int.reduceTDiv, Int.reduceDiv, Int.reduceMod, Int.reduceAdd, Int.reduceSub, Int.reduceMul, Int.reduceNeg, Int.reducePow, Int.reduceEq, ↓reduceIte, Nat.reduceEqDiff, Nat.reduceAdd, Nat.reduceMul, Nat.reduceLeDiff, Nat.reduceSub, Nat.reduceLT, Int.reduceToNat, Int.reduceLT, Int.reduceLE, reduceCtorEq]
    repeat' ((first | refine FK_split (fun h_ => ?_) (fun h_ => ?_) | refine GK_split (fun h_ => ?_) (fun h_ => ?_) | refine ite_both (fun h_ => ?_) (fun h_ => ?_)) <;> (try simp only [decide_eq_true_eq, decide_eq_false_iff_not, Bool.not_true, Bool.not_false, Bool.not_eq_true', Bool.not_eq_false', Bool.not_eq_eq_eq_not, Decidable.not_not] at h_) <;> (try simp only [r15_0, r15_1, r15_2, r15_3, r15_4, r15_5, r15_6, r15_7, c15, F15, q8, q7, q6, c7, h_, go_sem, Int.reduceTMod, Int.reduceTDiv, Int.reduceDiv, Int.reduceMod, Int.reduceAdd, Int.reduceSub, Int.reduceMul, Int.reduceNeg, Int.reducePow, Int.reduceEq, ↓reduceIte, Nat.reduceEqDiff, Nat.reduceAdd, Nat.reduceMul, Nat.reduceLeDiff, Nat.reduceSub, Nat.reduceLT, Int.reduceToNat, Int.reduceLT, Int.reduceLE, reduceCtorEq]))
    refine next _ ⟨?_, ?_, ?_, ?_, ?_, ?_⟩
    · simp only [go_sem, Int.reduceTMod, Int.reduceTDiv, Int.reduceDiv, Int.reduceMod, Int.reduceAdd, Int.reduceSub, Int.reduceMul, Int.reduceNeg, Int.reducePow, Int.reduceEq, ↓reduceIte, Nat.reduceEqDiff, Nat.reduceAdd, Nat.reduceMul, Nat.reduceLeDiff, Nat.reduceSub, Nat.reduceLT, Int.reduceToNat, Int.reduceLT, Int.reduceLE, reduceCtorEq]
    · simp only [q7, go_sem, Int.reduceTMod, Int.reduceTDiv, Int.reduceDiv, Int.reduceMod, Int.reduceAdd, Int.reduceSub, Int.reduceMul, Int.reduceNeg, Int.reducePow, Int.reduceEq, ↓reduceIte, Nat.reduceEqDiff, Nat.reduceAdd, Nat.reduceMul, Nat.reduceLeDiff, Nat.reduceSub, Nat.reduceLT, Int.reduceToNat, Int.reduceLT, Int.reduceLE, reduceCtorEq]
    · simp only [q6, hr1, go_sem, Int.reduceTMod, Int.reduceTDiv, Int.reduceDiv, Int.reduceMod, Int.reduceAdd, Int.reduceSub, Int.reduceMul, Int.reduceNeg, Int.reducePow, Int.reduceEq, ↓reduceIte, Nat.reduceEqDiff, Nat.reduceAdd, Nat.reduceMul, Nat.reduceLeDiff, Nat.reduceSub, Nat.reduceLT, Int.reduceToNat, Int.reduceLT, Int.reduceLE, reduceCtorEq]
    · simp only [go_sem, Int.reduceTMod, Int.reduceTDiv, Int.reduceDiv, Int.reduceMod, Int.reduceAdd, Int.reduceSub, Int.reduceMul, Int.reduceNeg, Int.reducePow, Int.reduceEq, ↓reduceIte, Nat.reduceEqDiff, Nat.reduceAdd, Nat.reduceMul, Nat.reduceLeDiff, Nat.reduceSub, Nat.reduceLT, Int.reduceToNat, Int.reduceLT, Int.reduceLE, reduceCtorEq]
      omega
    · intro id hid
      simp only
      rw [h1 id hid]
      simp only [na_0 (show id < N by omega), na_ne (show id < N by omega), qm id hid, go_sem, Int.reduceTMod, Int.reduceTDiv, Int.reduceDiv, Int.reduceMod, Int.reduceAdd, Int.reduceSub, Int.reduceMul, Int.reduceNeg, Int.reducePow, Int.reduceEq, ↓reduceIte, Nat.reduceEqDiff, Nat.reduceAdd, Nat.reduceMul, Nat.reduceLeDiff, Nat.reduceSub, Nat.reduceLT, Int.reduceToNat, Int.reduceLT, Int.reduceLE, reduceCtorEq]
    · simp only [go_sem, Int.reduceTMod, Int.reduceTDiv, Int.reduceDiv, Int.reduceMod, Int.reduceAdd, Int.reduceSub, Int.reduceMul, Int.reduceNeg, Int.reducePow, Int.reduceEq, ↓reduceIte, Nat.reduceEqDiff, Nat.reduceAdd, Nat.reduceMul, Nat.reduceLeDiff, Nat.reduceSub, Nat.reduceLT, Int.reduceToNat, Int.reduceLT, Int.reduceLE, reduceCtorEq]
      rw [hts]
      exact ho
  · obtain ⟨e, M, N⟩ := s
    obtain ⟨q8, q7, q6, qn, qm, qo⟩ := hs
    simp only at q8 q7 q6 qn qm qo
    have c2 : ((l.length : Int) < (l.length : Int)) = False := eq_false (by omega)
    rw [List.take_length] at qo
    try simp only [r15_0, r15_1, r15_2, r15_3, r15_4, r15_5, r15_6, r15_7, c15, F15, l15_0, q8, q7, q6, c2, go_sem, Int.reduceTMod, Int.reduceTDiv, Int.reduceDiv, Int.reduceMod, Int.reduceAdd, Int.reduceSub, Int.reduceMul, Int.reduceNeg, Int.reducePow, Int.reduceEq, ↓reduceIte, Nat.reduceEqDiff, Nat.reduceAdd, Nat.reduceMul, Nat.reduceLeDiff, Nat.reduceSub, Nat.reduceLT, Int.reduceToNat, Int.reduceLT, Int.reduceLE, reduceCtorEq]
    repeat' ((first | refine FK_split (fun h_ => ?_) (fun h_ => ?_) | refine GK_split (fun h_ => ?_) (fun h_ => ?_) | refine ite_both (fun h_ => ?_) (fun h_ => ?_)) <;> (try simp only [decide_eq_true_eq, decide_eq_false_iff_not, Bool.not_true, Bool.not_false, Bool.not_eq_true', Bool.not_eq_false', Bool.not_eq_eq_eq_not, Decidable.not_not] at h_) <;> (try simp only [r15_0, r15_1, r15_2, r15_3, r15_4, r15_5, r15_6, r15_7, c15, F15, l15_0, q8, q7, q6, c2, h_, go_sem, Int.reduceTMod, Int.reduceTDiv, Int.reduceDiv, Int.reduceMod, Int.reduceAdd, Int.reduceSub, Int.reduceMul, Int.reduceNeg, Int.reducePow, Int.reduceEq, ↓reduceIte, Nat.reduceEqDiff, Nat.reduceAdd, Nat.reduceMul, Nat.reduceLeDiff, Nat.reduceSub, Nat.reduceLT, Int.reduceToNat, Int.reduceLT, Int.reduceLE, reduceCtorEq]))
    exact ⟨qo, qn⟩
  · simp only [List.take_zero, go_sem, Int.reduceTMod, Int.reduceTDiv, Int.reduceDiv, Int.reduceMod, Int.reduceAdd, Int.reduceSub, Int.reduceMul, Int.reduceNeg, Int.reducePow, Int.reduceEq, ↓reduceIte, Nat.reduceEqDiff, Nat.reduceAdd, Nat.reduceMul, Nat.reduceLeDiff, Nat.reduceSub, Nat.reduceLT, Int.reduceToNat, Int.reduceLT, Int.reduceLE, reduceCtorEq]
    exact ⟨by omega, fun _ _ => trivial, OL.nil⟩
/-- Is a stop right, behind another one? -/
def stOk (p : Option Stp) (s : Stp) : Bool := decide (0 ≤ s.a) && (decide (s.a ≤ 65536) && (crB s.c0 s.c1 s.c2 s.c3 && (match p with | none => true | some p => decide (p.a ≤ s.a))))
def stTo (l : List Stp) : Nat → Bool
  | 0 => true
  | i + 1 => stTo l i && (match l[i]? with | some s => stOk (if i = 0 then none else l[i - 1]?) s | none => true)
def lenB (l : List Stp) : Bool := decide (1 ≤ l.length) && decide (l.length ≤ 16)
def stopsB (l : List Stp) : Bool := lenB l && stTo l l.length
theorem stTo_bad {l : List Stp} {i : Nat} (h : stTo l i = false) : ∀ j, i ≤ j → stTo l j = false := by
  intro j hj
  induction j with
  | zero => rwa [show i = 0 by omega] at h
  | succ j ih =>
    by_cases e : i = j + 1
    · subst e; exact h
    · rw [stTo, ih (by omega)]; rfl
theorem rd_tail {m : Mem} {id o k : Nat} {c : Cell} {cs : List Cell} (h : rd m id o (k + 1) = some (c :: cs)) : rd m id (o + 1) k = some cs := by
  unfold rd at h ⊢
  cases hm : m id with
  | none => rw [hm] at h; simp at h
  | some b =>
    rw [hm] at h
    simp only [rdB] at h ⊢
    split at h
    · rename_i hk
      rw [if_pos (by omega)]
      simp only [Option.some.injEq] at h ⊢
      rw [List.drop_eq_getElem_cons (show o < b.cells.length by omega), List.take_succ_cons] at h
      exact (List.cons.inj h).2
    · cases h
theorem v_Stops (r : Reg) (l : List Stp) (m : Mem) (n : Nat) (hr : RRi m n r l) (hl : l.length < 4294967296) : callF TA 26 [r] m n = some (RB (stopsB l)) := by
  refine callF_of (Fn_ofK (fn := F26) rfl (by simp [F26]) ?_)
  have hlen := hr.len
  try simp only [r26_0, r26_1, r26_2, r26_4, r26_5, r26_3, r26_6, c26, F26, go_sem, Int.reduceTMod, Int.reduceTDiv, Int.reduceDiv, Int.reduceMod, Int.reduceAdd, Int.reduceSub, Int.reduceMul, Int.reduceNeg, Int.reducePow, Int.reduceEq, ↓reduceIte, Nat.reduceEqDiff, Nat.reduceAdd, Nat.reduceMul, Nat.reduceLeDiff, Nat.reduceSub, Nat.reduceLT, Int.reduceToNat, Int.reduceLT, Int.reduceLE, reduceCtorEq]
  repeat' ((first | refine FK_split (fun h_ => ?_) (fun h_ => ?_) | refine GK_split (fun h_ => ?_) (fun h_ => ?_) | refine ite_both (fun h_ => ?_) (fun h_ => ?_)) <;> (try simp only [decide_eq_true_eq, decide_eq_false_iff_not, Bool.not_true, Bool.not_false, Bool.not_eq_true', Bool.not_eq_false', Bool.not_eq_eq_eq_not, Decidable.not_not] at h_) <;> (try simp only [r26_0, r26_1, r26_2, r26_4, r26_5, r26_3, r26_6, c26, F26, h_, go_sem, Int.reduceTMod, Int.reduceTDiv, Int.reduceDiv, Int.reduceMod, Int.reduceAdd, Int.reduceSub, Int.reduceMul, Int.reduceNeg, Int.reducePow, Int.reduceEq, ↓reduceIte, Nat.reduceEqDiff, Nat.reduceAdd, Nat.reduceMul, Nat.reduceLeDiff, Nat.reduceSub, Nat.reduceLT, Int.reduceToNat, Int.reduceLT, Int.reduceLE, reduceCtorEq]))
  refine XK_iter (inv := fun i s => s.e 3 = RI i ∧ s.e 0 = r ∧ s.m = m ∧ s.n = n ∧ stTo l i = true) l.length
    (fun L _ => ⟨fun i hi s hs next => ?_, fun s hs => ?_⟩) 0 (by omega) _ ?_
  · obtain ⟨e, M, N⟩ := s
    obtain ⟨q3, q0, qm, qn, qa⟩ := hs
    simp only at q3 q0 qm qn qa
    subst qm
    subst qn
    have hp : l[i]? = some l[i] := List.getElem?_eq_getElem hi
    obtain ⟨id, off, cap, hr1, hid, hrd⟩ := hr.at ri5 hp
    have hsn : stTo l (i + 1) = (stTo l i && stOk (if i = 0 then none else l[i - 1]?) l[i]) := by rw [stTo, hp]
    generalize l[i] = p at *
    have c2 : ((i : Int) < (l.length : Int)) = True := eq_true (by omega)
    have c3 : (0 ≤ (i : Int)) = True := eq_true (by omega)
    have c7 : IntKind.i64.wrap ((i : Int) + 1) = ((i + 1 : Nat) : Int) := wr_nat (by omega)
    rw [hr1] at q0
    obtain ⟨b, g1, g2⟩ := rd_cell hrd (a := 0) (c := I p.a) rfl
    rw [Nat.add_zero] at g2
    have hcol := rd_tail hrd
    rw [Nat.add_assoc] at hcol
    have hbad : stTo l (i + 1) = false → stopsB l = false := fun h => by unfold stopsB; rw [stTo_bad h _ (by omega), Bool.and_false]
    rw [qa, Bool.true_and] at hsn
    unfold stOk at hsn
    have vr := v_rCRight p.c0 p.c1 p.c2 p.c3
    by_cases a1 : p.a < 0
    · have hf : stopsB l = false := hbad (by rw [hsn, decide_eq_false (by omega)]; rfl)
      try simp only [r26_0, r26_1, r26_2, r26_4, r26_5, r26_3, r26_6, c26, F26, l26_0, q3, q0, lenO, c2, c3, g1, g2, a1, hf, Int.toNat_natCast, go_sem, Int.reduceTMod, Int.reduceTDiv, Int.reduceDiv, Int.reduceMod, Int.reduceAdd, Int.reduceSub, Int.reduceMul, Int.reduceNeg, Int.reducePow, Int.reduceEq, ↓reduceIte, Nat.reduceEqDiff, Nat.reduceAdd, Nat.reduceMul, Nat.reduceLeDiff, Nat.reduceSub, Nat.reduceLT, Int.reduceToNat, Int.reduceLT, Int.reduceLE, reduceCtorEq]
      repeat' ((first | refine FK_split (fun h_ => ?_) (fun h_ => ?_) | refine GK_split (fun h_ => ?_) (fun h_ => ?_) | refine ite_both (fun h_ => ?_) (fun h_ => ?_)) <;> (try simp only [decide_eq_true_eq, decide_eq_false_iff_not, Bool.not_true, Bool.not_false, Bool.not_eq_true', Bool.not_eq_false', Bool.not_eq_eq_eq_not, Decidable.not_not] at h_) <;> (try simp only [r26_0, r26_1, r26_2, r26_4, r26_5, r26_3, r26_6, c26, F26, l26_0, q3, q0, lenO, c2, c3, g1, g2, a1, hf, Int.toNat_natCast, h_, go_sem, Int.reduceTMod, Int.reduceTDiv, Int.reduceDiv, Int.reduceMod, Int.reduceAdd, Int.reduceSub, Int.reduceMul, Int.reduceNeg, Int.reducePow, Int.reduceEq, ↓reduceIte, Nat.reduceEqDiff, Nat.reduceAdd, Nat.reduceMul, Nat.reduceLeDiff, Nat.reduceSub, Nat.reduceLT, Int.reduceToNat, Int.reduceLT, Int.reduceLE, reduceCtorEq]))
    · by_cases a2 : 65536 < p.a
      · have hf : stopsB l = false := hbad (by rw [hsn, decide_eq_false (show ¬ p.a ≤ 65536 by omega), Bool.false_and, Bool.and_false])
        try simp only [r26_0, r26_1, r26_2, r26_4, r26_5, r26_3, r26_6, c26, F26, l26_0, q3, q0, lenO, c2, c3, g1, g2, a1, a2, hf, Int.toNat_natCast, go_sem, Int.reduceTMod, Int.reduceTDiv, Int.reduceDiv, Int.reduceMod, Int.reduceAdd, Int.reduceSub, Int.reduceMul, Int.reduceNeg, Int.reducePow, Int.reduceEq, ↓reduceIte, Nat.reduceEqDiff, Nat.reduceAdd, Nat.reduceMul, Nat.reduceLeDiff, Nat.reduceSub, Nat.reduceLT, Int.reduceToNat, Int.reduceLT, Int.reduceLE, reduceCtorEq]
        repeat' ((first | refine FK_split (fun h_ => ?_) (fun h_ => ?_) | refine GK_split (fun h_ => ?_) (fun h_ => ?_) | refine ite_both (fun h_ => ?_) (fun h_ => ?_)) <;> (try simp only [decide_eq_true_eq, decide_eq_false_iff_not, Bool.not_true, Bool.not_false, Bool.not_eq_true', Bool.not_eq_false', Bool.not_eq_eq_eq_not, Decidable.not_not] at h_) <;> (try simp only [r26_0, r26_1, r26_2, r26_4, r26_5, r26_3, r26_6, c26, F26, l26_0, q3, q0, lenO, c2, c3, g1, g2, a1, a2, hf, Int.toNat_natCast, h_, go_sem, Int.reduceTMod, Int.reduceTDiv, Int.reduceDiv, Int.reduceMod, Int.reduceAdd, Int.reduceSub, Int.reduceMul, Int.reduceNeg, Int.reducePow, Int.reduceEq, ↓reduceIte, Nat.reduceEqDiff, Nat.reduceAdd, Nat.reduceMul, Nat.reduceLeDiff, Nat.reduceSub, Nat.reduceLT, Int.reduceToNat, Int.reduceLT, Int.reduceLE, reduceCtorEq]))
      · rw [decide_eq_true (show 0 ≤ p.a by omega), decide_eq_true (show p.a ≤ 65536 by omega), Bool.true_and, Bool.true_and] at hsn
        cases a3 : crB p.c0 p.c1 p.c2 p.c3
        · rw [a3] at vr hsn
          have hf : stopsB l = false := hbad (by rw [hsn]; rfl)
          try simp only [r26_0, r26_1, r26_2, r26_4, r26_5, r26_3, r26_6, c26, F26, l26_0, q3, q0, lenO, c2, c3, g1, g2, a1, a2, hcol, vr, hf, Int.toNat_natCast, go_sem, Int.reduceTMod, Int.reduceTDiv, Int.reduceDiv, Int.reduceMod, Int.reduceAdd, Int.reduceSub, Int.reduceMul, Int.reduceNeg, Int.reducePow, Int.reduceEq, ↓reduceIte, Nat.reduceEqDiff, Nat.reduceAdd, Nat.reduceMul, Nat.reduceLeDiff, Nat.reduceSub, Nat.reduceLT, Int.reduceToNat, Int.reduceLT, Int.reduceLE, reduceCtorEq]
          repeat' ((first | refine FK_split (fun h_ => ?_) (fun h_ => ?_) | refine GK_split (fun h_ => ?_) (fun h_ => ?_) | refine ite_both (fun h_ => ?_) (fun h_ => ?_)) <;> (try simp only [decide_eq_true_eq, decide_eq_false_iff_not, Bool.not_true, Bool.not_false, Bool.not_eq_true', Bool.not_eq_false', Bool.not_eq_eq_eq_not, Decidable.not_not] at h_) <;> (try simp only [r26_0, r26_1, r26_2, r26_4, r26_5, r26_3, r26_6, c26, F26, l26_0, q3, q0, lenO, c2, c3, g1, g2, a1, a2, hcol, vr, hf, Int.toNat_natCast, h_, go_sem, Int.reduceTMod, Int.reduceTDiv, Int.reduceDiv, Int.reduceMod, Int.reduceAdd, Int.reduceSub, Int.reduceMul, Int.reduceNeg, Int.reducePow, Int.reduceEq, ↓reduceIte, Nat.reduceEqDiff, Nat.reduceAdd, Nat.reduceMul, Nat.reduceLeDiff, Nat.reduceSub, Nat.reduceLT, Int.reduceToNat, Int.reduceLT, Int.reduceLE, reduceCtorEq]))
        · rw [a3] at vr hsn
          rw [Bool.true_and] at hsn
          by_cases a4 : i = 0
          · rw [if_pos a4] at hsn
            have d1 : (0 < (i : Int)) = False := eq_false (by omega)
            try simp only [r26_0, r26_1, r26_2, r26_4, r26_5, r26_3, r26_6, c26, F26, l26_0, q3, q0, lenO, c2, c3, c7, g1, g2, a1, a2, hcol, vr, d1, Int.toNat_natCast, go_sem, Int.reduceTMod, Int.reduceTDiv, Int.reduceDiv, Int.reduceMod, Int.reduceAdd, Int.reduceSub, Int.reduceMul, Int.reduceNeg, Int.reducePow, Int.reduceEq, ↓reduceIte, Nat.reduceEqDiff, Nat.reduceAdd, Nat.reduceMul, Nat.reduceLeDiff, Nat.reduceSub, Nat.reduceLT, Int.reduceToNat, Int.reduceLT, Int.reduceLE, reduceCtorEq]
            repeat' ((first | refine FK_split (fun h_ => ?_) (fun h_ => ?_) | refine GK_split (fun h_ => ?_) (fun h_ => ?_) | refine ite_both (fun h_ => ?_) (fun h_ => ?_)) <;> (try simp only [decide_eq_true_eq, decide_eq_false_iff_not, Bool.not_true, Bool.not_false, Bool.not_eq_true', Bool.not_eq_false', Bool.not_eq_eq_eq_not, Decidable.not_not] at h_) <;> (try simp only [r26_0, r26_1, r26_2, r26_4, r26_5, r26_3, r26_6, c26, F26, l26_0, q3, q0, lenO, c2, c3, c7, g1, g2, a1, a2, hcol, vr, d1, Int.toNat_natCast, h_, go_sem, Int.reduceTMod, Int.reduceTDiv, Int.reduceDiv, Int.reduceMod, Int.reduceAdd, Int.reduceSub, Int.reduceMul, Int.reduceNeg, Int.reducePow, Int.reduceEq, ↓reduceIte, Nat.reduceEqDiff, Nat.reduceAdd, Nat.reduceMul, Nat.reduceLeDiff, Nat.reduceSub, Nat.reduceLT, Int.reduceToNat, Int.reduceLT, Int.reduceLE, reduceCtorEq]))
            refine next _ ⟨?_, ?_, rfl, rfl, hsn⟩
            · simp only [go_sem, Int.reduceTMod, Int.reduceTDiv, Int.reduceDiv, Int.reduceMod, Int.reduceAdd, Int.reduceSub, Int.reduceMul, Int.reduceNeg, Int.reducePow, Int.reduceEq, ↓reduceIte, Nat.reduceEqDiff, Nat.reduceAdd, Nat.reduceMul, Nat.reduceLeDiff, Nat.reduceSub, Nat.reduceLT, Int.reduceToNat, Int.reduceLT, Int.reduceLE, reduceCtorEq]
            · simp only [q0, hr1, go_sem, Int.reduceTMod, Int.reduceTDiv, Int.reduceDiv, Int.reduceMod, Int.reduceAdd, Int.reduceSub, Int.reduceMul, Int.reduceNeg, Int.reducePow, Int.reduceEq, ↓reduceIte, Nat.reduceEqDiff, Nat.reduceAdd, Nat.reduceMul, Nat.reduceLeDiff, Nat.reduceSub, Nat.reduceLT, Int.reduceToNat, Int.reduceLT, Int.reduceLE, reduceCtorEq]
          · rw [if_neg a4] at hsn
            have d1 : (0 < (i : Int)) = True := eq_true (by omega)
            have d2 : IntKind.i64.wrap ((i : Int) - 1) = (i : Int) - 1 := wr_eq (by omega) (by omega)
            have d3 : (0 ≤ (i : Int) - 1) = True := eq_true (by omega)
            have d4 : ((i : Int) - 1 < (l.length : Int)) = True := eq_true (by omega)
            have d5 : ((i : Int) - 1).toNat = i - 1 := by omega
            have hp2 : l[i - 1]? = some (l[i - 1]'(by omega)) := List.getElem?_eq_getElem (by omega)
            obtain ⟨id2, off2, cap2, hr2, hid2, hrd2⟩ := hr.at ri5 hp2
            rw [hr1] at hr2
            simp only [Reg.one.injEq, Cell.sl.injEq, true_and] at hr2
            obtain ⟨rfl, rfl, rfl, _⟩ := hr2
            rw [hp2] at hsn
            generalize (l[i - 1]'(by omega)) = p2 at *
            obtain ⟨b2, g3, g4⟩ := rd_cell hrd2 (a := 0) (c := I p2.a) rfl
            rw [g1] at g3
            cases g3
            rw [Nat.add_zero] at g4
            by_cases a5 : p.a < p2.a
            · have hf : stopsB l = false := hbad (by rw [hsn]; exact decide_eq_false (by omega))
              try simp only [r26_0, r26_1, r26_2, r26_4, r26_5, r26_3, r26_6, c26, F26, l26_0, q3, q0, lenO, c2, c3, c7, g1, g2, g4, a1, a2, hcol, vr, d1, d2, d3, d4, d5, a5, hf, Int.toNat_natCast, go_sem, Int.reduceTMod, Int.reduceTDiv, Int.reduceDiv, Int.reduceMod, Int.reduceAdd, Int.reduceSub, Int.reduceMul, Int.reduceNeg, Int.reducePow, Int.reduceEq, ↓reduceIte, Nat.reduceEqDiff, Nat.reduceAdd, Nat.reduceMul, Nat.reduceLeDiff, Nat.reduceSub, Nat.reduceLT, Int.reduceToNat, Int.reduceLT, Int.reduceLE, reduceCtorEq]
              repeat' ((first | refine FK_split (fun h_ => ?_) (fun h_ => ?_) | refine GK_split (fun h_ => ?_) (fun h_ => ?_) | refine ite_both (fun h_ => ?_) (fun h_ => ?_)) <;> (try simp only [decide_eq_true_eq, decide_eq_false_iff_not, Bool.not_true, Bool.not_false, Bool.not_eq_true', Bool.not_eq_false', Bool.not_eq_eq_eq_not, Decidable.not_not] at h_) <;> (try simp only [r26_0, r26_1, r26_2, r26_4, r26_5, r26_3, r26_6, c26, F26, l26_0, q3, q0, lenO, c2, c3, c7, g1, g2, g4, a1, a2, hcol, vr, d1, d2, d3, d4, d5, a5, hf, Int.toNat_natCast, h_, go_sem, Int.reduceTMod, Int.reduceTDiv, Int.reduceDiv, Int.reduceMod, Int.reduceAdd, Int.reduceSub, Int.reduceMul, Int.reduceNeg, Int.reducePow, Int.reduceEq, ↓reduceIte, Nat.reduceEqDiff, Nat.reduceAdd, Nat.reduceMul, Nat.reduceLeDiff, Nat.reduceSub, Nat.reduceLT, Int.reduceToNat, Int.reduceLT, Int.reduceLE, reduceCtorEq]))
            · have hs2 : stTo l (i + 1) = true := by rw [hsn]; exact decide_eq_true (by omega)
              try simp only [r26_0, r26_1, r26_2, r26_4, r26_5, r26_3, r26_6, c26, F26, l26_0, q3, q0, lenO, c2, c3, c7, g1, g2, g4, a1, a2, hcol, vr, d1, d2, d3, d4, d5, a5, Int.toNat_natCast, go_sem, Int.reduceTMod, Int.reduceTDiv, Int.reduceDiv, Int.reduceMod, Int.reduceAdd, Int.reduceSub, Int.reduceMul, Int.reduceNeg, Int.reducePow, Int.reduceEq, ↓reduceIte, Nat.reduceEqDiff, Nat.reduceAdd, Nat.reduceMul, Nat.reduceLeDiff, Nat.reduceSub, Nat.reduceLT, Int.reduceToNat, Int.reduceLT, Int.reduceLE, reduceCtorEq]
              repeat' ((first | refine FK_split (fun h_ => ?_) (fun h_ => ?_) | refine GK_split (fun h_ => ?_) (fun h_ => ?_) | refine ite_both (fun h_ => ?_) (fun h_ => ?_)) <;> (try simp only [decide_eq_true_eq, decide_eq_false_iff_not, Bool.not_true, Bool.not_false, Bool.not_eq_true', Bool.not_eq_false', Bool.not_eq_eq_eq_not, Decidable.not_not] at h_) <;> (try simp only [r26_0, r26_1, r26_2, r26_4, r26_5, r26_3, r26_6, c26, F26, l26_0, q3, q0, lenO, c2, c3, c7, g1, g2, g4, a1, a2, hcol, vr, d1, d2, d3, d4, d5, a5, Int.toNat_natCast, h_, go_sem, Int.reduceTMod, Int.reduceTDiv, Int.reduceDiv, Int.reduceMod, Int.reduceAdd, Int.reduceSub, Int.reduceMul, Int.reduceNeg, Int.reducePow, Int.reduceEq, ↓reduceIte, Nat.reduceEqDiff, Nat.reduceAdd, Nat.reduceMul, Nat.reduceLeDiff, Nat.reduceSub, Nat.reduceLT, Int.reduceToNat, Int.reduceLT, Int.reduceLE, reduceCtorEq]))
              refine next _ ⟨?_, ?_, rfl, rfl, hs2⟩
              · simp only [go_sem, Int.reduceTMod, Int.reduceTDiv, Int.reduceDiv, Int.reduceMod, Int.reduceAdd, Int.reduceSub, Int.reduceMul, Int.reduceNeg, Int.reducePow, Int.reduceEq, ↓reduceIte, Nat.reduceEqDiff, Nat.reduceAdd, Nat.reduceMul, Nat.reduceLeDiff, Nat.reduceSub, Nat.reduceLT, Int.reduceToNat, Int.reduceLT, Int.reduceLE, reduceCtorEq]
              · simp only [q0, hr1, go_sem, Int.reduceTMod, Int.reduceTDiv, Int.reduceDiv, Int.reduceMod, Int.reduceAdd, Int.reduceSub, Int.reduceMul, Int.reduceNeg, Int.reducePow, Int.reduceEq, ↓reduceIte, Nat.reduceEqDiff, Nat.reduceAdd, Nat.reduceMul, Nat.reduceLeDiff, Nat.reduceSub, Nat.reduceLT, Int.reduceToNat, Int.reduceLT, Int.reduceLE, reduceCtorEq]
  · obtain ⟨e, M, N⟩ := s
    obtain ⟨q3, q0, qm, qn, qa⟩ := hs
    simp only at q3 q0 qm qn qa
    have c2 : ((l.length : Int) < (l.length : Int)) = False := eq_false (by omega)
    have e1 : stopsB l = lenB l := by unfold stopsB; rw [qa, Bool.and_true]
    have e2 : lenB l = (decide ((1 : Int) ≤ l.length) && decide ((l.length : Int) ≤ 16)) := by
      unfold lenB
      congr 1 <;> (congr 1; apply propext; omega)
    rw [e1, e2]
    try simp only [r26_0, r26_1, r26_2, r26_4, r26_5, r26_3, r26_6, c26, F26, l26_0, q3, q0, hlen, c2, go_sem, Int.reduceTMod, Int.reduceTDiv, Int.reduceDiv, Int.reduceMod, Int.reduceAdd, Int.reduceSub, Int.reduceMul, Int.reduceNeg, Int.reducePow, Int.reduceEq, ↓reduceIte, Nat.reduceEqDiff, Nat.reduceAdd, Nat.reduceMul, Nat.reduceLeDiff, Nat.reduceSub, Nat.reduceLT, Int.reduceToNat, Int.reduceLT, Int.reduceLE, reduceCtorEq]
    repeat' ((first | refine FK_split (fun h_ => ?_) (fun h_ => ?_) | refine GK_split (fun h_ => ?_) (fun h_ => ?_) | refine ite_both (fun h_ => ?_) (fun h_ => ?_)) <;> (try simp only [decide_eq_true_eq, decide_eq_false_iff_not, Bool.not_true, Bool.not_false, Bool.not_eq_true', Bool.not_eq_false', Bool.not_eq_eq_eq_not, Decidable.not_not] at h_) <;> (try simp only [r26_0, r26_1, r26_2, r26_4, r26_5, r26_3, r26_6, c26, F26, l26_0, q3, q0, hlen, c2, h_, go_sem, Int.reduceTMod, Int.reduceTDiv, Int.reduceDiv, Int.reduceMod, Int.reduceAdd, Int.reduceSub, Int.reduceMul, Int.reduceNeg, Int.reducePow, Int.reduceEq, ↓reduceIte, Nat.reduceEqDiff, Nat.reduceAdd, Nat.reduceMul, Nat.reduceLeDiff, Nat.reduceSub, Nat.reduceLT, Int.reduceToNat, Int.reduceLT, Int.reduceLE, reduceCtorEq]))
  · simp only [stTo, go_sem, Int.reduceTMod, Int.reduceTDiv, Int.reduceDiv, Int.reduceMod, Int.reduceAdd, Int.reduceSub, Int.reduceMul, Int.reduceNeg, Int.reducePow, Int.reduceEq, ↓reduceIte, Nat.reduceEqDiff, Nat.reduceAdd, Nat.reduceMul, Nat.reduceLeDiff, Nat.reduceSub, Nat.reduceLT, Int.reduceToNat, Int.reduceLT, Int.reduceLE, reduceCtorEq]

/- Stops of shades: the program's check; rows compared. Conditions: those that each theorem names. -/
open Go Go.Proofs
set_option linter.unusedSimpArgs false
set_option linter.unusedVariables false

theorem v_CheckStops (r : Reg) (l : List Stp) (m : Mem) (n : Nat) (hr : RSt m n r l) (hl : l.length < 4294967296) : callF TA 32 [r] m n = some (RI (if stopsB l = true then 0 else 30)) := by
  refine callF_of (Fn_ofK (fn := F32) rfl (by simp [F32]) ?_)
  have hlen := hr.len
  have e2 : (decide ((1 : Int) ≤ l.length) && decide ((l.length : Int) ≤ 16)) = lenB l := by
    unfold lenB
    congr 1 <;> (congr 1; apply propext; omega)
  have go : ∀ (f : Bool) (e : Nat → Reg), f = lenB l → e 3 = RB f → e 16 = RI 0 → e 15 = RI l.length → e 14 = r → e 0 = r → XK TA (.loop l32_0) ⟨e, m, n⟩ (Kt.blk 0 (Kt.seq (.seq (.seq (.reg r32_7) (.cond (.t 54) (.seq (.reg r32_8) .ret) .skip)) (.seq (.reg r32_9) .ret)) (Kt.fin F32.res fun r _ _ => r = RI (if stopsB l = true then 0 else 30)))) := by
    intro f e hf h3 h16 h15 h14 h0
    refine XK_iter (inv := fun i s => s.e 16 = RI i ∧ s.e 15 = RI l.length ∧ s.e 14 = r ∧ s.e 0 = r ∧ s.e 3 = RB (f && stTo l i) ∧ n ≤ s.n ∧ ∀ id, id < n → s.m id = m id) l.length
      (fun L _ => ⟨fun i hi s hs next => ?_, fun s hs => ?_⟩) 0 (by omega) _ ⟨h16, h15, h14, h0, ?_, Nat.le_refl _, fun _ _ => rfl⟩
    · obtain ⟨e, M, N⟩ := s
      obtain ⟨q16, q15, q14, q0, q3, qn, qm⟩ := hs
      simp only at q16 q15 q14 q0 q3 qn qm
      have hr2 : RSt M N r l := hr.keep qn qm
      have hp : l[i]? = some l[i] := List.getElem?_eq_getElem hi
      obtain ⟨id, off, cap, hr1, hid, hrd⟩ := hr2.at cs5 hp
      have hsn : stTo l (i + 1) = (stTo l i && stOk (if i = 0 then none else l[i - 1]?) l[i]) := by rw [stTo, hp]
      generalize l[i] = p at *
      have c2 : ((i : Int) < (l.length : Int)) = True := eq_true (by omega)
      have c3 : (0 ≤ (i : Int)) = True := eq_true (by omega)
      have c7 : IntKind.i64.wrap ((i : Int) + 1) = ((i + 1 : Nat) : Int) := wr_nat (by omega)
      have n1 := na_0 hid
      have n3 : ∀ k, (id = N + k) = False := fun k => na_ne hid
      have vr := v_CRight p.c0 p.c1 p.c2 p.c3
      rw [hr1] at q14 q0
      have hfr : ∀ (b b' : Option Blk) (id2 : Nat), id2 < n → upd (upd M N b) N b' id2 = m id2 := fun b b' id2 h2 => by rw [upd_ne _ _ (by omega), upd_ne _ _ (by omega)]; exact qm id2 h2
      cases hg : (f && stTo l i)
      · rw [hg] at q3
        have hv : (f && stTo l (i + 1)) = false := by rw [hsn, ← Bool.and_assoc, hg]; rfl
        try simp only [r32_0, r32_1, r32_2, r32_3, r32_4, r32_5, r32_6, r32_7, r32_8, r32_9, c32, F32, l32_0, q16, q15, q14, q0, q3, c2, c3, c7, hrd, n1, n3, Int.toNat_natCast, go_sem, Int.reduceTMod, Int.reduceTDiv, Int.reduceDiv, Int.reduceMod, Int.reduceAdd, Int.reduceSub, Int.reduceMul, Int.reduceNeg, Int.reducePow, Int.reduceEq, ↓reduceIte, Nat.reduceEqDiff, Nat.reduceAdd, Nat.reduceMul, Nat.reduceLeDiff, Nat.reduceSub, Nat.reduceLT, Int.reduceToNat, Int.reduceLT, Int.reduceLE, reduceCtorEq]
        repeat' ((first | refine FK_split (fun h_ => ?_) (fun h_ => ?_) | refine GK_split (fun h_ => ?_) (fun h_ => ?_) | refine ite_both (fun h_ => ?_) (fun h_ => ?_)) <;> (try simp only [decide_eq_true_eq, decide_eq_false_iff_not, Bool.not_true, Bool.not_false, Bool.not_eq_true', Bool.not_eq_false', Bool.not_eq_eq_eq_not, Decidable.not_not] at h_) <;> (try simp only [r32_0, r32_1, r32_2, r32_3, r32_4, r32_5, r32_6, r32_7, r32_8, r32_9, c32, F32, l32_0, q16, q15, q14, q0, q3, c2, c3, c7, hrd, n1, n3, Int.toNat_natCast, h_, go_sem, Int.reduceTMod, Int.reduceTDiv, Int.reduceDiv, Int.reduceMod, Int.reduceAdd, Int.reduceSub, Int.reduceMul, Int.reduceNeg, Int.reducePow, Int.reduceEq, ↓reduceIte, Nat.reduceEqDiff, Nat.reduceAdd, Nat.reduceMul, Nat.reduceLeDiff, Nat.reduceSub, Nat.reduceLT, Int.reduceToNat, Int.reduceLT, Int.reduceLE, reduceCtorEq]))
        refine next _ ⟨?_, ?_, ?_, ?_, ?_, ?_, ?_⟩
        · simp only [go_sem, Int.reduceTMod, Int.reduceTDiv, Int.reduceDiv, Int.reduceMod, Int.reduceAdd, Int.reduceSub, Int.reduceMul, Int.reduceNeg, Int.reducePow, Int.reduceEq, ↓reduceIte, Nat.reduceEqDiff, Nat.reduceAdd, Nat.reduceMul, Nat.reduceLeDiff, Nat.reduceSub, Nat.reduceLT, Int.reduceToNat, Int.reduceLT, Int.reduceLE, reduceCtorEq]
        · simp only [q15, go_sem, Int.reduceTMod, Int.reduceTDiv, Int.reduceDiv, Int.reduceMod, Int.reduceAdd, Int.reduceSub, Int.reduceMul, Int.reduceNeg, Int.reducePow, Int.reduceEq, ↓reduceIte, Nat.reduceEqDiff, Nat.reduceAdd, Nat.reduceMul, Nat.reduceLeDiff, Nat.reduceSub, Nat.reduceLT, Int.reduceToNat, Int.reduceLT, Int.reduceLE, reduceCtorEq]
        · simp only [q14, hr1, go_sem, Int.reduceTMod, Int.reduceTDiv, Int.reduceDiv, Int.reduceMod, Int.reduceAdd, Int.reduceSub, Int.reduceMul, Int.reduceNeg, Int.reducePow, Int.reduceEq, ↓reduceIte, Nat.reduceEqDiff, Nat.reduceAdd, Nat.reduceMul, Nat.reduceLeDiff, Nat.reduceSub, Nat.reduceLT, Int.reduceToNat, Int.reduceLT, Int.reduceLE, reduceCtorEq]
        · simp only [q0, hr1, go_sem, Int.reduceTMod, Int.reduceTDiv, Int.reduceDiv, Int.reduceMod, Int.reduceAdd, Int.reduceSub, Int.reduceMul, Int.reduceNeg, Int.reducePow, Int.reduceEq, ↓reduceIte, Nat.reduceEqDiff, Nat.reduceAdd, Nat.reduceMul, Nat.reduceLeDiff, Nat.reduceSub, Nat.reduceLT, Int.reduceToNat, Int.reduceLT, Int.reduceLE, reduceCtorEq]
        · simp only [hv, go_sem, Int.reduceTMod, Int.reduceTDiv, Int.reduceDiv, Int.reduceMod, Int.reduceAdd, Int.reduceSub, Int.reduceMul, Int.reduceNeg, Int.reducePow, Int.reduceEq, ↓reduceIte, Nat.reduceEqDiff, Nat.reduceAdd, Nat.reduceMul, Nat.reduceLeDiff, Nat.reduceSub, Nat.reduceLT, Int.reduceToNat, Int.reduceLT, Int.reduceLE, reduceCtorEq]
        · simp only [go_sem, Int.reduceTMod, Int.reduceTDiv, Int.reduceDiv, Int.reduceMod, Int.reduceAdd, Int.reduceSub, Int.reduceMul, Int.reduceNeg, Int.reducePow, Int.reduceEq, ↓reduceIte, Nat.reduceEqDiff, Nat.reduceAdd, Nat.reduceMul, Nat.reduceLeDiff, Nat.reduceSub, Nat.reduceLT, Int.reduceToNat, Int.reduceLT, Int.reduceLE, reduceCtorEq]
          omega
        · intro id2 h2
          exact hfr _ _ id2 h2
      · rw [hg] at q3
        have hv : (f && stTo l (i + 1)) = stOk (if i = 0 then none else l[i - 1]?) p := by rw [hsn, ← Bool.and_assoc, hg]; rfl
        unfold stOk at hv
        by_cases a4 : i = 0
        · rw [if_pos a4] at hv
          have d1 : ((i : Int) = 0) = True := eq_true (by omega)
          simp only [Bool.and_true] at hv
          try simp only [r32_0, r32_1, r32_2, r32_3, r32_4, r32_5, r32_6, r32_7, r32_8, r32_9, c32, F32, l32_0, q16, q15, q14, q0, q3, c2, c3, c7, hrd, n1, n3, vr, d1, Int.toNat_natCast, go_sem, Int.reduceTMod, Int.reduceTDiv, Int.reduceDiv, Int.reduceMod, Int.reduceAdd, Int.reduceSub, Int.reduceMul, Int.reduceNeg, Int.reducePow, Int.reduceEq, ↓reduceIte, Nat.reduceEqDiff, Nat.reduceAdd, Nat.reduceMul, Nat.reduceLeDiff, Nat.reduceSub, Nat.reduceLT, Int.reduceToNat, Int.reduceLT, Int.reduceLE, reduceCtorEq]
          repeat' ((first | refine FK_split (fun h_ => ?_) (fun h_ => ?_) | refine GK_split (fun h_ => ?_) (fun h_ => ?_) | refine ite_both (fun h_ => ?_) (fun h_ => ?_)) <;> (try simp only [decide_eq_true_eq, decide_eq_false_iff_not, Bool.not_true, Bool.not_false, Bool.not_eq_true', Bool.not_eq_false', Bool.not_eq_eq_eq_not, Decidable.not_not] at h_) <;> (try simp only [r32_0, r32_1, r32_2, r32_3, r32_4, r32_5, r32_6, r32_7, r32_8, r32_9, c32, F32, l32_0, q16, q15, q14, q0, q3, c2, c3, c7, hrd, n1, n3, vr, d1, Int.toNat_natCast, h_, go_sem, Int.reduceTMod, Int.reduceTDiv, Int.reduceDiv, Int.reduceMod, Int.reduceAdd, Int.reduceSub, Int.reduceMul, Int.reduceNeg, Int.reducePow, Int.reduceEq, ↓reduceIte, Nat.reduceEqDiff, Nat.reduceAdd, Nat.reduceMul, Nat.reduceLeDiff, Nat.reduceSub, Nat.reduceLT, Int.reduceToNat, Int.reduceLT, Int.reduceLE, reduceCtorEq]))
          all_goals
            refine next _ ⟨?_, ?_, ?_, ?_, ?_, ?_, ?_⟩
            · simp only [go_sem, Int.reduceTMod, Int.reduceTDiv, Int.reduceDiv, Int.reduceMod, Int.reduceAdd, Int.reduceSub, Int.reduceMul, Int.reduceNeg, Int.reducePow, Int.reduceEq, ↓reduceIte, Nat.reduceEqDiff, Nat.reduceAdd, Nat.reduceMul, Nat.reduceLeDiff, Nat.reduceSub, Nat.reduceLT, Int.reduceToNat, Int.reduceLT, Int.reduceLE, reduceCtorEq]
            · simp only [q15, go_sem, Int.reduceTMod, Int.reduceTDiv, Int.reduceDiv, Int.reduceMod, Int.reduceAdd, Int.reduceSub, Int.reduceMul, Int.reduceNeg, Int.reducePow, Int.reduceEq, ↓reduceIte, Nat.reduceEqDiff, Nat.reduceAdd, Nat.reduceMul, Nat.reduceLeDiff, Nat.reduceSub, Nat.reduceLT, Int.reduceToNat, Int.reduceLT, Int.reduceLE, reduceCtorEq]
            · simp only [q14, hr1, go_sem, Int.reduceTMod, Int.reduceTDiv, Int.reduceDiv, Int.reduceMod, Int.reduceAdd, Int.reduceSub, Int.reduceMul, Int.reduceNeg, Int.reducePow, Int.reduceEq, ↓reduceIte, Nat.reduceEqDiff, Nat.reduceAdd, Nat.reduceMul, Nat.reduceLeDiff, Nat.reduceSub, Nat.reduceLT, Int.reduceToNat, Int.reduceLT, Int.reduceLE, reduceCtorEq]
            · simp only [q0, hr1, go_sem, Int.reduceTMod, Int.reduceTDiv, Int.reduceDiv, Int.reduceMod, Int.reduceAdd, Int.reduceSub, Int.reduceMul, Int.reduceNeg, Int.reducePow, Int.reduceEq, ↓reduceIte, Nat.reduceEqDiff, Nat.reduceAdd, Nat.reduceMul, Nat.reduceLeDiff, Nat.reduceSub, Nat.reduceLT, Int.reduceToNat, Int.reduceLT, Int.reduceLE, reduceCtorEq]
            · simp only [go_sem, Int.reduceTMod, Int.reduceTDiv, Int.reduceDiv, Int.reduceMod, Int.reduceAdd, Int.reduceSub, Int.reduceMul, Int.reduceNeg, Int.reducePow, Int.reduceEq, ↓reduceIte, Nat.reduceEqDiff, Nat.reduceAdd, Nat.reduceMul, Nat.reduceLeDiff, Nat.reduceSub, Nat.reduceLT, Int.reduceToNat, Int.reduceLT, Int.reduceLE, reduceCtorEq]
              rw [hv]
              simp [*]
            · simp only [go_sem, Int.reduceTMod, Int.reduceTDiv, Int.reduceDiv, Int.reduceMod, Int.reduceAdd, Int.reduceSub, Int.reduceMul, Int.reduceNeg, Int.reducePow, Int.reduceEq, ↓reduceIte, Nat.reduceEqDiff, Nat.reduceAdd, Nat.reduceMul, Nat.reduceLeDiff, Nat.reduceSub, Nat.reduceLT, Int.reduceToNat, Int.reduceLT, Int.reduceLE, reduceCtorEq]
              omega
            · intro id2 h2
              exact hfr _ _ id2 h2
        · rw [if_neg a4] at hv
          have d1 : ((i : Int) = 0) = False := eq_false (by omega)
          have d2 : IntKind.i64.wrap ((i : Int) - 1) = (i : Int) - 1 := wr_eq (by omega) (by omega)
          have d3 : (0 ≤ (i : Int) - 1) = True := eq_true (by omega)
          have d4 : ((i : Int) - 1 < (l.length : Int)) = True := eq_true (by omega)
          have d5 : ((i : Int) - 1).toNat = i - 1 := by omega
          have hp2 : l[i - 1]? = some (l[i - 1]'(by omega)) := List.getElem?_eq_getElem (by omega)
          obtain ⟨id2, off2, cap2, hr3, hid2, hrd2⟩ := hr2.at cs5 hp2
          rw [hr1] at hr3
          simp only [Reg.one.injEq, Cell.sl.injEq, true_and] at hr3
          obtain ⟨rfl, rfl, rfl, _⟩ := hr3
          rw [hp2] at hv
          simp only at hv
          generalize (l[i - 1]'(by omega)) = p2 at *
          obtain ⟨b2, g3, g4⟩ := rd_cell hrd2 (a := 0) (c := I p2.a) rfl
          rw [Nat.add_zero] at g4
          try simp only [r32_0, r32_1, r32_2, r32_3, r32_4, r32_5, r32_6, r32_7, r32_8, r32_9, c32, F32, l32_0, q16, q15, q14, q0, q3, c2, c3, c7, hrd, n1, n3, vr, d1, d2, d3, d4, d5, g3, g4, Int.toNat_natCast, go_sem, Int.reduceTMod, Int.reduceTDiv, Int.reduceDiv, Int.reduceMod, Int.reduceAdd, Int.reduceSub, Int.reduceMul, Int.reduceNeg, Int.reducePow, Int.reduceEq, ↓reduceIte, Nat.reduceEqDiff, Nat.reduceAdd, Nat.reduceMul, Nat.reduceLeDiff, Nat.reduceSub, Nat.reduceLT, Int.reduceToNat, Int.reduceLT, Int.reduceLE, reduceCtorEq]
          repeat' ((first | refine FK_split (fun h_ => ?_) (fun h_ => ?_) | refine GK_split (fun h_ => ?_) (fun h_ => ?_) | refine ite_both (fun h_ => ?_) (fun h_ => ?_)) <;> (try simp only [decide_eq_true_eq, decide_eq_false_iff_not, Bool.not_true, Bool.not_false, Bool.not_eq_true', Bool.not_eq_false', Bool.not_eq_eq_eq_not, Decidable.not_not] at h_) <;> (try simp only [r32_0, r32_1, r32_2, r32_3, r32_4, r32_5, r32_6, r32_7, r32_8, r32_9, c32, F32, l32_0, q16, q15, q14, q0, q3, c2, c3, c7, hrd, n1, n3, vr, d1, d2, d3, d4, d5, g3, g4, Int.toNat_natCast, h_, go_sem, Int.reduceTMod, Int.reduceTDiv, Int.reduceDiv, Int.reduceMod, Int.reduceAdd, Int.reduceSub, Int.reduceMul, Int.reduceNeg, Int.reducePow, Int.reduceEq, ↓reduceIte, Nat.reduceEqDiff, Nat.reduceAdd, Nat.reduceMul, Nat.reduceLeDiff, Nat.reduceSub, Nat.reduceLT, Int.reduceToNat, Int.reduceLT, Int.reduceLE, reduceCtorEq]))
          all_goals
            refine next _ ⟨?_, ?_, ?_, ?_, ?_, ?_, ?_⟩
            · simp only [go_sem, Int.reduceTMod, Int.reduceTDiv, Int.reduceDiv, Int.reduceMod, Int.reduceAdd, Int.reduceSub, Int.reduceMul, Int.reduceNeg, Int.reducePow, Int.reduceEq, ↓reduceIte, Nat.reduceEqDiff, Nat.reduceAdd, Nat.reduceMul, Nat.reduceLeDiff, Nat.reduceSub, Nat.reduceLT, Int.reduceToNat, Int.reduceLT, Int.reduceLE, reduceCtorEq]
            · simp only [q15, go_sem, Int.reduceTMod, Int.reduceTDiv, Int.reduceDiv, Int.reduceMod, Int.reduceAdd, Int.reduceSub, Int.reduceMul, Int.reduceNeg, Int.reducePow, Int.reduceEq, ↓reduceIte, Nat.reduceEqDiff, Nat.reduceAdd, Nat.reduceMul, Nat.reduceLeDiff, Nat.reduceSub, Nat.reduceLT, Int.reduceToNat, Int.reduceLT, Int.reduceLE, reduceCtorEq]
            · simp only [q14, hr1, go_sem, Int.reduceTMod, Int.reduceTDiv, Int.reduceDiv, Int.reduceMod, Int.reduceAdd, Int.reduceSub, Int.reduceMul, Int.reduceNeg, Int.reducePow, Int.reduceEq, ↓reduceIte, Nat.reduceEqDiff, Nat.reduceAdd, Nat.reduceMul, Nat.reduceLeDiff, Nat.reduceSub, Nat.reduceLT, Int.reduceToNat, Int.reduceLT, Int.reduceLE, reduceCtorEq]
            · simp only [q0, hr1, go_sem, Int.reduceTMod, Int.reduceTDiv, Int.reduceDiv, Int.reduceMod, Int.reduceAdd, Int.reduceSub, Int.reduceMul, Int.reduceNeg, Int.reducePow, Int.reduceEq, ↓reduceIte, Nat.reduceEqDiff, Nat.reduceAdd, Nat.reduceMul, Nat.reduceLeDiff, Nat.reduceSub, Nat.reduceLT, Int.reduceToNat, Int.reduceLT, Int.reduceLE, reduceCtorEq]
            · simp only [go_sem, Int.reduceTMod, Int.reduceTDiv, Int.reduceDiv, Int.reduceMod, Int.reduceAdd, Int.reduceSub, Int.reduceMul, Int.reduceNeg, Int.reducePow, Int.reduceEq, ↓reduceIte, Nat.reduceEqDiff, Nat.reduceAdd, Nat.reduceMul, Nat.reduceLeDiff, Nat.reduceSub, Nat.reduceLT, Int.reduceToNat, Int.reduceLT, Int.reduceLE, reduceCtorEq]
              rw [hv]
              simp [*]
            · simp only [go_sem, Int.reduceTMod, Int.reduceTDiv, Int.reduceDiv, Int.reduceMod, Int.reduceAdd, Int.reduceSub, Int.reduceMul, Int.reduceNeg, Int.reducePow, Int.reduceEq, ↓reduceIte, Nat.reduceEqDiff, Nat.reduceAdd, Nat.reduceMul, Nat.reduceLeDiff, Nat.reduceSub, Nat.reduceLT, Int.reduceToNat, Int.reduceLT, Int.reduceLE, reduceCtorEq]
              omega
            · intro id2 h2
              exact hfr _ _ id2 h2
    · obtain ⟨e, M, N⟩ := s
      obtain ⟨q16, q15, q14, q0, q3, qn, qm⟩ := hs
      simp only at q16 q15 q14 q0 q3 qn qm
      have c2 : ((l.length : Int) < (l.length : Int)) = False := eq_false (by omega)
      have e3 : (f && stTo l l.length) = stopsB l := by rw [hf]; rfl
      rw [e3] at q3
      cases h : stopsB l <;> rw [h] at q3
      · skip
        try simp only [r32_0, r32_1, r32_2, r32_3, r32_4, r32_5, r32_6, r32_7, r32_8, r32_9, c32, F32, l32_0, q16, q15, q3, c2, go_sem, Int.reduceTMod, Int.reduceTDiv, Int.reduceDiv, Int.reduceMod, Int.reduceAdd, Int.reduceSub, Int.reduceMul, Int.reduceNeg, Int.reducePow, Int.reduceEq, ↓reduceIte, Nat.reduceEqDiff, Nat.reduceAdd, Nat.reduceMul, Nat.reduceLeDiff, Nat.reduceSub, Nat.reduceLT, Int.reduceToNat, Int.reduceLT, Int.reduceLE, reduceCtorEq]
        repeat' ((first | refine FK_split (fun h_ => ?_) (fun h_ => ?_) | refine GK_split (fun h_ => ?_) (fun h_ => ?_) | refine ite_both (fun h_ => ?_) (fun h_ => ?_)) <;> (try simp only [decide_eq_true_eq, decide_eq_false_iff_not, Bool.not_true, Bool.not_false, Bool.not_eq_true', Bool.not_eq_false', Bool.not_eq_eq_eq_not, Decidable.not_not] at h_) <;> (try simp only [r32_0, r32_1, r32_2, r32_3, r32_4, r32_5, r32_6, r32_7, r32_8, r32_9, c32, F32, l32_0, q16, q15, q3, c2, h_, go_sem, Int.reduceTMod, Int.reduceTDiv, Int.reduceDiv, Int.reduceMod, Int.reduceAdd, Int.reduceSub, Int.reduceMul, Int.reduceNeg, Int.reducePow, Int.reduceEq, ↓reduceIte, Nat.reduceEqDiff, Nat.reduceAdd, Nat.reduceMul, Nat.reduceLeDiff, Nat.reduceSub, Nat.reduceLT, Int.reduceToNat, Int.reduceLT, Int.reduceLE, reduceCtorEq]))
      · skip
        try simp only [r32_0, r32_1, r32_2, r32_3, r32_4, r32_5, r32_6, r32_7, r32_8, r32_9, c32, F32, l32_0, q16, q15, q3, c2, go_sem, Int.reduceTMod, Int.reduceTDiv, Int.reduceDiv, Int.reduceMod, Int.reduceAdd, Int.reduceSub, Int.reduceMul, Int.reduceNeg, Int.reducePow, Int.reduceEq, ↓reduceIte, Nat.reduceEqDiff, Nat.reduceAdd, Nat.reduceMul, Nat.reduceLeDiff, Nat.reduceSub, Nat.reduceLT, Int.reduceToNat, Int.reduceLT, Int.reduceLE, reduceCtorEq]
        repeat' ((first | refine FK_split (fun h_ => ?_) (fun h_ => ?_) | refine GK_split (fun h_ => ?_) (fun h_ => ?_) | refine ite_both (fun h_ => ?_) (fun h_ => ?_)) <;> (try simp only [decide_eq_true_eq, decide_eq_false_iff_not, Bool.not_true, Bool.not_false, Bool.not_eq_true', Bool.not_eq_false', Bool.not_eq_eq_eq_not, Decidable.not_not] at h_) <;> (try simp only [r32_0, r32_1, r32_2, r32_3, r32_4, r32_5, r32_6, r32_7, r32_8, r32_9, c32, F32, l32_0, q16, q15, q3, c2, h_, go_sem, Int.reduceTMod, Int.reduceTDiv, Int.reduceDiv, Int.reduceMod, Int.reduceAdd, Int.reduceSub, Int.reduceMul, Int.reduceNeg, Int.reducePow, Int.reduceEq, ↓reduceIte, Nat.reduceEqDiff, Nat.reduceAdd, Nat.reduceMul, Nat.reduceLeDiff, Nat.reduceSub, Nat.reduceLT, Int.reduceToNat, Int.reduceLT, Int.reduceLE, reduceCtorEq]))
    · simp only [h3, stTo, go_sem, Int.reduceTMod, Int.reduceTDiv, Int.reduceDiv, Int.reduceMod, Int.reduceAdd, Int.reduceSub, Int.reduceMul, Int.reduceNeg, Int.reducePow, Int.reduceEq, ↓reduceIte, Nat.reduceEqDiff, Nat.reduceAdd, Nat.reduceMul, Nat.reduceLeDiff, Nat.reduceSub, Nat.reduceLT, Int.reduceToNat, Int.reduceLT, Int.reduceLE, reduceCtorEq]
  have d1 : (1 ≤ (l.length : Int)) = (1 ≤ l.length) := by apply propext; omega
  by_cases a1 : (1 : Int) ≤ l.length
  · by_cases a2 : (l.length : Int) ≤ 16
    · have hf : lenB l = true := by rw [← e2, decide_eq_true a1, decide_eq_true a2]; rfl
      try simp only [r32_0, r32_1, r32_2, r32_3, r32_4, r32_5, r32_6, r32_7, r32_8, r32_9, c32, F32, hlen, a1, a2, go_sem, Int.reduceTMod, Int.reduceTDiv, Int.reduceDiv, Int.reduceMod, Int.reduceAdd, Int.reduceSub, Int.reduceMul, Int.reduceNeg, Int.reducePow, Int.reduceEq, ↓reduceIte, Nat.reduceEqDiff, Nat.reduceAdd, Nat.reduceMul, Nat.reduceLeDiff, Nat.reduceSub, Nat.reduceLT, Int.reduceToNat, Int.reduceLT, Int.reduceLE, reduceCtorEq]
      repeat' ((first | refine FK_split (fun h_ => ?_) (fun h_ => ?_) | refine GK_split (fun h_ => ?_) (fun h_ => ?_) | refine ite_both (fun h_ => ?_) (fun h_ => ?_)) <;> (try simp only [decide_eq_true_eq, decide_eq_false_iff_not, Bool.not_true, Bool.not_false, Bool.not_eq_true', Bool.not_eq_false', Bool.not_eq_eq_eq_not, Decidable.not_not] at h_) <;> (try simp only [r32_0, r32_1, r32_2, r32_3, r32_4, r32_5, r32_6, r32_7, r32_8, r32_9, c32, F32, hlen, a1, a2, h_, go_sem, Int.reduceTMod, Int.reduceTDiv, Int.reduceDiv, Int.reduceMod, Int.reduceAdd, Int.reduceSub, Int.reduceMul, Int.reduceNeg, Int.reducePow, Int.reduceEq, ↓reduceIte, Nat.reduceEqDiff, Nat.reduceAdd, Nat.reduceMul, Nat.reduceLeDiff, Nat.reduceSub, Nat.reduceLT, Int.reduceToNat, Int.reduceLT, Int.reduceLE, reduceCtorEq]))
      exact go true _ hf.symm (by simp only [go_sem, Int.reduceTMod, Int.reduceTDiv, Int.reduceDiv, Int.reduceMod, Int.reduceAdd, Int.reduceSub, Int.reduceMul, Int.reduceNeg, Int.reducePow, Int.reduceEq, ↓reduceIte, Nat.reduceEqDiff, Nat.reduceAdd, Nat.reduceMul, Nat.reduceLeDiff, Nat.reduceSub, Nat.reduceLT, Int.reduceToNat, Int.reduceLT, Int.reduceLE, reduceCtorEq]) (by simp only [go_sem, Int.reduceTMod, Int.reduceTDiv, Int.reduceDiv, Int.reduceMod, Int.reduceAdd, Int.reduceSub, Int.reduceMul, Int.reduceNeg, Int.reducePow, Int.reduceEq, ↓reduceIte, Nat.reduceEqDiff, Nat.reduceAdd, Nat.reduceMul, Nat.reduceLeDiff, Nat.reduceSub, Nat.reduceLT, Int.reduceToNat, Int.reduceLT, Int.reduceLE, reduceCtorEq]) (by simp only [go_sem, Int.reduceTMod, Int.reduceTDiv, Int.reduceDiv, Int.reduceMod, Int.reduceAdd, Int.reduceSub, Int.reduceMul, Int.reduceNeg, Int.reducePow, Int.reduceEq, ↓reduceIte, Nat.reduceEqDiff, Nat.reduceAdd, Nat.reduceMul, Nat.reduceLeDiff, Nat.reduceSub, Nat.reduceLT, Int.reduceToNat, Int.reduceLT, Int.reduceLE, reduceCtorEq]) (by simp only [go_sem, Int.reduceTMod, Int.reduceTDiv, Int.reduceDiv, Int.reduceMod, Int.reduceAdd, Int.reduceSub, Int.reduceMul, Int.reduceNeg, Int.reducePow, Int.reduceEq, ↓reduceIte, Nat.reduceEqDiff, Nat.reduceAdd, Nat.reduceMul, Nat.reduceLeDiff, Nat.reduceSub, Nat.reduceLT, Int.reduceToNat, Int.reduceLT, Int.reduceLE, reduceCtorEq]) (by simp only [go_sem, Int.reduceTMod, Int.reduceTDiv, Int.reduceDiv, Int.reduceMod, Int.reduceAdd, Int.reduceSub, Int.reduceMul, Int.reduceNeg, Int.reducePow, Int.reduceEq, ↓reduceIte, Nat.reduceEqDiff, Nat.reduceAdd, Nat.reduceMul, Nat.reduceLeDiff, Nat.reduceSub, Nat.reduceLT, Int.reduceToNat, Int.reduceLT, Int.reduceLE, reduceCtorEq])
    · have hf : lenB l = false := by rw [← e2, decide_eq_false a2, Bool.and_false]
      try simp only [r32_0, r32_1, r32_2, r32_3, r32_4, r32_5, r32_6, r32_7, r32_8, r32_9, c32, F32, hlen, a1, a2, go_sem, Int.reduceTMod, Int.reduceTDiv, Int.reduceDiv, Int.reduceMod, Int.reduceAdd, Int.reduceSub, Int.reduceMul, Int.reduceNeg, Int.reducePow, Int.reduceEq, ↓reduceIte, Nat.reduceEqDiff, Nat.reduceAdd, Nat.reduceMul, Nat.reduceLeDiff, Nat.reduceSub, Nat.reduceLT, Int.reduceToNat, Int.reduceLT, Int.reduceLE, reduceCtorEq]
      repeat' ((first | refine FK_split (fun h_ => ?_) (fun h_ => ?_) | refine GK_split (fun h_ => ?_) (fun h_ => ?_) | refine ite_both (fun h_ => ?_) (fun h_ => ?_)) <;> (try simp only [decide_eq_true_eq, decide_eq_false_iff_not, Bool.not_true, Bool.not_false, Bool.not_eq_true', Bool.not_eq_false', Bool.not_eq_eq_eq_not, Decidable.not_not] at h_) <;> (try simp only [r32_0, r32_1, r32_2, r32_3, r32_4, r32_5, r32_6, r32_7, r32_8, r32_9, c32, F32, hlen, a1, a2, h_, go_sem, Int.reduceTMod, Int.reduceTDiv, Int.reduceDiv, Int.reduceMod, Int.reduceAdd, Int.reduceSub, Int.reduceMul, Int.reduceNeg, Int.reducePow, Int.reduceEq, ↓reduceIte, Nat.reduceEqDiff, Nat.reduceAdd, Nat.reduceMul, Nat.reduceLeDiff, Nat.reduceSub, Nat.reduceLT, Int.reduceToNat, Int.reduceLT, Int.reduceLE, reduceCtorEq]))
      exact go false _ hf.symm (by simp only [go_sem, Int.reduceTMod, Int.reduceTDiv, Int.reduceDiv, Int.reduceMod, Int.reduceAdd, Int.reduceSub, Int.reduceMul, Int.reduceNeg, Int.reducePow, Int.reduceEq, ↓reduceIte, Nat.reduceEqDiff, Nat.reduceAdd, Nat.reduceMul, Nat.reduceLeDiff, Nat.reduceSub, Nat.reduceLT, Int.reduceToNat, Int.reduceLT, Int.reduceLE, reduceCtorEq]) (by simp only [go_sem, Int.reduceTMod, Int.reduceTDiv, Int.reduceDiv, Int.reduceMod, Int.reduceAdd, Int.reduceSub, Int.reduceMul, Int.reduceNeg, Int.reducePow, Int.reduceEq, ↓reduceIte, Nat.reduceEqDiff, Nat.reduceAdd, Nat.reduceMul, Nat.reduceLeDiff, Nat.reduceSub, Nat.reduceLT, Int.reduceToNat, Int.reduceLT, Int.reduceLE, reduceCtorEq]) (by simp only [go_sem, Int.reduceTMod, Int.reduceTDiv, Int.reduceDiv, Int.reduceMod, Int.reduceAdd, Int.reduceSub, Int.reduceMul, Int.reduceNeg, Int.reducePow, Int.reduceEq, ↓reduceIte, Nat.reduceEqDiff, Nat.reduceAdd, Nat.reduceMul, Nat.reduceLeDiff, Nat.reduceSub, Nat.reduceLT, Int.reduceToNat, Int.reduceLT, Int.reduceLE, reduceCtorEq]) (by simp only [go_sem, Int.reduceTMod, Int.reduceTDiv, Int.reduceDiv, Int.reduceMod, Int.reduceAdd, Int.reduceSub, Int.reduceMul, Int.reduceNeg, Int.reducePow, Int.reduceEq, ↓reduceIte, Nat.reduceEqDiff, Nat.reduceAdd, Nat.reduceMul, Nat.reduceLeDiff, Nat.reduceSub, Nat.reduceLT, Int.reduceToNat, Int.reduceLT, Int.reduceLE, reduceCtorEq]) (by simp only [go_sem, Int.reduceTMod, Int.reduceTDiv, Int.reduceDiv, Int.reduceMod, Int.reduceAdd, Int.reduceSub, Int.reduceMul, Int.reduceNeg, Int.reducePow, Int.reduceEq, ↓reduceIte, Nat.reduceEqDiff, Nat.reduceAdd, Nat.reduceMul, Nat.reduceLeDiff, Nat.reduceSub, Nat.reduceLT, Int.reduceToNat, Int.reduceLT, Int.reduceLE, reduceCtorEq])
  · have hf : lenB l = false := by rw [← e2, decide_eq_false a1, Bool.false_and]
    try simp only [r32_0, r32_1, r32_2, r32_3, r32_4, r32_5, r32_6, r32_7, r32_8, r32_9, c32, F32, hlen, a1, go_sem, Int.reduceTMod, Int.reduceTDiv, Int.reduceDiv, Int.reduceMod, Int.reduceAdd, Int.reduceSub, Int.reduceMul, Int.reduceNeg, Int.reducePow, Int.reduceEq, ↓reduceIte, Nat.reduceEqDiff, Nat.reduceAdd, Nat.reduceMul, Nat.reduceLeDiff, Nat.reduceSub, Nat.reduceLT, Int.reduceToNat, Int.reduceLT, Int.reduceLE, reduceCtorEq]
    repeat' ((first | refine FK_split (fun h_ => ?_) (fun h_ => ?_) | refine GK_split (fun h_ => ?_) (fun h_ => ?_) | refine ite_both (fun h_ => ?_) (fun h_ => ?_)) <;> (try simp only [decide_eq_true_eq, decide_eq_false_iff_not, Bool.not_true, Bool.not_false, Bool.not_eq_true', Bool.not_eq_false', Bool.not_eq_eq_eq_not, Decidable.not_not] at h_) <;> (try simp only [r32_0, r32_1, r32_2, r32_3, r32_4, r32_5, r32_6, r32_7, r32_8, r32_9, c32, F32, hlen, a1, h_, go_sem, Int.reduceTMod, Int.reduceTDiv, Int.reduceDiv, Int.reduceMod, Int.reduceAdd, Int.reduceSub, Int.reduceMul, Int.reduceNeg, Int.reducePow, Int.reduceEq, ↓reduceIte, Nat.reduceEqDiff, Nat.reduceAdd, Nat.reduceMul, Nat.reduceLeDiff, Nat.reduceSub, Nat.reduceLT, Int.reduceToNat, Int.reduceLT, Int.reduceLE, reduceCtorEq]))
    exact go false _ hf.symm (by simp only [go_sem, Int.reduceTMod, Int.reduceTDiv, Int.reduceDiv, Int.reduceMod, Int.reduceAdd, Int.reduceSub, Int.reduceMul, Int.reduceNeg, Int.reducePow, Int.reduceEq, ↓reduceIte, Nat.reduceEqDiff, Nat.reduceAdd, Nat.reduceMul, Nat.reduceLeDiff, Nat.reduceSub, Nat.reduceLT, Int.reduceToNat, Int.reduceLT, Int.reduceLE, reduceCtorEq]) (by simp only [go_sem, Int.reduceTMod, Int.reduceTDiv, Int.reduceDiv, Int.reduceMod, Int.reduceAdd, Int.reduceSub, Int.reduceMul, Int.reduceNeg, Int.reducePow, Int.reduceEq, ↓reduceIte, Nat.reduceEqDiff, Nat.reduceAdd, Nat.reduceMul, Nat.reduceLeDiff, Nat.reduceSub, Nat.reduceLT, Int.reduceToNat, Int.reduceLT, Int.reduceLE, reduceCtorEq]) (by simp only [go_sem, Int.reduceTMod, Int.reduceTDiv, Int.reduceDiv, Int.reduceMod, Int.reduceAdd, Int.reduceSub, Int.reduceMul, Int.reduceNeg, Int.reducePow, Int.reduceEq, ↓reduceIte, Nat.reduceEqDiff, Nat.reduceAdd, Nat.reduceMul, Nat.reduceLeDiff, Nat.reduceSub, Nat.reduceLT, Int.reduceToNat, Int.reduceLT, Int.reduceLE, reduceCtorEq]) (by simp only [go_sem, Int.reduceTMod, Int.reduceTDiv, Int.reduceDiv, Int.reduceMod, Int.reduceAdd, Int.reduceSub, Int.reduceMul, Int.reduceNeg, Int.reducePow, Int.reduceEq, ↓reduceIte, Nat.reduceEqDiff, Nat.reduceAdd, Nat.reduceMul, Nat.reduceLeDiff, Nat.reduceSub, Nat.reduceLT, Int.reduceToNat, Int.reduceLT, Int.reduceLE, reduceCtorEq]) (by simp only [go_sem, Int.reduceTMod, Int.reduceTDiv, Int.reduceDiv, Int.reduceMod, Int.reduceAdd, Int.reduceSub, Int.reduceMul, Int.reduceNeg, Int.reducePow, Int.reduceEq, ↓reduceIte, Nat.reduceEqDiff, Nat.reduceAdd, Nat.reduceMul, Nat.reduceLeDiff, Nat.reduceSub, Nat.reduceLT, Int.reduceToNat, Int.reduceLT, Int.reduceLE, reduceCtorEq])
def stpB (s t : Stp) : Bool := s.a == t.a && (s.c0 == t.c0 && (s.c1 == t.c1 && (s.c2 == t.c2 && s.c3 == t.c3)))
theorem stpB_iff {s t : Stp} : stpB s t = true ↔ s = t := by
  cases s; cases t
  simp [stpB]
theorem v_EqS (r1 r2 : Reg) (l k : List Stp) (m : Mem) (n : Nat) (h1 : RSt m n r1 l) (h2 : RSt m n r2 k) (hl : l.length < 4294967296) : callF TA 33 [r1, r2] m n = some (RB (decide (l = k))) := by
  refine callF_of (Fn_ofK (fn := F33) rfl (by simp [F33]) ?_)
  have hlen1 := h1.len
  have hlen2 := h2.len
  by_cases hc : l.length = k.length
  · have hc' : ((l.length : Int) = (k.length : Int)) = True := eq_true (by omega)
    try simp only [r33_0, r33_1, r33_2, r33_3, r33_4, r33_5, r33_6, r33_7, r33_8, r33_9, c33, F33, hlen1, hlen2, hc', go_sem, Int.reduceTMod, Int.reduceTDiv, Int.reduceDiv, Int.reduceMod, Int.reduceAdd, Int.reduceSub, Int.reduceMul, Int.reduceNeg, Int.reducePow, Int.reduceEq, ↓reduceIte, Nat.reduceEqDiff, Nat.reduceAdd, Nat.reduceMul, Nat.reduceLeDiff, Nat.reduceSub, Nat.reduceLT, Int.reduceToNat, Int.reduceLT, Int.reduceLE, reduceCtorEq]
    repeat' ((first | refine FK_split (fun h_ => ?_) (fun h_ => ?_) | refine GK_split (fun h_ => ?_) (fun h_ => ?_) | refine ite_both (fun h_ => ?_) (fun h_ => ?_)) <;> (try simp only [decide_eq_true_eq, decide_eq_false_iff_not, Bool.not_true, Bool.not_false, Bool.not_eq_true', Bool.not_eq_false', Bool.not_eq_eq_eq_not, Decidable.not_not] at h_) <;> (try simp only [r33_0, r33_1, r33_2, r33_3, r33_4, r33_5, r33_6, r33_7, r33_8, r33_9, c33, F33, hlen1, hlen2, hc', h_, go_sem, Int.reduceTMod, Int.reduceTDiv, Int.reduceDiv, Int.reduceMod, Int.reduceAdd, Int.reduceSub, Int.reduceMul, Int.reduceNeg, Int.reducePow, Int.reduceEq, ↓reduceIte, Nat.reduceEqDiff, Nat.reduceAdd, Nat.reduceMul, Nat.reduceLeDiff, Nat.reduceSub, Nat.reduceLT, Int.reduceToNat, Int.reduceLT, Int.reduceLE, reduceCtorEq]))
    refine XK_iter (inv := fun i s => s.e 13 = RI i ∧ s.e 12 = RI l.length ∧ s.e 0 = r1 ∧ s.e 1 = r2 ∧ s.m = m ∧ s.n = n ∧ l.take i = k.take i) l.length
      (fun L _ => ⟨fun i hi s hs next => ?_, fun s hs => ?_⟩) 0 (by omega) _ ?_
    · obtain ⟨e, M, N⟩ := s
      obtain ⟨q13, q12, q0, q1, qm, qn, qa⟩ := hs
      simp only at q13 q12 q0 q1 qm qn qa
      subst qm
      subst qn
      have hp : l[i]? = some l[i] := List.getElem?_eq_getElem hi
      have hq : k[i]? = some (k[i]'(by omega)) := List.getElem?_eq_getElem (by omega)
      obtain ⟨id, off, cap, hr1, hid, hb⟩ := h1.at cs5 hp
      obtain ⟨id2, off2, cap2, hr2, hid2, hb2⟩ := h2.at cs5 hq
      generalize l[i] = p at *
      generalize (k[i]'(by omega)) = q at *
      have c2 : ((i : Int) < (l.length : Int)) = True := eq_true (by omega)
      have c2' : ((i : Int) < (k.length : Int)) = True := eq_true (by omega)
      have c3 : (0 ≤ (i : Int)) = True := eq_true (by omega)
      have c7 : IntKind.i64.wrap ((i : Int) + 1) = ((i + 1 : Nat) : Int) := wr_nat (by omega)
      rw [hr1] at q0
      rw [hr2] at q1
      have hst : (p.a == q.a && (p.c0 == q.c0 && (p.c1 == q.c1 && (p.c2 == q.c2 && p.c3 == q.c3)))) = stpB p q := rfl
      cases e : stpB p q
      · have e' : p ≠ q := fun h => by rw [stpB_iff.2 h] at e; cases e
        have hne : l ≠ k := fun h => e' (by rw [h, hq] at hp; exact (Option.some.inj hp).symm)
        have hf : decide (l = k) = false := decide_eq_false hne
        rw [e] at hst
        try simp only [r33_0, r33_1, r33_2, r33_3, r33_4, r33_5, r33_6, r33_7, r33_8, r33_9, c33, F33, l33_0, q13, q12, q0, q1, c2, c2', c3, c7, hb, hb2, hst, hf, Int.toNat_natCast, go_sem, Int.reduceTMod, Int.reduceTDiv, Int.reduceDiv, Int.reduceMod, Int.reduceAdd, Int.reduceSub, Int.reduceMul, Int.reduceNeg, Int.reducePow, Int.reduceEq, ↓reduceIte, Nat.reduceEqDiff, Nat.reduceAdd, Nat.reduceMul, Nat.reduceLeDiff, Nat.reduceSub, Nat.reduceLT, Int.reduceToNat, Int.reduceLT, Int.reduceLE, reduceCtorEq]
        repeat' ((first | refine FK_split (fun h_ => ?_) (fun h_ => ?_) | refine GK_split (fun h_ => ?_) (fun h_ => ?_) | refine ite_both (fun h_ => ?_) (fun h_ => ?_)) <;> (try simp only [decide_eq_true_eq, decide_eq_false_iff_not, Bool.not_true, Bool.not_false, Bool.not_eq_true', Bool.not_eq_false', Bool.not_eq_eq_eq_not, Decidable.not_not] at h_) <;> (try simp only [r33_0, r33_1, r33_2, r33_3, r33_4, r33_5, r33_6, r33_7, r33_8, r33_9, c33, F33, l33_0, q13, q12, q0, q1, c2, c2', c3, c7, hb, hb2, hst, hf, Int.toNat_natCast, h_, go_sem, Int.reduceTMod, Int.reduceTDiv, Int.reduceDiv, Int.reduceMod, Int.reduceAdd, Int.reduceSub, Int.reduceMul, Int.reduceNeg, Int.reducePow, Int.reduceEq, ↓reduceIte, Nat.reduceEqDiff, Nat.reduceAdd, Nat.reduceMul, Nat.reduceLeDiff, Nat.reduceSub, Nat.reduceLT, Int.reduceToNat, Int.reduceLT, Int.reduceLE, reduceCtorEq]))
      · have e' := stpB_iff.1 e
        rw [e] at hst
        have hts : l.take (i + 1) = k.take (i + 1) := by rw [List.take_add_one, List.take_add_one, qa, hp, hq, e']
        try simp only [r33_0, r33_1, r33_2, r33_3, r33_4, r33_5, r33_6, r33_7, r33_8, r33_9, c33, F33, l33_0, q13, q12, q0, q1, c2, c2', c3, c7, hb, hb2, hst, Int.toNat_natCast, go_sem, Int.reduceTMod, Int.reduceTDiv, Int.reduceDiv, Int.reduceMod, Int.reduceAdd, Int.reduceSub, Int.reduceMul, Int.reduceNeg, Int.reducePow, Int.reduceEq, ↓reduceIte, Nat.reduceEqDiff, Nat.reduceAdd, Nat.reduceMul, Nat.reduceLeDiff, Nat.reduceSub, Nat.reduceLT, Int.reduceToNat, Int.reduceLT, Int.reduceLE, reduceCtorEq]
        repeat' ((first | refine FK_split (fun h_ => ?_) (fun h_ => ?_) | refine GK_split (fun h_ => ?_) (fun h_ => ?_) | refine ite_both (fun h_ => ?_) (fun h_ => ?_)) <;> (try simp only [decide_eq_true_eq, decide_eq_false_iff_not, Bool.not_true, Bool.not_false, Bool.not_eq_true', Bool.not_eq_false', Bool.not_eq_eq_eq_not, Decidable.not_not] at h_) <;> (try simp only [r33_0, r33_1, r33_2, r33_3, r33_4, r33_5, r33_6, r33_7, r33_8, r33_9, c33, F33, l33_0, q13, q12, q0, q1, c2, c2', c3, c7, hb, hb2, hst, Int.toNat_natCast, h_, go_sem, Int.reduceTMod, Int.reduceTDiv, Int.reduceDiv, Int.reduceMod, Int.reduceAdd, Int.reduceSub, Int.reduceMul, Int.reduceNeg, Int.reducePow, Int.reduceEq, ↓reduceIte, Nat.reduceEqDiff, Nat.reduceAdd, Nat.reduceMul, Nat.reduceLeDiff, Nat.reduceSub, Nat.reduceLT, Int.reduceToNat, Int.reduceLT, Int.reduceLE, reduceCtorEq]))
        refine next _ ⟨?_, ?_, ?_, ?_, rfl, rfl, hts⟩
        · simp only [go_sem, Int.reduceTMod, Int.reduceTDiv, Int.reduceDiv, Int.reduceMod, Int.reduceAdd, Int.reduceSub, Int.reduceMul, Int.reduceNeg, Int.reducePow, Int.reduceEq, ↓reduceIte, Nat.reduceEqDiff, Nat.reduceAdd, Nat.reduceMul, Nat.reduceLeDiff, Nat.reduceSub, Nat.reduceLT, Int.reduceToNat, Int.reduceLT, Int.reduceLE, reduceCtorEq]
        · simp only [q12, go_sem, Int.reduceTMod, Int.reduceTDiv, Int.reduceDiv, Int.reduceMod, Int.reduceAdd, Int.reduceSub, Int.reduceMul, Int.reduceNeg, Int.reducePow, Int.reduceEq, ↓reduceIte, Nat.reduceEqDiff, Nat.reduceAdd, Nat.reduceMul, Nat.reduceLeDiff, Nat.reduceSub, Nat.reduceLT, Int.reduceToNat, Int.reduceLT, Int.reduceLE, reduceCtorEq]
        · simp only [q0, hr1, go_sem, Int.reduceTMod, Int.reduceTDiv, Int.reduceDiv, Int.reduceMod, Int.reduceAdd, Int.reduceSub, Int.reduceMul, Int.reduceNeg, Int.reducePow, Int.reduceEq, ↓reduceIte, Nat.reduceEqDiff, Nat.reduceAdd, Nat.reduceMul, Nat.reduceLeDiff, Nat.reduceSub, Nat.reduceLT, Int.reduceToNat, Int.reduceLT, Int.reduceLE, reduceCtorEq]
        · simp only [q1, hr2, go_sem, Int.reduceTMod, Int.reduceTDiv, Int.reduceDiv, Int.reduceMod, Int.reduceAdd, Int.reduceSub, Int.reduceMul, Int.reduceNeg, Int.reducePow, Int.reduceEq, ↓reduceIte, Nat.reduceEqDiff, Nat.reduceAdd, Nat.reduceMul, Nat.reduceLeDiff, Nat.reduceSub, Nat.reduceLT, Int.reduceToNat, Int.reduceLT, Int.reduceLE, reduceCtorEq]
    · obtain ⟨q13, q12, q0, q1, qm, qn, qa⟩ := hs
      have c2 : ((l.length : Int) < (l.length : Int)) = False := eq_false (by omega)
      have hf : decide (l = k) = true := by
        rw [List.take_length, hc, List.take_length] at qa
        exact decide_eq_true qa
      try simp only [r33_0, r33_1, r33_2, r33_3, r33_4, r33_5, r33_6, r33_7, r33_8, r33_9, c33, F33, l33_0, q13, q12, q0, q1, qm, qn, c2, hf, go_sem, Int.reduceTMod, Int.reduceTDiv, Int.reduceDiv, Int.reduceMod, Int.reduceAdd, Int.reduceSub, Int.reduceMul, Int.reduceNeg, Int.reducePow, Int.reduceEq, ↓reduceIte, Nat.reduceEqDiff, Nat.reduceAdd, Nat.reduceMul, Nat.reduceLeDiff, Nat.reduceSub, Nat.reduceLT, Int.reduceToNat, Int.reduceLT, Int.reduceLE, reduceCtorEq]
      repeat' ((first | refine FK_split (fun h_ => ?_) (fun h_ => ?_) | refine GK_split (fun h_ => ?_) (fun h_ => ?_) | refine ite_both (fun h_ => ?_) (fun h_ => ?_)) <;> (try simp only [decide_eq_true_eq, decide_eq_false_iff_not, Bool.not_true, Bool.not_false, Bool.not_eq_true', Bool.not_eq_false', Bool.not_eq_eq_eq_not, Decidable.not_not] at h_) <;> (try simp only [r33_0, r33_1, r33_2, r33_3, r33_4, r33_5, r33_6, r33_7, r33_8, r33_9, c33, F33, l33_0, q13, q12, q0, q1, qm, qn, c2, hf, h_, go_sem, Int.reduceTMod, Int.reduceTDiv, Int.reduceDiv, Int.reduceMod, Int.reduceAdd, Int.reduceSub, Int.reduceMul, Int.reduceNeg, Int.reducePow, Int.reduceEq, ↓reduceIte, Nat.reduceEqDiff, Nat.reduceAdd, Nat.reduceMul, Nat.reduceLeDiff, Nat.reduceSub, Nat.reduceLT, Int.reduceToNat, Int.reduceLT, Int.reduceLE, reduceCtorEq]))
    · simp only [List.take_zero, go_sem, Int.reduceTMod, Int.reduceTDiv, Int.reduceDiv, Int.reduceMod, Int.reduceAdd, Int.reduceSub, Int.reduceMul, Int.reduceNeg, Int.reducePow, Int.reduceEq, ↓reduceIte, Nat.reduceEqDiff, Nat.reduceAdd, Nat.reduceMul, Nat.reduceLeDiff, Nat.reduceSub, Nat.reduceLT, Int.reduceToNat, Int.reduceLT, Int.reduceLE, reduceCtorEq]
  · have hc' : ((l.length : Int) = (k.length : Int)) = False := eq_false (by omega)
    have hf : decide (l = k) = false := decide_eq_false (fun h => hc (by rw [h]))
    try simp only [r33_0, r33_1, r33_2, r33_3, r33_4, r33_5, r33_6, r33_7, r33_8, r33_9, c33, F33, hlen1, hlen2, hc', hf, go_sem, Int.reduceTMod, Int.reduceTDiv, Int.reduceDiv, Int.reduceMod, Int.reduceAdd, Int.reduceSub, Int.reduceMul, Int.reduceNeg, Int.reducePow, Int.reduceEq, ↓reduceIte, Nat.reduceEqDiff, Nat.reduceAdd, Nat.reduceMul, Nat.reduceLeDiff, Nat.reduceSub, Nat.reduceLT, Int.reduceToNat, Int.reduceLT, Int.reduceLE, reduceCtorEq]
    repeat' ((first | refine FK_split (fun h_ => ?_) (fun h_ => ?_) | refine GK_split (fun h_ => ?_) (fun h_ => ?_) | refine ite_both (fun h_ => ?_) (fun h_ => ?_)) <;> (try simp only [decide_eq_true_eq, decide_eq_false_iff_not, Bool.not_true, Bool.not_false, Bool.not_eq_true', Bool.not_eq_false', Bool.not_eq_eq_eq_not, Decidable.not_not] at h_) <;> (try simp only [r33_0, r33_1, r33_2, r33_3, r33_4, r33_5, r33_6, r33_7, r33_8, r33_9, c33, F33, hlen1, hlen2, hc', hf, h_, go_sem, Int.reduceTMod, Int.reduceTDiv, Int.reduceDiv, Int.reduceMod, Int.reduceAdd, Int.reduceSub, Int.reduceMul, Int.reduceNeg, Int.reducePow, Int.reduceEq, ↓reduceIte, Nat.reduceEqDiff, Nat.reduceAdd, Nat.reduceMul, Nat.reduceLeDiff, Nat.reduceSub, Nat.reduceLT, Int.reduceToNat, Int.reduceLT, Int.reduceLE, reduceCtorEq]))
theorem v_EqI (r1 r2 : Reg) (l k : List Int) (m : Mem) (n : Nat) (h1 : RIn m n r1 l) (h2 : RIn m n r2 k) (hl : l.length < 4294967296) : callF TA 38 [r1, r2] m n = some (RB (decide (l = k))) := by
  refine callF_of (Fn_ofK (fn := F38) rfl (by simp [F38]) ?_)
  have hlen1 := h1.len
  have hlen2 := h2.len
  by_cases hc : l.length = k.length
  · have hc' : ((l.length : Int) = (k.length : Int)) = True := eq_true (by omega)
    try simp only [r38_0, r38_1, r38_2, r38_3, r38_4, r38_5, r38_6, r38_7, r38_8, r38_9, c38, F38, hlen1, hlen2, hc', go_sem, Int.reduceTMod, Int.reduceTDiv, Int.reduceDiv, Int.reduceMod, Int.reduceAdd, Int.reduceSub, Int.reduceMul, Int.reduceNeg, Int.reducePow, Int.reduceEq, ↓reduceIte, Nat.reduceEqDiff, Nat.reduceAdd, Nat.reduceMul, Nat.reduceLeDiff, Nat.reduceSub, Nat.reduceLT, Int.reduceToNat, Int.reduceLT, Int.reduceLE, reduceCtorEq]
    repeat' ((first | refine FK_split (fun h_ => ?_) (fun h_ => ?_) | refine GK_split (fun h_ => ?_) (fun h_ => ?_) | refine ite_both (fun h_ => ?_) (fun h_ => ?_)) <;> (try simp only [decide_eq_true_eq, decide_eq_false_iff_not, Bool.not_true, Bool.not_false, Bool.not_eq_true', Bool.not_eq_false', Bool.not_eq_eq_eq_not, Decidable.not_not] at h_) <;> (try simp only [r38_0, r38_1, r38_2, r38_3, r38_4, r38_5, r38_6, r38_7, r38_8, r38_9, c38, F38, hlen1, hlen2, hc', h_, go_sem, Int.reduceTMod, Int.reduceTDiv, Int.reduceDiv, Int.reduceMod, Int.reduceAdd, Int.reduceSub, Int.reduceMul, Int.reduceNeg, Int.reducePow, Int.reduceEq, ↓reduceIte, Nat.reduceEqDiff, Nat.reduceAdd, Nat.reduceMul, Nat.reduceLeDiff, Nat.reduceSub, Nat.reduceLT, Int.reduceToNat, Int.reduceLT, Int.reduceLE, reduceCtorEq]))
    refine XK_iter (inv := fun i s => s.e 13 = RI i ∧ s.e 12 = RI l.length ∧ s.e 0 = r1 ∧ s.e 1 = r2 ∧ s.m = m ∧ s.n = n ∧ l.take i = k.take i) l.length
      (fun L _ => ⟨fun i hi s hs next => ?_, fun s hs => ?_⟩) 0 (by omega) _ ?_
    · obtain ⟨e, M, N⟩ := s
      obtain ⟨q13, q12, q0, q1, qm, qn, qa⟩ := hs
      simp only at q13 q12 q0 q1 qm qn qa
      subst qm
      subst qn
      have hp : l[i]? = some l[i] := List.getElem?_eq_getElem hi
      have hq : k[i]? = some (k[i]'(by omega)) := List.getElem?_eq_getElem (by omega)
      obtain ⟨id, off, cap, b, hr1, hid, hb, hb'⟩ := RL.int h1 hp
      obtain ⟨id2, off2, cap2, b2, hr2, hid2, hb2, hb2'⟩ := RL.int h2 hq
      generalize l[i] = p at *
      generalize (k[i]'(by omega)) = q at *
      have c2 : ((i : Int) < (l.length : Int)) = True := eq_true (by omega)
      have c2' : ((i : Int) < (k.length : Int)) = True := eq_true (by omega)
      have c3 : (0 ≤ (i : Int)) = True := eq_true (by omega)
      have c7 : IntKind.i64.wrap ((i : Int) + 1) = ((i + 1 : Nat) : Int) := wr_nat (by omega)
      rw [hr1] at q0
      rw [hr2] at q1
      by_cases e' : p = q
      · have hts : l.take (i + 1) = k.take (i + 1) := by rw [List.take_add_one, List.take_add_one, qa, hp, hq, e']
        try simp only [r38_0, r38_1, r38_2, r38_3, r38_4, r38_5, r38_6, r38_7, r38_8, r38_9, c38, F38, l38_0, q13, q12, q0, q1, c2, c2', c3, c7, hb, hb', hb2, hb2', e', Int.toNat_natCast, Nat.mul_one, go_sem, Int.reduceTMod, Int.reduceTDiv, Int.reduceDiv, Int.reduceMod, Int.reduceAdd, Int.reduceSub, Int.reduceMul, Int.reduceNeg, Int.reducePow, Int.reduceEq, ↓reduceIte, Nat.reduceEqDiff, Nat.reduceAdd, Nat.reduceMul, Nat.reduceLeDiff, Nat.reduceSub, Nat.reduceLT, Int.reduceToNat, Int.reduceLT, Int.reduceLE, reduceCtorEq]
        repeat' ((first | refine FK_split (fun h_ => ?_) (fun h_ => ?_) | refine GK_split (fun h_ => ?_) (fun h_ => ?_) | refine ite_both (fun h_ => ?_) (fun h_ => ?_)) <;> (try simp only [decide_eq_true_eq, decide_eq_false_iff_not, Bool.not_true, Bool.not_false, Bool.not_eq_true', Bool.not_eq_false', Bool.not_eq_eq_eq_not, Decidable.not_not] at h_) <;> (try simp only [r38_0, r38_1, r38_2, r38_3, r38_4, r38_5, r38_6, r38_7, r38_8, r38_9, c38, F38, l38_0, q13, q12, q0, q1, c2, c2', c3, c7, hb, hb', hb2, hb2', e', Int.toNat_natCast, Nat.mul_one, h_, go_sem, Int.reduceTMod, Int.reduceTDiv, Int.reduceDiv, Int.reduceMod, Int.reduceAdd, Int.reduceSub, Int.reduceMul, Int.reduceNeg, Int.reducePow, Int.reduceEq, ↓reduceIte, Nat.reduceEqDiff, Nat.reduceAdd, Nat.reduceMul, Nat.reduceLeDiff, Nat.reduceSub, Nat.reduceLT, Int.reduceToNat, Int.reduceLT, Int.reduceLE, reduceCtorEq]))
        refine next _ ⟨?_, ?_, ?_, ?_, rfl, rfl, hts⟩
        · simp only [go_sem, Int.reduceTMod, Int.reduceTDiv, Int.reduceDiv, Int.reduceMod, Int.reduceAdd, Int.reduceSub, Int.reduceMul, Int.reduceNeg, Int.reducePow, Int.reduceEq, ↓reduceIte, Nat.reduceEqDiff, Nat.reduceAdd, Nat.reduceMul, Nat.reduceLeDiff, Nat.reduceSub, Nat.reduceLT, Int.reduceToNat, Int.reduceLT, Int.reduceLE, reduceCtorEq]
        · simp only [q12, go_sem, Int.reduceTMod, Int.reduceTDiv, Int.reduceDiv, Int.reduceMod, Int.reduceAdd, Int.reduceSub, Int.reduceMul, Int.reduceNeg, Int.reducePow, Int.reduceEq, ↓reduceIte, Nat.reduceEqDiff, Nat.reduceAdd, Nat.reduceMul, Nat.reduceLeDiff, Nat.reduceSub, Nat.reduceLT, Int.reduceToNat, Int.reduceLT, Int.reduceLE, reduceCtorEq]
        · simp only [q0, hr1, go_sem, Int.reduceTMod, Int.reduceTDiv, Int.reduceDiv, Int.reduceMod, Int.reduceAdd, Int.reduceSub, Int.reduceMul, Int.reduceNeg, Int.reducePow, Int.reduceEq, ↓reduceIte, Nat.reduceEqDiff, Nat.reduceAdd, Nat.reduceMul, Nat.reduceLeDiff, Nat.reduceSub, Nat.reduceLT, Int.reduceToNat, Int.reduceLT, Int.reduceLE, reduceCtorEq]
        · simp only [q1, hr2, go_sem, Int.reduceTMod, Int.reduceTDiv, Int.reduceDiv, Int.reduceMod, Int.reduceAdd, Int.reduceSub, Int.reduceMul, Int.reduceNeg, Int.reducePow, Int.reduceEq, ↓reduceIte, Nat.reduceEqDiff, Nat.reduceAdd, Nat.reduceMul, Nat.reduceLeDiff, Nat.reduceSub, Nat.reduceLT, Int.reduceToNat, Int.reduceLT, Int.reduceLE, reduceCtorEq]
      · have hne : l ≠ k := fun h => e' (by rw [h, hq] at hp; exact (Option.some.inj hp).symm)
        have hf : decide (l = k) = false := decide_eq_false hne
        try simp only [r38_0, r38_1, r38_2, r38_3, r38_4, r38_5, r38_6, r38_7, r38_8, r38_9, c38, F38, l38_0, q13, q12, q0, q1, c2, c2', c3, c7, hb, hb', hb2, hb2', e', hf, Int.toNat_natCast, Nat.mul_one, go_sem, Int.reduceTMod, Int.reduceTDiv, Int.reduceDiv, Int.reduceMod, Int.reduceAdd, Int.reduceSub, Int.reduceMul, Int.reduceNeg, Int.reducePow, Int.reduceEq, ↓reduceIte, Nat.reduceEqDiff, Nat.reduceAdd, Nat.reduceMul, Nat.reduceLeDiff, Nat.reduceSub, Nat.reduceLT, Int.reduceToNat, Int.reduceLT, Int.reduceLE, reduceCtorEq]
        repeat' ((first | refine FK_split (fun h_ => ?_) (fun h_ => ?_) | refine GK_split (fun h_ => ?_) (fun h_ => ?_) | refine ite_both (fun h_ => ?_) (fun h_ => ?_)) <;> (try simp only [decide_eq_true_eq, decide_eq_false_iff_not, Bool.not_true, Bool.not_false, Bool.not_eq_true', Bool.not_eq_false', Bool.not_eq_eq_eq_not, Decidable.not_not] at h_) <;> (try simp only [r38_0, r38_1, r38_2, r38_3, r38_4, r38_5, r38_6, r38_7, r38_8, r38_9, c38, F38, l38_0, q13, q12, q0, q1, c2, c2', c3, c7, hb, hb', hb2, hb2', e', hf, Int.toNat_natCast, Nat.mul_one, h_, go_sem, Int.reduceTMod, Int.reduceTDiv, Int.reduceDiv, Int.reduceMod, Int.reduceAdd, Int.reduceSub, Int.reduceMul, Int.reduceNeg, Int.reducePow, Int.reduceEq, ↓reduceIte, Nat.reduceEqDiff, Nat.reduceAdd, Nat.reduceMul, Nat.reduceLeDiff, Nat.reduceSub, Nat.reduceLT, Int.reduceToNat, Int.reduceLT, Int.reduceLE, reduceCtorEq]))
    · obtain ⟨q13, q12, q0, q1, qm, qn, qa⟩ := hs
      have c2 : ((l.length : Int) < (l.length : Int)) = False := eq_false (by omega)
      have hf : decide (l = k) = true := by
        rw [List.take_length, hc, List.take_length] at qa
        exact decide_eq_true qa
      try simp only [r38_0, r38_1, r38_2, r38_3, r38_4, r38_5, r38_6, r38_7, r38_8, r38_9, c38, F38, l38_0, q13, q12, q0, q1, qm, qn, c2, hf, go_sem, Int.reduceTMod, Int.reduceTDiv, Int.reduceDiv, Int.reduceMod, Int.reduceAdd, Int.reduceSub, Int.reduceMul, Int.reduceNeg, Int.reducePow, Int.reduceEq, ↓reduceIte, Nat.reduceEqDiff, Nat.reduceAdd, Nat.reduceMul, Nat.reduceLeDiff, Nat.reduceSub, Nat.reduceLT, Int.reduceToNat, Int.reduceLT, Int.reduceLE, reduceCtorEq]
      repeat' ((first | refine FK_split (fun h_ => ?_) (fun h_ => ?_) | refine GK_split (fun h_ => ?_) (fun h_ => ?_) | refine ite_both (fun h_ => ?_) (fun h_ => ?_)) <;> (try simp only [decide_eq_true_eq, decide_eq_false_iff_not, Bool.not_true, Bool.not_false, Bool.not_eq_true', Bool.not_eq_false', Bool.not_eq_eq_eq_not, Decidable.not_not] at h_) <;> (try simp only [r38_0, r38_1, r38_2, r38_3, r38_4, r38_5, r38_6, r38_7, r38_8, r38_9, c38, F38, l38_0, q13, q12, q0, q1, qm, qn, c2, hf, h_, go_sem, Int.reduceTMod, Int.reduceTDiv, Int.reduceDiv, Int.reduceMod, Int.reduceAdd, Int.reduceSub, Int.reduceMul, Int.reduceNeg, Int.reducePow, Int.reduceEq, ↓reduceIte, Nat.reduceEqDiff, Nat.reduceAdd, Nat.reduceMul, Nat.reduceLeDiff, Nat.reduceSub, Nat.reduceLT, Int.reduceToNat, Int.reduceLT, Int.reduceLE, reduceCtorEq]))
    · simp only [List.take_zero, go_sem, Int.reduceTMod, Int.reduceTDiv, Int.reduceDiv, Int.reduceMod, Int.reduceAdd, Int.reduceSub, Int.reduceMul, Int.reduceNeg, Int.reducePow, Int.reduceEq, ↓reduceIte, Nat.reduceEqDiff, Nat.reduceAdd, Nat.reduceMul, Nat.reduceLeDiff, Nat.reduceSub, Nat.reduceLT, Int.reduceToNat, Int.reduceLT, Int.reduceLE, reduceCtorEq]
  · have hc' : ((l.length : Int) = (k.length : Int)) = False := eq_false (by omega)
    have hf : decide (l = k) = false := decide_eq_false (fun h => hc (by rw [h]))
    try simp only [r38_0, r38_1, r38_2, r38_3, r38_4, r38_5, r38_6, r38_7, r38_8, r38_9, c38, F38, hlen1, hlen2, hc', hf, go_sem, Int.reduceTMod, Int.reduceTDiv, Int.reduceDiv, Int.reduceMod, Int.reduceAdd, Int.reduceSub, Int.reduceMul, Int.reduceNeg, Int.reducePow, Int.reduceEq, ↓reduceIte, Nat.reduceEqDiff, Nat.reduceAdd, Nat.reduceMul, Nat.reduceLeDiff, Nat.reduceSub, Nat.reduceLT, Int.reduceToNat, Int.reduceLT, Int.reduceLE, reduceCtorEq]
    repeat' ((first | refine FK_split (fun h_ => ?_) (fun h_ => ?_) | refine GK_split (fun h_ => ?_) (fun h_ => ?_) | refine ite_both (fun h_ => ?_) (fun h_ => ?_)) <;> (try simp only [decide_eq_true_eq, decide_eq_false_iff_not, Bool.not_true, Bool.not_false, Bool.not_eq_true', Bool.not_eq_false', Bool.not_eq_eq_eq_not, Decidable.not_not] at h_) <;> (try simp only [r38_0, r38_1, r38_2, r38_3, r38_4, r38_5, r38_6, r38_7, r38_8, r38_9, c38, F38, hlen1, hlen2, hc', hf, h_, go_sem, Int.reduceTMod, Int.reduceTDiv, Int.reduceDiv, Int.reduceMod, Int.reduceAdd, Int.reduceSub, Int.reduceMul, Int.reduceNeg, Int.reducePow, Int.reduceEq, ↓reduceIte, Nat.reduceEqDiff, Nat.reduceAdd, Nat.reduceMul, Nat.reduceLeDiff, Nat.reduceSub, Nat.reduceLT, Int.reduceToNat, Int.reduceLT, Int.reduceLE, reduceCtorEq]))

end Go.Proofs.Ytffhhgcgnillaaa.Sy
