/- An evaluator of a part of Go's operations over a memory of its own, part sixteen: words for walks by it. Conditions: those that each theorem names. -/
import Derived.Test.YtkdbnmohpanpfaaSyO
namespace Go.Proofs.Ytkdbnmohpanpfaa.Sy
open Go
set_option linter.unusedVariables false
set_option linter.unusedSimpArgs false

/-- From the evaluator to the machine: a law that comes to true; where path.walk is ranged over. -/
theorem law_callsW {P : Program} {ng : Nat} {T : Nat → Option SFun} {mds : Nat → Nat → Mode} {clss : Nat → Nat → List (List Nat) × List (Nat × Nat)} {rf : Option (Nat × Nat)} (hW : ∀ fi nd, rf = some (fi, nd) → WalkOK P ng fi nd) (hmix : P.follows .mixedOrders = true)
    (hT : ∀ f sf, T f = some sf → ∃ fn, P.funcs[f]? = some fn ∧ slimF P ng (mds f) (clss f) rf fn = some sf) {f : Nat} {args : List Reg} {m : Mem} {n : Nat} (h : Fn T f args m n (fun r _ _ => r = .one (.sc (.bool true))))
    {ρ : Loc} {w : World} {vs : List Value} (hm : MRel ρ n w m) (hg : Glob ng ρ n) (hargs : RRels ρ n w args vs) (hown : ∀ id b, m id = some b → b.own = false) :
    Calls P f vs.toArray w (fun e w' => e = .returned (.bool true) ∧ Go.RowKit.Below w.heap.size w w') := by
  obtain ⟨k, r, m', n', h1, rfl⟩ := h
  refine (run_ok hmix hW hT k f args m n _ m' n' h1 ρ w vs hm hg hargs).2.mono fun e w' he => ?_
  obtain ⟨v, ρ', rfl, h2, h3⟩ := he
  have hv := sc_inv h3
  subst hv
  exact ⟨rfl, h2.fr.below (fun k hk => by obtain ⟨id, b, h4, h5, _⟩ := hk; rw [hown id b h4] at h5; cases h5)⟩
/-- From the evaluator to the machine: a law that comes to true. -/
theorem law_calls {P : Program} {ng : Nat} {T : Nat → Option SFun} {mds : Nat → Nat → Mode} {clss : Nat → Nat → List (List Nat) × List (Nat × Nat)} (hmix : P.follows .mixedOrders = true)
    (hT : ∀ f sf, T f = some sf → ∃ fn, P.funcs[f]? = some fn ∧ slimF P ng (mds f) (clss f) none fn = some sf) {f : Nat} {args : List Reg} {m : Mem} {n : Nat} (h : Fn T f args m n (fun r _ _ => r = .one (.sc (.bool true))))
    {ρ : Loc} {w : World} {vs : List Value} (hm : MRel ρ n w m) (hg : Glob ng ρ n) (hargs : RRels ρ n w args vs) (hown : ∀ id b, m id = some b → b.own = false) :
    Calls P f vs.toArray w (fun e w' => e = .returned (.bool true) ∧ Go.RowKit.Below w.heap.size w w') :=
  law_callsW (fun _ _ h => by cases h) hmix hT h hm hg hargs hown

theorem noMem (ρ : Loc) (n : Nat) (w : World) : MRel ρ n w (fun _ => none) :=
  ⟨fun id b hb => (by cases hb), fun id b hb => (by cases hb), fun id b hb => (by cases hb), fun id b hb => (by cases hb), fun id b hb => (by cases hb)⟩

/-! ### numbers, Bools -/
abbrev I (n : Int) : Cell := .sc (.int .i64 n)
abbrev RI (n : Int) : Reg := .one (.sc (.int .i64 n))
abbrev RB (b : Bool) : Reg := .one (.sc (.bool b))
abbrev rnil : Reg := .one (.sc (.slice none 0 0))

theorem wr_eq {x : Int} (h0 : -9223372036854775808 ≤ x) (h1 : x ≤ 9223372036854775807) : IntKind.i64.wrap x = x := by
  simp [IntKind.wrap, IntKind.bits, IntKind.signed]; omega

section
variable {T : Nat → Option SFun} {d : Option Nat} {os : List SOper} {env : Nat → Reg} {Q : (Nat → Reg) → Mem → Nat → Prop}
theorem Then_some {r : Reg} {m : Mem} {n : Nat} : Then T d os env Q (some (r, m, n)) = R T os (putE env d r) m n Q := rfl
theorem Then_none : Then T d os env Q none = False := rfl
end

theorem upd_upd {α : Type} {f : Nat → α} {k : Nat} {x y : α} : upd (upd f k x) k y = upd f k y := by
  funext i
  unfold upd
  split <;> rfl
theorem unfrz_at {m m' : Mem} {n id : Nat} : unfrz m n m' id = if id < n then m id else m' id := rfl
theorem putE_some {env : Nat → Reg} {d : Nat} {r : Reg} : putE env (some d) r = upd env d r := rfl
theorem putE_none {env : Nat → Reg} {r : Reg} : putE env none r = env := rfl
theorem upd_at {α : Type} {f : Nat → α} {k i : Nat} {x : α} : upd f k x i = if i = k then x else f i := rfl

def condK (r : Reg) (p q : Prop) : Prop :=
  match r with
  | .one (.sc (.bool t)) => if t = true then p else q
  | _ => False
theorem condK_bool {t : Bool} {p q : Prop} : condK (RB t) p q = if t = true then p else q := rfl
theorem X_condK {T : Nat → Option SFun} {c : O} {a b : SC} {s : St} {Q : Ex → St → Prop} : X T (.cond c a b) s Q = condK (evO s.e c) (X T a s Q) (X T b s Q) := by
  unfold condK
  split
  · rename_i t h; exact X_cond h
  · rename_i h
    apply propext
    constructor
    · rintro ⟨k, e, s', h1, h2⟩
      simp only [exec] at h1
      first
        | (cases h1; done)
        | (split at h1
           · rename_i t ht; exact absurd ht (h t)
           · cases h1)
    · exact fun h => h.elim

theorem boolOf_b {b : Bool} : boolOf (RB b) = some b := rfl
theorem boolOf_tup {rs : List Reg} : boolOf (.tup rs) = none := rfl

section
variable {a b : Int}
theorem bin_add : binV .add (.int .i64 a) (.int .i64 b) = some (.int .i64 (IntKind.i64.wrap (a + b))) := rfl
theorem bin_sub : binV .sub (.int .i64 a) (.int .i64 b) = some (.int .i64 (IntKind.i64.wrap (a - b))) := rfl
theorem bin_mul : binV .mul (.int .i64 a) (.int .i64 b) = some (.int .i64 (IntKind.i64.wrap (a * b))) := rfl
theorem bin_lss : binV .lss (.int .i64 a) (.int .i64 b) = some (.bool (decide (a < b))) := rfl
theorem bin_leq : binV .leq (.int .i64 a) (.int .i64 b) = some (.bool (decide (a ≤ b))) := rfl
theorem bin_gtr : binV .gtr (.int .i64 a) (.int .i64 b) = some (.bool (decide (b < a))) := rfl
theorem bin_geq : binV .geq (.int .i64 a) (.int .i64 b) = some (.bool (decide (b ≤ a))) := rfl
theorem bin_eql : binV .eql (.int .i64 a) (.int .i64 b) = some (.bool (decide (a = b))) := rfl
theorem bin_neq : binV .neq (.int .i64 a) (.int .i64 b) = some (.bool (!decide (a = b))) := rfl
theorem bin_quo (h : b ≠ 0) : binV .quo (.int .i64 a) (.int .i64 b) = some (.int .i64 (IntKind.i64.wrap (a.tdiv b))) := by simp [binV, h]
theorem bin_rem (h : b ≠ 0) : binV .rem (.int .i64 a) (.int .i64 b) = some (.int .i64 (a.tmod b)) := by simp [binV, h]
theorem bin_shl (h : 0 ≤ b) (h1 : b ≤ 64) : binV .shl (.int .i64 a) (.int .i64 b) = some (.int .i64 (IntKind.i64.wrap (a * 2 ^ b.toNat))) := by
  have : ¬ b < 0 := by omega
  have h2 : min b.toNat IntKind.i64.bits = b.toNat := by simp [IntKind.bits]; omega
  simp [binV, this, h2]
theorem bin_shr (h : 0 ≤ b) (h1 : b ≤ 64) : binV .shr (.int .i64 a) (.int .i64 b) = some (.int .i64 (a.fdiv (2 ^ b.toNat))) := by
  have : ¬ b < 0 := by omega
  have h2 : min b.toNat IntKind.i64.bits = b.toNat := by simp [IntKind.bits]; omega
  simp [binV, this, h2]
theorem bin_shr1 {k : IntKind} : binV .shr (.int .i64 a) (.int k 1) = some (.int .i64 (a / 2)) := by
  show some (Value.int .i64 (a.fdiv (2 ^ 1))) = _
  rw [Int.fdiv_eq_ediv_of_nonneg _ (by decide)]; rfl
theorem un_not {t : Bool} : unV .not (.bool t) = some (.bool !t) := rfl
theorem un_neg : unV .neg (.int .i64 a) = some (.int .i64 (IntKind.i64.wrap (0 - a))) := rfl
end

def lenO (r : Reg) : Option Int :=
  match r with
  | .one (.sl _ _ len _ _) => some len
  | .one (.sc (.slice _ 0 0)) => some 0
  | _ => none
theorem lenO_sl {id off len sz : Nat} {cap : Option Nat} : lenO (.one (.sl id off len cap sz)) = some (len : Int) := rfl
theorem lenO_nil : lenO rnil = some 0 := rfl
theorem lenO_none {a : Option Addr} : lenO (.one (.sc (.slice a 0 0))) = some 0 := rfl

section
variable {T : Nat → Option SFun} {d : Option Nat} {os : List SOper} {env : Nat → Reg} {m : Mem} {n : Nat} {Q : (Nat → Reg) → Mem → Nat → Prop}
theorem R_mv {x : O} : R T (⟨d, .mv x, none⟩ :: os) env m n Q = Then T d os env Q (evalOp noCall env m n (.mv x)) := R_op rfl
theorem R_pick {x : O} {y : O} {z : O} : R T (⟨d, .pick x y z, none⟩ :: os) env m n Q = Then T d os env Q (evalOp noCall env m n (.pick x y z)) := R_op rfl
theorem R_alloc {zz : List Cell} : R T (⟨d, .alloc zz, none⟩ :: os) env m n Q = Then T d os env Q (evalOp noCall env m n (.alloc zz)) := R_op rfl
theorem R_box {x : O} : R T (⟨d, .box x, none⟩ :: os) env m n Q = Then T d os env Q (evalOp noCall env m n (.box x)) := R_op rfl
theorem R_build {zz : List Cell} {ps : List (Nat × Nat × O)} : R T (⟨d, .build zz ps, none⟩ :: os) env m n Q = Then T d os env Q (evalOp noCall env m n (.build zz ps)) := R_op rfl
theorem R_bslice {zz : List Cell} {k1 : Nat} {k2 : Nat} {ps : List (Nat × Nat × O)} : R T (⟨d, .bslice zz k1 k2 ps, none⟩ :: os) env m n Q = Then T d os env Q (evalOp noCall env m n (.bslice zz k1 k2 ps)) := R_op rfl
theorem R_load1 {x : O} : R T (⟨d, .load1 x, none⟩ :: os) env m n Q = Then T d os env Q (evalOp noCall env m n (.load1 x)) := R_op rfl
theorem R_loadA {k1 : Nat} {x : O} : R T (⟨d, .loadA k1 x, none⟩ :: os) env m n Q = Then T d os env Q (evalOp noCall env m n (.loadA k1 x)) := R_op rfl
theorem R_store {k1 : Nat} {x : O} {y : O} : R T (⟨d, .store k1 x y, none⟩ :: os) env m n Q = Then T d os env Q (evalOp noCall env m n (.store k1 x y)) := R_op rfl
theorem R_nilchk {x : O} : R T (⟨d, .nilchk x, none⟩ :: os) env m n Q = Then T d os env Q (evalOp noCall env m n (.nilchk x)) := R_op rfl
theorem R_bin {bo : BinOp} {x : O} {y : O} : R T (⟨d, .bin bo x y, none⟩ :: os) env m n Q = Then T d os env Q (evalOp noCall env m n (.bin bo x y)) := R_op rfl
theorem R_beq {bb : Bool} {x : O} {y : O} : R T (⟨d, .beq bb x y, none⟩ :: os) env m n Q = Then T d os env Q (evalOp noCall env m n (.beq bb x y)) := R_op rfl
theorem R_eqv {ks : List Sk} {bb : Bool} {x : O} {y : O} : R T (⟨d, .eqv ks bb x y, none⟩ :: os) env m n Q = Then T d os env Q (evalOp noCall env m n (.eqv ks bb x y)) := R_op rfl
theorem R_eqnil {k1 : Nat} {bb : Bool} {x : O} : R T (⟨d, .eqnil k1 bb x, none⟩ :: os) env m n Q = Then T d os env Q (evalOp noCall env m n (.eqnil k1 bb x)) := R_op rfl
theorem R_un {uo : UnOp} {x : O} : R T (⟨d, .un uo x, none⟩ :: os) env m n Q = Then T d os env Q (evalOp noCall env m n (.un uo x)) := R_op rfl
theorem R_conv {ik : IntKind} {x : O} : R T (⟨d, .conv ik x, none⟩ :: os) env m n Q = Then T d os env Q (evalOp noCall env m n (.conv ik x)) := R_op rfl
theorem R_mkfn {k1 : Nat} {xs : List O} : R T (⟨d, .mkfn k1 xs, none⟩ :: os) env m n Q = Then T d os env Q (evalOp noCall env m n (.mkfn k1 xs)) := R_op rfl
theorem R_mkslice {zz : List Cell} {k1 : Nat} {k2 : Nat} {x : O} {y : O} : R T (⟨d, .mkslice zz k1 k2 x y, none⟩ :: os) env m n Q = Then T d os env Q (evalOp noCall env m n (.mkslice zz k1 k2 x y)) := R_op rfl
theorem R_pre {r : Reg} {xs : List O} : R T (⟨d, .pre r xs, none⟩ :: os) env m n Q = Then T d os env Q (evalOp noCall env m n (.pre r xs)) := R_op rfl
theorem R_appz {zz : List Cell} {k1 : Nat} {k2 : Nat} {x : O} {y : O} : R T (⟨d, .appz zz k1 k2 x y, none⟩ :: os) env m n Q = Then T d os env Q (evalOp noCall env m n (.appz zz k1 k2 x y)) := R_op rfl
theorem R_slS {k1 : Nat} {x : O} {l1 : Option O} {l2 : Option O} {l3 : Option O} : R T (⟨d, .slS k1 x l1 l2 l3, none⟩ :: os) env m n Q = Then T d os env Q (evalOp noCall env m n (.slS k1 x l1 l2 l3)) := R_op rfl
theorem R_slA {k1 : Nat} {k2 : Nat} {x : O} {l1 : Option O} {l2 : Option O} {l3 : Option O} : R T (⟨d, .slA k1 k2 x l1 l2 l3, none⟩ :: os) env m n Q = Then T d os env Q (evalOp noCall env m n (.slA k1 k2 x l1 l2 l3)) := R_op rfl
theorem R_fadr {k1 : Nat} {x : O} : R T (⟨d, .fadr k1 x, none⟩ :: os) env m n Q = Then T d os env Q (evalOp noCall env m n (.fadr k1 x)) := R_op rfl
theorem R_fld {k1 : Nat} {k2 : Nat} {bb : Bool} {x : O} : R T (⟨d, .fld k1 k2 bb x, none⟩ :: os) env m n Q = Then T d os env Q (evalOp noCall env m n (.fld k1 k2 bb x)) := R_op rfl
theorem R_iadrA {k1 : Nat} {k2 : Nat} {x : O} {y : O} : R T (⟨d, .iadrA k1 k2 x y, none⟩ :: os) env m n Q = Then T d os env Q (evalOp noCall env m n (.iadrA k1 k2 x y)) := R_op rfl
theorem R_iadrS {k1 : Nat} {x : O} {y : O} : R T (⟨d, .iadrS k1 x y, none⟩ :: os) env m n Q = Then T d os env Q (evalOp noCall env m n (.iadrS k1 x y)) := R_op rfl
theorem R_istr {l : List Nat} {x : O} : R T (⟨d, .istr l x, none⟩ :: os) env m n Q = Then T d os env Q (evalOp noCall env m n (.istr l x)) := R_op rfl
theorem R_idxA {k1 : Nat} {k2 : Nat} {bb : Bool} {x : O} {y : O} : R T (⟨d, .idxA k1 k2 bb x y, none⟩ :: os) env m n Q = Then T d os env Q (evalOp noCall env m n (.idxA k1 k2 bb x y)) := R_op rfl
theorem R_ext {x : O} {k1 : Nat} : R T (⟨d, .ext x k1, none⟩ :: os) env m n Q = Then T d os env Q (evalOp noCall env m n (.ext x k1)) := R_op rfl
theorem R_len {x : O} : R T (⟨d, .len x, none⟩ :: os) env m n Q = Then T d os env Q ((lenO (evO env x)).map fun k => (RI k, m, n)) := by
  rw [R_op rfl]
  congr 1
  simp only [evalOp, lenO]
  split <;> simp_all
theorem R_lenC {k1 : Nat} : R T (⟨d, .lenC k1, none⟩ :: os) env m n Q = Then T d os env Q (evalOp noCall env m n (.lenC k1)) := R_op rfl
theorem R_cap {x : O} : R T (⟨d, .cap x, none⟩ :: os) env m n Q = Then T d os env Q (evalOp noCall env m n (.cap x)) := R_op rfl
theorem R_app {k1 : Nat} {k2 : Nat} {x : O} {y : O} : R T (⟨d, .app k1 k2 x y, none⟩ :: os) env m n Q = Then T d os env Q (evalOp noCall env m n (.app k1 k2 x y)) := R_op rfl
theorem R_cpy {k1 : Nat} {x : O} {y : O} : R T (⟨d, .cpy k1 x y, none⟩ :: os) env m n Q = Then T d os env Q (evalOp noCall env m n (.cpy k1 x y)) := R_op rfl
theorem R_mn {xs : List O} : R T (⟨d, .mn xs, none⟩ :: os) env m n Q = Then T d os env Q (evalOp noCall env m n (.mn xs)) := R_op rfl
theorem R_mx {xs : List O} : R T (⟨d, .mx xs, none⟩ :: os) env m n Q = Then T d os env Q (evalOp noCall env m n (.mx xs)) := R_op rfl
end


/-! ### numbers that differ -/
section
variable {n : Nat}
theorem sn1 : (n = n + 1) = False := eq_false (by omega)
theorem ns1 : (n + 1 = n) = False := eq_false (by omega)
theorem sn2 : (n = n + 1 + 1) = False := eq_false (by omega)
theorem ns2 : (n + 1 + 1 = n) = False := eq_false (by omega)
theorem sn3 : (n = n + 1 + 1 + 1) = False := eq_false (by omega)
theorem ns3 : (n + 1 + 1 + 1 = n) = False := eq_false (by omega)
theorem sn4 : (n = n + 1 + 1 + 1 + 1) = False := eq_false (by omega)
theorem ns4 : (n + 1 + 1 + 1 + 1 = n) = False := eq_false (by omega)
theorem sn5 : (n = n + 1 + 1 + 1 + 1 + 1) = False := eq_false (by omega)
theorem ns5 : (n + 1 + 1 + 1 + 1 + 1 = n) = False := eq_false (by omega)
theorem sn6 : (n = n + 1 + 1 + 1 + 1 + 1 + 1) = False := eq_false (by omega)
theorem ns6 : (n + 1 + 1 + 1 + 1 + 1 + 1 = n) = False := eq_false (by omega)
theorem sn7 : (n = n + 1 + 1 + 1 + 1 + 1 + 1 + 1) = False := eq_false (by omega)
theorem ns7 : (n + 1 + 1 + 1 + 1 + 1 + 1 + 1 = n) = False := eq_false (by omega)
theorem sn8 : (n = n + 1 + 1 + 1 + 1 + 1 + 1 + 1 + 1) = False := eq_false (by omega)
theorem ns8 : (n + 1 + 1 + 1 + 1 + 1 + 1 + 1 + 1 = n) = False := eq_false (by omega)
theorem sn9 : (n = n + 1 + 1 + 1 + 1 + 1 + 1 + 1 + 1 + 1) = False := eq_false (by omega)
theorem ns9 : (n + 1 + 1 + 1 + 1 + 1 + 1 + 1 + 1 + 1 = n) = False := eq_false (by omega)
theorem sn10 : (n = n + 1 + 1 + 1 + 1 + 1 + 1 + 1 + 1 + 1 + 1) = False := eq_false (by omega)
theorem ns10 : (n + 1 + 1 + 1 + 1 + 1 + 1 + 1 + 1 + 1 + 1 = n) = False := eq_false (by omega)
theorem sn11 : (n = n + 1 + 1 + 1 + 1 + 1 + 1 + 1 + 1 + 1 + 1 + 1) = False := eq_false (by omega)
theorem ns11 : (n + 1 + 1 + 1 + 1 + 1 + 1 + 1 + 1 + 1 + 1 + 1 = n) = False := eq_false (by omega)
theorem sn12 : (n = n + 1 + 1 + 1 + 1 + 1 + 1 + 1 + 1 + 1 + 1 + 1 + 1) = False := eq_false (by omega)
theorem ns12 : (n + 1 + 1 + 1 + 1 + 1 + 1 + 1 + 1 + 1 + 1 + 1 + 1 = n) = False := eq_false (by omega)
theorem sk1_2 : (n + 1 = n + 1 + 1) = False := eq_false (by omega)
theorem sk1_3 : (n + 1 = n + 1 + 1 + 1) = False := eq_false (by omega)
theorem sk1_4 : (n + 1 = n + 1 + 1 + 1 + 1) = False := eq_false (by omega)
theorem sk1_5 : (n + 1 = n + 1 + 1 + 1 + 1 + 1) = False := eq_false (by omega)
theorem sk1_6 : (n + 1 = n + 1 + 1 + 1 + 1 + 1 + 1) = False := eq_false (by omega)
theorem sk1_7 : (n + 1 = n + 1 + 1 + 1 + 1 + 1 + 1 + 1) = False := eq_false (by omega)
theorem sk1_8 : (n + 1 = n + 1 + 1 + 1 + 1 + 1 + 1 + 1 + 1) = False := eq_false (by omega)
theorem sk2_1 : (n + 1 + 1 = n + 1) = False := eq_false (by omega)
theorem sk2_3 : (n + 1 + 1 = n + 1 + 1 + 1) = False := eq_false (by omega)
theorem sk2_4 : (n + 1 + 1 = n + 1 + 1 + 1 + 1) = False := eq_false (by omega)
theorem sk2_5 : (n + 1 + 1 = n + 1 + 1 + 1 + 1 + 1) = False := eq_false (by omega)
theorem sk2_6 : (n + 1 + 1 = n + 1 + 1 + 1 + 1 + 1 + 1) = False := eq_false (by omega)
theorem sk2_7 : (n + 1 + 1 = n + 1 + 1 + 1 + 1 + 1 + 1 + 1) = False := eq_false (by omega)
theorem sk2_8 : (n + 1 + 1 = n + 1 + 1 + 1 + 1 + 1 + 1 + 1 + 1) = False := eq_false (by omega)
theorem sk3_1 : (n + 1 + 1 + 1 = n + 1) = False := eq_false (by omega)
theorem sk3_2 : (n + 1 + 1 + 1 = n + 1 + 1) = False := eq_false (by omega)
theorem sk3_4 : (n + 1 + 1 + 1 = n + 1 + 1 + 1 + 1) = False := eq_false (by omega)
theorem sk3_5 : (n + 1 + 1 + 1 = n + 1 + 1 + 1 + 1 + 1) = False := eq_false (by omega)
theorem sk3_6 : (n + 1 + 1 + 1 = n + 1 + 1 + 1 + 1 + 1 + 1) = False := eq_false (by omega)
theorem sk3_7 : (n + 1 + 1 + 1 = n + 1 + 1 + 1 + 1 + 1 + 1 + 1) = False := eq_false (by omega)
theorem sk3_8 : (n + 1 + 1 + 1 = n + 1 + 1 + 1 + 1 + 1 + 1 + 1 + 1) = False := eq_false (by omega)
theorem sk4_1 : (n + 1 + 1 + 1 + 1 = n + 1) = False := eq_false (by omega)
theorem sk4_2 : (n + 1 + 1 + 1 + 1 = n + 1 + 1) = False := eq_false (by omega)
theorem sk4_3 : (n + 1 + 1 + 1 + 1 = n + 1 + 1 + 1) = False := eq_false (by omega)
theorem sk4_5 : (n + 1 + 1 + 1 + 1 = n + 1 + 1 + 1 + 1 + 1) = False := eq_false (by omega)
theorem sk4_6 : (n + 1 + 1 + 1 + 1 = n + 1 + 1 + 1 + 1 + 1 + 1) = False := eq_false (by omega)
theorem sk4_7 : (n + 1 + 1 + 1 + 1 = n + 1 + 1 + 1 + 1 + 1 + 1 + 1) = False := eq_false (by omega)
theorem sk4_8 : (n + 1 + 1 + 1 + 1 = n + 1 + 1 + 1 + 1 + 1 + 1 + 1 + 1) = False := eq_false (by omega)
theorem sk5_1 : (n + 1 + 1 + 1 + 1 + 1 = n + 1) = False := eq_false (by omega)
theorem sk5_2 : (n + 1 + 1 + 1 + 1 + 1 = n + 1 + 1) = False := eq_false (by omega)
theorem sk5_3 : (n + 1 + 1 + 1 + 1 + 1 = n + 1 + 1 + 1) = False := eq_false (by omega)
theorem sk5_4 : (n + 1 + 1 + 1 + 1 + 1 = n + 1 + 1 + 1 + 1) = False := eq_false (by omega)
theorem sk5_6 : (n + 1 + 1 + 1 + 1 + 1 = n + 1 + 1 + 1 + 1 + 1 + 1) = False := eq_false (by omega)
theorem sk5_7 : (n + 1 + 1 + 1 + 1 + 1 = n + 1 + 1 + 1 + 1 + 1 + 1 + 1) = False := eq_false (by omega)
theorem sk5_8 : (n + 1 + 1 + 1 + 1 + 1 = n + 1 + 1 + 1 + 1 + 1 + 1 + 1 + 1) = False := eq_false (by omega)
theorem sk6_1 : (n + 1 + 1 + 1 + 1 + 1 + 1 = n + 1) = False := eq_false (by omega)
theorem sk6_2 : (n + 1 + 1 + 1 + 1 + 1 + 1 = n + 1 + 1) = False := eq_false (by omega)
theorem sk6_3 : (n + 1 + 1 + 1 + 1 + 1 + 1 = n + 1 + 1 + 1) = False := eq_false (by omega)
theorem sk6_4 : (n + 1 + 1 + 1 + 1 + 1 + 1 = n + 1 + 1 + 1 + 1) = False := eq_false (by omega)
theorem sk6_5 : (n + 1 + 1 + 1 + 1 + 1 + 1 = n + 1 + 1 + 1 + 1 + 1) = False := eq_false (by omega)
theorem sk6_7 : (n + 1 + 1 + 1 + 1 + 1 + 1 = n + 1 + 1 + 1 + 1 + 1 + 1 + 1) = False := eq_false (by omega)
theorem sk6_8 : (n + 1 + 1 + 1 + 1 + 1 + 1 = n + 1 + 1 + 1 + 1 + 1 + 1 + 1 + 1) = False := eq_false (by omega)
theorem sk7_1 : (n + 1 + 1 + 1 + 1 + 1 + 1 + 1 = n + 1) = False := eq_false (by omega)
theorem sk7_2 : (n + 1 + 1 + 1 + 1 + 1 + 1 + 1 = n + 1 + 1) = False := eq_false (by omega)
theorem sk7_3 : (n + 1 + 1 + 1 + 1 + 1 + 1 + 1 = n + 1 + 1 + 1) = False := eq_false (by omega)
theorem sk7_4 : (n + 1 + 1 + 1 + 1 + 1 + 1 + 1 = n + 1 + 1 + 1 + 1) = False := eq_false (by omega)
theorem sk7_5 : (n + 1 + 1 + 1 + 1 + 1 + 1 + 1 = n + 1 + 1 + 1 + 1 + 1) = False := eq_false (by omega)
theorem sk7_6 : (n + 1 + 1 + 1 + 1 + 1 + 1 + 1 = n + 1 + 1 + 1 + 1 + 1 + 1) = False := eq_false (by omega)
theorem sk7_8 : (n + 1 + 1 + 1 + 1 + 1 + 1 + 1 = n + 1 + 1 + 1 + 1 + 1 + 1 + 1 + 1) = False := eq_false (by omega)
theorem sk8_1 : (n + 1 + 1 + 1 + 1 + 1 + 1 + 1 + 1 = n + 1) = False := eq_false (by omega)
theorem sk8_2 : (n + 1 + 1 + 1 + 1 + 1 + 1 + 1 + 1 = n + 1 + 1) = False := eq_false (by omega)
theorem sk8_3 : (n + 1 + 1 + 1 + 1 + 1 + 1 + 1 + 1 = n + 1 + 1 + 1) = False := eq_false (by omega)
theorem sk8_4 : (n + 1 + 1 + 1 + 1 + 1 + 1 + 1 + 1 = n + 1 + 1 + 1 + 1) = False := eq_false (by omega)
theorem sk8_5 : (n + 1 + 1 + 1 + 1 + 1 + 1 + 1 + 1 = n + 1 + 1 + 1 + 1 + 1) = False := eq_false (by omega)
theorem sk8_6 : (n + 1 + 1 + 1 + 1 + 1 + 1 + 1 + 1 = n + 1 + 1 + 1 + 1 + 1 + 1) = False := eq_false (by omega)
theorem sk8_7 : (n + 1 + 1 + 1 + 1 + 1 + 1 + 1 + 1 = n + 1 + 1 + 1 + 1 + 1 + 1 + 1) = False := eq_false (by omega)
end

theorem pack_one {r : Reg} : pack [r] = r := rfl
theorem pack_two {r s : Reg} : pack [r, s] = .tup [r, s] := rfl
theorem pack_three {r s t : Reg} : pack [r, s, t] = .tup [r, s, t] := rfl
theorem pack_none : pack [] = .tup [] := rfl
theorem getD_nil {t : Nat} : ([] : List Reg).getD t (.tup []) = .tup [] := by simp

/-! ### slices that are read -/
def Rd (m : Mem) (n : Nat) (r : Reg) (cs : List Cell) (len sz : Nat) : Prop :=
  (r = rnil ∧ len = 0 ∧ cs = []) ∨ ∃ id off cap, r = .one (.sl id off len cap sz) ∧ id < n ∧ rd m id off (len * sz) = some cs

theorem rd_frz (m : Mem) (id off k : Nat) : rd (frz m) id off k = rd m id off k := by
  unfold rd frz
  cases m id <;> rfl

theorem rd_len {m : Mem} {id off k : Nat} {cs : List Cell} (h : rd m id off k = some cs) : cs.length = k := by
  unfold rd at h
  split at h
  case h_2 => cases h
  split at h
  case isFalse => cases h
  cases h
  simp; omega

/-- A part of what is read. -/
theorem rd_part {m : Mem} {id off k a b : Nat} {cs : List Cell} (h : rd m id off k = some cs) (hab : a + b ≤ k) : rd m id (off + a) b = some ((cs.drop a).take b) := by
  unfold rd at h ⊢
  split at h
  case h_2 => cases h
  rename_i blk hb
  split at h
  case isFalse => cases h
  rename_i hle
  cases h
  rw [if_pos (by omega)]
  congr 1
  rw [List.drop_take, List.take_take, List.drop_drop]
  congr 1
  omega

theorem rd_cell {m : Mem} {id off k a : Nat} {cs : List Cell} {c : Cell} (h : rd m id off k = some cs) (hc : cs[a]? = some c) : ∃ b, m id = some b ∧ b.cells[off + a]? = some c := by
  have hl := rd_len h
  unfold rd at h
  split at h
  case h_2 => cases h
  rename_i blk hb
  split at h
  case isFalse => cases h
  rename_i hle
  cases h
  have ha : a < k := by rw [← hl]; exact (List.getElem?_eq_some_iff.1 hc).1
  refine ⟨blk, hb, ?_⟩
  rwa [List.getElem?_take_of_lt ha, List.getElem?_drop] at hc

theorem Rd.frz {m : Mem} {n : Nat} {r : Reg} {cs : List Cell} {len sz : Nat} (h : Rd m n r cs len sz) : Rd (frz m) n r cs len sz := by
  rcases h with h | ⟨id, off, cap, h1, h2, h3⟩
  · exact Or.inl h
  · exact Or.inr ⟨id, off, cap, h1, h2, by rw [rd_frz]; exact h3⟩

/-- What is read stays, where the old memory stays. -/
theorem Rd.keep {m m' : Mem} {n n' : Nat} {r : Reg} {cs : List Cell} {len sz : Nat} (h : Rd m n r cs len sz) (hn : n ≤ n') (hm : ∀ id, id < n → m' id = m id) : Rd m' n' r cs len sz := by
  rcases h with h | ⟨id, off, cap, h1, h2, h3⟩
  · exact Or.inl h
  · refine Or.inr ⟨id, off, cap, h1, by omega, ?_⟩
    have : rd m' id off (len * sz) = rd m id off (len * sz) := by unfold rd; rw [hm id h2]
    rw [this]; exact h3

theorem Rd.len {m : Mem} {n : Nat} {r : Reg} {cs : List Cell} {len sz : Nat} (h : Rd m n r cs len sz) : lenO r = some (len : Int) := by
  rcases h with ⟨rfl, rfl, rfl⟩ | ⟨id, off, cap, rfl, h2, h3⟩ <;> rfl
theorem len_Rd {call : Callf} {env : Nat → Reg} {m : Mem} {n : Nat} {r : Reg} {cs : List Cell} {len sz : Nat} {x : O} (h : Rd m n r cs len sz) (hx : evO env x = r) : evalOp call env m n (.len x) = some (RI len, m, n) := by
  rcases h with ⟨rfl, rfl, rfl⟩ | ⟨id, off, cap, rfl, h2, h3⟩ <;> simp [evalOp, hx]

def rdB (b : Blk) (off k : Nat) : Option (List Cell) := if off + k ≤ b.cells.length then some ((b.cells.drop off).take k) else none
theorem rd_upd {m : Mem} {k id off j : Nat} {b : Blk} : rd (upd m k (some b)) id off j = if id = k then rdB b off j else rd m id off j := by
  unfold rd rdB
  by_cases h : id = k
  · subst h; rw [upd_same, if_pos rfl]
  · rw [upd_ne _ _ h, if_neg h]
theorem lt0 {id n : Nat} (h : id < n) : (id = n) = False := eq_false (by omega)
theorem lt1 {id n : Nat} (h : id < n) : (id = n + 1) = False := eq_false (by omega)
theorem lt2 {id n : Nat} (h : id < n) : (id = n + 1 + 1) = False := eq_false (by omega)
theorem lt3 {id n : Nat} (h : id < n) : (id = n + 1 + 1 + 1) = False := eq_false (by omega)
theorem lt4 {id n : Nat} (h : id < n) : (id = n + 1 + 1 + 1 + 1) = False := eq_false (by omega)
theorem wr_nat {i : Nat} (h : i < 4294967296) : IntKind.i64.wrap ((i : Int) + 1) = ((i + 1 : Nat) : Int) := by
  rw [wr_eq (by omega) (by omega)]; rfl

/-- Rows of records: the record i. -/
theorem flatMap_at {α : Type} (enc : α → List Cell) (sz : Nat) (hsz : ∀ x, (enc x).length = sz) : ∀ (l : List α) (i : Nat) (x : α), l[i]? = some x → ((l.flatMap enc).drop (i * sz)).take sz = enc x
  | [], i, x, h => by simp at h
  | y :: l, 0, x, h => by
    simp only [List.getElem?_cons_zero, Option.some.injEq] at h
    subst h
    rw [Nat.zero_mul, List.drop_zero, List.flatMap_cons, List.take_append_of_le_length (by rw [hsz]; exact Nat.le_refl _), List.take_of_length_le (by rw [hsz]; exact Nat.le_refl _)]
  | y :: l, i + 1, x, h => by
    rw [List.flatMap_cons, List.drop_append, List.drop_of_length_le (by rw [hsz, Nat.add_mul]; omega), List.nil_append, hsz, show (i + 1) * sz - sz = i * sz by rw [Nat.add_mul]; omega]
    exact flatMap_at enc sz hsz l i x (by simpa using h)
theorem flatMap_len {α : Type} (enc : α → List Cell) (sz : Nat) (hsz : ∀ x, (enc x).length = sz) (l : List α) : (l.flatMap enc).length = l.length * sz := by
  induction l with
  | nil => simp
  | cons x l ih => rw [List.flatMap_cons, List.length_append, hsz, ih, List.length_cons, Nat.add_mul]; omega
theorem rd_at {α : Type} {enc : α → List Cell} {sz : Nat} (hsz : ∀ x, (enc x).length = sz) {m : Mem} {id off : Nat} {l : List α} {i : Nat} {x : α} (h : rd m id off (l.length * sz) = some (l.flatMap enc)) (hi : l[i]? = some x) : rd m id (off + i * sz) sz = some (enc x) := by
  have hlt : i < l.length := (List.getElem?_eq_some_iff.1 hi).1
  have h1 : i * sz + sz ≤ l.length * sz := by
    have := Nat.mul_le_mul_right sz (show i + 1 ≤ l.length from hlt)
    rw [Nat.add_mul] at this; omega
  rw [rd_part h h1, flatMap_at enc sz hsz l i x hi]

/-! ### rules that do not hold for any memory -/
theorem R_then {T : Nat → Option SFun} {d : Option Nat} {op : SOp} {os : List SOper} {env : Nat → Reg} {m m' : Mem} {n n' : Nat} {r : Reg} {Q : (Nat → Reg) → Mem → Nat → Prop} (hc : isCall op = false)
    (h : evalOp noCall env m n op = some (r, m', n')) (hR : R T os (putE env d r) m' n' Q) : R T (⟨d, op, none⟩ :: os) env m n Q := by
  rw [R_op hc, h]
  exact hR
end Go.Proofs.Ytkdbnmohpanpfaa.Sy
