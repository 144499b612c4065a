import Derived.Test.YtidpeongblkcbaaDoorMgD
import Derived.RowKit
import Derived.Laws.Bits64
import Derived.Laws.BitsLemmas
import Derived.Laws.MathBits
import Derived.Lib.Mul64
/- An evaluator of a part of Go's operations over a memory of its own, part seventeen: calls told as_ values. Conditions: those that each theorem names. -/
namespace Go.Proofs.YtidpeongblkcbaaDoor.Sy
open Go
set_option linter.unusedVariables false
set_option linter.unusedSimpArgs false

open Classical in
/-- A function's answer, whatever the rounds. -/
noncomputable def callR (T : Nat → Option SFun) : Callf := fun f a m n => if h : ∃ x, ∃ k, run T k f a m n = some x then some (Classical.choose h) else none

theorem callR_of {T : Nat → Option SFun} {k f : Nat} {a : List Reg} {m : Mem} {n : Nat} {x : Reg × Mem × Nat} (h : run T k f a m n = some x) : callR T f a m n = some x := by
  have hx : ∃ x, ∃ k, run T k f a m n = some x := ⟨x, k, h⟩
  unfold callR
  rw [dif_pos hx]
  obtain ⟨k2, h2⟩ := Classical.choose_spec hx
  have e1 := run_mono (Nat.le_max_left k k2) _ _ _ _ _ h
  have e2 := run_mono (Nat.le_max_right k k2) _ _ _ _ _ h2
  rw [e1] at e2
  exact e2.symm ▸ rfl

theorem callR_inv {T : Nat → Option SFun} {f : Nat} {a : List Reg} {m : Mem} {n : Nat} {x : Reg × Mem × Nat} (h : callR T f a m n = some x) : ∃ k, run T k f a m n = some x := by
  unfold callR at h
  split at h
  case isFalse => cases h
  rename_i hx
  cases h
  exact Classical.choose_spec hx

theorem run_le {T : Nat → Option SFun} (k : Nat) : CallLe (run T k) (callR T) := fun _ _ _ _ _ h => callR_of h

theorem doCall_R {T : Nat → Option SFun} {md : Mode} {f : Nat} {a : List Reg} {m : Mem} {n : Nat} {x : Reg × Mem × Nat} (h : doCall (callR T) md f a m n = some x) : ∃ k, doCall (run T k) md f a m n = some x := by
  unfold doCall at h ⊢
  cases md with
  | q =>
    simp only at h ⊢
    split at h
    case h_2 => cases h
    rename_i r m1 n1 h1
    obtain ⟨k, hk⟩ := callR_inv h1
    exact ⟨k, by rw [hk]; exact h⟩
  | k =>
    simp only at h ⊢
    split at h
    case h_2 => cases h
    rename_i r m1 n1 h1
    obtain ⟨k, hk⟩ := callR_inv h1
    exact ⟨k, by rw [hk]; exact h⟩
  | w => exact callR_inv h
  | z g =>
    simp only at h ⊢
    split at h
    case isFalse => cases h
    rename_i hf
    split at h
    case h_2 => cases h
    rename_i r m1 n1 h1
    obtain ⟨k, hk⟩ := callR_inv h1
    exact ⟨k, by rw [if_pos hf, hk]; exact h⟩

section
variable {T : Nat → Option SFun} {d : Option Nat} {os : List SOper} {env : Nat → Reg} {m : Mem} {n : Nat} {Q : (Nat → Reg) → Mem → Nat → Prop}

theorem R_call {md : Mode} {f : Nat} {xs : List O} : R T (⟨d, .call md f xs, none⟩ :: os) env m n Q = Then T d os env Q (doCall (callR T) md f (evOs env xs) m n) := by
  apply propext
  constructor
  · rintro ⟨k, e, m', n', h1, h2⟩
    simp only [evalOps, wantedS, evalOp] at h1
    split at h1
    case h_2 => cases h1
    rename_i r m1 n1 h3
    rw [doCall_mono (run_le k) h3]
    exact ⟨k, e, m', n', h1, h2⟩
  · intro h
    cases h3 : doCall (callR T) md f (evOs env xs) m n with
    | none => rw [h3] at h; exact h.elim
    | some y =>
      obtain ⟨r, m1, n1⟩ := y
      rw [h3] at h
      obtain ⟨k2, e, m', n', h1, h2⟩ := h
      obtain ⟨k1, hk⟩ := doCall_R h3
      refine ⟨max k1 k2, e, m', n', ?_, h2⟩
      simp only [evalOps, wantedS, evalOp]
      rw [doCall_mono (run_mono (Nat.le_max_left k1 k2)) hk]
      exact evalOps_mono (run_mono (Nat.le_max_right k1 k2)) h1

/-- A quiet function's answer. -/
noncomputable def callF (T : Nat → Option SFun) (f : Nat) (a : List Reg) (m : Mem) (n : Nat) : Option Reg := (callR T f a m n).map (·.1)
theorem callF_of {f : Nat} {a : List Reg} {r0 : Reg} (h : Fn T f a m n (fun r _ _ => r = r0)) : callF T f a m n = some r0 := by
  obtain ⟨k, r, m', n', h1, rfl⟩ := h
  unfold callF
  rw [callR_of h1]
  rfl

theorem evOs_c (rs : List Reg) : evOs env (rs.map O.c) = rs := by
  induction rs with
  | nil => rfl
  | cons r rs ih => simp [evOs, evO, ih]

end

theorem iter_mono {f : St → Option (Ex × St)} {x : Ex × St} : ∀ {j k : Nat} {s : St}, j ≤ k → iter f j s = some x → iter f k s = some x
  | 0, _, _, _, h => by simp [iter] at h
  | j + 1, 0, _, hle, _ => by omega
  | j + 1, k + 1, s, hle, h => by
    simp only [iter] at h ⊢
    cases h1 : f s with
    | none => rw [h1] at h; cases h
    | some y =>
      rw [h1] at h
      obtain ⟨e, s'⟩ := y
      cases e with
      | n => exact iter_mono (by omega) h
      | x id => exact h
      | r => exact h

theorem X_loopE {T : Nat → Option SFun} {b : SC} {s : St} {Q : Ex → St → Prop} : X T (.loop b) s Q = X T b s (Next Q (fun s' => X T (.loop b) s' Q)) := by
  apply propext
  constructor
  · rintro ⟨k, e, s', h1, h2⟩
    simp only [exec] at h1
    cases k with
    | zero => simp [iter] at h1
    | succ k =>
      simp only [iter] at h1
      cases h3 : exec (run T (k + 1)) (k + 1) b s with
      | none => rw [h3] at h1; cases h1
      | some y =>
        rw [h3] at h1
        obtain ⟨e1, s1⟩ := y
        cases e1 with
        | n => exact ⟨k + 1, .n, s1, h3, k + 1, e, s', by simp only [exec]; exact iter_mono (Nat.le_succ k) h1, h2⟩
        | x id => cases h1; exact ⟨k + 1, _, _, h3, h2⟩
        | r => cases h1; exact ⟨k + 1, _, _, h3, h2⟩
  · exact X_loop

/-! ### a walk as_ a machine: what comes later is data, so that a walk's simp does not look into it -/
inductive Kt where
  | top (Q : Ex → St → Prop)
  | fin (rs : List SRes) (Q : Reg → Mem → Nat → Prop)
  | seq (b : SC) (k : Kt)
  | blk (id : Nat) (k : Kt)
  | lp (b : SC) (k : Kt)
  | chk (dis : List (Nat × Nat)) (k : Kt)
  | chku (es : List Nat) (dis : List (Nat × Nat)) (m : Mem) (k : Kt)

section
variable {T : Nat → Option SFun}
def Kt.den (T : Nat → Option SFun) : Kt → Ex → St → Prop
  | .top Q => Q
  | .fin rs Q => Ret rs Q
  | .seq b k => Next (k.den T) (fun s => X T b s (k.den T))
  | .blk id k => Out id (k.den T)
  | .lp b k => Next (k.den T) (fun s => X T (.loop b) s (k.den T))
  | .chk dis k => Next (k.den T) (fun s => disOk s.e dis = true ∧ k.den T .n s)
  | .chku es dis m k => Next (k.den T) (fun s => (disOk s.e dis = true ∧ safeOk m s.e es = true) ∧ k.den T .n s)
def XK (T : Nat → Option SFun) (c : SC) (s : St) (k : Kt) : Prop := X T c s (k.den T)
def RK (T : Nat → Option SFun) (os : List SOper) (e : Nat → Reg) (m : Mem) (n : Nat) (k : Kt) : Prop := R T os e m n (fun e m n => k.den T .n ⟨e, m, n⟩)
def KN (T : Nat → Option SFun) (k : Kt) (s : St) : Prop := k.den T .n s
def KX (T : Nat → Option SFun) (k : Kt) (id : Nat) (s : St) : Prop := k.den T (.x id) s
def KR (T : Nat → Option SFun) (k : Kt) (s : St) : Prop := k.den T .r s
/-- A fork. -/
def FK (T : Nat → Option SFun) (r : Reg) (a b : SC) (s : St) (k : Kt) : Prop := condK r (XK T a s k) (XK T b s k)
/-- An operation behind a guard. -/
def GK (T : Nat → Option SFun) (t : Option Bool) (b : Bool) (d : Option Nat) (op : SOp) (os : List SOper) (e : Nat → Reg) (m : Mem) (n : Nat) (k : Kt) : Prop :=
  if t = some b then RK T (⟨d, op, none⟩ :: os) e m n k else RK T os (putE e d (.tup [])) m n k
def ThenK (T : Nat → Option SFun) (d : Option Nat) (os : List SOper) (e : Nat → Reg) (k : Kt) : Option (Reg × Mem × Nat) → Prop
  | some (r, m, n) => RK T os (putE e d r) m n k
  | none => False
def QK (T : Nat → Option SFun) (d : Option Nat) (os : List SOper) (e : Nat → Reg) (m : Mem) (n : Nat) (k : Kt) : Option Reg → Prop
  | some r => r.flat = true ∧ RK T os (putE e d r) m n k
  | none => False
def VK (T : Nat → Option SFun) (d : Option Nat) (md : Mode) (as_ : List Reg) (os : List SOper) (e : Nat → Reg) (m : Mem) (n : Nat) (k : Kt) : Reg → Prop
  | .one (.clo f caps) => RK T (⟨d, .call md f ((as_ ++ caps.map Reg.one).map O.c), none⟩ :: os) e m n k
  | _ => False
def plainOp : SOp → Bool
  | .call .. | .callv .. | .len .. => false
  | _ => true

variable {c : O} {a b : SC} {s : St} {k : Kt} {id j : Nat} {e : Nat → Reg} {m : Mem} {n : Nat} {d : Option Nat} {op : SOp} {os : List SOper}
theorem XK_seq : XK T (.seq a b) s k = XK T a s (.seq b k) := X_seq
theorem XK_block : XK T (.block id b) s k = XK T b s (.blk id k) := X_block
theorem XK_skip : XK T .skip s k = KN T k s := X_skip
theorem XK_exit : XK T (.exit id) s k = KX T k id s := X_exit
theorem XK_ret : XK T .ret s k = KR T k s := X_ret
theorem XK_cond : XK T (.cond c a b) s k = FK T (evO s.e c) a b s k := X_condK
theorem XK_reg : XK T (.reg os) s k = RK T os s.e s.m s.n k := X_reg
theorem XK_dreg {dis : List (Nat × Nat)} : XK T (.dreg dis os) s k = RK T os s.e s.m s.n (.chk dis k) := X_dreg
theorem XK_ureg {es : List Nat} {dis : List (Nat × Nat)} : XK T (.ureg es dis os) s k = RK T os s.e s.m s.n (.chku es dis s.m k) := X_ureg
theorem XK_loop : XK T (.loop b) s k = XK T b s (.lp b k) := X_loopE
theorem KN_seq : KN T (.seq b k) s = XK T b s k := rfl
theorem KN_blk : KN T (.blk id k) s = KN T k s := rfl
theorem KN_lp : KN T (.lp b k) s = XK T (.loop b) s k := rfl
theorem KN_chk {dis : List (Nat × Nat)} : KN T (.chk dis k) s = (disOk s.e dis = true ∧ KN T k s) := rfl
theorem KN_chku {es : List Nat} {dis : List (Nat × Nat)} : KN T (.chku es dis m k) s = ((disOk s.e dis = true ∧ safeOk m s.e es = true) ∧ KN T k s) := rfl
theorem KN_top {Q : Ex → St → Prop} : KN T (.top Q) s = Q .n s := rfl
theorem KN_fin {rs : List SRes} {Q : Reg → Mem → Nat → Prop} : KN T (.fin rs Q) s = ∃ regs, evRes s rs = some regs ∧ Q (pack regs) s.m s.n := rfl
theorem KX_seq : KX T (.seq b k) id s = KX T k id s := rfl
theorem KX_lp : KX T (.lp b k) id s = KX T k id s := rfl
theorem KX_blk : KX T (.blk j k) id s = if id = j then KN T k s else KX T k id s := rfl
theorem KX_chk {dis : List (Nat × Nat)} : KX T (.chk dis k) id s = KX T k id s := rfl
theorem KX_top {Q : Ex → St → Prop} : KX T (.top Q) id s = Q (.x id) s := rfl
theorem KR_seq : KR T (.seq b k) s = KR T k s := rfl
theorem KR_blk : KR T (.blk id k) s = KR T k s := rfl
theorem KR_lp : KR T (.lp b k) s = KR T k s := rfl
theorem KR_chk {dis : List (Nat × Nat)} : KR T (.chk dis k) s = KR T k s := rfl
theorem KR_top {Q : Ex → St → Prop} : KR T (.top Q) s = Q .r s := rfl
theorem KR_fin {rs : List SRes} {Q : Reg → Mem → Nat → Prop} : KR T (.fin rs Q) s = ∃ regs, evRes s rs = some regs ∧ Q (pack regs) s.m s.n := rfl
theorem FK_true : FK T (RB true) a b s k = XK T a s k := by simp [FK, condK_bool]
theorem FK_false : FK T (RB false) a b s k = XK T b s k := by simp [FK, condK_bool]
theorem RK_nil : RK T [] e m n k = KN T k ⟨e, m, n⟩ := R_nil
theorem RK_op (h : plainOp op = true) : RK T (⟨d, op, none⟩ :: os) e m n k = ThenK T d os e k (evalOp noCall e m n op) := by
  have hc : isCall op = false := by cases op <;> simp_all [plainOp, isCall]
  unfold RK
  rw [R_op hc]
  cases evalOp noCall e m n op with
  | none => rfl
  | some x => rfl
theorem RK_mv {x : O} : RK T (⟨d, .mv x, none⟩ :: os) e m n k = ThenK T d os e k (evalOp noCall e m n (.mv x)) := RK_op rfl
theorem RK_pick {x : O} {y : O} {z : O} : RK T (⟨d, .pick x y z, none⟩ :: os) e m n k = ThenK T d os e k (evalOp noCall e m n (.pick x y z)) := RK_op rfl
theorem RK_alloc {zz : List Cell} : RK T (⟨d, .alloc zz, none⟩ :: os) e m n k = ThenK T d os e k (evalOp noCall e m n (.alloc zz)) := RK_op rfl
theorem RK_box {x : O} : RK T (⟨d, .box x, none⟩ :: os) e m n k = ThenK T d os e k (evalOp noCall e m n (.box x)) := RK_op rfl
theorem RK_build {zz : List Cell} {ps : List (Nat × Nat × O)} : RK T (⟨d, .build zz ps, none⟩ :: os) e m n k = ThenK T d os e k (evalOp noCall e m n (.build zz ps)) := RK_op rfl
theorem RK_bslice {zz : List Cell} {k1 : Nat} {k2 : Nat} {ps : List (Nat × Nat × O)} : RK T (⟨d, .bslice zz k1 k2 ps, none⟩ :: os) e m n k = ThenK T d os e k (evalOp noCall e m n (.bslice zz k1 k2 ps)) := RK_op rfl
theorem RK_load1 {x : O} : RK T (⟨d, .load1 x, none⟩ :: os) e m n k = ThenK T d os e k (evalOp noCall e m n (.load1 x)) := RK_op rfl
theorem RK_loadA {k1 : Nat} {x : O} : RK T (⟨d, .loadA k1 x, none⟩ :: os) e m n k = ThenK T d os e k (evalOp noCall e m n (.loadA k1 x)) := RK_op rfl
theorem RK_store {k1 : Nat} {x : O} {y : O} : RK T (⟨d, .store k1 x y, none⟩ :: os) e m n k = ThenK T d os e k (evalOp noCall e m n (.store k1 x y)) := RK_op rfl
theorem RK_nilchk {x : O} : RK T (⟨d, .nilchk x, none⟩ :: os) e m n k = ThenK T d os e k (evalOp noCall e m n (.nilchk x)) := RK_op rfl
theorem RK_bin {bo : BinOp} {x : O} {y : O} : RK T (⟨d, .bin bo x y, none⟩ :: os) e m n k = ThenK T d os e k (evalOp noCall e m n (.bin bo x y)) := RK_op rfl
theorem RK_beq {bb : Bool} {x : O} {y : O} : RK T (⟨d, .beq bb x y, none⟩ :: os) e m n k = ThenK T d os e k (evalOp noCall e m n (.beq bb x y)) := RK_op rfl
theorem RK_eqv {ks : List Sk} {bb : Bool} {x : O} {y : O} : RK T (⟨d, .eqv ks bb x y, none⟩ :: os) e m n k = ThenK T d os e k (evalOp noCall e m n (.eqv ks bb x y)) := RK_op rfl
theorem RK_eqnil {k1 : Nat} {bb : Bool} {x : O} : RK T (⟨d, .eqnil k1 bb x, none⟩ :: os) e m n k = ThenK T d os e k (evalOp noCall e m n (.eqnil k1 bb x)) := RK_op rfl
theorem RK_un {uo : UnOp} {x : O} : RK T (⟨d, .un uo x, none⟩ :: os) e m n k = ThenK T d os e k (evalOp noCall e m n (.un uo x)) := RK_op rfl
theorem RK_conv {ik : IntKind} {x : O} : RK T (⟨d, .conv ik x, none⟩ :: os) e m n k = ThenK T d os e k (evalOp noCall e m n (.conv ik x)) := RK_op rfl
theorem RK_mkfn {k1 : Nat} {xs : List O} : RK T (⟨d, .mkfn k1 xs, none⟩ :: os) e m n k = ThenK T d os e k (evalOp noCall e m n (.mkfn k1 xs)) := RK_op rfl
theorem RK_mkslice {zz : List Cell} {k1 : Nat} {k2 : Nat} {x : O} {y : O} : RK T (⟨d, .mkslice zz k1 k2 x y, none⟩ :: os) e m n k = ThenK T d os e k (evalOp noCall e m n (.mkslice zz k1 k2 x y)) := RK_op rfl
theorem RK_slS {k1 : Nat} {x : O} {l1 : Option O} {l2 : Option O} {l3 : Option O} : RK T (⟨d, .slS k1 x l1 l2 l3, none⟩ :: os) e m n k = ThenK T d os e k (evalOp noCall e m n (.slS k1 x l1 l2 l3)) := RK_op rfl
theorem RK_slA {k1 : Nat} {k2 : Nat} {x : O} {l1 : Option O} {l2 : Option O} {l3 : Option O} : RK T (⟨d, .slA k1 k2 x l1 l2 l3, none⟩ :: os) e m n k = ThenK T d os e k (evalOp noCall e m n (.slA k1 k2 x l1 l2 l3)) := RK_op rfl
theorem RK_fadr {k1 : Nat} {x : O} : RK T (⟨d, .fadr k1 x, none⟩ :: os) e m n k = ThenK T d os e k (evalOp noCall e m n (.fadr k1 x)) := RK_op rfl
theorem RK_fld {k1 : Nat} {k2 : Nat} {bb : Bool} {x : O} : RK T (⟨d, .fld k1 k2 bb x, none⟩ :: os) e m n k = ThenK T d os e k (evalOp noCall e m n (.fld k1 k2 bb x)) := RK_op rfl
theorem RK_iadrA {k1 : Nat} {k2 : Nat} {x : O} {y : O} : RK T (⟨d, .iadrA k1 k2 x y, none⟩ :: os) e m n k = ThenK T d os e k (evalOp noCall e m n (.iadrA k1 k2 x y)) := RK_op rfl
theorem RK_iadrS {k1 : Nat} {x : O} {y : O} : RK T (⟨d, .iadrS k1 x y, none⟩ :: os) e m n k = ThenK T d os e k (evalOp noCall e m n (.iadrS k1 x y)) := RK_op rfl
theorem RK_idxA {k1 : Nat} {k2 : Nat} {bb : Bool} {x : O} {y : O} : RK T (⟨d, .idxA k1 k2 bb x y, none⟩ :: os) e m n k = ThenK T d os e k (evalOp noCall e m n (.idxA k1 k2 bb x y)) := RK_op rfl
theorem RK_ext {x : O} {k1 : Nat} : RK T (⟨d, .ext x k1, none⟩ :: os) e m n k = ThenK T d os e k (evalOp noCall e m n (.ext x k1)) := RK_op rfl
theorem RK_lenC {k1 : Nat} : RK T (⟨d, .lenC k1, none⟩ :: os) e m n k = ThenK T d os e k (evalOp noCall e m n (.lenC k1)) := RK_op rfl
theorem RK_cap {x : O} : RK T (⟨d, .cap x, none⟩ :: os) e m n k = ThenK T d os e k (evalOp noCall e m n (.cap x)) := RK_op rfl
theorem RK_app {k1 : Nat} {k2 : Nat} {x : O} {y : O} : RK T (⟨d, .app k1 k2 x y, none⟩ :: os) e m n k = ThenK T d os e k (evalOp noCall e m n (.app k1 k2 x y)) := RK_op rfl
theorem RK_cpy {k1 : Nat} {x : O} {y : O} : RK T (⟨d, .cpy k1 x y, none⟩ :: os) e m n k = ThenK T d os e k (evalOp noCall e m n (.cpy k1 x y)) := RK_op rfl
theorem RK_mn {xs : List O} : RK T (⟨d, .mn xs, none⟩ :: os) e m n k = ThenK T d os e k (evalOp noCall e m n (.mn xs)) := RK_op rfl
theorem RK_mx {xs : List O} : RK T (⟨d, .mx xs, none⟩ :: os) e m n k = ThenK T d os e k (evalOp noCall e m n (.mx xs)) := RK_op rfl
theorem RK_carry {bb : Bool} {xs : List O} : RK T (⟨d, .carry bb xs, none⟩ :: os) e m n k = ThenK T d os e k (evalOp noCall e m n (.carry bb xs)) := RK_op rfl
theorem RK_clr {zz : List Cell} {k1 : Nat} {x : O} : RK T (⟨d, .clr zz k1 x, none⟩ :: os) e m n k = ThenK T d os e k (evalOp noCall e m n (.clr zz k1 x)) := RK_op rfl
theorem RK_len {x : O} : RK T (⟨d, .len x, none⟩ :: os) e m n k = ThenK T d os e k ((lenO (evO e x)).map fun l => (RI l, m, n)) := by
  unfold RK
  rw [R_len]
  cases lenO (evO e x) with
  | none => rfl
  | some x => rfl
theorem ThenK_some {r : Reg} : ThenK T d os e k (some (r, m, n)) = RK T os (putE e d r) m n k := rfl
theorem RK_guard {t : Nat} {w : Bool} : RK T (⟨d, op, some (some t, w)⟩ :: os) e m n k = GK T (boolOf (e t)) w d op os e m n k := R_guard
theorem GK_tt : GK T (some true) true d op os e m n k = RK T (⟨d, op, none⟩ :: os) e m n k := by simp [GK]
theorem GK_ff : GK T (some false) false d op os e m n k = RK T (⟨d, op, none⟩ :: os) e m n k := by simp [GK]
theorem GK_tf : GK T (some true) false d op os e m n k = RK T os (putE e d (.tup [])) m n k := by simp [GK]
theorem GK_ft : GK T (some false) true d op os e m n k = RK T os (putE e d (.tup [])) m n k := by simp [GK]
theorem GK_none {w : Bool} : GK T none w d op os e m n k = RK T os (putE e d (.tup [])) m n k := by simp [GK]
theorem QK_some {r : Reg} : QK T d os e m n k (some r) = (r.flat = true ∧ RK T os (putE e d r) m n k) := rfl
theorem RK_callQ {f : Nat} {xs : List O} : RK T (⟨d, .call .q f xs, none⟩ :: os) e m n k = QK T d os e m n k (callF T f (evOs e xs) (frz m) n) := by
  unfold RK
  rw [R_call]
  simp only [doCall, callF]
  cases callR T f (evOs e xs) (frz m) n with
  | none => rfl
  | some x =>
    obtain ⟨r, m', n'⟩ := x
    simp only [Option.map_some, QK]
    split
    · rename_i h; simp [Then, h, RK]
    · rename_i h; simp [Then, h]
theorem RK_callZ {g f : Nat} {xs : List O} : RK T (⟨d, .call (.z g) f xs, none⟩ :: os) e m n k = (flats (evOs e xs) = true ∧ QK T d os e m n k (callF T f (evOs e xs) (fun _ => none) g)) := by
  unfold RK
  rw [R_call]
  simp only [doCall, callF]
  by_cases hf : flats (evOs e xs) = true
  · rw [if_pos hf]
    cases callR T f (evOs e xs) (fun _ => none) g with
    | none => simp [Then, QK]
    | some x =>
      obtain ⟨r, m', n'⟩ := x
      simp only [Option.map_some, QK, hf, true_and]
      split
      · rename_i h; simp [Then, h, RK]
      · rename_i h; simp [Then, h]
  · rw [if_neg hf]
    simp [Then, hf]
theorem VK_clo {md : Mode} {as_ : List Reg} {f : Nat} {caps : List Cell} : VK T d md as_ os e m n k (.one (.clo f caps)) = RK T (⟨d, .call md f ((as_ ++ caps.map Reg.one).map O.c), none⟩ :: os) e m n k := rfl
theorem RK_callV {md : Mode} {x : O} {xs : List O} : RK T (⟨d, .callv md x xs, none⟩ :: os) e m n k = VK T d md (evOs e xs) os e m n k (evO e x) := by
  unfold VK
  split
  · rename_i f caps hx
    unfold RK
    apply propext
    constructor
    · rintro ⟨k, e', m', n', h1, h2⟩
      refine ⟨k, e', m', n', ?_, h2⟩
      simp only [evalOps, wantedS, evalOp, evOs_c] at h1 ⊢
      rw [hx] at h1
      exact h1
    · exact fun h => R_callv hx h
  · rename_i hx
    apply propext
    constructor
    · rintro ⟨k, e', m', n', h1, h2⟩
      simp only [evalOps, wantedS, evalOp] at h1
      cases h1
    · exact fun h => h.elim
theorem RK_callk {f : Nat} {xs : List O} (h : Fn T f (evOs e xs) (frz m) n (fun r m' n' => RK T os (putE e d r) (unfrz m n m') (max n n') k)) : RK T (⟨d, .call .k f xs, none⟩ :: os) e m n k := R_callk h
theorem RK_callw {f : Nat} {xs : List O} (h : Fn T f (evOs e xs) m n (fun r m' n' => RK T os (putE e d r) m' n' k)) : RK T (⟨d, .call .w f xs, none⟩ :: os) e m n k := R_callw h
theorem RK_callq {f : Nat} {xs : List O} (h : Fn T f (evOs e xs) (frz m) n (fun r _ _ => r.flat = true ∧ RK T os (putE e d r) m n k)) : RK T (⟨d, .call .q f xs, none⟩ :: os) e m n k := R_callq h
theorem RK_callz {g f : Nat} {xs : List O} (hf : flats (evOs e xs) = true) (h : Fn T f (evOs e xs) (fun _ => none) g (fun r _ _ => r.flat = true ∧ RK T os (putE e d r) m n k)) : RK T (⟨d, .call (.z g) f xs, none⟩ :: os) e m n k := R_callz hf h
theorem Fn_ofK {f : Nat} {fn : SFun} {a : List Reg} {m : Mem} {n : Nat} {Q : Reg → Mem → Nat → Prop} (hT : T f = some fn) (hl : a.length ≤ fn.nt)
    (h : XK T fn.body ⟨fun t => a.getD t (.tup []), m, n⟩ (.fin fn.res Q)) : Fn T f a m n Q := Fn_of hT hl h

/-- A loop of a known number of rounds. -/
theorem XK_iter {T : Nat → Option SFun} {b : SC} {k : Kt} (inv : Nat → St → Prop) (N : Nat)
    (h : ∀ B, B = b → (∀ i, i < N → ∀ s, inv i s → (∀ s', inv (i + 1) s' → XK T (.loop B) s' k) → XK T b s (.lp B k)) ∧ (∀ s, inv N s → XK T b s (.lp B k))) :
    ∀ i, i ≤ N → ∀ s, inv i s → XK T (.loop b) s k := by
  obtain ⟨h1, h2⟩ := h b rfl
  intro i hi
  obtain ⟨d, hd⟩ : ∃ d, d = N - i := ⟨_, rfl⟩
  induction d generalizing i with
  | zero =>
    intro s hs
    have : i = N := by omega
    subst this
    rw [XK_loop]
    exact h2 s hs
  | succ d ih =>
    intro s hs
    rw [XK_loop]
    exact h1 i (by omega) s hs (fun s' hs' => ih (i + 1) (by omega) (by omega) s' hs')

/-- A loop whose measure goes down. -/
theorem XK_down {T : Nat → Option SFun} {b : SC} {k : Kt} (inv : Nat → St → Prop)
    (h : ∀ B, B = b → ∀ d s, inv d s → (∀ d' s', d' < d → inv d' s' → XK T (.loop B) s' k) → XK T b s (.lp B k)) : ∀ d s, inv d s → XK T (.loop b) s k := by
  intro d
  induction d using Nat.strongRecOn with
  | _ d ih =>
    intro s hs
    rw [XK_loop]
    exact h b rfl d s hs (fun d' s' hd hs' => ih d' hd s' hs')

/-! forks -/
theorem FK_split {t : Bool} (h1 : t = true → XK T a s k) (h2 : t = false → XK T b s k) : FK T (RB t) a b s k := by
  cases t
  · rw [FK_false]; exact h2 rfl
  · rw [FK_true]; exact h1 rfl
theorem GK_split {t w : Bool} (h1 : t = w → RK T (⟨d, op, none⟩ :: os) e m n k) (h2 : t = !w → RK T os (putE e d (.tup [])) m n k) : GK T (some t) w d op os e m n k := by
  unfold GK
  by_cases h : t = w
  · rw [if_pos (by rw [h])]; exact h1 h
  · rw [if_neg (fun e => h (Option.some.inj e))]
    exact h2 (by cases t <;> cases w <;> simp_all)
end

theorem rd_of {m : Mem} {id off k : Nat} {b : Blk} (h : m id = some b) : rd m id off k = rdB b off k := by unfold rd rdB; rw [h]
theorem rd_updn {m : Mem} {k id off j : Nat} : rd (upd m k none) id off j = if id = k then none else rd m id off j := by
  unfold rd
  by_cases h : id = k
  · subst h; rw [upd_same, if_pos rfl]
  · rw [upd_ne _ _ h, if_neg h]
theorem frz_at {m : Mem} {id : Nat} : frz m id = (m id).map fun b => ⟨b.cells, false⟩ := rfl
theorem ite_both {c : Prop} [Decidable c] {p q : Prop} (h1 : c → p) (h2 : ¬ c → q) : if c then p else q := by
  by_cases h : c
  · rw [if_pos h]; exact h1 h
  · rw [if_neg h]; exact h2 h

theorem mem_frz {m : Mem} {id : Nat} {b : Blk} (h : m id = some b) : frz m id = some ⟨b.cells, false⟩ := by unfold frz; rw [h]; rfl
theorem Cell.flat_sc {v : Value} : Cell.flat (.sc v) = true := rfl
theorem Cell.flat_ptr {a b : Nat} : Cell.flat (.ptr a b) = false := rfl
theorem Reg.flat_one {c : Cell} : Reg.flat (.one c) = c.flat := rfl
theorem Reg.flat_agg {cs : List Cell} : Reg.flat (.agg cs) = cs.all Cell.flat := rfl
theorem Reg.flat_tup {rs : List Reg} : Reg.flat (.tup rs) = flats rs := rfl
theorem flats_nil : flats [] = true := rfl
theorem flats_cons {r : Reg} {rs : List Reg} : flats (r :: rs) = (r.flat && flats rs) := rfl
theorem callF_closed {T : Nat → Option SFun} {k f : Nat} {a : List Reg} {m : Mem} {n : Nat} {r : Reg} (h : (run T k f a m n).map (·.1) = some r) : callF T f a m n = some r := by
  obtain ⟨x, h1, h2⟩ := Option.map_eq_some_iff.1 h
  unfold callF
  rw [callR_of h1]
  exact congrArg some h2

theorem um0 {a : Int} : (0 ≤ a % 18446744073709551616) = True := eq_true (Int.emod_nonneg _ (by decide))
theorem um1 {a : Int} : (a % 18446744073709551616 < 18446744073709551616) = True := eq_true (Int.emod_lt_of_pos _ (by decide))
/-! ### the numbers of blocks -/
section
variable {n k id a b : Nat}
theorem nadd : n + k + 1 = n + (k + 1) := Nat.add_assoc _ _ _
theorem na_eq : (n = n + k) = (k = 0) := by apply propext; omega
theorem na_eq' : (n + k = n) = (k = 0) := by apply propext; omega
theorem na_lt : (n < n + k) = (0 < k) := by apply propext; omega
theorem na_ee : (n + a = n + b) = (a = b) := by apply propext; omega
theorem na_ll : (n + a < n + b) = (a < b) := by apply propext; omega
theorem na_ne (h : id < n) : (id = n + k) = False := eq_false (by omega)
theorem na_ne' (h : id < n) : (n + k = id) = False := eq_false (by omega)
theorem na_tt (h : id < n) : (id < n + k) = True := eq_true (by omega)
theorem na_0 (h : id < n) : (id = n) = False := eq_false (by omega)
theorem na_0' (h : id < n) : (n = id) = False := eq_false (by omega)
end
end Go.Proofs.YtidpeongblkcbaaDoor.Sy

/- An evaluator of a part of Go's operations over a memory of its own, part eighteen: numbers of all kinds. Conditions: those that each theorem names. -/
namespace Go.Proofs.YtidpeongblkcbaaDoor.Sy
open Go
set_option linter.unusedVariables false
set_option linter.unusedSimpArgs false

abbrev U (n : Int) : Cell := .sc (.int .u64 n)
abbrev RU (n : Int) : Reg := .one (.sc (.int .u64 n))

section
variable {k k' : IntKind} {a b : Int}
theorem bV_add : binV .add (.int k a) (.int k b) = some (.int k (k.wrap (a + b))) := by simp [binV]
theorem bV_sub : binV .sub (.int k a) (.int k b) = some (.int k (k.wrap (a - b))) := by simp [binV]
theorem bV_mul : binV .mul (.int k a) (.int k b) = some (.int k (k.wrap (a * b))) := by simp [binV]
theorem bV_eql : binV .eql (.int k a) (.int k b) = some (.bool (decide (a = b))) := by
  simp only [binV, if_true, Option.some.injEq, Value.bool.injEq]
  by_cases h : a = b <;> simp [h]
theorem bV_neq : binV .neq (.int k a) (.int k b) = some (.bool (!decide (a = b))) := by
  simp only [binV, if_true, Option.some.injEq, Value.bool.injEq]
  by_cases h : a = b <;> simp [h]
theorem bV_lss : binV .lss (.int k a) (.int k b) = some (.bool (decide (a < b))) := by simp [binV]
theorem bV_leq : binV .leq (.int k a) (.int k b) = some (.bool (decide (a ≤ b))) := by simp [binV]
theorem bV_gtr : binV .gtr (.int k a) (.int k b) = some (.bool (decide (b < a))) := by simp [binV]
theorem bV_geq : binV .geq (.int k a) (.int k b) = some (.bool (decide (b ≤ a))) := by simp [binV]
theorem bV_quo (h : (b = 0) = False) : binV .quo (.int k a) (.int k b) = some (.int k (k.wrap (a.tdiv b))) := by simp [binV, h]
theorem bV_rem (h : (b = 0) = False) : binV .rem (.int k a) (.int k b) = some (.int k (a.tmod b)) := by simp [binV, h]
theorem bV_shr (h : 0 ≤ b) : binV .shr (.int k a) (.int k' b) = some (.int k (a / 2 ^ min b.toNat k.bits)) := by
  have : ¬ b < 0 := by omega
  simp only [binV, this, if_false]
  rw [Int.fdiv_eq_ediv_of_nonneg _ (Int.le_of_lt (Int.pow_pos (by decide)))]
theorem bV_shl (h : 0 ≤ b) : binV .shl (.int k a) (.int k' b) = some (.int k (k.wrap (a * 2 ^ min b.toNat k.bits))) := by
  have : ¬ b < 0 := by omega
  simp only [binV, this, if_false]
theorem uV_not {t : Bool} : unV .not (.bool t) = some (.bool !t) := rfl
theorem uV_neg : unV .neg (.int k a) = some (.int k (k.wrap (0 - a))) := rfl
end

theorem wrapU (n : Int) : IntKind.u64.wrap n = n % 18446744073709551616 := IntKind.wrap_u64 n
theorem wrapI (n : Int) : IntKind.i64.wrap n = Go.RowKit.wrap64 n := by
  simp [IntKind.wrap, IntKind.bits, IntKind.signed, Go.RowKit.wrap64]
  omega

theorem bits_and {k : IntKind} {a b : Int} : binV .and (.int k a) (.int k b) = some (.int k (Go.bits .and k a b)) := by
  simp [binV, Go.bits]
theorem bits_or {k : IntKind} {a b : Int} : binV .or (.int k a) (.int k b) = some (.int k (Go.bits .or k a b)) := by
  simp [binV, Go.bits]
theorem bits_xor {k : IntKind} {a b : Int} : binV .xor (.int k a) (.int k b) = some (.int k (Go.bits .xor k a b)) := by
  simp [binV, Go.bits]

def mnI (a b : Int) : Int := if b < a then b else a
def mxI (a b : Int) : Int := if a < b then b else a
theorem minI_two (a b : Int) : minI a [.one (.sc (.int .i64 b))] = some (mnI a b) := by simp [minI, mnI]
theorem maxI_two (a b : Int) : maxI a [.one (.sc (.int .i64 b))] = some (mxI a b) := by simp [maxI, mxI]
end Go.Proofs.YtidpeongblkcbaaDoor.Sy

/- Plain numbers of 128 bits: products, parts, signs. Conditions: those that each theorem names. -/
namespace Go.Proofs.YtidpeongblkcbaaDoor.Sy
open Go Go.RowKit

/-- The sign. -/
def sgn (x : Int) : Int := if 0 < x then 1 else if x < 0 then -1 else 0
theorem sgn_pos {x : Int} (h : 0 < x) : sgn x = 1 := if_pos h
theorem sgn_neg {x : Int} (h : x < 0) : sgn x = -1 := by unfold sgn; rw [if_neg (by omega), if_pos h]
theorem sgn_zero : sgn 0 = 0 := rfl
theorem sgn_eq_one {x : Int} : sgn x = 1 ↔ 0 < x := by unfold sgn; split <;> (try split) <;> omega
theorem sgn_eq_neg {x : Int} : sgn x = -1 ↔ x < 0 := by unfold sgn; split <;> (try split) <;> omega
theorem sgn_eq_zero {x : Int} : sgn x = 0 ↔ x = 0 := by unfold sgn; split <;> (try split) <;> omega
theorem sgn_neg' (x : Int) : sgn (-x) = -sgn x := by unfold sgn; split <;> split <;> (try split) <;> omega
theorem sgn_bd (x : Int) : -1 ≤ sgn x ∧ sgn x ≤ 1 := by unfold sgn; split <;> (try split) <;> omega
theorem w64 {n : Int} (h : -9223372036854775808 ≤ n ∧ n ≤ 9223372036854775807) : wrap64 n = n := by unfold wrap64; omega
theorem w64' {n : Int} (h1 : -9223372036854775808 ≤ n) (h2 : n ≤ 9223372036854775807) : wrap64 n = n := by unfold wrap64; omega
theorem wu64 (n : Int) : IntKind.u64.wrap n = n % 18446744073709551616 := IntKind.wrap_u64 n

/-- A product's parts. -/
theorem mul64_int (x y : Int) (hx0 : 0 ≤ x) (hx : x < 18446744073709551616) (hy0 : 0 ≤ y) (hy : y < 18446744073709551616) :
    IntKind.u64.wrap ((IntKind.u64.wrap ((IntKind.u64.wrap ((x / 4294967296) * (y / 4294967296))) + ((IntKind.u64.wrap ((IntKind.u64.wrap ((x / 4294967296) * (Go.bits .and .u64 y 4294967295))) + ((IntKind.u64.wrap ((Go.bits .and .u64 x 4294967295) * (Go.bits .and .u64 y 4294967295))) / 4294967296))) / 4294967296))) + ((IntKind.u64.wrap ((Go.bits .and .u64 (IntKind.u64.wrap ((IntKind.u64.wrap ((x / 4294967296) * (Go.bits .and .u64 y 4294967295))) + ((IntKind.u64.wrap ((Go.bits .and .u64 x 4294967295) * (Go.bits .and .u64 y 4294967295))) / 4294967296))) 4294967295) + (IntKind.u64.wrap ((Go.bits .and .u64 x 4294967295) * (y / 4294967296))))) / 4294967296)) = x * y / 18446744073709551616 := by
  obtain ⟨a, rfl⟩ := Int.eq_ofNat_of_zero_le hx0
  obtain ⟨b, rfl⟩ := Int.eq_ofNat_of_zero_le hy0
  have ha : a < 18446744073709551616 := by omega
  have hb : b < 18446744073709551616 := by omega
  obtain ⟨h1, h2, h3, h4⟩ := Lib.mul64_hi a b ha hb
  rw [and_low32 _ (by omega) (by omega), and_low32 _ (by omega) (by omega)]
  have e1 : ((a : Int) / 4294967296) = ((a / 4294967296 : Nat) : Int) := by omega
  have e2 : ((b : Int) / 4294967296) = ((b / 4294967296 : Nat) : Int) := by omega
  have e3 : ((a : Int) % 4294967296) = ((a % 4294967296 : Nat) : Int) := by omega
  have e4 : ((b : Int) % 4294967296) = ((b % 4294967296 : Nat) : Int) := by omega
  rw [e1, e2, e3, e4]
  have q1 := Lib.half_mul_le (a := a / 4294967296) (b := b / 4294967296) (by omega) (by omega)
  have q2 := Lib.half_mul_le (a := a / 4294967296) (b := b % 4294967296) (by omega) (by omega)
  have q3 := Lib.half_mul_le (a := a % 4294967296) (b := b / 4294967296) (by omega) (by omega)
  have q4 := Lib.half_mul_le (a := a % 4294967296) (b := b % 4294967296) (by omega) (by omega)
  have hm : ((a : Int) * (b : Int)) / 18446744073709551616 = ((a * b / 18446744073709551616 : Nat) : Int) := by
    rw [Int.natCast_ediv, Int.natCast_mul]
    rfl
  rw [hm, ← h4]
  simp only [← Int.natCast_mul]
  generalize (a / 4294967296) * (b / 4294967296) = p at *
  generalize (a / 4294967296) * (b % 4294967296) = q at *
  generalize (a % 4294967296) * (b / 4294967296) = r at *
  generalize (a % 4294967296) * (b % 4294967296) = s at *
  have w1 : IntKind.u64.wrap (s : Int) = (s : Int) := by rw [wu64]; omega
  have w2 : IntKind.u64.wrap (q : Int) = (q : Int) := by rw [wu64]; omega
  have w3 : IntKind.u64.wrap (p : Int) = (p : Int) := by rw [wu64]; omega
  have w4 : IntKind.u64.wrap (r : Int) = (r : Int) := by rw [wu64]; omega
  rw [w1, w2, w3, w4]
  have w5 : IntKind.u64.wrap ((q : Int) + (s : Int) / 4294967296) = ((q + s / 4294967296 : Nat) : Int) := by rw [wu64]; omega
  rw [w5]
  rw [and_low32 _ (by omega) (by omega)]
  simp only [wu64]
  omega

/-- A number of 128 bits, told by its parts. -/
theorem parts_hi {p : Int} {hi lo : Int} (h : p = hi * 18446744073709551616 + lo) (h0 : 0 ≤ lo) (h1 : lo < 18446744073709551616) : p / 18446744073709551616 = hi ∧ p % 18446744073709551616 = lo := by omega

theorem mul_bd {a b : Int} (ha : -9223372036854775808 ≤ a) (ha' : a ≤ 9223372036854775807) (hb : -9223372036854775808 ≤ b) (hb' : b ≤ 9223372036854775807) :
    -85070591730234615856620279821087277056 ≤ a * b ∧ a * b ≤ 85070591730234615865843651857942052864 := by
  have key : ∀ x y : Int, 0 ≤ x → x ≤ 9223372036854775808 → 0 ≤ y → y ≤ 9223372036854775808 → 0 ≤ x * y ∧ x * y ≤ 85070591730234615865843651857942052864 := by
    intro x y h1 h2 h3 h4
    exact ⟨Int.mul_nonneg h1 h3, Int.le_trans (Int.mul_le_mul_of_nonneg_right h2 h3) (by omega)⟩
  have key2 : ∀ x y : Int, 0 ≤ x → x ≤ 9223372036854775807 → 0 ≤ y → y ≤ 9223372036854775808 → 0 ≤ x * y ∧ x * y ≤ 85070591730234615856620279821087277056 := by
    intro x y h1 h2 h3 h4
    exact ⟨Int.mul_nonneg h1 h3, Int.le_trans (Int.mul_le_mul_of_nonneg_right h2 h3) (by omega)⟩
  rcases Int.le_total 0 a with h | h <;> rcases Int.le_total 0 b with h' | h'
  · have := key a b h (by omega) h' (by omega); omega
  · have := key2 a (-b) h (by omega) (by omega) (by omega); rw [Int.mul_neg] at this; omega
  · have := key2 b (-a) h' (by omega) (by omega) (by omega); rw [Int.mul_neg, Int.mul_comm] at this; omega
  · have := key (-a) (-b) (by omega) (by omega) (by omega) (by omega); rw [Int.neg_mul_neg] at this; omega

/-- Of two ints as_ unsigned numbers, less what the signs count too much: the product's parts. -/
theorem signed_mul (a b : Int) (ha : -9223372036854775808 ≤ a) (ha' : a ≤ 9223372036854775807) (hb : -9223372036854775808 ≤ b) (hb' : b ≤ 9223372036854775807) :
    wrap64 ((a % 18446744073709551616) * (b % 18446744073709551616) / 18446744073709551616 - (if a < 0 then b % 18446744073709551616 else 0) - (if b < 0 then a % 18446744073709551616 else 0)) = a * b / 18446744073709551616 ∧
      (a % 18446744073709551616) * (b % 18446744073709551616) % 18446744073709551616 = a * b % 18446744073709551616 := by
  have hbd := mul_bd ha ha' hb hb'
  have e1 : a % 18446744073709551616 = if a < 0 then a + 18446744073709551616 else a := by split <;> omega
  have e2 : b % 18446744073709551616 = if b < 0 then b + 18446744073709551616 else b := by split <;> omega
  rw [e1, e2]
  by_cases h1 : a < 0 <;> by_cases h2 : b < 0
  · simp only [if_pos h1, if_pos h2]
    have : (a + 18446744073709551616) * (b + 18446744073709551616) = a * b + 18446744073709551616 * (a + b + 18446744073709551616) := by rw [Int.add_mul, Int.mul_add, Int.mul_add, Int.mul_add, Int.mul_add, Int.mul_comm a 18446744073709551616]; omega
    rw [this]
    generalize a * b = p at *
    unfold wrap64
    omega
  · simp only [if_pos h1, if_neg h2]
    have : (a + 18446744073709551616) * b = a * b + 18446744073709551616 * b := by rw [Int.add_mul]
    rw [this]
    generalize a * b = p at *
    unfold wrap64
    omega
  · simp only [if_neg h1, if_pos h2]
    have : a * (b + 18446744073709551616) = a * b + 18446744073709551616 * a := by rw [Int.mul_add, Int.mul_comm a 18446744073709551616]
    rw [this]
    generalize a * b = p at *
    unfold wrap64
    omega
  · simp only [if_neg h1, if_neg h2]
    generalize a * b = p at *
    unfold wrap64
    exact ⟨by omega, trivial⟩
end Go.Proofs.YtidpeongblkcbaaDoor.Sy

/- Package wide walked: products, order. Conditions: those that each theorem names. -/
namespace Go.Proofs.YtidpeongblkcbaaDoor.Sy
open Go Go.Proofs Go.RowKit
set_option linter.unusedSimpArgs false
set_option linter.unusedVariables false
set_option maxRecDepth 20000
attribute [local go_sem] XK_seq XK_block XK_skip XK_exit XK_ret XK_cond XK_reg XK_dreg XK_ureg KN_seq KN_blk KN_lp KN_chk KN_chku KN_top KN_fin KX_seq KX_lp KX_blk KX_chk KX_top KR_seq KR_blk KR_lp KR_chk KR_top KR_fin FK_true FK_false RK_nil RK_mv RK_pick RK_alloc RK_box RK_build RK_bslice RK_load1 RK_loadA RK_store RK_nilchk RK_bin RK_beq RK_eqv RK_eqnil RK_un RK_conv RK_mkfn RK_mkslice RK_slS RK_slA RK_fadr RK_fld RK_iadrA RK_iadrS RK_idxA RK_ext RK_lenC RK_cap RK_app RK_cpy RK_mn RK_mx RK_len RK_carry RK_clr carryR um0 um1 ThenK_some RK_guard GK_tt GK_ff GK_tf GK_ft GK_none QK_some RK_callQ RK_callZ VK_clo RK_callV
  evalOp evO evOs upd_at unfrz_at putE_some putE_none boolOf_b boolOf_tup Option.map_some evRes pack_one pack_two pack_three pack_none List.getD_cons_zero List.getD_cons_succ getD_nil
  Option.some.injEq exists_eq_left' Reg.cs? fillC setL List.set_cons_zero List.set_cons_succ List.length_cons List.length_nil rd_upd rd_updn rdB wr List.drop_zero List.drop_succ_cons List.take_succ_cons List.take_zero List.getElem?_cons_zero List.getElem?_cons_succ
  ix Int.toNat_zero lenO_sl lenO_nil nadd na_eq na_eq' na_lt na_ee na_ll na_ne na_ne' na_tt
attribute [local go_sem] Reg.flat_one Reg.flat_agg Reg.flat_tup flats_nil flats_cons Cell.flat_sc Cell.flat_ptr List.all_cons List.all_nil disOk safeOk safeR decide_eq_true_eq decide_eq_false_iff_not
  List.map_cons List.map_nil List.cons_append List.nil_append List.append_nil evalOp.capsOf Bool.false_bne Bool.bne_false Bool.true_bne Bool.bne_true bne_self_eq_false beq_self_eq_true Bool.not_not Bool.false_and Bool.and_false Bool.true_or Bool.or_true beq_iff_eq eqCells
  Bool.true_beq Bool.false_beq Bool.not_eq_true' Bool.not_eq_eq_eq_not Bool.not_eq_false' and_false false_and frz_at idOf Option.isSome_some Bool.and_eq_true
attribute [local go_sem] wr_eq bV_add bV_sub bV_mul bV_eql bV_neq bV_lss bV_leq bV_gtr bV_geq bV_quo bV_rem bV_shr bV_shl uV_not uV_neg wrapU bits_and bits_or bits_xor IntKind.bits Nat.min_eq_left Nat.min_eq_right Nat.min_self
attribute [local go_sem] bne_iff_ne Int.cast_ofNat_Int Nat.zero_add Nat.add_zero and_self and_true true_and ne_eq not_false_eq_true not_true_eq_false decide_true decide_false Bool.false_eq_true Bool.not_true Bool.not_false Bool.true_and Bool.and_true Bool.or_false Bool.false_or Bool.and_self

/-- A number of 128 bits. -/
abbrev wN (v : Int) : Reg := .agg [I (v / 18446744073709551616), U (v % 18446744073709551616)]

theorem v_Mul64 (x y : Int) (hx0 : 0 ≤ x) (hx : x < 18446744073709551616) (hy0 : 0 ≤ y) (hy : y < 18446744073709551616) (m : Mem) (n : Nat) :
    callF TA 61 [RU x, RU y] m n = some (.tup [RU (x * y / 18446744073709551616), RU (x * y % 18446744073709551616)]) := by
  refine callF_of (Fn_ofK (fn := F61) rfl (by simp [F61]) ?_)
  rw [← mul64_int x y hx0 hx hy0 hy]
  try simp only [r61_0, r61_1, r61_2, r61_3, r61_4, r61_5, r61_6, r61_7, r61_8, r61_9, r61_10, r61_11, c61, F61, go_sem, Int.reduceTMod, Int.reduceTDiv, Int.reduceDiv, Int.reduceMod, Int.reduceAdd, Int.reduceSub, Int.reduceMul, Int.reduceNeg, Int.reducePow, Int.reduceEq, ↓reduceIte, Nat.reduceEqDiff, Nat.reduceAdd, Nat.reduceMul, Nat.reduceLeDiff, Nat.reduceSub, Nat.reduceLT, Int.reduceToNat, Int.reduceLT, Int.reduceLE, reduceCtorEq]
  repeat' ((first | refine FK_split (fun h_ => ?_) (fun h_ => ?_) | refine GK_split (fun h_ => ?_) (fun h_ => ?_) | refine ite_both (fun h_ => ?_) (fun h_ => ?_)) <;> (try simp only [decide_eq_true_eq, decide_eq_false_iff_not, Bool.not_true, Bool.not_false, Bool.not_eq_true', Bool.not_eq_false', Bool.not_eq_eq_eq_not, Decidable.not_not] at h_) <;> (try simp only [r61_0, r61_1, r61_2, r61_3, r61_4, r61_5, r61_6, r61_7, r61_8, r61_9, r61_10, r61_11, c61, F61, h_, go_sem, Int.reduceTMod, Int.reduceTDiv, Int.reduceDiv, Int.reduceMod, Int.reduceAdd, Int.reduceSub, Int.reduceMul, Int.reduceNeg, Int.reducePow, Int.reduceEq, ↓reduceIte, Nat.reduceEqDiff, Nat.reduceAdd, Nat.reduceMul, Nat.reduceLeDiff, Nat.reduceSub, Nat.reduceLT, Int.reduceToNat, Int.reduceLT, Int.reduceLE, reduceCtorEq]))
theorem v_wMul (a b : Int) (ha : -9223372036854775808 ≤ a) (ha' : a ≤ 9223372036854775807) (hb : -9223372036854775808 ≤ b) (hb' : b ≤ 9223372036854775807) (m : Mem) (n : Nat) :
    callF TA 57 [RI a, RI b] m n = some (wN (a * b)) := by
  refine callF_of (Fn_ofK (fn := F57) rfl (by simp [F57]) ?_)
  obtain ⟨h1, h2⟩ := signed_mul a b ha ha' hb hb'
  have e := fun m n => v_Mul64 (a % 18446744073709551616) (b % 18446744073709551616) (by omega) (by omega) (by omega) (by omega) m n
  have key : ∀ z : Int, wrap64 (z % 18446744073709551616) = wrap64 z := by intro z; unfold wrap64; omega
  have key3 : ∀ z v : Int, wrap64 (z % 18446744073709551616 - v) = wrap64 (z - v) := by intro z v; unfold wrap64; omega
  have key2 : ∀ z v : Int, wrap64 ((z % 18446744073709551616 - v) % 18446744073709551616) = wrap64 (z - v) := by intro z v; unfold wrap64; omega
  by_cases c1 : a < 0 <;> by_cases c2 : b < 0 <;> simp only [c1, c2, if_true, if_false, Int.sub_zero] at h1
  all_goals simp only [r57_0, r57_1, r57_2, r57_3, r57_4, r57_5, r57_6, c57, F57, e, c1, c2, wrapI, key, key3, key2, h1, h2, go_sem, Int.reduceTMod, Int.reduceTDiv, Int.reduceDiv, Int.reduceMod, Int.reduceAdd, Int.reduceSub, Int.reduceMul, Int.reduceNeg, Int.reducePow, Int.reduceEq, ↓reduceIte, Nat.reduceEqDiff, Nat.reduceAdd, Nat.reduceMul, Nat.reduceLeDiff, Nat.reduceSub, Nat.reduceLT, Int.reduceToNat, Int.reduceLT, Int.reduceLE, reduceCtorEq]
theorem v_isNaN (a : Int) (m : Mem) (n : Nat) : callF TA 65 [RI a] m n = some (RB false) := by
  refine callF_of (Fn_ofK (fn := F65) rfl (by simp [F65]) ?_)
  try simp only [r65_0, r65_1, c65, F65, go_sem, Int.reduceTMod, Int.reduceTDiv, Int.reduceDiv, Int.reduceMod, Int.reduceAdd, Int.reduceSub, Int.reduceMul, Int.reduceNeg, Int.reducePow, Int.reduceEq, ↓reduceIte, Nat.reduceEqDiff, Nat.reduceAdd, Nat.reduceMul, Nat.reduceLeDiff, Nat.reduceSub, Nat.reduceLT, Int.reduceToNat, Int.reduceLT, Int.reduceLE, reduceCtorEq]
  repeat' ((first | refine FK_split (fun h_ => ?_) (fun h_ => ?_) | refine GK_split (fun h_ => ?_) (fun h_ => ?_) | refine ite_both (fun h_ => ?_) (fun h_ => ?_)) <;> (try simp only [decide_eq_true_eq, decide_eq_false_iff_not, Bool.not_true, Bool.not_false, Bool.not_eq_true', Bool.not_eq_false', Bool.not_eq_eq_eq_not, Decidable.not_not] at h_) <;> (try simp only [r65_0, r65_1, c65, F65, h_, go_sem, Int.reduceTMod, Int.reduceTDiv, Int.reduceDiv, Int.reduceMod, Int.reduceAdd, Int.reduceSub, Int.reduceMul, Int.reduceNeg, Int.reducePow, Int.reduceEq, ↓reduceIte, Nat.reduceEqDiff, Nat.reduceAdd, Nat.reduceMul, Nat.reduceLeDiff, Nat.reduceSub, Nat.reduceLT, Int.reduceToNat, Int.reduceLT, Int.reduceLE, reduceCtorEq]))
theorem v_isNaNu (a : Int) (m : Mem) (n : Nat) : callF TA 66 [RU a] m n = some (RB false) := by
  refine callF_of (Fn_ofK (fn := F66) rfl (by simp [F66]) ?_)
  try simp only [r66_0, r66_1, c66, F66, go_sem, Int.reduceTMod, Int.reduceTDiv, Int.reduceDiv, Int.reduceMod, Int.reduceAdd, Int.reduceSub, Int.reduceMul, Int.reduceNeg, Int.reducePow, Int.reduceEq, ↓reduceIte, Nat.reduceEqDiff, Nat.reduceAdd, Nat.reduceMul, Nat.reduceLeDiff, Nat.reduceSub, Nat.reduceLT, Int.reduceToNat, Int.reduceLT, Int.reduceLE, reduceCtorEq]
  repeat' ((first | refine FK_split (fun h_ => ?_) (fun h_ => ?_) | refine GK_split (fun h_ => ?_) (fun h_ => ?_) | refine ite_both (fun h_ => ?_) (fun h_ => ?_)) <;> (try simp only [decide_eq_true_eq, decide_eq_false_iff_not, Bool.not_true, Bool.not_false, Bool.not_eq_true', Bool.not_eq_false', Bool.not_eq_eq_eq_not, Decidable.not_not] at h_) <;> (try simp only [r66_0, r66_1, c66, F66, h_, go_sem, Int.reduceTMod, Int.reduceTDiv, Int.reduceDiv, Int.reduceMod, Int.reduceAdd, Int.reduceSub, Int.reduceMul, Int.reduceNeg, Int.reducePow, Int.reduceEq, ↓reduceIte, Nat.reduceEqDiff, Nat.reduceAdd, Nat.reduceMul, Nat.reduceLeDiff, Nat.reduceSub, Nat.reduceLT, Int.reduceToNat, Int.reduceLT, Int.reduceLE, reduceCtorEq]))
theorem sgn_sub (a b : Int) : sgn (a - b) = if a < b then -1 else if b < a then 1 else 0 := by unfold sgn; split <;> split <;> (try split) <;> omega
theorem v_Cmp (a b : Int) (m : Mem) (n : Nat) : callF TA 63 [RI a, RI b] m n = some (RI (sgn (a - b))) := by
  refine callF_of (Fn_ofK (fn := F63) rfl (by simp [F63]) ?_)
  rw [sgn_sub]
  try simp only [r63_0, r63_1, r63_2, r63_3, r63_4, r63_5, r63_6, r63_7, r63_8, r63_9, r63_10, r63_11, r63_12, r63_13, c63, F63, v_isNaN, go_sem, Int.reduceTMod, Int.reduceTDiv, Int.reduceDiv, Int.reduceMod, Int.reduceAdd, Int.reduceSub, Int.reduceMul, Int.reduceNeg, Int.reducePow, Int.reduceEq, ↓reduceIte, Nat.reduceEqDiff, Nat.reduceAdd, Nat.reduceMul, Nat.reduceLeDiff, Nat.reduceSub, Nat.reduceLT, Int.reduceToNat, Int.reduceLT, Int.reduceLE, reduceCtorEq]
  repeat' ((first | refine FK_split (fun h_ => ?_) (fun h_ => ?_) | refine GK_split (fun h_ => ?_) (fun h_ => ?_) | refine ite_both (fun h_ => ?_) (fun h_ => ?_)) <;> (try simp only [decide_eq_true_eq, decide_eq_false_iff_not, Bool.not_true, Bool.not_false, Bool.not_eq_true', Bool.not_eq_false', Bool.not_eq_eq_eq_not, Decidable.not_not] at h_) <;> (try simp only [r63_0, r63_1, r63_2, r63_3, r63_4, r63_5, r63_6, r63_7, r63_8, r63_9, r63_10, r63_11, r63_12, r63_13, c63, F63, v_isNaN, h_, go_sem, Int.reduceTMod, Int.reduceTDiv, Int.reduceDiv, Int.reduceMod, Int.reduceAdd, Int.reduceSub, Int.reduceMul, Int.reduceNeg, Int.reducePow, Int.reduceEq, ↓reduceIte, Nat.reduceEqDiff, Nat.reduceAdd, Nat.reduceMul, Nat.reduceLeDiff, Nat.reduceSub, Nat.reduceLT, Int.reduceToNat, Int.reduceLT, Int.reduceLE, reduceCtorEq]))
theorem v_Cmpu (a b : Int) (m : Mem) (n : Nat) : callF TA 64 [RU a, RU b] m n = some (RI (sgn (a - b))) := by
  refine callF_of (Fn_ofK (fn := F64) rfl (by simp [F64]) ?_)
  rw [sgn_sub]
  try simp only [r64_0, r64_1, r64_2, r64_3, r64_4, r64_5, r64_6, r64_7, r64_8, r64_9, r64_10, r64_11, r64_12, r64_13, c64, F64, v_isNaNu, go_sem, Int.reduceTMod, Int.reduceTDiv, Int.reduceDiv, Int.reduceMod, Int.reduceAdd, Int.reduceSub, Int.reduceMul, Int.reduceNeg, Int.reducePow, Int.reduceEq, ↓reduceIte, Nat.reduceEqDiff, Nat.reduceAdd, Nat.reduceMul, Nat.reduceLeDiff, Nat.reduceSub, Nat.reduceLT, Int.reduceToNat, Int.reduceLT, Int.reduceLE, reduceCtorEq]
  repeat' ((first | refine FK_split (fun h_ => ?_) (fun h_ => ?_) | refine GK_split (fun h_ => ?_) (fun h_ => ?_) | refine ite_both (fun h_ => ?_) (fun h_ => ?_)) <;> (try simp only [decide_eq_true_eq, decide_eq_false_iff_not, Bool.not_true, Bool.not_false, Bool.not_eq_true', Bool.not_eq_false', Bool.not_eq_eq_eq_not, Decidable.not_not] at h_) <;> (try simp only [r64_0, r64_1, r64_2, r64_3, r64_4, r64_5, r64_6, r64_7, r64_8, r64_9, r64_10, r64_11, r64_12, r64_13, c64, F64, v_isNaNu, h_, go_sem, Int.reduceTMod, Int.reduceTDiv, Int.reduceDiv, Int.reduceMod, Int.reduceAdd, Int.reduceSub, Int.reduceMul, Int.reduceNeg, Int.reducePow, Int.reduceEq, ↓reduceIte, Nat.reduceEqDiff, Nat.reduceAdd, Nat.reduceMul, Nat.reduceLeDiff, Nat.reduceSub, Nat.reduceLT, Int.reduceToNat, Int.reduceLT, Int.reduceLE, reduceCtorEq]))
theorem v_Or (a b : Int) (id : Nat) (m : Mem) (n : Nat) (hm : m id = some ⟨[I a, I b], false⟩) :
    callF TA 62 [.one (.sl id 0 2 (some 2) 1)] m n = some (RI (if a ≠ 0 then a else b)) := by
  refine callF_of (Fn_ofK (fn := F62) rfl (by simp [F62]) ?_)
  by_cases ha : a = 0 <;> by_cases hb : b = 0
  all_goals
    try simp only [r62_0, r62_1, r62_2, r62_3, r62_4, r62_5, r62_6, r62_7, r62_8, c62, F62, l62_0, XK_loop, hm, ha, hb, go_sem, Int.reduceTMod, Int.reduceTDiv, Int.reduceDiv, Int.reduceMod, Int.reduceAdd, Int.reduceSub, Int.reduceMul, Int.reduceNeg, Int.reducePow, Int.reduceEq, ↓reduceIte, Nat.reduceEqDiff, Nat.reduceAdd, Nat.reduceMul, Nat.reduceLeDiff, Nat.reduceSub, Nat.reduceLT, Int.reduceToNat, Int.reduceLT, Int.reduceLE, reduceCtorEq]
    repeat' ((first | refine FK_split (fun h_ => ?_) (fun h_ => ?_) | refine GK_split (fun h_ => ?_) (fun h_ => ?_) | refine ite_both (fun h_ => ?_) (fun h_ => ?_)) <;> (try simp only [decide_eq_true_eq, decide_eq_false_iff_not, Bool.not_true, Bool.not_false, Bool.not_eq_true', Bool.not_eq_false', Bool.not_eq_eq_eq_not, Decidable.not_not] at h_) <;> (try simp only [r62_0, r62_1, r62_2, r62_3, r62_4, r62_5, r62_6, r62_7, r62_8, c62, F62, l62_0, XK_loop, hm, ha, hb, h_, go_sem, Int.reduceTMod, Int.reduceTDiv, Int.reduceDiv, Int.reduceMod, Int.reduceAdd, Int.reduceSub, Int.reduceMul, Int.reduceNeg, Int.reducePow, Int.reduceEq, ↓reduceIte, Nat.reduceEqDiff, Nat.reduceAdd, Nat.reduceMul, Nat.reduceLeDiff, Nat.reduceSub, Nat.reduceLT, Int.reduceToNat, Int.reduceLT, Int.reduceLE, reduceCtorEq]))
/-- The order of two numbers of 128 bits. -/
def cmpN (h l h' l' : Int) : Int := if h < h' then -1 else if h' < h then 1 else sgn (l - l')
theorem v_NCmp (h l h' l' : Int) (m : Mem) (n : Nat) : callF TA 58 [.agg [I h, U l], .agg [I h', U l']] m n = some (RI (cmpN h l h' l')) := by
  refine callF_of (Fn_ofK (fn := F58) rfl (by simp [F58]) ?_)
  have e : (if sgn (h - h') ≠ 0 then sgn (h - h') else sgn (l - l')) = cmpN h l h' l' := by
    unfold cmpN
    simp only [sgn_sub]
    repeat' split
    all_goals omega
  rw [← e]
  try simp only [r58_0, r58_1, c58, F58, v_Cmp, v_Cmpu, v_Or (sgn (h - h')) (sgn (l - l')), go_sem, Int.reduceTMod, Int.reduceTDiv, Int.reduceDiv, Int.reduceMod, Int.reduceAdd, Int.reduceSub, Int.reduceMul, Int.reduceNeg, Int.reducePow, Int.reduceEq, ↓reduceIte, Nat.reduceEqDiff, Nat.reduceAdd, Nat.reduceMul, Nat.reduceLeDiff, Nat.reduceSub, Nat.reduceLT, Int.reduceToNat, Int.reduceLT, Int.reduceLE, reduceCtorEq]
  repeat' ((first | refine FK_split (fun h_ => ?_) (fun h_ => ?_) | refine GK_split (fun h_ => ?_) (fun h_ => ?_) | refine ite_both (fun h_ => ?_) (fun h_ => ?_)) <;> (try simp only [decide_eq_true_eq, decide_eq_false_iff_not, Bool.not_true, Bool.not_false, Bool.not_eq_true', Bool.not_eq_false', Bool.not_eq_eq_eq_not, Decidable.not_not] at h_) <;> (try simp only [r58_0, r58_1, c58, F58, v_Cmp, v_Cmpu, v_Or (sgn (h - h')) (sgn (l - l')), h_, go_sem, Int.reduceTMod, Int.reduceTDiv, Int.reduceDiv, Int.reduceMod, Int.reduceAdd, Int.reduceSub, Int.reduceMul, Int.reduceNeg, Int.reducePow, Int.reduceEq, ↓reduceIte, Nat.reduceEqDiff, Nat.reduceAdd, Nat.reduceMul, Nat.reduceLeDiff, Nat.reduceSub, Nat.reduceLT, Int.reduceToNat, Int.reduceLT, Int.reduceLE, reduceCtorEq]))

/- Is a number in room: the reference's walk. Conditions: those that each theorem names. -/
open Go Go.Proofs
set_option linter.unusedSimpArgs false
set_option linter.unusedVariables false

def rm (a : Int) : Bool := decide (-2147483648 ≤ a) && decide (a ≤ 2147483648)
theorem rm_iff {a : Int} : rm a = true ↔ -2147483648 ≤ a ∧ a ≤ 2147483648 := by simp [rm]
theorem v_rIn (a : Int) (m : Mem) (n : Nat) : callF TA 30 [RI a] m n = some (RB (rm a)) := by
  refine callF_of (Fn_ofK (fn := F30) rfl (by simp [F30]) ?_)
  try simp only [r30_0, r30_1, c30, F30, rm, go_sem, Int.reduceTMod, Int.reduceTDiv, Int.reduceDiv, Int.reduceMod, Int.reduceAdd, Int.reduceSub, Int.reduceMul, Int.reduceNeg, Int.reducePow, Int.reduceEq, ↓reduceIte, Nat.reduceEqDiff, Nat.reduceAdd, Nat.reduceMul, Nat.reduceLeDiff, Nat.reduceSub, Nat.reduceLT, Int.reduceToNat, Int.reduceLT, Int.reduceLE, reduceCtorEq]
  repeat' ((first | refine FK_split (fun h_ => ?_) (fun h_ => ?_) | refine GK_split (fun h_ => ?_) (fun h_ => ?_) | refine ite_both (fun h_ => ?_) (fun h_ => ?_)) <;> (try simp only [decide_eq_true_eq, decide_eq_false_iff_not, Bool.not_true, Bool.not_false, Bool.not_eq_true', Bool.not_eq_false', Bool.not_eq_eq_eq_not, Decidable.not_not] at h_) <;> (try simp only [r30_0, r30_1, c30, F30, rm, h_, go_sem, Int.reduceTMod, Int.reduceTDiv, Int.reduceDiv, Int.reduceMod, Int.reduceAdd, Int.reduceSub, Int.reduceMul, Int.reduceNeg, Int.reducePow, Int.reduceEq, ↓reduceIte, Nat.reduceEqDiff, Nat.reduceAdd, Nat.reduceMul, Nat.reduceLeDiff, Nat.reduceSub, Nat.reduceLT, Int.reduceToNat, Int.reduceLT, Int.reduceLE, reduceCtorEq]))


/- Package fixed walked: in room. Conditions: those that each theorem names. -/
open Go Go.Proofs
set_option linter.unusedSimpArgs false
set_option linter.unusedVariables false

theorem v_fIn (a : Int) (m : Mem) (n : Nat) : callF TA 50 [RI a] m n = some (RB (rm a)) := by
  refine callF_of (Fn_ofK (fn := F50) rfl (by simp [F50]) ?_)
  try simp only [r50_0, r50_1, c50, F50, rm, go_sem, Int.reduceTMod, Int.reduceTDiv, Int.reduceDiv, Int.reduceMod, Int.reduceAdd, Int.reduceSub, Int.reduceMul, Int.reduceNeg, Int.reducePow, Int.reduceEq, ↓reduceIte, Nat.reduceEqDiff, Nat.reduceAdd, Nat.reduceMul, Nat.reduceLeDiff, Nat.reduceSub, Nat.reduceLT, Int.reduceToNat, Int.reduceLT, Int.reduceLE, reduceCtorEq]
  repeat' ((first | refine FK_split (fun h_ => ?_) (fun h_ => ?_) | refine GK_split (fun h_ => ?_) (fun h_ => ?_) | refine ite_both (fun h_ => ?_) (fun h_ => ?_)) <;> (try simp only [decide_eq_true_eq, decide_eq_false_iff_not, Bool.not_true, Bool.not_false, Bool.not_eq_true', Bool.not_eq_false', Bool.not_eq_eq_eq_not, Decidable.not_not] at h_) <;> (try simp only [r50_0, r50_1, c50, F50, rm, h_, go_sem, Int.reduceTMod, Int.reduceTDiv, Int.reduceDiv, Int.reduceMod, Int.reduceAdd, Int.reduceSub, Int.reduceMul, Int.reduceNeg, Int.reducePow, Int.reduceEq, ↓reduceIte, Nat.reduceEqDiff, Nat.reduceAdd, Nat.reduceMul, Nat.reduceLeDiff, Nat.reduceSub, Nat.reduceLT, Int.reduceToNat, Int.reduceLT, Int.reduceLE, reduceCtorEq]))

/- Rows of records in memory: read, made, appended. Conditions: those that each theorem names. -/
open Go Go.Proofs
set_option linter.unusedSimpArgs false
set_option linter.unusedVariables false

theorem callF_ex {T : Nat → Option SFun} {f : Nat} {a : List Reg} {m : Mem} {n : Nat} {P : Reg → Prop} (h : Fn T f a m n (fun r _ _ => P r)) : ∃ r, callF T f a m n = some r ∧ P r := by
  obtain ⟨k, r, m', n', h1, h2⟩ := h
  exact ⟨r, by unfold callF; rw [callR_of h1]; rfl, h2⟩
/-- The number of the block that a slice lies in. -/
def sid : Reg → Option Nat
  | .one (.sl id _ _ _ _) => some id
  | _ => none

section
variable {α : Type} {enc : α → List Cell} {sz : Nat}
/-- The register reads as_ these records. -/
def RL (enc : α → List Cell) (sz : Nat) (m : Mem) (n : Nat) (r : Reg) (l : List α) : Prop :=
  (r = rnil ∧ l = []) ∨ ∃ id off cap, r = .one (.sl id off l.length cap sz) ∧ id < n ∧ rd m id off (l.length * sz) = some (l.flatMap enc)
/-- The register is a slice of the call's own, made behind base. -/
def OL (enc : α → List Cell) (sz base : Nat) (m : Mem) (n : Nat) (r : Reg) (l : List α) : Prop :=
  (r = rnil ∧ l = []) ∨ ∃ id, r = .one (.sl id 0 l.length none sz) ∧ base ≤ id ∧ id < n ∧ m id = some ⟨l.flatMap enc, true⟩

theorem OL.nil {base : Nat} {m : Mem} {n : Nat} : OL enc sz base m n rnil [] := Or.inl ⟨rfl, rfl⟩
theorem RL.nil {m : Mem} {n : Nat} : RL enc sz m n rnil [] := Or.inl ⟨rfl, rfl⟩
theorem OL.rl (hsz : ∀ x, (enc x).length = sz) {base : Nat} {m : Mem} {n : Nat} {r : Reg} {l : List α} (h : OL enc sz base m n r l) : RL enc sz m n r l := by
  rcases h with h | ⟨id, h1, h2, h3, h4⟩
  · exact Or.inl h
  · refine Or.inr ⟨id, 0, none, h1, h3, ?_⟩
    have hl := flatMap_len enc sz hsz l
    rw [rd_of h4]
    unfold rdB
    rw [if_pos (by rw [hl]; omega), List.drop_zero, ← hl, List.take_length]
theorem OL.keep {base : Nat} {m m' : Mem} {n n' : Nat} {r : Reg} {l : List α} (h : OL enc sz base m n r l) (hn : n ≤ n') (hm : ∀ id, base ≤ id → id < n → m' id = m id) : OL enc sz base m' n' r l := by
  rcases h with h | ⟨id, h1, h2, h3, h4⟩
  · exact Or.inl h
  · exact Or.inr ⟨id, h1, h2, by omega, by rw [hm id h2 h3]; exact h4⟩
theorem OL.base {b b' : Nat} {m : Mem} {n : Nat} {r : Reg} {l : List α} (h : OL enc sz b m n r l) (hb : b' ≤ b) : OL enc sz b' m n r l := by
  rcases h with h | ⟨id, h1, h2, h3, h4⟩
  · exact Or.inl h
  · exact Or.inr ⟨id, h1, by omega, h3, h4⟩
theorem RL.keep {m m' : Mem} {n n' : Nat} {r : Reg} {l : List α} (h : RL enc sz m n r l) (hn : n ≤ n') (hm : ∀ id, id < n → m' id = m id) : RL enc sz m' n' r l := by
  rcases h with h | ⟨id, off, cap, h1, h2, h3⟩
  · exact Or.inl h
  · refine Or.inr ⟨id, off, cap, h1, by omega, ?_⟩
    have : rd m' id off (l.length * sz) = rd m id off (l.length * sz) := by unfold rd; rw [hm id h2]
    rw [this]; exact h3
theorem RL.keep' {m m' : Mem} {n n' : Nat} {r : Reg} {l : List α} (h : RL enc sz m n r l) (hn : n ≤ n') (hm : ∀ id, sid r = some id → m' id = m id) : RL enc sz m' n' r l := by
  rcases h with h | ⟨id, off, cap, h1, h2, h3⟩
  · exact Or.inl h
  · refine Or.inr ⟨id, off, cap, h1, by omega, ?_⟩
    have : rd m' id off (l.length * sz) = rd m id off (l.length * sz) := by unfold rd; rw [hm id (by rw [h1]; rfl)]
    rw [this]; exact h3
theorem RL.frz {m : Mem} {n : Nat} {r : Reg} {l : List α} (h : RL enc sz m n r l) : RL enc sz (frz m) n r l := by
  rcases h with h | ⟨id, off, cap, h1, h2, h3⟩
  · exact Or.inl h
  · exact Or.inr ⟨id, off, cap, h1, h2, by rw [rd_frz]; exact h3⟩
theorem RL.lt {m : Mem} {n : Nat} {r : Reg} {l : List α} (h : RL enc sz m n r l) {i : Nat} (hi : sid r = some i) : i < n := by
  rcases h with ⟨rfl, _⟩ | ⟨id, off, cap, rfl, h2, h3⟩
  · cases hi
  · simp only [sid, Option.some.injEq] at hi; omega
theorem RL.len {m : Mem} {n : Nat} {r : Reg} {l : List α} (h : RL enc sz m n r l) : lenO r = some (l.length : Int) := by
  rcases h with ⟨rfl, rfl⟩ | ⟨id, off, cap, rfl, h2, h3⟩ <;> rfl
/-- The record i of a slice that is read. -/
theorem RL.at (hsz : ∀ x, (enc x).length = sz) {m : Mem} {n : Nat} {r : Reg} {l : List α} {i : Nat} {x : α} (h : RL enc sz m n r l) (hi : l[i]? = some x) :
    ∃ id off cap, r = .one (.sl id off l.length cap sz) ∧ id < n ∧ rd m id (off + i * sz) sz = some (enc x) := by
  rcases h with ⟨rfl, rfl⟩ | ⟨id, off, cap, h1, h2, h3⟩
  · simp at hi
  · exact ⟨id, off, cap, h1, h2, rd_at hsz h3 hi⟩

/-- One record more. -/
theorem K_push {T : Nat → Option SFun} (hsz : ∀ x, (enc x).length = sz) (hpos : 0 < sz) {base n0 n : Nat} {m0 m : Mem} {r0 : Reg} {l : List α} {p : α} {j by' : Nat} {o : Bool} {d : Option Nat} {os : List SOper} {e : Nat → Reg} {k : Kt}
    (ho : OL enc sz base m0 n0 r0 l) (hn : n0 ≤ n) (hm : ∀ id, base ≤ id → id < n0 → m id = m0 id) (hj : m j = some ⟨enc p, o⟩) (hsm : l.length + 1 ≤ 4294967296) (hbase : base ≤ n)
    (next : ∀ r m', OL enc sz base m' (n + 1) r (l ++ [p]) → (∀ id, id < base → m' id = m id) → (∀ id, id < n → sid r0 ≠ some id → m' id = m id) → RK T os (putE e d r) m' (n + 1) k) :
    ThenK T d os e k (evApp m n sz by' r0 (.one (.sl j 0 1 (some 1) sz))) := by
  have hx : newsOf m sz (.one (.sl j 0 1 (some 1) sz)) = some (1, enc p) := by
    simp only [newsOf, if_true]
    rw [rd_of hj]
    simp [rdB, hsz]
    exact List.take_of_length_le (by rw [hsz]; exact Nat.le_refl _)
  rcases ho with ⟨rfl, rfl⟩ | ⟨id, rfl, h2, h3, h4⟩
  · simp only [evApp, hx]
    rw [if_neg (by omega), if_pos (by omega)]
    refine next _ _ (Or.inr ⟨n, rfl, hbase, by omega, ?_⟩) (fun id hid => upd_ne _ _ (by omega)) (fun id hid _ => upd_ne _ _ (by omega))
    rw [upd_same]
    simp
  · have h5 : m id = some ⟨l.flatMap enc, true⟩ := by rw [hm id h2 h3]; exact h4
    have hl := flatMap_len enc sz hsz l
    have h6 : rd m id 0 (l.length * sz) = some (l.flatMap enc) := by
      rw [rd_of h5]
      unfold rdB
      rw [if_pos (by rw [hl]; omega), List.drop_zero, ← hl, List.take_length]
    simp only [evApp, hx, if_true, h5, h6, Option.map_some, true_and, if_pos hsm]
    refine next _ _ (Or.inr ⟨n, by simp, hbase, by omega, ?_⟩) (fun i hi => ?_) (fun i hi hs => ?_)
    · rw [upd_same]; simp
    · rw [upd_ne _ _ (by omega), upd_ne _ _ (by omega)]
    · rw [upd_ne _ _ (by omega), upd_ne _ _ (fun e => hs (by rw [e]; rfl))]
end

/- Plain numbers: floors. Conditions: those that each theorem names. -/
open Go Go.RowKit

theorem tdiv_tmod {X D : Int} (hD : 0 < D) : (0 ≤ X ∧ X.tdiv D = X / D ∧ X.tmod D = X % D) ∨ (X < 0 ∧ X.tmod D = 0 ∧ X.tdiv D = X / D) ∨ (X < 0 ∧ X.tmod D < 0 ∧ X.tdiv D = X / D + 1) := by
  rcases Int.lt_or_le X 0 with h | h
  · have e1 : X.tdiv D = -((-X) / D) := by
      have : X = -(-X) := by omega
      rw [this, Int.neg_tdiv, Int.tdiv_eq_ediv_of_nonneg (by omega)]
      simp
    have e2 := Int.mul_tdiv_add_tmod X D
    have e3 := Int.mul_ediv_add_emod (-X) D
    have e4 := Int.emod_nonneg (-X) (Int.ne_of_gt hD)
    have e5 := Int.emod_lt_of_pos (-X) hD
    have e6 := Int.mul_ediv_add_emod X D
    have e7 := Int.emod_nonneg X (Int.ne_of_gt hD)
    have e8 := Int.emod_lt_of_pos X hD
    rw [e1, Int.mul_neg] at e2
    rw [e1]
    generalize (-X) / D = q at *
    generalize (-X) % D = r at *
    by_cases c : r = 0
    · refine Or.inr (Or.inl ⟨h, by omega, ?_⟩)
      have h3 : X = D * (-q) := by rw [Int.mul_neg]; omega
      rw [h3, Int.mul_ediv_cancel_left _ (Int.ne_of_gt hD)]
    · refine Or.inr (Or.inr ⟨h, by omega, ?_⟩)
      have h3 : X = (D - r) + D * (-q - 1) := by rw [Int.mul_sub, Int.mul_neg]; omega
      rw [h3, Int.add_mul_ediv_left _ _ (Int.ne_of_gt hD), Int.ediv_eq_zero_of_lt (by omega) (by omega)]
      omega
  · exact Or.inl ⟨h, Int.tdiv_eq_ediv_of_nonneg h, Int.tmod_eq_emod_of_nonneg h⟩
theorem tdiv_floor {X D : Int} (hD : 0 < D) : (if X.tmod D < 0 then X.tdiv D - 1 else X.tdiv D) = X / D := by
  have := Int.emod_nonneg X (Int.ne_of_gt hD)
  rcases tdiv_tmod (X := X) hD with ⟨h1, h2, h3⟩ | ⟨h1, h2, h3⟩ | ⟨h1, h2, h3⟩
  · rw [if_neg (by omega), h2]
  · rw [if_neg (by omega), h3]
  · rw [if_pos h2, h3]; omega
theorem below_floor {X D : Int} (hD : 0 < D) : (if X < X.tdiv D * D then X.tdiv D - 1 else X.tdiv D) = X / D := by
  have e1 := Int.mul_ediv_add_emod X D
  have e2 := Int.emod_nonneg X (Int.ne_of_gt hD)
  have e3 := Int.emod_lt_of_pos X hD
  have e4 := Int.mul_tdiv_add_tmod X D
  rcases tdiv_tmod (X := X) hD with ⟨h1, h2, h3⟩ | ⟨h1, h2, h3⟩ | ⟨h1, h2, h3⟩
  · rw [h2, if_neg (by rw [Int.mul_comm]; omega)]
  · rw [h3, if_neg (by rw [Int.mul_comm]; omega)]
  · rw [if_pos (by rw [Int.mul_comm]; omega), h3]; omega
/-- A quotient, rounded. -/
def rnd (x d : Int) : Int := (2 * x + d) / (2 * d)
theorem rnd_eq {x d : Int} (hd : 0 < d) : rnd x d = if d - (x - x / d * d) ≤ x - x / d * d then x / d + 1 else x / d := by
  unfold rnd
  have e1 := Int.mul_ediv_add_emod x d
  have e2 := Int.emod_nonneg x (Int.ne_of_gt hd)
  have e3 := Int.emod_lt_of_pos x hd
  have e4 : x - x / d * d = x % d := by rw [Int.mul_comm]; omega
  rw [e4]
  generalize x % d = r at *
  have e5 : 2 * x + d = (2 * r + d) + 2 * d * (x / d) := by rw [Int.mul_assoc]; omega
  rw [e5, Int.add_mul_ediv_left _ _ (by omega)]
  split
  · have : (2 * r + d) / (2 * d) = 1 := by
      rw [show 2 * r + d = (2 * r - d) + 2 * d * 1 by omega, Int.add_mul_ediv_left _ _ (by omega), Int.ediv_eq_zero_of_lt (by omega) (by omega)]
      rfl
    omega
  · have : (2 * r + d) / (2 * d) = 0 := Int.ediv_eq_zero_of_lt (by omega) (by omega)
    omega
theorem rnd_le {x d b : Int} (hd : 0 < d) (h : x ≤ b * d) : rnd x d ≤ b := by
  unfold rnd
  have : (2 * x + d) / (2 * d) < b + 1 := Int.ediv_lt_of_lt_mul (by omega) (by rw [Int.add_mul, Int.one_mul, Int.mul_left_comm]; omega)
  omega
theorem rnd_ge {x d b : Int} (hd : 0 < d) (h : b * d ≤ x) : b ≤ rnd x d := by
  unfold rnd
  exact Int.le_ediv_of_mul_le (by omega) (by rw [Int.mul_left_comm]; omega)

/- Points; the reference's quotients walked. Conditions: those that each theorem names. -/
open Go Go.Proofs
set_option linter.unusedSimpArgs false
set_option linter.unusedVariables false

structure Pt where
  x : Int
  y : Int
abbrev Pt.cs (p : Pt) : List Cell := [I p.x, I p.y]
abbrev Pt.r (p : Pt) : Reg := .agg [I p.x, I p.y]
def inP (p : Pt) : Bool := rm p.x && rm p.y
theorem cs2 (p : Pt) : p.cs.length = 2 := rfl
theorem v_PIn (x y : Int) (m : Mem) (n : Nat) : callF TA 26 [.agg [I x, I y]] m n = some (RB (inP ⟨x, y⟩)) := by
  refine callF_of (Fn_ofK (fn := F26) rfl (by simp [F26]) ?_)
  try simp only [r26_0, r26_1, c26, F26, v_fIn, inP, go_sem, Int.reduceTMod, Int.reduceTDiv, Int.reduceDiv, Int.reduceMod, Int.reduceAdd, Int.reduceSub, Int.reduceMul, Int.reduceNeg, Int.reducePow, Int.reduceEq, ↓reduceIte, Nat.reduceEqDiff, Nat.reduceAdd, Nat.reduceMul, Nat.reduceLeDiff, Nat.reduceSub, Nat.reduceLT, Int.reduceToNat, Int.reduceLT, Int.reduceLE, reduceCtorEq]
  repeat' ((first | refine FK_split (fun h_ => ?_) (fun h_ => ?_) | refine GK_split (fun h_ => ?_) (fun h_ => ?_) | refine ite_both (fun h_ => ?_) (fun h_ => ?_)) <;> (try simp only [decide_eq_true_eq, decide_eq_false_iff_not, Bool.not_true, Bool.not_false, Bool.not_eq_true', Bool.not_eq_false', Bool.not_eq_eq_eq_not, Decidable.not_not] at h_) <;> (try simp only [r26_0, r26_1, c26, F26, v_fIn, inP, h_, go_sem, Int.reduceTMod, Int.reduceTDiv, Int.reduceDiv, Int.reduceMod, Int.reduceAdd, Int.reduceSub, Int.reduceMul, Int.reduceNeg, Int.reducePow, Int.reduceEq, ↓reduceIte, Nat.reduceEqDiff, Nat.reduceAdd, Nat.reduceMul, Nat.reduceLeDiff, Nat.reduceSub, Nat.reduceLT, Int.reduceToNat, Int.reduceLT, Int.reduceLE, reduceCtorEq]))
theorem v_Below (x d : Int) (hx : -4611686018427387904 ≤ x ∧ x ≤ 4611686018427387904) (hd : 0 < d) (hd2 : d ≤ 4294967296) (m : Mem) (n : Nat) : callF TA 52 [RI x, RI d] m n = some (RI (x / d)) := by
  refine callF_of (Fn_ofK (fn := F52) rfl (by simp [F52]) ?_)
  have z : (d = 0) = False := eq_false (by omega)
  have hf := below_floor (X := x) (D := d) hd
  have e1 := Int.mul_ediv_add_emod x d
  have e2 := Int.emod_nonneg x (Int.ne_of_gt hd)
  have e3 := Int.emod_lt_of_pos x hd
  have k2 : -4611686018427387904 ≤ x / d := Int.le_ediv_of_mul_le hd (by
      have := Int.mul_le_mul_of_nonneg_left (show (1 : Int) ≤ d by omega) (show (0 : Int) ≤ 4611686018427387904 by decide)
      rw [Int.neg_mul]; omega)
  have k3 : x / d < 4611686018427387905 := Int.ediv_lt_of_lt_mul hd (by
      have := Int.mul_le_mul_of_nonneg_left (show (1 : Int) ≤ d by omega) (show (0 : Int) ≤ 4611686018427387905 by decide)
      omega)
  have hq : x.tdiv d = x / d ∨ x.tdiv d = x / d + 1 := by split at hf <;> omega
  have w1 : IntKind.i64.wrap (x.tdiv d) = x.tdiv d := wr_eq (by omega) (by omega)
  have w2 : IntKind.i64.wrap (x.tdiv d * d) = x.tdiv d * d := by
    have : x.tdiv d * d = d * (x / d) ∨ x.tdiv d * d = d * (x / d) + d := by
      rcases hq with h | h
      · left; rw [h, Int.mul_comm]
      · right; rw [h, Int.mul_comm, Int.mul_add, Int.mul_one]
    exact wr_eq (by omega) (by omega)
  have w3 : IntKind.i64.wrap (x.tdiv d - 1) = x.tdiv d - 1 := wr_eq (by omega) (by omega)
  rw [← hf]
  by_cases c : x < x.tdiv d * d
  all_goals
    try simp only [r52_0, r52_1, r52_2, r52_3, r52_4, c52, F52, z, w1, w2, w3, c, go_sem, Int.reduceTMod, Int.reduceTDiv, Int.reduceDiv, Int.reduceMod, Int.reduceAdd, Int.reduceSub, Int.reduceMul, Int.reduceNeg, Int.reducePow, Int.reduceEq, ↓reduceIte, Nat.reduceEqDiff, Nat.reduceAdd, Nat.reduceMul, Nat.reduceLeDiff, Nat.reduceSub, Nat.reduceLT, Int.reduceToNat, Int.reduceLT, Int.reduceLE, reduceCtorEq]
    repeat' ((first | refine FK_split (fun h_ => ?_) (fun h_ => ?_) | refine GK_split (fun h_ => ?_) (fun h_ => ?_) | refine ite_both (fun h_ => ?_) (fun h_ => ?_)) <;> (try simp only [decide_eq_true_eq, decide_eq_false_iff_not, Bool.not_true, Bool.not_false, Bool.not_eq_true', Bool.not_eq_false', Bool.not_eq_eq_eq_not, Decidable.not_not] at h_) <;> (try simp only [r52_0, r52_1, r52_2, r52_3, r52_4, c52, F52, z, w1, w2, w3, c, h_, go_sem, Int.reduceTMod, Int.reduceTDiv, Int.reduceDiv, Int.reduceMod, Int.reduceAdd, Int.reduceSub, Int.reduceMul, Int.reduceNeg, Int.reducePow, Int.reduceEq, ↓reduceIte, Nat.reduceEqDiff, Nat.reduceAdd, Nat.reduceMul, Nat.reduceLeDiff, Nat.reduceSub, Nat.reduceLT, Int.reduceToNat, Int.reduceLT, Int.reduceLE, reduceCtorEq]))
theorem v_Round (x d : Int) (hx : -2305843009213693952 ≤ x ∧ x ≤ 2305843009213693952) (hd : 0 < d) (hd2 : d ≤ 4294967296) (m : Mem) (n : Nat) : callF TA 31 [RI x, RI d] m n = some (RI (rnd x d)) := by
  refine callF_of (Fn_ofK (fn := F31) rfl (by simp [F31]) ?_)
  have vb := v_Below x d (by omega) hd hd2
  have e1 := Int.mul_ediv_add_emod x d
  have e2 := Int.emod_nonneg x (Int.ne_of_gt hd)
  have e3 := Int.emod_lt_of_pos x hd
  have e4 : x / d * d = d * (x / d) := Int.mul_comm _ _
  have k3 : x / d < 4611686018427387905 := Int.ediv_lt_of_lt_mul hd (by
      have := Int.mul_le_mul_of_nonneg_left (show (1 : Int) ≤ d by omega) (show (0 : Int) ≤ 4611686018427387905 by decide)
      omega)
  have k2 : -4611686018427387904 ≤ x / d := Int.le_ediv_of_mul_le hd (by
      have := Int.mul_le_mul_of_nonneg_left (show (1 : Int) ≤ d by omega) (show (0 : Int) ≤ 4611686018427387904 by decide)
      rw [Int.neg_mul]; omega)
  have w1 : IntKind.i64.wrap (x / d * d) = x / d * d := wr_eq (by omega) (by omega)
  have w2 : IntKind.i64.wrap (x - x / d * d) = x - x / d * d := wr_eq (by omega) (by omega)
  have w3 : IntKind.i64.wrap (d - (x - x / d * d)) = d - (x - x / d * d) := wr_eq (by omega) (by omega)
  have w4 : IntKind.i64.wrap (x / d + 1) = x / d + 1 := wr_eq (by omega) (by omega)
  rw [rnd_eq hd]
  by_cases c : d - (x - x / d * d) ≤ x - x / d * d
  all_goals
    try simp only [r31_0, r31_1, r31_2, r31_3, r31_4, r31_5, c31, F31, vb, w1, w2, w3, w4, c, go_sem, Int.reduceTMod, Int.reduceTDiv, Int.reduceDiv, Int.reduceMod, Int.reduceAdd, Int.reduceSub, Int.reduceMul, Int.reduceNeg, Int.reducePow, Int.reduceEq, ↓reduceIte, Nat.reduceEqDiff, Nat.reduceAdd, Nat.reduceMul, Nat.reduceLeDiff, Nat.reduceSub, Nat.reduceLT, Int.reduceToNat, Int.reduceLT, Int.reduceLE, reduceCtorEq]
    repeat' ((first | refine FK_split (fun h_ => ?_) (fun h_ => ?_) | refine GK_split (fun h_ => ?_) (fun h_ => ?_) | refine ite_both (fun h_ => ?_) (fun h_ => ?_)) <;> (try simp only [decide_eq_true_eq, decide_eq_false_iff_not, Bool.not_true, Bool.not_false, Bool.not_eq_true', Bool.not_eq_false', Bool.not_eq_eq_eq_not, Decidable.not_not] at h_) <;> (try simp only [r31_0, r31_1, r31_2, r31_3, r31_4, r31_5, c31, F31, vb, w1, w2, w3, w4, c, h_, go_sem, Int.reduceTMod, Int.reduceTDiv, Int.reduceDiv, Int.reduceMod, Int.reduceAdd, Int.reduceSub, Int.reduceMul, Int.reduceNeg, Int.reducePow, Int.reduceEq, ↓reduceIte, Nat.reduceEqDiff, Nat.reduceAdd, Nat.reduceMul, Nat.reduceLeDiff, Nat.reduceSub, Nat.reduceLT, Int.reduceToNat, Int.reduceLT, Int.reduceLE, reduceCtorEq]))

/- Package stroke walked: numbers, points. Conditions: those that each theorem names. -/
open Go Go.Proofs
set_option linter.unusedSimpArgs false
set_option linter.unusedVariables false

theorem v_right (h : Int) (m : Mem) (n : Nat) : callF TA 25 [RI h] m n = some (RB (decide (1 ≤ h) && decide (h ≤ 32768))) := by
  refine callF_of (Fn_ofK (fn := F25) rfl (by simp [F25]) ?_)
  try simp only [r25_0, r25_1, c25, F25, go_sem, Int.reduceTMod, Int.reduceTDiv, Int.reduceDiv, Int.reduceMod, Int.reduceAdd, Int.reduceSub, Int.reduceMul, Int.reduceNeg, Int.reducePow, Int.reduceEq, ↓reduceIte, Nat.reduceEqDiff, Nat.reduceAdd, Nat.reduceMul, Nat.reduceLeDiff, Nat.reduceSub, Nat.reduceLT, Int.reduceToNat, Int.reduceLT, Int.reduceLE, reduceCtorEq]
  repeat' ((first | refine FK_split (fun h_ => ?_) (fun h_ => ?_) | refine GK_split (fun h_ => ?_) (fun h_ => ?_) | refine ite_both (fun h_ => ?_) (fun h_ => ?_)) <;> (try simp only [decide_eq_true_eq, decide_eq_false_iff_not, Bool.not_true, Bool.not_false, Bool.not_eq_true', Bool.not_eq_false', Bool.not_eq_eq_eq_not, Decidable.not_not] at h_) <;> (try simp only [r25_0, r25_1, c25, F25, h_, go_sem, Int.reduceTMod, Int.reduceTDiv, Int.reduceDiv, Int.reduceMod, Int.reduceAdd, Int.reduceSub, Int.reduceMul, Int.reduceNeg, Int.reducePow, Int.reduceEq, ↓reduceIte, Nat.reduceEqDiff, Nat.reduceAdd, Nat.reduceMul, Nat.reduceLeDiff, Nat.reduceSub, Nat.reduceLT, Int.reduceToNat, Int.reduceLT, Int.reduceLE, reduceCtorEq]))
theorem v_plus (a b c d : Int) (m : Mem) (n : Nat) : callF TA 27 [.agg [I a, I b], .agg [I c, I d]] m n = some (.agg [I (IntKind.i64.wrap (a + c)), I (IntKind.i64.wrap (b + d))]) := by
  refine callF_of (Fn_ofK (fn := F27) rfl (by simp [F27]) ?_)
  try simp only [r27_0, r27_1, c27, F27, go_sem, Int.reduceTMod, Int.reduceTDiv, Int.reduceDiv, Int.reduceMod, Int.reduceAdd, Int.reduceSub, Int.reduceMul, Int.reduceNeg, Int.reducePow, Int.reduceEq, ↓reduceIte, Nat.reduceEqDiff, Nat.reduceAdd, Nat.reduceMul, Nat.reduceLeDiff, Nat.reduceSub, Nat.reduceLT, Int.reduceToNat, Int.reduceLT, Int.reduceLE, reduceCtorEq]
  repeat' ((first | refine FK_split (fun h_ => ?_) (fun h_ => ?_) | refine GK_split (fun h_ => ?_) (fun h_ => ?_) | refine ite_both (fun h_ => ?_) (fun h_ => ?_)) <;> (try simp only [decide_eq_true_eq, decide_eq_false_iff_not, Bool.not_true, Bool.not_false, Bool.not_eq_true', Bool.not_eq_false', Bool.not_eq_eq_eq_not, Decidable.not_not] at h_) <;> (try simp only [r27_0, r27_1, c27, F27, h_, go_sem, Int.reduceTMod, Int.reduceTDiv, Int.reduceDiv, Int.reduceMod, Int.reduceAdd, Int.reduceSub, Int.reduceMul, Int.reduceNeg, Int.reducePow, Int.reduceEq, ↓reduceIte, Nat.reduceEqDiff, Nat.reduceAdd, Nat.reduceMul, Nat.reduceLeDiff, Nat.reduceSub, Nat.reduceLT, Int.reduceToNat, Int.reduceLT, Int.reduceLE, reduceCtorEq]))
theorem v_less (a b c d : Int) (m : Mem) (n : Nat) : callF TA 38 [.agg [I a, I b], .agg [I c, I d]] m n = some (.agg [I (IntKind.i64.wrap (a - c)), I (IntKind.i64.wrap (b - d))]) := by
  refine callF_of (Fn_ofK (fn := F38) rfl (by simp [F38]) ?_)
  try simp only [r38_0, r38_1, c38, F38, go_sem, Int.reduceTMod, Int.reduceTDiv, Int.reduceDiv, Int.reduceMod, Int.reduceAdd, Int.reduceSub, Int.reduceMul, Int.reduceNeg, Int.reducePow, Int.reduceEq, ↓reduceIte, Nat.reduceEqDiff, Nat.reduceAdd, Nat.reduceMul, Nat.reduceLeDiff, Nat.reduceSub, Nat.reduceLT, Int.reduceToNat, Int.reduceLT, Int.reduceLE, reduceCtorEq]
  repeat' ((first | refine FK_split (fun h_ => ?_) (fun h_ => ?_) | refine GK_split (fun h_ => ?_) (fun h_ => ?_) | refine ite_both (fun h_ => ?_) (fun h_ => ?_)) <;> (try simp only [decide_eq_true_eq, decide_eq_false_iff_not, Bool.not_true, Bool.not_false, Bool.not_eq_true', Bool.not_eq_false', Bool.not_eq_eq_eq_not, Decidable.not_not] at h_) <;> (try simp only [r38_0, r38_1, c38, F38, h_, go_sem, Int.reduceTMod, Int.reduceTDiv, Int.reduceDiv, Int.reduceMod, Int.reduceAdd, Int.reduceSub, Int.reduceMul, Int.reduceNeg, Int.reducePow, Int.reduceEq, ↓reduceIte, Nat.reduceEqDiff, Nat.reduceAdd, Nat.reduceMul, Nat.reduceLeDiff, Nat.reduceSub, Nat.reduceLT, Int.reduceToNat, Int.reduceLT, Int.reduceLE, reduceCtorEq]))
theorem v_part (a h d : Int) (ha : -2147483648 ≤ a ∧ a ≤ 2147483648) (hp : -4611686018427387904 ≤ a * h ∧ a * h ≤ 2305843009213693952) (hq : -2305843009213693952 ≤ a * h) (hd : 0 < d) (hd2 : d ≤ 4294967296) (m : Mem) (n : Nat) :
    callF TA 28 [RI a, RI h, RI d] m n = some (RI (rnd (a * h) d)) := by
  refine callF_of (Fn_ofK (fn := F28) rfl (by simp [F28]) ?_)
  have w1 : IntKind.i64.wrap (2 * a) = 2 * a := wr_eq (by omega) (by omega)
  have e0 : 2 * a * h = 2 * (a * h) := Int.mul_assoc _ _ _
  have w2 : IntKind.i64.wrap (2 * (a * h)) = 2 * (a * h) := wr_eq (by omega) (by omega)
  have w3 : IntKind.i64.wrap (2 * (a * h) + d) = 2 * (a * h) + d := wr_eq (by omega) (by omega)
  have w4 : IntKind.i64.wrap (2 * d) = 2 * d := wr_eq (by omega) (by omega)
  have z : (2 * d = 0) = False := eq_false (by omega)
  have hf := tdiv_floor (X := 2 * (a * h) + d) (D := 2 * d) (by omega)
  have hb : -9223372036854775808 < (2 * (a * h) + d).tdiv (2 * d) ∧ (2 * (a * h) + d).tdiv (2 * d) ≤ 9223372036854775807 := by
    have k1 := Int.ediv_le_self (a := 2 * (a * h) + d) (2 * d)
    have k2 : -9223372036854775807 ≤ (2 * (a * h) + d) / (2 * d) := Int.le_ediv_of_mul_le (by omega) (by
      have := Int.mul_le_mul_of_nonneg_left (show (1 : Int) ≤ 2 * d by omega) (show (0 : Int) ≤ 9223372036854775807 by decide)
      rw [Int.neg_mul]; omega)
    have k3 : (2 * (a * h) + d) / (2 * d) < 4611686018427387905 := Int.ediv_lt_of_lt_mul (by omega) (by
      have := Int.mul_le_mul_of_nonneg_left (show (1 : Int) ≤ 2 * d by omega) (show (0 : Int) ≤ 4611686018427387905 by decide)
      omega)
    split at hf <;> omega
  have w5 : IntKind.i64.wrap ((2 * (a * h) + d).tdiv (2 * d)) = (2 * (a * h) + d).tdiv (2 * d) := wr_eq (by omega) (by omega)
  have w6 : IntKind.i64.wrap ((2 * (a * h) + d).tdiv (2 * d) - 1) = (2 * (a * h) + d).tdiv (2 * d) - 1 := wr_eq (by omega) (by omega)
  unfold rnd
  rw [← hf]
  by_cases c : (2 * (a * h) + d).tmod (2 * d) < 0
  all_goals
    try simp only [r28_0, r28_1, r28_2, r28_3, r28_4, r28_5, c28, F28, w1, e0, w2, w3, w4, z, w5, w6, c, go_sem, Int.reduceTMod, Int.reduceTDiv, Int.reduceDiv, Int.reduceMod, Int.reduceAdd, Int.reduceSub, Int.reduceMul, Int.reduceNeg, Int.reducePow, Int.reduceEq, ↓reduceIte, Nat.reduceEqDiff, Nat.reduceAdd, Nat.reduceMul, Nat.reduceLeDiff, Nat.reduceSub, Nat.reduceLT, Int.reduceToNat, Int.reduceLT, Int.reduceLE, reduceCtorEq]
    repeat' ((first | refine FK_split (fun h_ => ?_) (fun h_ => ?_) | refine GK_split (fun h_ => ?_) (fun h_ => ?_) | refine ite_both (fun h_ => ?_) (fun h_ => ?_)) <;> (try simp only [decide_eq_true_eq, decide_eq_false_iff_not, Bool.not_true, Bool.not_false, Bool.not_eq_true', Bool.not_eq_false', Bool.not_eq_eq_eq_not, Decidable.not_not] at h_) <;> (try simp only [r28_0, r28_1, r28_2, r28_3, r28_4, r28_5, c28, F28, w1, e0, w2, w3, w4, z, w5, w6, c, h_, go_sem, Int.reduceTMod, Int.reduceTDiv, Int.reduceDiv, Int.reduceMod, Int.reduceAdd, Int.reduceSub, Int.reduceMul, Int.reduceNeg, Int.reducePow, Int.reduceEq, ↓reduceIte, Nat.reduceEqDiff, Nat.reduceAdd, Nat.reduceMul, Nat.reduceLeDiff, Nat.reduceSub, Nat.reduceLT, Int.reduceToNat, Int.reduceLT, Int.reduceLE, reduceCtorEq]))

/- Rows of points walked: is one out of room; are two the same. Conditions: those that each theorem names. -/
open Go Go.Proofs
set_option linter.unusedSimpArgs false
set_option linter.unusedVariables false

abbrev RPt := RL Pt.cs 2
theorem RL.pt {m : Mem} {n : Nat} {r : Reg} {l : List Pt} {i : Nat} {p : Pt} (h : RPt m n r l) (hi : l[i]? = some p) :
    ∃ id off cap b, r = .one (.sl id off l.length cap 2) ∧ id < n ∧ m id = some b ∧ b.cells[off + i * 2]? = some (I p.x) ∧ b.cells[off + (i * 2 + 1)]? = some (I p.y) := by
  obtain ⟨id, off, cap, h1, h2, h3⟩ := h.at cs2 hi
  obtain ⟨b, h4, h5⟩ := rd_cell h3 (a := 0) (c := I p.x) rfl
  obtain ⟨b2, h6, h7⟩ := rd_cell h3 (a := 1) (c := I p.y) rfl
  rw [h4] at h6
  cases h6
  exact ⟨id, off, cap, b, h1, h2, h4, h5, by rw [← Nat.add_assoc]; exact h7⟩
theorem all_snoc {l : List Pt} {i : Nat} {p : Pt} (hp : l[i]? = some p) : (l.take (i + 1)).all inP = ((l.take i).all inP && inP p) := by
  have hi : i < l.length := (List.getElem?_eq_some_iff.1 hp).1
  rw [List.take_add_one, hp, List.all_append]
  simp
theorem w_Index (c : Nat) (hc : ∀ x y m n, callF TA c [.agg [I x, I y]] m n = some (RB (!inP ⟨x, y⟩))) (r : Reg) (l : List Pt) (m : Mem) (n : Nat) (hr : RPt m n r l) (hl : l.length < 4294967296) :
    Fn TA 53 [r, .one (.clo c [])] m n (fun r' _ _ => ∃ k : Int, r' = RI k ∧ ((l.all inP = true ∧ k = -1) ∨ (l.all inP = false ∧ 0 ≤ k))) := by
  refine Fn_ofK (fn := F53) rfl (by simp [F53]) ?_
  have hlen := hr.len
  try simp only [r53_0, r53_1, r53_2, r53_3, r53_4, r53_5, r53_6, r53_7, c53, F53, hlen, go_sem, Int.reduceTMod, Int.reduceTDiv, Int.reduceDiv, Int.reduceMod, Int.reduceAdd, Int.reduceSub, Int.reduceMul, Int.reduceNeg, Int.reducePow, Int.reduceEq, ↓reduceIte, Nat.reduceEqDiff, Nat.reduceAdd, Nat.reduceMul, Nat.reduceLeDiff, Nat.reduceSub, Nat.reduceLT, Int.reduceToNat, Int.reduceLT, Int.reduceLE, reduceCtorEq]
  repeat' ((first | refine FK_split (fun h_ => ?_) (fun h_ => ?_) | refine GK_split (fun h_ => ?_) (fun h_ => ?_) | refine ite_both (fun h_ => ?_) (fun h_ => ?_)) <;> (try simp only [decide_eq_true_eq, decide_eq_false_iff_not, Bool.not_true, Bool.not_false, Bool.not_eq_true', Bool.not_eq_false', Bool.not_eq_eq_eq_not, Decidable.not_not] at h_) <;> (try simp only [r53_0, r53_1, r53_2, r53_3, r53_4, r53_5, r53_6, r53_7, c53, F53, hlen, h_, go_sem, Int.reduceTMod, Int.reduceTDiv, Int.reduceDiv, Int.reduceMod, Int.reduceAdd, Int.reduceSub, Int.reduceMul, Int.reduceNeg, Int.reducePow, Int.reduceEq, ↓reduceIte, Nat.reduceEqDiff, Nat.reduceAdd, Nat.reduceMul, Nat.reduceLeDiff, Nat.reduceSub, Nat.reduceLT, Int.reduceToNat, Int.reduceLT, Int.reduceLE, reduceCtorEq]))
  refine XK_iter (inv := fun i s => s.e 8 = RI i ∧ s.e 7 = RI l.length ∧ s.e 0 = r ∧ s.e 1 = .one (.clo c []) ∧ s.m = m ∧ s.n = n ∧ (l.take i).all inP = true) l.length
    (fun L _ => ⟨fun i hi s hs next => ?_, fun s hs => ?_⟩) 0 (by omega) _ ?_
  · obtain ⟨q8, q7, q0, q1, qm, qn, qa⟩ := hs
    have hp : l[i]? = some l[i] := List.getElem?_eq_getElem hi
    obtain ⟨id, off, cap, hr1, hid, hrd⟩ := hr.at cs2 hp
    generalize l[i] = p at *
    have c2 : ((i : Int) < (l.length : Int)) = True := eq_true (by omega)
    have c3 : (0 ≤ (i : Int)) = True := eq_true (by omega)
    have c7 : IntKind.i64.wrap ((i : Int) + 1) = ((i + 1 : Nat) : Int) := wr_nat (by omega)
    have hsn := all_snoc hp
    rw [hr1] at q0
    cases hin : inP p with
    | true =>
      try simp only [r53_0, r53_1, r53_2, r53_3, r53_4, r53_5, r53_6, r53_7, c53, F53, l53_0, q8, q7, q0, q1, qm, qn, c2, c3, c7, hrd, hc, hin, Int.toNat_natCast, go_sem, Int.reduceTMod, Int.reduceTDiv, Int.reduceDiv, Int.reduceMod, Int.reduceAdd, Int.reduceSub, Int.reduceMul, Int.reduceNeg, Int.reducePow, Int.reduceEq, ↓reduceIte, Nat.reduceEqDiff, Nat.reduceAdd, Nat.reduceMul, Nat.reduceLeDiff, Nat.reduceSub, Nat.reduceLT, Int.reduceToNat, Int.reduceLT, Int.reduceLE, reduceCtorEq]
      repeat' ((first | refine FK_split (fun h_ => ?_) (fun h_ => ?_) | refine GK_split (fun h_ => ?_) (fun h_ => ?_) | refine ite_both (fun h_ => ?_) (fun h_ => ?_)) <;> (try simp only [decide_eq_true_eq, decide_eq_false_iff_not, Bool.not_true, Bool.not_false, Bool.not_eq_true', Bool.not_eq_false', Bool.not_eq_eq_eq_not, Decidable.not_not] at h_) <;> (try simp only [r53_0, r53_1, r53_2, r53_3, r53_4, r53_5, r53_6, r53_7, c53, F53, l53_0, q8, q7, q0, q1, qm, qn, c2, c3, c7, hrd, hc, hin, Int.toNat_natCast, h_, go_sem, Int.reduceTMod, Int.reduceTDiv, Int.reduceDiv, Int.reduceMod, Int.reduceAdd, Int.reduceSub, Int.reduceMul, Int.reduceNeg, Int.reducePow, Int.reduceEq, ↓reduceIte, Nat.reduceEqDiff, Nat.reduceAdd, Nat.reduceMul, Nat.reduceLeDiff, Nat.reduceSub, Nat.reduceLT, Int.reduceToNat, Int.reduceLT, Int.reduceLE, reduceCtorEq]))
      refine next _ ⟨?_, ?_, ?_, ?_, ?_, ?_, ?_⟩
      all_goals simp only [q8, q7, q0, q1, qm, qn, hsn, qa, hin, hr1, go_sem, Int.reduceTMod, Int.reduceTDiv, Int.reduceDiv, Int.reduceMod, Int.reduceAdd, Int.reduceSub, Int.reduceMul, Int.reduceNeg, Int.reducePow, Int.reduceEq, ↓reduceIte, Nat.reduceEqDiff, Nat.reduceAdd, Nat.reduceMul, Nat.reduceLeDiff, Nat.reduceSub, Nat.reduceLT, Int.reduceToNat, Int.reduceLT, Int.reduceLE, reduceCtorEq]
    | false =>
      try simp only [r53_0, r53_1, r53_2, r53_3, r53_4, r53_5, r53_6, r53_7, c53, F53, l53_0, q8, q7, q0, q1, qm, qn, c2, c3, c7, hrd, hc, hin, Int.toNat_natCast, go_sem, Int.reduceTMod, Int.reduceTDiv, Int.reduceDiv, Int.reduceMod, Int.reduceAdd, Int.reduceSub, Int.reduceMul, Int.reduceNeg, Int.reducePow, Int.reduceEq, ↓reduceIte, Nat.reduceEqDiff, Nat.reduceAdd, Nat.reduceMul, Nat.reduceLeDiff, Nat.reduceSub, Nat.reduceLT, Int.reduceToNat, Int.reduceLT, Int.reduceLE, reduceCtorEq]
      repeat' ((first | refine FK_split (fun h_ => ?_) (fun h_ => ?_) | refine GK_split (fun h_ => ?_) (fun h_ => ?_) | refine ite_both (fun h_ => ?_) (fun h_ => ?_)) <;> (try simp only [decide_eq_true_eq, decide_eq_false_iff_not, Bool.not_true, Bool.not_false, Bool.not_eq_true', Bool.not_eq_false', Bool.not_eq_eq_eq_not, Decidable.not_not] at h_) <;> (try simp only [r53_0, r53_1, r53_2, r53_3, r53_4, r53_5, r53_6, r53_7, c53, F53, l53_0, q8, q7, q0, q1, qm, qn, c2, c3, c7, hrd, hc, hin, Int.toNat_natCast, h_, go_sem, Int.reduceTMod, Int.reduceTDiv, Int.reduceDiv, Int.reduceMod, Int.reduceAdd, Int.reduceSub, Int.reduceMul, Int.reduceNeg, Int.reducePow, Int.reduceEq, ↓reduceIte, Nat.reduceEqDiff, Nat.reduceAdd, Nat.reduceMul, Nat.reduceLeDiff, Nat.reduceSub, Nat.reduceLT, Int.reduceToNat, Int.reduceLT, Int.reduceLE, reduceCtorEq]))
      refine ⟨i, rfl, Or.inr ⟨?_, by omega⟩⟩
      rw [List.all_eq_false]
      exact ⟨p, List.mem_of_getElem? hp, by simp [hin]⟩
  · obtain ⟨q8, q7, q0, q1, qm, qn, qa⟩ := hs
    have c2 : ((l.length : Int) < (l.length : Int)) = False := eq_false (by omega)
    rw [List.take_length] at qa
    try simp only [r53_0, r53_1, r53_2, r53_3, r53_4, r53_5, r53_6, r53_7, c53, F53, l53_0, q8, q7, q0, q1, qm, qn, c2, go_sem, Int.reduceTMod, Int.reduceTDiv, Int.reduceDiv, Int.reduceMod, Int.reduceAdd, Int.reduceSub, Int.reduceMul, Int.reduceNeg, Int.reducePow, Int.reduceEq, ↓reduceIte, Nat.reduceEqDiff, Nat.reduceAdd, Nat.reduceMul, Nat.reduceLeDiff, Nat.reduceSub, Nat.reduceLT, Int.reduceToNat, Int.reduceLT, Int.reduceLE, reduceCtorEq]
    repeat' ((first | refine FK_split (fun h_ => ?_) (fun h_ => ?_) | refine GK_split (fun h_ => ?_) (fun h_ => ?_) | refine ite_both (fun h_ => ?_) (fun h_ => ?_)) <;> (try simp only [decide_eq_true_eq, decide_eq_false_iff_not, Bool.not_true, Bool.not_false, Bool.not_eq_true', Bool.not_eq_false', Bool.not_eq_eq_eq_not, Decidable.not_not] at h_) <;> (try simp only [r53_0, r53_1, r53_2, r53_3, r53_4, r53_5, r53_6, r53_7, c53, F53, l53_0, q8, q7, q0, q1, qm, qn, c2, h_, go_sem, Int.reduceTMod, Int.reduceTDiv, Int.reduceDiv, Int.reduceMod, Int.reduceAdd, Int.reduceSub, Int.reduceMul, Int.reduceNeg, Int.reducePow, Int.reduceEq, ↓reduceIte, Nat.reduceEqDiff, Nat.reduceAdd, Nat.reduceMul, Nat.reduceLeDiff, Nat.reduceSub, Nat.reduceLT, Int.reduceToNat, Int.reduceLT, Int.reduceLE, reduceCtorEq]))
    exact ⟨-1, rfl, Or.inl ⟨qa, rfl⟩⟩
  · simp only [List.take_zero, List.all_nil, go_sem, Int.reduceTMod, Int.reduceTDiv, Int.reduceDiv, Int.reduceMod, Int.reduceAdd, Int.reduceSub, Int.reduceMul, Int.reduceNeg, Int.reducePow, Int.reduceEq, ↓reduceIte, Nat.reduceEqDiff, Nat.reduceAdd, Nat.reduceMul, Nat.reduceLeDiff, Nat.reduceSub, Nat.reduceLT, Int.reduceToNat, Int.reduceLT, Int.reduceLE, reduceCtorEq]
theorem v_Contains (c : Nat) (hc : ∀ x y m n, callF TA c [.agg [I x, I y]] m n = some (RB (!inP ⟨x, y⟩))) (r : Reg) (l : List Pt) (m : Mem) (n : Nat) (hr : RPt m n r l) (hl : l.length < 4294967296) :
    callF TA 33 [r, .one (.clo c [])] m n = some (RB (!l.all inP)) := by
  refine callF_of (Fn_ofK (fn := F33) rfl (by simp [F33]) ?_)
  obtain ⟨r1, h1, k, rfl, h2⟩ := callF_ex (w_Index c hc r l (frz m) n hr.frz hl)
  have e : decide (0 ≤ k) = !l.all inP := by
    rcases h2 with ⟨h2, h3⟩ | ⟨h2, h3⟩
    · rw [h2, decide_eq_false (by omega)]; rfl
    · rw [h2, decide_eq_true h3]; rfl
  try simp only [r33_0, r33_1, c33, F33, h1, e, go_sem, Int.reduceTMod, Int.reduceTDiv, Int.reduceDiv, Int.reduceMod, Int.reduceAdd, Int.reduceSub, Int.reduceMul, Int.reduceNeg, Int.reducePow, Int.reduceEq, ↓reduceIte, Nat.reduceEqDiff, Nat.reduceAdd, Nat.reduceMul, Nat.reduceLeDiff, Nat.reduceSub, Nat.reduceLT, Int.reduceToNat, Int.reduceLT, Int.reduceLE, reduceCtorEq]
  repeat' ((first | refine FK_split (fun h_ => ?_) (fun h_ => ?_) | refine GK_split (fun h_ => ?_) (fun h_ => ?_) | refine ite_both (fun h_ => ?_) (fun h_ => ?_)) <;> (try simp only [decide_eq_true_eq, decide_eq_false_iff_not, Bool.not_true, Bool.not_false, Bool.not_eq_true', Bool.not_eq_false', Bool.not_eq_eq_eq_not, Decidable.not_not] at h_) <;> (try simp only [r33_0, r33_1, c33, F33, h1, e, h_, go_sem, Int.reduceTMod, Int.reduceTDiv, Int.reduceDiv, Int.reduceMod, Int.reduceAdd, Int.reduceSub, Int.reduceMul, Int.reduceNeg, Int.reducePow, Int.reduceEq, ↓reduceIte, Nat.reduceEqDiff, Nat.reduceAdd, Nat.reduceMul, Nat.reduceLeDiff, Nat.reduceSub, Nat.reduceLT, Int.reduceToNat, Int.reduceLT, Int.reduceLE, reduceCtorEq]))
theorem v_In07 (r : Reg) (l : List Pt) (m : Mem) (n : Nat) (hr : RPt m n r l) (hl : l.length < 4294967296) : callF TA 13 [r] m n = some (RB (l.all inP)) := by
  refine callF_of (Fn_ofK (fn := F13) rfl (by simp [F13]) ?_)
  have hlen := hr.len
  try simp only [r13_0, r13_1, r13_2, r13_4, r13_5, r13_3, r13_6, c13, F13, hlen, go_sem, Int.reduceTMod, Int.reduceTDiv, Int.reduceDiv, Int.reduceMod, Int.reduceAdd, Int.reduceSub, Int.reduceMul, Int.reduceNeg, Int.reducePow, Int.reduceEq, ↓reduceIte, Nat.reduceEqDiff, Nat.reduceAdd, Nat.reduceMul, Nat.reduceLeDiff, Nat.reduceSub, Nat.reduceLT, Int.reduceToNat, Int.reduceLT, Int.reduceLE, reduceCtorEq]
  repeat' ((first | refine FK_split (fun h_ => ?_) (fun h_ => ?_) | refine GK_split (fun h_ => ?_) (fun h_ => ?_) | refine ite_both (fun h_ => ?_) (fun h_ => ?_)) <;> (try simp only [decide_eq_true_eq, decide_eq_false_iff_not, Bool.not_true, Bool.not_false, Bool.not_eq_true', Bool.not_eq_false', Bool.not_eq_eq_eq_not, Decidable.not_not] at h_) <;> (try simp only [r13_0, r13_1, r13_2, r13_4, r13_5, r13_3, r13_6, c13, F13, hlen, h_, go_sem, Int.reduceTMod, Int.reduceTDiv, Int.reduceDiv, Int.reduceMod, Int.reduceAdd, Int.reduceSub, Int.reduceMul, Int.reduceNeg, Int.reducePow, Int.reduceEq, ↓reduceIte, Nat.reduceEqDiff, Nat.reduceAdd, Nat.reduceMul, Nat.reduceLeDiff, Nat.reduceSub, Nat.reduceLT, Int.reduceToNat, Int.reduceLT, Int.reduceLE, reduceCtorEq]))
  refine XK_iter (inv := fun i s => s.e 3 = RI i ∧ s.e 0 = r ∧ s.m = m ∧ s.n = n ∧ (l.take i).all inP = true) l.length
    (fun L _ => ⟨fun i hi s hs next => ?_, fun s hs => ?_⟩) 0 (by omega) _ ?_
  · obtain ⟨q3, q0, qm, qn, qa⟩ := hs
    have hp : l[i]? = some l[i] := List.getElem?_eq_getElem hi
    obtain ⟨id, off, cap, b, hr1, hid, hb, hx, hy⟩ := RL.pt hr hp
    generalize l[i] = p at *
    have c2 : ((i : Int) < (l.length : Int)) = True := eq_true (by omega)
    have c3 : (0 ≤ (i : Int)) = True := eq_true (by omega)
    have c7 : IntKind.i64.wrap ((i : Int) + 1) = ((i + 1 : Nat) : Int) := wr_nat (by omega)
    have hsn := all_snoc hp
    rw [hr1] at q0
    cases hin : inP p with
    | true =>
      have hin' := hin
      simp only [inP, Bool.and_eq_true] at hin'
      try simp only [r13_0, r13_1, r13_2, r13_4, r13_5, r13_3, r13_6, c13, F13, l13_0, q3, q0, qm, qn, c2, c3, c7, hb, hx, hy, v_rIn, hin'.1, hin'.2, Int.toNat_natCast, go_sem, Int.reduceTMod, Int.reduceTDiv, Int.reduceDiv, Int.reduceMod, Int.reduceAdd, Int.reduceSub, Int.reduceMul, Int.reduceNeg, Int.reducePow, Int.reduceEq, ↓reduceIte, Nat.reduceEqDiff, Nat.reduceAdd, Nat.reduceMul, Nat.reduceLeDiff, Nat.reduceSub, Nat.reduceLT, Int.reduceToNat, Int.reduceLT, Int.reduceLE, reduceCtorEq]
      repeat' ((first | refine FK_split (fun h_ => ?_) (fun h_ => ?_) | refine GK_split (fun h_ => ?_) (fun h_ => ?_) | refine ite_both (fun h_ => ?_) (fun h_ => ?_)) <;> (try simp only [decide_eq_true_eq, decide_eq_false_iff_not, Bool.not_true, Bool.not_false, Bool.not_eq_true', Bool.not_eq_false', Bool.not_eq_eq_eq_not, Decidable.not_not] at h_) <;> (try simp only [r13_0, r13_1, r13_2, r13_4, r13_5, r13_3, r13_6, c13, F13, l13_0, q3, q0, qm, qn, c2, c3, c7, hb, hx, hy, v_rIn, hin'.1, hin'.2, Int.toNat_natCast, h_, go_sem, Int.reduceTMod, Int.reduceTDiv, Int.reduceDiv, Int.reduceMod, Int.reduceAdd, Int.reduceSub, Int.reduceMul, Int.reduceNeg, Int.reducePow, Int.reduceEq, ↓reduceIte, Nat.reduceEqDiff, Nat.reduceAdd, Nat.reduceMul, Nat.reduceLeDiff, Nat.reduceSub, Nat.reduceLT, Int.reduceToNat, Int.reduceLT, Int.reduceLE, reduceCtorEq]))
      refine next _ ⟨?_, ?_, ?_, ?_, ?_⟩
      all_goals simp only [q3, q0, qm, qn, hsn, qa, hin, hr1, go_sem, Int.reduceTMod, Int.reduceTDiv, Int.reduceDiv, Int.reduceMod, Int.reduceAdd, Int.reduceSub, Int.reduceMul, Int.reduceNeg, Int.reducePow, Int.reduceEq, ↓reduceIte, Nat.reduceEqDiff, Nat.reduceAdd, Nat.reduceMul, Nat.reduceLeDiff, Nat.reduceSub, Nat.reduceLT, Int.reduceToNat, Int.reduceLT, Int.reduceLE, reduceCtorEq]
    | false =>
      have hl0 : l.all inP = false := by
        rw [List.all_eq_false]
        exact ⟨p, List.mem_of_getElem? hp, by simp [hin]⟩
      have hin' := hin
      simp only [inP] at hin'
      cases h1 : rm p.x
      all_goals
        rw [h1] at hin'
        (try simp only [Bool.true_and] at hin')
        try simp only [r13_0, r13_1, r13_2, r13_4, r13_5, r13_3, r13_6, c13, F13, l13_0, q3, q0, qm, qn, c2, c3, c7, hb, hx, hy, v_rIn, h1, hin', hl0, Int.toNat_natCast, go_sem, Int.reduceTMod, Int.reduceTDiv, Int.reduceDiv, Int.reduceMod, Int.reduceAdd, Int.reduceSub, Int.reduceMul, Int.reduceNeg, Int.reducePow, Int.reduceEq, ↓reduceIte, Nat.reduceEqDiff, Nat.reduceAdd, Nat.reduceMul, Nat.reduceLeDiff, Nat.reduceSub, Nat.reduceLT, Int.reduceToNat, Int.reduceLT, Int.reduceLE, reduceCtorEq]
        repeat' ((first | refine FK_split (fun h_ => ?_) (fun h_ => ?_) | refine GK_split (fun h_ => ?_) (fun h_ => ?_) | refine ite_both (fun h_ => ?_) (fun h_ => ?_)) <;> (try simp only [decide_eq_true_eq, decide_eq_false_iff_not, Bool.not_true, Bool.not_false, Bool.not_eq_true', Bool.not_eq_false', Bool.not_eq_eq_eq_not, Decidable.not_not] at h_) <;> (try simp only [r13_0, r13_1, r13_2, r13_4, r13_5, r13_3, r13_6, c13, F13, l13_0, q3, q0, qm, qn, c2, c3, c7, hb, hx, hy, v_rIn, h1, hin', hl0, Int.toNat_natCast, h_, go_sem, Int.reduceTMod, Int.reduceTDiv, Int.reduceDiv, Int.reduceMod, Int.reduceAdd, Int.reduceSub, Int.reduceMul, Int.reduceNeg, Int.reducePow, Int.reduceEq, ↓reduceIte, Nat.reduceEqDiff, Nat.reduceAdd, Nat.reduceMul, Nat.reduceLeDiff, Nat.reduceSub, Nat.reduceLT, Int.reduceToNat, Int.reduceLT, Int.reduceLE, reduceCtorEq]))
  · obtain ⟨q3, q0, qm, qn, qa⟩ := hs
    have c2 : ((l.length : Int) < (l.length : Int)) = False := eq_false (by omega)
    rw [List.take_length] at qa
    try simp only [r13_0, r13_1, r13_2, r13_4, r13_5, r13_3, r13_6, c13, F13, l13_0, q3, q0, qm, qn, hlen, c2, qa, go_sem, Int.reduceTMod, Int.reduceTDiv, Int.reduceDiv, Int.reduceMod, Int.reduceAdd, Int.reduceSub, Int.reduceMul, Int.reduceNeg, Int.reducePow, Int.reduceEq, ↓reduceIte, Nat.reduceEqDiff, Nat.reduceAdd, Nat.reduceMul, Nat.reduceLeDiff, Nat.reduceSub, Nat.reduceLT, Int.reduceToNat, Int.reduceLT, Int.reduceLE, reduceCtorEq]
    repeat' ((first | refine FK_split (fun h_ => ?_) (fun h_ => ?_) | refine GK_split (fun h_ => ?_) (fun h_ => ?_) | refine ite_both (fun h_ => ?_) (fun h_ => ?_)) <;> (try simp only [decide_eq_true_eq, decide_eq_false_iff_not, Bool.not_true, Bool.not_false, Bool.not_eq_true', Bool.not_eq_false', Bool.not_eq_eq_eq_not, Decidable.not_not] at h_) <;> (try simp only [r13_0, r13_1, r13_2, r13_4, r13_5, r13_3, r13_6, c13, F13, l13_0, q3, q0, qm, qn, hlen, c2, qa, h_, go_sem, Int.reduceTMod, Int.reduceTDiv, Int.reduceDiv, Int.reduceMod, Int.reduceAdd, Int.reduceSub, Int.reduceMul, Int.reduceNeg, Int.reducePow, Int.reduceEq, ↓reduceIte, Nat.reduceEqDiff, Nat.reduceAdd, Nat.reduceMul, Nat.reduceLeDiff, Nat.reduceSub, Nat.reduceLT, Int.reduceToNat, Int.reduceLT, Int.reduceLE, reduceCtorEq]))
  · simp only [List.take_zero, List.all_nil, go_sem, Int.reduceTMod, Int.reduceTDiv, Int.reduceDiv, Int.reduceMod, Int.reduceAdd, Int.reduceSub, Int.reduceMul, Int.reduceNeg, Int.reducePow, Int.reduceEq, ↓reduceIte, Nat.reduceEqDiff, Nat.reduceAdd, Nat.reduceMul, Nat.reduceLeDiff, Nat.reduceSub, Nat.reduceLT, Int.reduceToNat, Int.reduceLT, Int.reduceLE, reduceCtorEq]

instance : DecidableEq Pt := fun a b => decidable_of_iff (a.x = b.x ∧ a.y = b.y) (by cases a; cases b; simp)
theorem pt_ne {p q : Pt} (h : p ≠ q) : p.x ≠ q.x ∨ p.y ≠ q.y := by
  by_cases h1 : p.x = q.x
  · right; intro h2; exact h (by cases p; cases q; simp_all)
  · exact Or.inl h1
theorem take_snoc_eq {l k : List Pt} {i : Nat} {p q : Pt} (hp : l[i]? = some p) (hq : k[i]? = some q) (h : l.take i = k.take i) (e : p = q) : l.take (i + 1) = k.take (i + 1) := by
  rw [List.take_add_one, List.take_add_one, h, hp, hq, e]
theorem v_same (r1 r2 : Reg) (l k : List Pt) (m : Mem) (n : Nat) (h1 : RPt m n r1 l) (h2 : RPt m n r2 k) (hl : l.length < 4294967296) : callF TA 14 [r1, r2] m n = some (RB (decide (l = k))) := by
  refine callF_of (Fn_ofK (fn := F14) rfl (by simp [F14]) ?_)
  have hlen1 := h1.len
  have hlen2 := h2.len
  by_cases hc : l.length = k.length
  · have hc' : ((l.length : Int) = (k.length : Int)) = True := eq_true (by omega)
    try simp only [r14_0, r14_1, r14_2, r14_3, r14_4, r14_5, r14_6, r14_7, r14_8, r14_9, c14, F14, hlen1, hlen2, hc', go_sem, Int.reduceTMod, Int.reduceTDiv, Int.reduceDiv, Int.reduceMod, Int.reduceAdd, Int.reduceSub, Int.reduceMul, Int.reduceNeg, Int.reducePow, Int.reduceEq, ↓reduceIte, Nat.reduceEqDiff, Nat.reduceAdd, Nat.reduceMul, Nat.reduceLeDiff, Nat.reduceSub, Nat.reduceLT, Int.reduceToNat, Int.reduceLT, Int.reduceLE, reduceCtorEq]
    repeat' ((first | refine FK_split (fun h_ => ?_) (fun h_ => ?_) | refine GK_split (fun h_ => ?_) (fun h_ => ?_) | refine ite_both (fun h_ => ?_) (fun h_ => ?_)) <;> (try simp only [decide_eq_true_eq, decide_eq_false_iff_not, Bool.not_true, Bool.not_false, Bool.not_eq_true', Bool.not_eq_false', Bool.not_eq_eq_eq_not, Decidable.not_not] at h_) <;> (try simp only [r14_0, r14_1, r14_2, r14_3, r14_4, r14_5, r14_6, r14_7, r14_8, r14_9, c14, F14, hlen1, hlen2, hc', h_, go_sem, Int.reduceTMod, Int.reduceTDiv, Int.reduceDiv, Int.reduceMod, Int.reduceAdd, Int.reduceSub, Int.reduceMul, Int.reduceNeg, Int.reducePow, Int.reduceEq, ↓reduceIte, Nat.reduceEqDiff, Nat.reduceAdd, Nat.reduceMul, Nat.reduceLeDiff, Nat.reduceSub, Nat.reduceLT, Int.reduceToNat, Int.reduceLT, Int.reduceLE, reduceCtorEq]))
    refine XK_iter (inv := fun i s => s.e 13 = RI i ∧ s.e 12 = RI l.length ∧ s.e 0 = r1 ∧ s.e 1 = r2 ∧ s.m = m ∧ s.n = n ∧ l.take i = k.take i) l.length
      (fun L _ => ⟨fun i hi s hs next => ?_, fun s hs => ?_⟩) 0 (by omega) _ ?_
    · obtain ⟨q13, q12, q0, q1, qm, qn, qa⟩ := hs
      have hp : l[i]? = some l[i] := List.getElem?_eq_getElem hi
      have hq : k[i]? = some (k[i]'(by omega)) := List.getElem?_eq_getElem (by omega)
      obtain ⟨id, off, cap, b, hr1, hid, hb, hx, hy⟩ := RL.pt h1 hp
      obtain ⟨id2, off2, cap2, b2, hr2, hid2, hb2, hx2, hy2⟩ := RL.pt h2 hq
      generalize l[i] = p at *
      generalize (k[i]'(by omega)) = q at *
      have c2 : ((i : Int) < (l.length : Int)) = True := eq_true (by omega)
      have c2' : ((i : Int) < (k.length : Int)) = True := eq_true (by omega)
      have c3 : (0 ≤ (i : Int)) = True := eq_true (by omega)
      have c7 : IntKind.i64.wrap ((i : Int) + 1) = ((i + 1 : Nat) : Int) := wr_nat (by omega)
      rw [hr1] at q0
      rw [hr2] at q1
      by_cases e : p = q
      · subst e
        try simp only [r14_0, r14_1, r14_2, r14_3, r14_4, r14_5, r14_6, r14_7, r14_8, r14_9, c14, F14, l14_0, q13, q12, q0, q1, qm, qn, c2, c2', c3, c7, hb, hx, hy, hb2, hx2, hy2, Int.toNat_natCast, go_sem, Int.reduceTMod, Int.reduceTDiv, Int.reduceDiv, Int.reduceMod, Int.reduceAdd, Int.reduceSub, Int.reduceMul, Int.reduceNeg, Int.reducePow, Int.reduceEq, ↓reduceIte, Nat.reduceEqDiff, Nat.reduceAdd, Nat.reduceMul, Nat.reduceLeDiff, Nat.reduceSub, Nat.reduceLT, Int.reduceToNat, Int.reduceLT, Int.reduceLE, reduceCtorEq]
        repeat' ((first | refine FK_split (fun h_ => ?_) (fun h_ => ?_) | refine GK_split (fun h_ => ?_) (fun h_ => ?_) | refine ite_both (fun h_ => ?_) (fun h_ => ?_)) <;> (try simp only [decide_eq_true_eq, decide_eq_false_iff_not, Bool.not_true, Bool.not_false, Bool.not_eq_true', Bool.not_eq_false', Bool.not_eq_eq_eq_not, Decidable.not_not] at h_) <;> (try simp only [r14_0, r14_1, r14_2, r14_3, r14_4, r14_5, r14_6, r14_7, r14_8, r14_9, c14, F14, l14_0, q13, q12, q0, q1, qm, qn, c2, c2', c3, c7, hb, hx, hy, hb2, hx2, hy2, Int.toNat_natCast, h_, go_sem, Int.reduceTMod, Int.reduceTDiv, Int.reduceDiv, Int.reduceMod, Int.reduceAdd, Int.reduceSub, Int.reduceMul, Int.reduceNeg, Int.reducePow, Int.reduceEq, ↓reduceIte, Nat.reduceEqDiff, Nat.reduceAdd, Nat.reduceMul, Nat.reduceLeDiff, Nat.reduceSub, Nat.reduceLT, Int.reduceToNat, Int.reduceLT, Int.reduceLE, reduceCtorEq]))
        refine next _ ⟨?_, ?_, ?_, ?_, ?_, ?_, take_snoc_eq hp hq qa rfl⟩
        all_goals simp only [q13, q12, q0, q1, qm, qn, hr1, hr2, go_sem, Int.reduceTMod, Int.reduceTDiv, Int.reduceDiv, Int.reduceMod, Int.reduceAdd, Int.reduceSub, Int.reduceMul, Int.reduceNeg, Int.reducePow, Int.reduceEq, ↓reduceIte, Nat.reduceEqDiff, Nat.reduceAdd, Nat.reduceMul, Nat.reduceLeDiff, Nat.reduceSub, Nat.reduceLT, Int.reduceToNat, Int.reduceLT, Int.reduceLE, reduceCtorEq]
      · have hne : l ≠ k := fun h => e (by rw [h, hq] at hp; exact (Option.some.inj hp).symm)
        have hf : decide (l = k) = false := decide_eq_false hne
        by_cases hxx : p.x = q.x
        · have hyy : ¬ p.y = q.y := (pt_ne e).resolve_left (fun h => h hxx)
          try simp only [r14_0, r14_1, r14_2, r14_3, r14_4, r14_5, r14_6, r14_7, r14_8, r14_9, c14, F14, l14_0, q13, q12, q0, q1, qm, qn, c2, c2', c3, c7, hb, hx, hy, hb2, hx2, hy2, hxx, hyy, hf, Int.toNat_natCast, go_sem, Int.reduceTMod, Int.reduceTDiv, Int.reduceDiv, Int.reduceMod, Int.reduceAdd, Int.reduceSub, Int.reduceMul, Int.reduceNeg, Int.reducePow, Int.reduceEq, ↓reduceIte, Nat.reduceEqDiff, Nat.reduceAdd, Nat.reduceMul, Nat.reduceLeDiff, Nat.reduceSub, Nat.reduceLT, Int.reduceToNat, Int.reduceLT, Int.reduceLE, reduceCtorEq]
          repeat' ((first | refine FK_split (fun h_ => ?_) (fun h_ => ?_) | refine GK_split (fun h_ => ?_) (fun h_ => ?_) | refine ite_both (fun h_ => ?_) (fun h_ => ?_)) <;> (try simp only [decide_eq_true_eq, decide_eq_false_iff_not, Bool.not_true, Bool.not_false, Bool.not_eq_true', Bool.not_eq_false', Bool.not_eq_eq_eq_not, Decidable.not_not] at h_) <;> (try simp only [r14_0, r14_1, r14_2, r14_3, r14_4, r14_5, r14_6, r14_7, r14_8, r14_9, c14, F14, l14_0, q13, q12, q0, q1, qm, qn, c2, c2', c3, c7, hb, hx, hy, hb2, hx2, hy2, hxx, hyy, hf, Int.toNat_natCast, h_, go_sem, Int.reduceTMod, Int.reduceTDiv, Int.reduceDiv, Int.reduceMod, Int.reduceAdd, Int.reduceSub, Int.reduceMul, Int.reduceNeg, Int.reducePow, Int.reduceEq, ↓reduceIte, Nat.reduceEqDiff, Nat.reduceAdd, Nat.reduceMul, Nat.reduceLeDiff, Nat.reduceSub, Nat.reduceLT, Int.reduceToNat, Int.reduceLT, Int.reduceLE, reduceCtorEq]))
        · skip
          try simp only [r14_0, r14_1, r14_2, r14_3, r14_4, r14_5, r14_6, r14_7, r14_8, r14_9, c14, F14, l14_0, q13, q12, q0, q1, qm, qn, c2, c2', c3, c7, hb, hx, hy, hb2, hx2, hy2, hxx, hf, Int.toNat_natCast, go_sem, Int.reduceTMod, Int.reduceTDiv, Int.reduceDiv, Int.reduceMod, Int.reduceAdd, Int.reduceSub, Int.reduceMul, Int.reduceNeg, Int.reducePow, Int.reduceEq, ↓reduceIte, Nat.reduceEqDiff, Nat.reduceAdd, Nat.reduceMul, Nat.reduceLeDiff, Nat.reduceSub, Nat.reduceLT, Int.reduceToNat, Int.reduceLT, Int.reduceLE, reduceCtorEq]
          repeat' ((first | refine FK_split (fun h_ => ?_) (fun h_ => ?_) | refine GK_split (fun h_ => ?_) (fun h_ => ?_) | refine ite_both (fun h_ => ?_) (fun h_ => ?_)) <;> (try simp only [decide_eq_true_eq, decide_eq_false_iff_not, Bool.not_true, Bool.not_false, Bool.not_eq_true', Bool.not_eq_false', Bool.not_eq_eq_eq_not, Decidable.not_not] at h_) <;> (try simp only [r14_0, r14_1, r14_2, r14_3, r14_4, r14_5, r14_6, r14_7, r14_8, r14_9, c14, F14, l14_0, q13, q12, q0, q1, qm, qn, c2, c2', c3, c7, hb, hx, hy, hb2, hx2, hy2, hxx, hf, Int.toNat_natCast, h_, go_sem, Int.reduceTMod, Int.reduceTDiv, Int.reduceDiv, Int.reduceMod, Int.reduceAdd, Int.reduceSub, Int.reduceMul, Int.reduceNeg, Int.reducePow, Int.reduceEq, ↓reduceIte, Nat.reduceEqDiff, Nat.reduceAdd, Nat.reduceMul, Nat.reduceLeDiff, Nat.reduceSub, Nat.reduceLT, Int.reduceToNat, Int.reduceLT, Int.reduceLE, reduceCtorEq]))
    · obtain ⟨q13, q12, q0, q1, qm, qn, qa⟩ := hs
      have c2 : ((l.length : Int) < (l.length : Int)) = False := eq_false (by omega)
      have hf : decide (l = k) = true := by
        rw [List.take_length, hc, List.take_length] at qa
        exact decide_eq_true qa
      try simp only [r14_0, r14_1, r14_2, r14_3, r14_4, r14_5, r14_6, r14_7, r14_8, r14_9, c14, F14, l14_0, q13, q12, q0, q1, qm, qn, c2, hf, go_sem, Int.reduceTMod, Int.reduceTDiv, Int.reduceDiv, Int.reduceMod, Int.reduceAdd, Int.reduceSub, Int.reduceMul, Int.reduceNeg, Int.reducePow, Int.reduceEq, ↓reduceIte, Nat.reduceEqDiff, Nat.reduceAdd, Nat.reduceMul, Nat.reduceLeDiff, Nat.reduceSub, Nat.reduceLT, Int.reduceToNat, Int.reduceLT, Int.reduceLE, reduceCtorEq]
      repeat' ((first | refine FK_split (fun h_ => ?_) (fun h_ => ?_) | refine GK_split (fun h_ => ?_) (fun h_ => ?_) | refine ite_both (fun h_ => ?_) (fun h_ => ?_)) <;> (try simp only [decide_eq_true_eq, decide_eq_false_iff_not, Bool.not_true, Bool.not_false, Bool.not_eq_true', Bool.not_eq_false', Bool.not_eq_eq_eq_not, Decidable.not_not] at h_) <;> (try simp only [r14_0, r14_1, r14_2, r14_3, r14_4, r14_5, r14_6, r14_7, r14_8, r14_9, c14, F14, l14_0, q13, q12, q0, q1, qm, qn, c2, hf, h_, go_sem, Int.reduceTMod, Int.reduceTDiv, Int.reduceDiv, Int.reduceMod, Int.reduceAdd, Int.reduceSub, Int.reduceMul, Int.reduceNeg, Int.reducePow, Int.reduceEq, ↓reduceIte, Nat.reduceEqDiff, Nat.reduceAdd, Nat.reduceMul, Nat.reduceLeDiff, Nat.reduceSub, Nat.reduceLT, Int.reduceToNat, Int.reduceLT, Int.reduceLE, reduceCtorEq]))
    · simp only [List.take_zero, go_sem, Int.reduceTMod, Int.reduceTDiv, Int.reduceDiv, Int.reduceMod, Int.reduceAdd, Int.reduceSub, Int.reduceMul, Int.reduceNeg, Int.reducePow, Int.reduceEq, ↓reduceIte, Nat.reduceEqDiff, Nat.reduceAdd, Nat.reduceMul, Nat.reduceLeDiff, Nat.reduceSub, Nat.reduceLT, Int.reduceToNat, Int.reduceLT, Int.reduceLE, reduceCtorEq]
  · have hc' : ((l.length : Int) = (k.length : Int)) = False := eq_false (by omega)
    have hf : decide (l = k) = false := decide_eq_false (fun h => hc (by rw [h]))
    try simp only [r14_0, r14_1, r14_2, r14_3, r14_4, r14_5, r14_6, r14_7, r14_8, r14_9, c14, F14, hlen1, hlen2, hc', hf, go_sem, Int.reduceTMod, Int.reduceTDiv, Int.reduceDiv, Int.reduceMod, Int.reduceAdd, Int.reduceSub, Int.reduceMul, Int.reduceNeg, Int.reducePow, Int.reduceEq, ↓reduceIte, Nat.reduceEqDiff, Nat.reduceAdd, Nat.reduceMul, Nat.reduceLeDiff, Nat.reduceSub, Nat.reduceLT, Int.reduceToNat, Int.reduceLT, Int.reduceLE, reduceCtorEq]
    repeat' ((first | refine FK_split (fun h_ => ?_) (fun h_ => ?_) | refine GK_split (fun h_ => ?_) (fun h_ => ?_) | refine ite_both (fun h_ => ?_) (fun h_ => ?_)) <;> (try simp only [decide_eq_true_eq, decide_eq_false_iff_not, Bool.not_true, Bool.not_false, Bool.not_eq_true', Bool.not_eq_false', Bool.not_eq_eq_eq_not, Decidable.not_not] at h_) <;> (try simp only [r14_0, r14_1, r14_2, r14_3, r14_4, r14_5, r14_6, r14_7, r14_8, r14_9, c14, F14, hlen1, hlen2, hc', hf, h_, go_sem, Int.reduceTMod, Int.reduceTDiv, Int.reduceDiv, Int.reduceMod, Int.reduceAdd, Int.reduceSub, Int.reduceMul, Int.reduceNeg, Int.reducePow, Int.reduceEq, ↓reduceIte, Nat.reduceEqDiff, Nat.reduceAdd, Nat.reduceMul, Nat.reduceLeDiff, Nat.reduceSub, Nat.reduceLT, Int.reduceToNat, Int.reduceLT, Int.reduceLE, reduceCtorEq]))

/- Package stroke's room. Conditions: those that each theorem names. -/
open Go Go.Proofs
set_option linter.unusedSimpArgs false
set_option linter.unusedVariables false

theorem v_out1 (x y : Int) (m : Mem) (n : Nat) : callF TA 51 [.agg [I x, I y]] m n = some (RB (!inP ⟨x, y⟩)) := by
  refine callF_of (Fn_ofK (fn := F51) rfl (by simp [F51]) ?_)
  try simp only [r51_0, r51_1, c51, F51, v_PIn, go_sem, Int.reduceTMod, Int.reduceTDiv, Int.reduceDiv, Int.reduceMod, Int.reduceAdd, Int.reduceSub, Int.reduceMul, Int.reduceNeg, Int.reducePow, Int.reduceEq, ↓reduceIte, Nat.reduceEqDiff, Nat.reduceAdd, Nat.reduceMul, Nat.reduceLeDiff, Nat.reduceSub, Nat.reduceLT, Int.reduceToNat, Int.reduceLT, Int.reduceLE, reduceCtorEq]
  repeat' ((first | refine FK_split (fun h_ => ?_) (fun h_ => ?_) | refine GK_split (fun h_ => ?_) (fun h_ => ?_) | refine ite_both (fun h_ => ?_) (fun h_ => ?_)) <;> (try simp only [decide_eq_true_eq, decide_eq_false_iff_not, Bool.not_true, Bool.not_false, Bool.not_eq_true', Bool.not_eq_false', Bool.not_eq_eq_eq_not, Decidable.not_not] at h_) <;> (try simp only [r51_0, r51_1, c51, F51, v_PIn, h_, go_sem, Int.reduceTMod, Int.reduceTDiv, Int.reduceDiv, Int.reduceMod, Int.reduceAdd, Int.reduceSub, Int.reduceMul, Int.reduceNeg, Int.reducePow, Int.reduceEq, ↓reduceIte, Nat.reduceEqDiff, Nat.reduceAdd, Nat.reduceMul, Nat.reduceLeDiff, Nat.reduceSub, Nat.reduceLT, Int.reduceToNat, Int.reduceLT, Int.reduceLE, reduceCtorEq]))
theorem v_out2 (x y : Int) (m : Mem) (n : Nat) : callF TA 34 [.agg [I x, I y]] m n = some (RB (!inP ⟨x, y⟩)) := by
  refine callF_of (Fn_ofK (fn := F34) rfl (by simp [F34]) ?_)
  try simp only [r34_0, r34_1, c34, F34, v_PIn, go_sem, Int.reduceTMod, Int.reduceTDiv, Int.reduceDiv, Int.reduceMod, Int.reduceAdd, Int.reduceSub, Int.reduceMul, Int.reduceNeg, Int.reducePow, Int.reduceEq, ↓reduceIte, Nat.reduceEqDiff, Nat.reduceAdd, Nat.reduceMul, Nat.reduceLeDiff, Nat.reduceSub, Nat.reduceLT, Int.reduceToNat, Int.reduceLT, Int.reduceLE, reduceCtorEq]
  repeat' ((first | refine FK_split (fun h_ => ?_) (fun h_ => ?_) | refine GK_split (fun h_ => ?_) (fun h_ => ?_) | refine ite_both (fun h_ => ?_) (fun h_ => ?_)) <;> (try simp only [decide_eq_true_eq, decide_eq_false_iff_not, Bool.not_true, Bool.not_false, Bool.not_eq_true', Bool.not_eq_false', Bool.not_eq_eq_eq_not, Decidable.not_not] at h_) <;> (try simp only [r34_0, r34_1, c34, F34, v_PIn, h_, go_sem, Int.reduceTMod, Int.reduceTDiv, Int.reduceDiv, Int.reduceMod, Int.reduceAdd, Int.reduceSub, Int.reduceMul, Int.reduceNeg, Int.reducePow, Int.reduceEq, ↓reduceIte, Nat.reduceEqDiff, Nat.reduceAdd, Nat.reduceMul, Nat.reduceLeDiff, Nat.reduceSub, Nat.reduceLT, Int.reduceToNat, Int.reduceLT, Int.reduceLE, reduceCtorEq]))
/-- A polygon, if its points are in room. -/
theorem w_room (r : Reg) (l : List Pt) (m : Mem) (n : Nat) (hr : RPt m n r l) (hl : l.length < 4294967296) : Fn TA 29 [r] m n (fun r' m' n' => r' = (if l.all inP = true then .tup [r, RI 0] else .tup [rnil, RI 10]) ∧ m' = m ∧ n' = n) := by
  refine Fn_ofK (fn := F29) rfl (by simp [F29]) ?_
  have hc := v_Contains 51 v_out1 r l (frz m) n hr.frz hl
  cases hin : l.all inP
  all_goals
    try simp only [r29_0, r29_1, r29_2, r29_3, c29, F29, hc, hin, go_sem, Int.reduceTMod, Int.reduceTDiv, Int.reduceDiv, Int.reduceMod, Int.reduceAdd, Int.reduceSub, Int.reduceMul, Int.reduceNeg, Int.reducePow, Int.reduceEq, ↓reduceIte, Nat.reduceEqDiff, Nat.reduceAdd, Nat.reduceMul, Nat.reduceLeDiff, Nat.reduceSub, Nat.reduceLT, Int.reduceToNat, Int.reduceLT, Int.reduceLE, reduceCtorEq]
    repeat' ((first | refine FK_split (fun h_ => ?_) (fun h_ => ?_) | refine GK_split (fun h_ => ?_) (fun h_ => ?_) | refine ite_both (fun h_ => ?_) (fun h_ => ?_)) <;> (try simp only [decide_eq_true_eq, decide_eq_false_iff_not, Bool.not_true, Bool.not_false, Bool.not_eq_true', Bool.not_eq_false', Bool.not_eq_eq_eq_not, Decidable.not_not] at h_) <;> (try simp only [r29_0, r29_1, r29_2, r29_3, c29, F29, hc, hin, h_, go_sem, Int.reduceTMod, Int.reduceTDiv, Int.reduceDiv, Int.reduceMod, Int.reduceAdd, Int.reduceSub, Int.reduceMul, Int.reduceNeg, Int.reducePow, Int.reduceEq, ↓reduceIte, Nat.reduceEqDiff, Nat.reduceAdd, Nat.reduceMul, Nat.reduceLeDiff, Nat.reduceSub, Nat.reduceLT, Int.reduceToNat, Int.reduceLT, Int.reduceLE, reduceCtorEq]))

/- Discs walked: the program's. Conditions: those that each theorem names. -/
open Go Go.Proofs
set_option linter.unusedSimpArgs false
set_option linter.unusedVariables false

/-- The table of cosines. -/
def cosT : List Cell := [I 65536, I 60547, I 46341, I 25080, I 0, I (-25080), I (-46341), I (-60547), I (-65536), I (-60547), I (-46341), I (-25080), I 0, I 25080, I 46341, I 60547]
def PC (h a : Int) : Int := rnd (a * h) 65536
def dpt (cx cy h a b : Int) : Pt := ⟨cx + PC h a, cy + PC h b⟩
def disc (cx cy h : Int) : List Pt := [dpt cx cy h 65536 0, dpt cx cy h 60547 25080, dpt cx cy h 46341 46341, dpt cx cy h 25080 60547, dpt cx cy h 0 65536, dpt cx cy h (-25080) 60547, dpt cx cy h (-46341) 46341, dpt cx cy h (-60547) 25080,
  dpt cx cy h (-65536) 0, dpt cx cy h (-60547) (-25080), dpt cx cy h (-46341) (-46341), dpt cx cy h (-25080) (-60547), dpt cx cy h 0 (-65536), dpt cx cy h 25080 (-60547), dpt cx cy h 46341 (-46341), dpt cx cy h 60547 (-25080)]
theorem PC_bd {h a : Int} (h1 : 1 ≤ h) (h2 : h ≤ 32768) (a1 : -65536 ≤ a) (a2 : a ≤ 65536) : -32768 ≤ PC h a ∧ PC h a ≤ 32768 := by
  have k1 : a * h ≤ 65536 * h := Int.mul_le_mul_of_nonneg_right a2 (by omega)
  have k2 : -65536 * h ≤ a * h := Int.mul_le_mul_of_nonneg_right a1 (by omega)
  exact ⟨rnd_ge (by decide) (by omega), rnd_le (by decide) (by omega)⟩
theorem v_partC (h : Int) (h1 : 1 ≤ h) (h2 : h ≤ 32768) (a : Int) (a1 : -65536 ≤ a) (a2 : a ≤ 65536) (m : Mem) (n : Nat) : callF TA 28 [RI a, RI h, RI 65536] m n = some (RI (PC h a)) := by
  have k1 : a * h ≤ 65536 * h := Int.mul_le_mul_of_nonneg_right a2 (by omega)
  have k2 : -65536 * h ≤ a * h := Int.mul_le_mul_of_nonneg_right a1 (by omega)
  exact v_part a h 65536 (by omega) (by omega) (by omega) (by decide) (by decide) m n

/-- What comes out: a disc, or why not. -/
structure DiscQ (cx cy h : Int) (n : Nat) (r' : Reg) (m' : Mem) (n' : Nat) : Prop where
  ok : (1 ≤ h ∧ h ≤ 32768) ∧ inP ⟨cx, cy⟩ = true → (disc cx cy h).all inP = true → ∃ id, r' = .tup [.one (.sl id 0 16 none 2), RI 0] ∧ n ≤ id ∧ id < n' ∧ m' id = some ⟨(disc cx cy h).flatMap Pt.cs, true⟩
  out : (1 ≤ h ∧ h ≤ 32768) ∧ inP ⟨cx, cy⟩ = true → (disc cx cy h).all inP = false → r' = .tup [rnil, RI 10]
  bad : ¬ ((1 ≤ h ∧ h ≤ 32768) ∧ inP ⟨cx, cy⟩ = true) → r' = .tup [rnil, RI 30]
set_option maxHeartbeats 4000000 in
theorem w_Disc (cx cy h : Int) (m : Mem) (n : Nat) (h0n : 0 < n) (o : Bool) (hm0 : m 0 = some ⟨cosT, o⟩) :
    Fn TA 8 [.agg [I cx, I cy], RI h] m n (DiscQ cx cy h n) := by
  refine Fn_ofK (fn := F8) rfl (by simp [F8]) ?_
  by_cases g : (1 ≤ h ∧ h ≤ 32768) ∧ inP ⟨cx, cy⟩ = true
  · obtain ⟨⟨h1, h2⟩, hin⟩ := g
    have hin' := hin
    simp only [inP, Bool.and_eq_true, rm_iff] at hin'
    have vp := v_partC h h1 h2
    have wx : ∀ a, -65536 ≤ a → a ≤ 65536 → IntKind.i64.wrap (cx + PC h a) = cx + PC h a := fun a a1 a2 => by have := PC_bd h1 h2 a1 a2; exact wr_eq (by omega) (by omega)
    have wy : ∀ a, -65536 ≤ a → a ≤ 65536 → IntKind.i64.wrap (cy + PC h a) = cy + PC h a := fun a a1 a2 => by have := PC_bd h1 h2 a1 a2; exact wr_eq (by omega) (by omega)
    have z0 := na_0 h0n
    try simp only [r8_0, r8_1, r8_2, r8_3, r8_4, r8_5, r8_6, r8_7, r8_8, r8_9, c8, F8, l8_0, XK_loop, v_right, v_PIn, vp, wx, wy, v_plus, hin, h1, h2, hm0, rd_of hm0, z0, h0n, cosT, evApp, newsOf, Int.toNat_natCast, Nat.mul_one, Nat.zero_add, go_sem, Int.reduceTMod, Int.reduceTDiv, Int.reduceDiv, Int.reduceMod, Int.reduceAdd, Int.reduceSub, Int.reduceMul, Int.reduceNeg, Int.reducePow, Int.reduceEq, ↓reduceIte, Nat.reduceEqDiff, Nat.reduceAdd, Nat.reduceMul, Nat.reduceLeDiff, Nat.reduceSub, Nat.reduceLT, Int.reduceToNat, Int.reduceLT, Int.reduceLE, reduceCtorEq]
    repeat' ((first | refine FK_split (fun h_ => ?_) (fun h_ => ?_) | refine GK_split (fun h_ => ?_) (fun h_ => ?_) | refine ite_both (fun h_ => ?_) (fun h_ => ?_)) <;> (try simp only [decide_eq_true_eq, decide_eq_false_iff_not, Bool.not_true, Bool.not_false, Bool.not_eq_true', Bool.not_eq_false', Bool.not_eq_eq_eq_not, Decidable.not_not] at h_) <;> (try simp only [r8_0, r8_1, r8_2, r8_3, r8_4, r8_5, r8_6, r8_7, r8_8, r8_9, c8, F8, l8_0, XK_loop, v_right, v_PIn, vp, wx, wy, v_plus, hin, h1, h2, hm0, rd_of hm0, z0, h0n, cosT, evApp, newsOf, Int.toNat_natCast, Nat.mul_one, Nat.zero_add, h_, go_sem, Int.reduceTMod, Int.reduceTDiv, Int.reduceDiv, Int.reduceMod, Int.reduceAdd, Int.reduceSub, Int.reduceMul, Int.reduceNeg, Int.reducePow, Int.reduceEq, ↓reduceIte, Nat.reduceEqDiff, Nat.reduceAdd, Nat.reduceMul, Nat.reduceLeDiff, Nat.reduceSub, Nat.reduceLT, Int.reduceToNat, Int.reduceLT, Int.reduceLE, reduceCtorEq]))
    refine RK_callk ?_
    have hlen : (disc cx cy h).length = 16 := rfl
    refine (w_room (.one (.sl (n + 32) 0 16 none 2)) (disc cx cy h) _ _ (Or.inr ⟨n + 32, 0, none, rfl, by omega, ?_⟩) (by rw [hlen]; omega)).mono ?_
    · rw [rd_frz, hlen]
      simp only [disc, dpt, List.flatMap_cons, List.flatMap_nil, go_sem, Int.reduceTMod, Int.reduceTDiv, Int.reduceDiv, Int.reduceMod, Int.reduceAdd, Int.reduceSub, Int.reduceMul, Int.reduceNeg, Int.reducePow, Int.reduceEq, ↓reduceIte, Nat.reduceEqDiff, Nat.reduceAdd, Nat.reduceMul, Nat.reduceLeDiff, Nat.reduceSub, Nat.reduceLT, Int.reduceToNat, Int.reduceLT, Int.reduceLE, reduceCtorEq]
    · intro r1 m1 n1 hq
      obtain ⟨q1, q2, q3⟩ := hq
      subst q1
      subst q2
      subst q3
      cases ha : (disc cx cy h).all inP
      · simp only [Bool.false_eq_true, if_false]
        try simp only [go_sem, Int.reduceTMod, Int.reduceTDiv, Int.reduceDiv, Int.reduceMod, Int.reduceAdd, Int.reduceSub, Int.reduceMul, Int.reduceNeg, Int.reducePow, Int.reduceEq, ↓reduceIte, Nat.reduceEqDiff, Nat.reduceAdd, Nat.reduceMul, Nat.reduceLeDiff, Nat.reduceSub, Nat.reduceLT, Int.reduceToNat, Int.reduceLT, Int.reduceLE, reduceCtorEq]
        repeat' ((first | refine FK_split (fun h_ => ?_) (fun h_ => ?_) | refine GK_split (fun h_ => ?_) (fun h_ => ?_) | refine ite_both (fun h_ => ?_) (fun h_ => ?_)) <;> (try simp only [decide_eq_true_eq, decide_eq_false_iff_not, Bool.not_true, Bool.not_false, Bool.not_eq_true', Bool.not_eq_false', Bool.not_eq_eq_eq_not, Decidable.not_not] at h_) <;> (try simp only [h_, go_sem, Int.reduceTMod, Int.reduceTDiv, Int.reduceDiv, Int.reduceMod, Int.reduceAdd, Int.reduceSub, Int.reduceMul, Int.reduceNeg, Int.reducePow, Int.reduceEq, ↓reduceIte, Nat.reduceEqDiff, Nat.reduceAdd, Nat.reduceMul, Nat.reduceLeDiff, Nat.reduceSub, Nat.reduceLT, Int.reduceToNat, Int.reduceLT, Int.reduceLE, reduceCtorEq]))
        exact ⟨fun _ h => (by rw [ha] at h; cases h), fun _ _ => rfl, fun h => absurd ⟨⟨h1, h2⟩, hin⟩ h⟩
      · simp only [if_true]
        try simp only [go_sem, Int.reduceTMod, Int.reduceTDiv, Int.reduceDiv, Int.reduceMod, Int.reduceAdd, Int.reduceSub, Int.reduceMul, Int.reduceNeg, Int.reducePow, Int.reduceEq, ↓reduceIte, Nat.reduceEqDiff, Nat.reduceAdd, Nat.reduceMul, Nat.reduceLeDiff, Nat.reduceSub, Nat.reduceLT, Int.reduceToNat, Int.reduceLT, Int.reduceLE, reduceCtorEq]
        repeat' ((first | refine FK_split (fun h_ => ?_) (fun h_ => ?_) | refine GK_split (fun h_ => ?_) (fun h_ => ?_) | refine ite_both (fun h_ => ?_) (fun h_ => ?_)) <;> (try simp only [decide_eq_true_eq, decide_eq_false_iff_not, Bool.not_true, Bool.not_false, Bool.not_eq_true', Bool.not_eq_false', Bool.not_eq_eq_eq_not, Decidable.not_not] at h_) <;> (try simp only [h_, go_sem, Int.reduceTMod, Int.reduceTDiv, Int.reduceDiv, Int.reduceMod, Int.reduceAdd, Int.reduceSub, Int.reduceMul, Int.reduceNeg, Int.reducePow, Int.reduceEq, ↓reduceIte, Nat.reduceEqDiff, Nat.reduceAdd, Nat.reduceMul, Nat.reduceLeDiff, Nat.reduceSub, Nat.reduceLT, Int.reduceToNat, Int.reduceLT, Int.reduceLE, reduceCtorEq]))
        refine ⟨fun _ _ => ⟨n + 32, rfl, by omega, by omega, ?_⟩, fun _ h => (by rw [ha] at h; cases h), fun h => absurd ⟨⟨h1, h2⟩, hin⟩ h⟩
        simp only [disc, dpt, List.flatMap_cons, List.flatMap_nil, go_sem, Int.reduceTMod, Int.reduceTDiv, Int.reduceDiv, Int.reduceMod, Int.reduceAdd, Int.reduceSub, Int.reduceMul, Int.reduceNeg, Int.reducePow, Int.reduceEq, ↓reduceIte, Nat.reduceEqDiff, Nat.reduceAdd, Nat.reduceMul, Nat.reduceLeDiff, Nat.reduceSub, Nat.reduceLT, Int.reduceToNat, Int.reduceLT, Int.reduceLE, reduceCtorEq]
  · cases e1 : (decide (1 ≤ h) && decide (h ≤ 32768))
    · skip
      try simp only [r8_0, r8_1, r8_2, r8_3, r8_4, r8_5, r8_6, r8_7, r8_8, r8_9, c8, F8, v_right, e1, go_sem, Int.reduceTMod, Int.reduceTDiv, Int.reduceDiv, Int.reduceMod, Int.reduceAdd, Int.reduceSub, Int.reduceMul, Int.reduceNeg, Int.reducePow, Int.reduceEq, ↓reduceIte, Nat.reduceEqDiff, Nat.reduceAdd, Nat.reduceMul, Nat.reduceLeDiff, Nat.reduceSub, Nat.reduceLT, Int.reduceToNat, Int.reduceLT, Int.reduceLE, reduceCtorEq]
      repeat' ((first | refine FK_split (fun h_ => ?_) (fun h_ => ?_) | refine GK_split (fun h_ => ?_) (fun h_ => ?_) | refine ite_both (fun h_ => ?_) (fun h_ => ?_)) <;> (try simp only [decide_eq_true_eq, decide_eq_false_iff_not, Bool.not_true, Bool.not_false, Bool.not_eq_true', Bool.not_eq_false', Bool.not_eq_eq_eq_not, Decidable.not_not] at h_) <;> (try simp only [r8_0, r8_1, r8_2, r8_3, r8_4, r8_5, r8_6, r8_7, r8_8, r8_9, c8, F8, v_right, e1, h_, go_sem, Int.reduceTMod, Int.reduceTDiv, Int.reduceDiv, Int.reduceMod, Int.reduceAdd, Int.reduceSub, Int.reduceMul, Int.reduceNeg, Int.reducePow, Int.reduceEq, ↓reduceIte, Nat.reduceEqDiff, Nat.reduceAdd, Nat.reduceMul, Nat.reduceLeDiff, Nat.reduceSub, Nat.reduceLT, Int.reduceToNat, Int.reduceLT, Int.reduceLE, reduceCtorEq]))
      exact ⟨fun h => absurd h g, fun h => absurd h g, fun _ => rfl⟩
    · have e2 : inP ⟨cx, cy⟩ = false := by
        simp only [Bool.and_eq_true, decide_eq_true_eq] at e1
        cases hq : inP ⟨cx, cy⟩
        · rfl
        · exact absurd ⟨e1, hq⟩ g
      try simp only [r8_0, r8_1, r8_2, r8_3, r8_4, r8_5, r8_6, r8_7, r8_8, r8_9, c8, F8, v_right, v_PIn, e1, e2, go_sem, Int.reduceTMod, Int.reduceTDiv, Int.reduceDiv, Int.reduceMod, Int.reduceAdd, Int.reduceSub, Int.reduceMul, Int.reduceNeg, Int.reducePow, Int.reduceEq, ↓reduceIte, Nat.reduceEqDiff, Nat.reduceAdd, Nat.reduceMul, Nat.reduceLeDiff, Nat.reduceSub, Nat.reduceLT, Int.reduceToNat, Int.reduceLT, Int.reduceLE, reduceCtorEq]
      repeat' ((first | refine FK_split (fun h_ => ?_) (fun h_ => ?_) | refine GK_split (fun h_ => ?_) (fun h_ => ?_) | refine ite_both (fun h_ => ?_) (fun h_ => ?_)) <;> (try simp only [decide_eq_true_eq, decide_eq_false_iff_not, Bool.not_true, Bool.not_false, Bool.not_eq_true', Bool.not_eq_false', Bool.not_eq_eq_eq_not, Decidable.not_not] at h_) <;> (try simp only [r8_0, r8_1, r8_2, r8_3, r8_4, r8_5, r8_6, r8_7, r8_8, r8_9, c8, F8, v_right, v_PIn, e1, e2, h_, go_sem, Int.reduceTMod, Int.reduceTDiv, Int.reduceDiv, Int.reduceMod, Int.reduceAdd, Int.reduceSub, Int.reduceMul, Int.reduceNeg, Int.reducePow, Int.reduceEq, ↓reduceIte, Nat.reduceEqDiff, Nat.reduceAdd, Nat.reduceMul, Nat.reduceLeDiff, Nat.reduceSub, Nat.reduceLT, Int.reduceToNat, Int.reduceLT, Int.reduceLE, reduceCtorEq]))
      exact ⟨fun h => absurd h g, fun h => absurd h g, fun _ => rfl⟩

/- Lines: too long or not; points of the law. Conditions: those that each theorem names. -/
open Go Go.Proofs
set_option linter.unusedSimpArgs false
set_option linter.unusedVariables false

/-- Is a line too long? -/
def longB (x y : Int) : Bool := decide (536870912 < x) || (decide (x < -536870912) || (decide (536870912 < y) || decide (y < -536870912)))
theorem long_iff {x y : Int} : longB x y = false ↔ (-536870912 ≤ x ∧ x ≤ 536870912) ∧ -536870912 ≤ y ∧ y ≤ 536870912 := by
  simp only [longB, Bool.or_eq_false_iff, decide_eq_false_iff_not]; omega
theorem sq_bd {x y : Int} (h : longB x y = false) : (0 ≤ x * x ∧ x * x ≤ 288230376151711744) ∧ 0 ≤ y * y ∧ y * y ≤ 288230376151711744 := by
  rw [long_iff] at h
  have key : ∀ z : Int, -536870912 ≤ z → z ≤ 536870912 → 0 ≤ z * z ∧ z * z ≤ 288230376151711744 := by
    intro z h1 h2
    rcases Int.le_total 0 z with k | k
    · exact ⟨Int.mul_nonneg k k, by have := Int.mul_le_mul h2 h2 k (by omega); omega⟩
    · have e : z * z = (-z) * (-z) := (Int.neg_mul_neg z z).symm
      rw [e]
      exact ⟨Int.mul_nonneg (by omega) (by omega), by have := Int.mul_le_mul (show -z ≤ 536870912 by omega) (show -z ≤ 536870912 by omega) (by omega) (by omega); omega⟩
  exact ⟨key x h.1.1 h.1.2, key y h.2.1 h.2.2⟩
theorem inP_iff {x y : Int} : inP ⟨x, y⟩ = true ↔ (-2147483648 ≤ x ∧ x ≤ 2147483648) ∧ -2147483648 ≤ y ∧ y ≤ 2147483648 := by
  simp only [inP, Bool.and_eq_true, rm_iff]
theorem sub_wrap {ax ay bx b_y : Int} (ha : inP ⟨ax, ay⟩ = true) (hb : inP ⟨bx, b_y⟩ = true) : IntKind.i64.wrap (bx - ax) = bx - ax ∧ IntKind.i64.wrap (b_y - ay) = b_y - ay := by
  rw [inP_iff] at ha hb
  exact ⟨wr_eq (by omega) (by omega), wr_eq (by omega) (by omega)⟩
theorem v_Long (ax ay bx b_y : Int) (ha : inP ⟨ax, ay⟩ = true) (hb : inP ⟨bx, b_y⟩ = true) (m : Mem) (n : Nat) : callF TA 42 [.agg [I ax, I ay], .agg [I bx, I b_y]] m n = some (RB (longB (bx - ax) (b_y - ay))) := by
  refine callF_of (Fn_ofK (fn := F42) rfl (by simp [F42]) ?_)
  obtain ⟨w1, w2⟩ := sub_wrap ha hb
  try simp only [r42_0, r42_1, r42_2, c42, F42, w1, w2, longB, go_sem, Int.reduceTMod, Int.reduceTDiv, Int.reduceDiv, Int.reduceMod, Int.reduceAdd, Int.reduceSub, Int.reduceMul, Int.reduceNeg, Int.reducePow, Int.reduceEq, ↓reduceIte, Nat.reduceEqDiff, Nat.reduceAdd, Nat.reduceMul, Nat.reduceLeDiff, Nat.reduceSub, Nat.reduceLT, Int.reduceToNat, Int.reduceLT, Int.reduceLE, reduceCtorEq]
  repeat' ((first | refine FK_split (fun h_ => ?_) (fun h_ => ?_) | refine GK_split (fun h_ => ?_) (fun h_ => ?_) | refine ite_both (fun h_ => ?_) (fun h_ => ?_)) <;> (try simp only [decide_eq_true_eq, decide_eq_false_iff_not, Bool.not_true, Bool.not_false, Bool.not_eq_true', Bool.not_eq_false', Bool.not_eq_eq_eq_not, Decidable.not_not] at h_) <;> (try simp only [r42_0, r42_1, r42_2, c42, F42, w1, w2, longB, h_, go_sem, Int.reduceTMod, Int.reduceTDiv, Int.reduceDiv, Int.reduceMod, Int.reduceAdd, Int.reduceSub, Int.reduceMul, Int.reduceNeg, Int.reducePow, Int.reduceEq, ↓reduceIte, Nat.reduceEqDiff, Nat.reduceAdd, Nat.reduceMul, Nat.reduceLeDiff, Nat.reduceSub, Nat.reduceLT, Int.reduceToNat, Int.reduceLT, Int.reduceLE, reduceCtorEq]))
theorem v_lin (x y : Int) (m : Mem) (n : Nat) : callF TA 9 [.agg [I x, I y]] m n = some (RB (inP ⟨x, y⟩)) := by
  refine callF_of (Fn_ofK (fn := F9) rfl (by simp [F9]) ?_)
  try simp only [r9_0, r9_1, c9, F9, v_rIn, inP, go_sem, Int.reduceTMod, Int.reduceTDiv, Int.reduceDiv, Int.reduceMod, Int.reduceAdd, Int.reduceSub, Int.reduceMul, Int.reduceNeg, Int.reducePow, Int.reduceEq, ↓reduceIte, Nat.reduceEqDiff, Nat.reduceAdd, Nat.reduceMul, Nat.reduceLeDiff, Nat.reduceSub, Nat.reduceLT, Int.reduceToNat, Int.reduceLT, Int.reduceLE, reduceCtorEq]
  repeat' ((first | refine FK_split (fun h_ => ?_) (fun h_ => ?_) | refine GK_split (fun h_ => ?_) (fun h_ => ?_) | refine ite_both (fun h_ => ?_) (fun h_ => ?_)) <;> (try simp only [decide_eq_true_eq, decide_eq_false_iff_not, Bool.not_true, Bool.not_false, Bool.not_eq_true', Bool.not_eq_false', Bool.not_eq_eq_eq_not, Decidable.not_not] at h_) <;> (try simp only [r9_0, r9_1, c9, F9, v_rIn, inP, h_, go_sem, Int.reduceTMod, Int.reduceTDiv, Int.reduceDiv, Int.reduceMod, Int.reduceAdd, Int.reduceSub, Int.reduceMul, Int.reduceNeg, Int.reducePow, Int.reduceEq, ↓reduceIte, Nat.reduceEqDiff, Nat.reduceAdd, Nat.reduceMul, Nat.reduceLeDiff, Nat.reduceSub, Nat.reduceLT, Int.reduceToNat, Int.reduceLT, Int.reduceLE, reduceCtorEq]))
theorem v_lref (x y : Int) (m : Mem) (n : Nat) : callF TA 12 [.agg [I x, I y]] m n = some (.agg [I x, I y]) := by
  refine callF_of (Fn_ofK (fn := F12) rfl (by simp [F12]) ?_)
  try simp only [r12_0, r12_1, c12, F12, go_sem, Int.reduceTMod, Int.reduceTDiv, Int.reduceDiv, Int.reduceMod, Int.reduceAdd, Int.reduceSub, Int.reduceMul, Int.reduceNeg, Int.reducePow, Int.reduceEq, ↓reduceIte, Nat.reduceEqDiff, Nat.reduceAdd, Nat.reduceMul, Nat.reduceLeDiff, Nat.reduceSub, Nat.reduceLT, Int.reduceToNat, Int.reduceLT, Int.reduceLE, reduceCtorEq]
  repeat' ((first | refine FK_split (fun h_ => ?_) (fun h_ => ?_) | refine GK_split (fun h_ => ?_) (fun h_ => ?_) | refine ite_both (fun h_ => ?_) (fun h_ => ?_)) <;> (try simp only [decide_eq_true_eq, decide_eq_false_iff_not, Bool.not_true, Bool.not_false, Bool.not_eq_true', Bool.not_eq_false', Bool.not_eq_eq_eq_not, Decidable.not_not] at h_) <;> (try simp only [r12_0, r12_1, c12, F12, h_, go_sem, Int.reduceTMod, Int.reduceTDiv, Int.reduceDiv, Int.reduceMod, Int.reduceAdd, Int.reduceSub, Int.reduceMul, Int.reduceNeg, Int.reducePow, Int.reduceEq, ↓reduceIte, Nat.reduceEqDiff, Nat.reduceAdd, Nat.reduceMul, Nat.reduceLeDiff, Nat.reduceSub, Nat.reduceLT, Int.reduceToNat, Int.reduceLT, Int.reduceLE, reduceCtorEq]))

/- Discs walked: the reference's; the law StrokeDiscs. Conditions: those that each theorem names. -/
open Go Go.Proofs
set_option linter.unusedSimpArgs false
set_option linter.unusedVariables false

theorem v_cos0 : callF TA 32 [RI 0] (fun _ => none) 1 = some (RI 65536) := callF_closed (k := 9) (by kernel_rfl)
theorem v_cos1 : callF TA 32 [RI 1] (fun _ => none) 1 = some (RI 60547) := callF_closed (k := 9) (by kernel_rfl)
theorem v_cos2 : callF TA 32 [RI 2] (fun _ => none) 1 = some (RI 46341) := callF_closed (k := 9) (by kernel_rfl)
theorem v_cos3 : callF TA 32 [RI 3] (fun _ => none) 1 = some (RI 25080) := callF_closed (k := 9) (by kernel_rfl)
theorem v_cos4 : callF TA 32 [RI 4] (fun _ => none) 1 = some (RI 0) := callF_closed (k := 9) (by kernel_rfl)
theorem v_cos5 : callF TA 32 [RI 5] (fun _ => none) 1 = some (RI (-25080)) := callF_closed (k := 9) (by kernel_rfl)
theorem v_cos6 : callF TA 32 [RI 6] (fun _ => none) 1 = some (RI (-46341)) := callF_closed (k := 9) (by kernel_rfl)
theorem v_cos7 : callF TA 32 [RI 7] (fun _ => none) 1 = some (RI (-60547)) := callF_closed (k := 9) (by kernel_rfl)
theorem v_cos8 : callF TA 32 [RI 8] (fun _ => none) 1 = some (RI (-65536)) := callF_closed (k := 9) (by kernel_rfl)
theorem v_cos9 : callF TA 32 [RI 9] (fun _ => none) 1 = some (RI (-60547)) := callF_closed (k := 9) (by kernel_rfl)
theorem v_cos10 : callF TA 32 [RI 10] (fun _ => none) 1 = some (RI (-46341)) := callF_closed (k := 9) (by kernel_rfl)
theorem v_cos11 : callF TA 32 [RI 11] (fun _ => none) 1 = some (RI (-25080)) := callF_closed (k := 9) (by kernel_rfl)
theorem v_cos12 : callF TA 32 [RI 12] (fun _ => none) 1 = some (RI 0) := callF_closed (k := 9) (by kernel_rfl)
theorem v_cos13 : callF TA 32 [RI 13] (fun _ => none) 1 = some (RI 25080) := callF_closed (k := 9) (by kernel_rfl)
theorem v_cos14 : callF TA 32 [RI 14] (fun _ => none) 1 = some (RI 46341) := callF_closed (k := 9) (by kernel_rfl)
theorem v_cos15 : callF TA 32 [RI 15] (fun _ => none) 1 = some (RI 60547) := callF_closed (k := 9) (by kernel_rfl)
theorem v_cos16 : callF TA 32 [RI 16] (fun _ => none) 1 = some (RI 65536) := callF_closed (k := 9) (by kernel_rfl)
theorem v_cos17 : callF TA 32 [RI 17] (fun _ => none) 1 = some (RI 60547) := callF_closed (k := 9) (by kernel_rfl)
theorem v_cos18 : callF TA 32 [RI 18] (fun _ => none) 1 = some (RI 46341) := callF_closed (k := 9) (by kernel_rfl)
theorem v_cos19 : callF TA 32 [RI 19] (fun _ => none) 1 = some (RI 25080) := callF_closed (k := 9) (by kernel_rfl)
theorem v_cos20 : callF TA 32 [RI 20] (fun _ => none) 1 = some (RI 0) := callF_closed (k := 9) (by kernel_rfl)
theorem v_cos21 : callF TA 32 [RI 21] (fun _ => none) 1 = some (RI (-25080)) := callF_closed (k := 9) (by kernel_rfl)
theorem v_cos22 : callF TA 32 [RI 22] (fun _ => none) 1 = some (RI (-46341)) := callF_closed (k := 9) (by kernel_rfl)
theorem v_cos23 : callF TA 32 [RI 23] (fun _ => none) 1 = some (RI (-60547)) := callF_closed (k := 9) (by kernel_rfl)
theorem v_cos24 : callF TA 32 [RI 24] (fun _ => none) 1 = some (RI (-65536)) := callF_closed (k := 9) (by kernel_rfl)
theorem v_cos25 : callF TA 32 [RI 25] (fun _ => none) 1 = some (RI (-60547)) := callF_closed (k := 9) (by kernel_rfl)
theorem v_cos26 : callF TA 32 [RI 26] (fun _ => none) 1 = some (RI (-46341)) := callF_closed (k := 9) (by kernel_rfl)
theorem v_cos27 : callF TA 32 [RI 27] (fun _ => none) 1 = some (RI (-25080)) := callF_closed (k := 9) (by kernel_rfl)

set_option maxHeartbeats 4000000 in
theorem w_rDisc (cx cy h : Int) (h1 : 1 ≤ h) (h2 : h ≤ 32768) (hin : inP ⟨cx, cy⟩ = true) (m : Mem) (n : Nat) :
    Fn TA 11 [.agg [I cx, I cy], RI h] m n (fun r' m' n' => ∃ id, r' = .one (.sl id 0 16 none 2) ∧ n ≤ id ∧ id < n' ∧ m' id = some ⟨(disc cx cy h).flatMap Pt.cs, true⟩) := by
  refine Fn_ofK (fn := F11) rfl (by simp [F11]) ?_
  simp only [inP, Bool.and_eq_true, rm_iff] at hin
  have bd : ∀ a, -65536 ≤ a → a ≤ 65536 → -2147483648 ≤ a * h ∧ a * h ≤ 2147483648 := fun a a1 a2 => by
    have k1 : a * h ≤ 65536 * h := Int.mul_le_mul_of_nonneg_right a2 (by omega)
    have k2 : -65536 * h ≤ a * h := Int.mul_le_mul_of_nonneg_right a1 (by omega)
    omega
  have wm : ∀ a, -65536 ≤ a → a ≤ 65536 → IntKind.i64.wrap (a * h) = a * h := fun a a1 a2 => by have := bd a a1 a2; exact wr_eq (by omega) (by omega)
  have vr : ∀ a, -65536 ≤ a → a ≤ 65536 → ∀ m n, callF TA 31 [RI (a * h), RI 65536] m n = some (RI (PC h a)) := fun a a1 a2 m n => by have := bd a a1 a2; exact v_Round (a * h) 65536 (by omega) (by decide) (by decide) m n
  have wx : ∀ a, -65536 ≤ a → a ≤ 65536 → IntKind.i64.wrap (cx + PC h a) = cx + PC h a := fun a a1 a2 => by have := PC_bd h1 h2 a1 a2; exact wr_eq (by omega) (by omega)
  have wy : ∀ a, -65536 ≤ a → a ≤ 65536 → IntKind.i64.wrap (cy + PC h a) = cy + PC h a := fun a a1 a2 => by have := PC_bd h1 h2 a1 a2; exact wr_eq (by omega) (by omega)
  try simp only [r11_0, r11_1, r11_2, r11_3, r11_5, r11_4, r11_6, c11, F11, l11_0, XK_loop, v_cos0, v_cos1, v_cos2, v_cos3, v_cos4, v_cos5, v_cos6, v_cos7, v_cos8, v_cos9, v_cos10, v_cos11, v_cos12, v_cos13, v_cos14, v_cos15, v_cos16, v_cos17, v_cos18, v_cos19, v_cos20, v_cos21, v_cos22, v_cos23, v_cos24, v_cos25, v_cos26, v_cos27, wm, vr, wx, wy, evApp, newsOf, Int.toNat_natCast, Nat.mul_one, Nat.zero_add, go_sem, Int.reduceTMod, Int.reduceTDiv, Int.reduceDiv, Int.reduceMod, Int.reduceAdd, Int.reduceSub, Int.reduceMul, Int.reduceNeg, Int.reducePow, Int.reduceEq, ↓reduceIte, Nat.reduceEqDiff, Nat.reduceAdd, Nat.reduceMul, Nat.reduceLeDiff, Nat.reduceSub, Nat.reduceLT, Int.reduceToNat, Int.reduceLT, Int.reduceLE, reduceCtorEq]
  repeat' ((first | refine FK_split (fun h_ => ?_) (fun h_ => ?_) | refine GK_split (fun h_ => ?_) (fun h_ => ?_) | refine ite_both (fun h_ => ?_) (fun h_ => ?_)) <;> (try simp only [decide_eq_true_eq, decide_eq_false_iff_not, Bool.not_true, Bool.not_false, Bool.not_eq_true', Bool.not_eq_false', Bool.not_eq_eq_eq_not, Decidable.not_not] at h_) <;> (try simp only [r11_0, r11_1, r11_2, r11_3, r11_5, r11_4, r11_6, c11, F11, l11_0, XK_loop, v_cos0, v_cos1, v_cos2, v_cos3, v_cos4, v_cos5, v_cos6, v_cos7, v_cos8, v_cos9, v_cos10, v_cos11, v_cos12, v_cos13, v_cos14, v_cos15, v_cos16, v_cos17, v_cos18, v_cos19, v_cos20, v_cos21, v_cos22, v_cos23, v_cos24, v_cos25, v_cos26, v_cos27, wm, vr, wx, wy, evApp, newsOf, Int.toNat_natCast, Nat.mul_one, Nat.zero_add, h_, go_sem, Int.reduceTMod, Int.reduceTDiv, Int.reduceDiv, Int.reduceMod, Int.reduceAdd, Int.reduceSub, Int.reduceMul, Int.reduceNeg, Int.reducePow, Int.reduceEq, ↓reduceIte, Nat.reduceEqDiff, Nat.reduceAdd, Nat.reduceMul, Nat.reduceLeDiff, Nat.reduceSub, Nat.reduceLT, Int.reduceToNat, Int.reduceLT, Int.reduceLE, reduceCtorEq]))
  refine ⟨n + 32, rfl, by omega, by omega, ?_⟩
  simp only [disc, dpt, List.flatMap_cons, List.flatMap_nil, go_sem, Int.reduceTMod, Int.reduceTDiv, Int.reduceDiv, Int.reduceMod, Int.reduceAdd, Int.reduceSub, Int.reduceMul, Int.reduceNeg, Int.reducePow, Int.reduceEq, ↓reduceIte, Nat.reduceEqDiff, Nat.reduceAdd, Nat.reduceMul, Nat.reduceLeDiff, Nat.reduceSub, Nat.reduceLT, Int.reduceToNat, Int.reduceLT, Int.reduceLE, reduceCtorEq]
theorem v_lat (x y : Int) (m : Mem) (n : Nat) : callF TA 15 [RI x, RI y] m n = some (.agg [I x, I y]) := by
  refine callF_of (Fn_ofK (fn := F15) rfl (by simp [F15]) ?_)
  try simp only [r15_0, r15_1, c15, F15, go_sem, Int.reduceTMod, Int.reduceTDiv, Int.reduceDiv, Int.reduceMod, Int.reduceAdd, Int.reduceSub, Int.reduceMul, Int.reduceNeg, Int.reducePow, Int.reduceEq, ↓reduceIte, Nat.reduceEqDiff, Nat.reduceAdd, Nat.reduceMul, Nat.reduceLeDiff, Nat.reduceSub, Nat.reduceLT, Int.reduceToNat, Int.reduceLT, Int.reduceLE, reduceCtorEq]
  repeat' ((first | refine FK_split (fun h_ => ?_) (fun h_ => ?_) | refine GK_split (fun h_ => ?_) (fun h_ => ?_) | refine ite_both (fun h_ => ?_) (fun h_ => ?_)) <;> (try simp only [decide_eq_true_eq, decide_eq_false_iff_not, Bool.not_true, Bool.not_false, Bool.not_eq_true', Bool.not_eq_false', Bool.not_eq_eq_eq_not, Decidable.not_not] at h_) <;> (try simp only [r15_0, r15_1, c15, F15, h_, go_sem, Int.reduceTMod, Int.reduceTDiv, Int.reduceDiv, Int.reduceMod, Int.reduceAdd, Int.reduceSub, Int.reduceMul, Int.reduceNeg, Int.reducePow, Int.reduceEq, ↓reduceIte, Nat.reduceEqDiff, Nat.reduceAdd, Nat.reduceMul, Nat.reduceLeDiff, Nat.reduceSub, Nat.reduceLT, Int.reduceToNat, Int.reduceLT, Int.reduceLE, reduceCtorEq]))
theorem v_awake07 : callF TA 10 [] (fun _ => none) 1 = some (RB true) := callF_closed (k := 60) (by kernel_rfl)
theorem PC_ends {h : Int} (h1 : 1 ≤ h) (h2 : h ≤ 32768) : PC h 65536 = h ∧ PC h 0 = 0 ∧ PC h (-65536) = -h := by
  unfold PC rnd
  refine ⟨?_, ?_, ?_⟩ <;> omega

/- Plain numbers: what a shift over two words comes to. Conditions: those that each theorem names. -/
open Go Go.RowKit

theorem or_comm (k : IntKind) (x y : Int) : Go.bits .or k x y = Go.bits .or k y x := by
  show k.wrap ((BitVec.ofInt k.bits x ||| BitVec.ofInt k.bits y).toNat : Int) = k.wrap ((BitVec.ofInt k.bits y ||| BitVec.ofInt k.bits x).toNat : Int)
  rw [BitVec.or_comm]
theorem wraps_u64 (n : Int) (h₀ : 0 ≤ n) (h₁ : n < 2 ^ 64) : IntKind.u64.wrap n = n := by
  have : (2 : Int) ^ 64 = 18446744073709551616 := by decide
  rw [wu64]; omega
theorem shrPart {p : Int} {k : Nat} (h0 : 0 < k) (h1 : k < 64) :
    Go.bits .or .u64 (p % 18446744073709551616 / 2 ^ k) (IntKind.u64.wrap (p / 18446744073709551616 % 18446744073709551616 * 2 ^ (64 - k))) = p / 2 ^ k % 18446744073709551616 := by
  have hk : (0 : Int) < 2 ^ k := Int.pow_pos (by decide)
  have hm : (0 : Int) < 2 ^ (64 - k) := Int.pow_pos (by decide)
  have hw : (2 : Int) ^ k * 2 ^ (64 - k) = 18446744073709551616 := by
    rw [← Int.pow_add, show k + (64 - k) = 64 by omega]; decide
  rw [or_comm, wu64]
  obtain ⟨K, eK⟩ : ∃ K : Int, K = 2 ^ k := ⟨_, rfl⟩
  obtain ⟨M, eM⟩ : ∃ M : Int, M = 2 ^ (64 - k) := ⟨_, rfl⟩
  rw [← eK] at hk hw ⊢
  rw [← eM] at hm hw ⊢
  obtain ⟨H, eH⟩ : ∃ H : Int, H = p / 18446744073709551616 := ⟨_, rfl⟩
  obtain ⟨L, eL⟩ : ∃ L : Int, L = p % 18446744073709551616 := ⟨_, rfl⟩
  rw [← eH, ← eL]
  have eP : p = L + K * (M * H) := by rw [← Int.mul_assoc, hw]; omega
  have l0 : 0 ≤ L := by omega
  have l1 : L / K < M := Int.ediv_lt_of_lt_mul hk (by rw [Int.mul_comm, hw]; omega)
  have l2 : 0 ≤ L / K := Int.ediv_nonneg l0 (by omega)
  have l3 : M ≤ 18446744073709551616 := by
    have := Int.mul_le_mul_of_nonneg_right (show (1 : Int) ≤ K by omega) (show 0 ≤ M by omega)
    omega
  have eq1 : p / K = L / K + M * H := by rw [eP, Int.add_mul_ediv_left _ _ (by omega)]
  have em : (H % 18446744073709551616 * M) % 18446744073709551616 = (M * H) % 18446744073709551616 := by
    rw [Int.mul_comm M H, Int.mul_emod, Int.emod_emod_of_dvd _ (Int.dvd_refl _), ← Int.mul_emod]
  have hd : (M * H) % 18446744073709551616 % M = 0 := by
    rw [Int.emod_emod_of_dvd _ ⟨K, by rw [Int.mul_comm, hw]⟩]
    exact Int.mul_emod_right _ _
  have pw : (2 : Int) ^ 64 = 18446744073709551616 := by decide
  rw [em, bits_join .u64 64 (by decide) wraps_u64 (64 - k) _ _ (by omega) (by rw [← eM]; exact hd) (by omega) l2 (by rw [← eM]; exact l1) (by omega), eq1]
  -- the sum does not reach the next
  obtain ⟨Q, eQ⟩ : ∃ Q : Int, Q = (M * H) / 18446744073709551616 := ⟨_, rfl⟩
  obtain ⟨R, eR⟩ : ∃ R : Int, R = (M * H) % 18446744073709551616 := ⟨_, rfl⟩
  have es : M * H = 18446744073709551616 * Q + R := by omega
  have r1 : R + L / K < 18446744073709551616 := by
    rw [← eR] at hd
    obtain ⟨t, ht⟩ := Int.dvd_of_emod_eq_zero hd
    have hR : R < 18446744073709551616 := by omega
    rw [ht, ← hw, Int.mul_comm K M] at hR
    have : t < K := Int.lt_of_mul_lt_mul_left hR (by omega)
    have h5 : M * t ≤ M * (K - 1) := Int.mul_le_mul_of_nonneg_left (by omega) (by omega)
    rw [Int.mul_sub, Int.mul_one, Int.mul_comm M K, hw] at h5
    omega
  rw [es]
  omega

/- Roots walked: package wide's. Conditions: those that each theorem names. -/
open Go Go.Proofs Go.RowKit
set_option linter.unusedSimpArgs false
set_option linter.unusedVariables false

open Classical in
/-- The root: the greatest number from 0 on whose square is not above. -/
noncomputable def isq (n : Int) : Int := if h : ∃ q : Int, 0 ≤ q ∧ q * q ≤ n ∧ n < (q + 1) * (q + 1) then Classical.choose h else 0
theorem root_unique {n p q : Int} (hp : 0 ≤ p) (h1 : p * p ≤ n) (h2 : n < (p + 1) * (p + 1)) (hq : 0 ≤ q) (k1 : q * q ≤ n) (k2 : n < (q + 1) * (q + 1)) : p = q := by
  rcases Int.lt_trichotomy p q with h | h | h
  · have := Int.mul_le_mul (show p + 1 ≤ q by omega) (show p + 1 ≤ q by omega) (by omega) (by omega)
    omega
  · exact h
  · have := Int.mul_le_mul (show q + 1 ≤ p by omega) (show q + 1 ≤ p by omega) (by omega) (by omega)
    omega
theorem isq_eq {n q : Int} (hq : 0 ≤ q) (k1 : q * q ≤ n) (k2 : n < (q + 1) * (q + 1)) : isq n = q := by
  have hx : ∃ q : Int, 0 ≤ q ∧ q * q ≤ n ∧ n < (q + 1) * (q + 1) := ⟨q, hq, k1, k2⟩
  unfold isq
  rw [dif_pos hx]
  obtain ⟨a1, a2, a3⟩ := Classical.choose_spec hx
  exact root_unique a1 a2 a3 hq k1 k2
theorem pow32 {i : Nat} (h : i ≤ 32) : (0 : Int) < 2 ^ i ∧ (2 : Int) ^ i ≤ 4294967296 := by
  have h1 : (0 : Int) < 2 ^ i := Int.pow_pos (by decide)
  have h2 : (2 : Int) ^ i * 2 ^ (32 - i) = 4294967296 := by rw [← Int.pow_add, show i + (32 - i) = 32 by omega]; decide
  have h3 : (0 : Int) < 2 ^ (32 - i) := Int.pow_pos (by decide)
  have h4 := Int.mul_le_mul_of_nonneg_left (show (1 : Int) ≤ 2 ^ (32 - i) by omega) (Int.le_of_lt h1)
  exact ⟨h1, by omega⟩
theorem wraps_i64 (n : Int) (h₀ : 0 ≤ n) (h₁ : n < 2 ^ 63) : IntKind.i64.wrap n = n := by
  have : (2 : Int) ^ 63 = 9223372036854775808 := by decide
  exact wr_eq (by omega) (by omega)
/-- One digit more: r has zeros there. -/
theorem orBit {r : Int} {i : Nat} (hi : i ≤ 31) (h0 : 0 ≤ r) (h1 : r < 4294967296) (h2 : r % 2 ^ (i + 1) = 0) : Go.bits .or .i64 r (IntKind.i64.wrap (1 * 2 ^ i)) = r + 2 ^ i := by
  have p := pow32 (i := i) (by omega)
  have pw : (2 : Int) ^ 63 = 9223372036854775808 := by decide
  rw [Int.one_mul, wraps_i64 _ (by omega) (by omega)]
  exact bits_join .i64 63 (by decide) wraps_i64 (i + 1) _ _ h0 h2 (by omega) (by omega) (by rw [Int.pow_succ]; omega) (by omega)
theorem sgn_le {x : Int} : (sgn x ≤ 0) = (x ≤ 0) := by
  apply propext
  unfold sgn
  split
  · omega
  · split <;> omega
theorem v_Of' (a : Int) (h0 : -9223372036854775808 ≤ a) (h1 : a ≤ 9223372036854775807) (m : Mem) (n : Nat) : callF TA 60 [RI a] m n = some (wN a) := by
  refine callF_of (Fn_ofK (fn := F60) rfl (by simp [F60]) ?_)
  have e : a / 9223372036854775808 = a / 18446744073709551616 := by omega
  try simp only [r60_0, r60_1, c60, F60, e, go_sem, Int.reduceTMod, Int.reduceTDiv, Int.reduceDiv, Int.reduceMod, Int.reduceAdd, Int.reduceSub, Int.reduceMul, Int.reduceNeg, Int.reducePow, Int.reduceEq, ↓reduceIte, Nat.reduceEqDiff, Nat.reduceAdd, Nat.reduceMul, Nat.reduceLeDiff, Nat.reduceSub, Nat.reduceLT, Int.reduceToNat, Int.reduceLT, Int.reduceLE, reduceCtorEq]
  repeat' ((first | refine FK_split (fun h_ => ?_) (fun h_ => ?_) | refine GK_split (fun h_ => ?_) (fun h_ => ?_) | refine ite_both (fun h_ => ?_) (fun h_ => ?_)) <;> (try simp only [decide_eq_true_eq, decide_eq_false_iff_not, Bool.not_true, Bool.not_false, Bool.not_eq_true', Bool.not_eq_false', Bool.not_eq_eq_eq_not, Decidable.not_not] at h_) <;> (try simp only [r60_0, r60_1, c60, F60, e, h_, go_sem, Int.reduceTMod, Int.reduceTDiv, Int.reduceDiv, Int.reduceMod, Int.reduceAdd, Int.reduceSub, Int.reduceMul, Int.reduceNeg, Int.reducePow, Int.reduceEq, ↓reduceIte, Nat.reduceEqDiff, Nat.reduceAdd, Nat.reduceMul, Nat.reduceLeDiff, Nat.reduceSub, Nat.reduceLT, Int.reduceToNat, Int.reduceLT, Int.reduceLE, reduceCtorEq]))
theorem cmpW (x y : Int) : cmpN (x / 18446744073709551616) (x % 18446744073709551616) (y / 18446744073709551616) (y % 18446744073709551616) = sgn (x - y) := by
  unfold cmpN
  simp only [sgn_sub]
  repeat' split
  all_goals omega
theorem v_Sqrt (n : Int) (hn0 : 0 ≤ n) (hn1 : n ≤ 9223372036854775807) (m : Mem) (k : Nat) : callF TA 56 [RI n] m k = some (RI (isq n)) := by
  refine callF_of (Fn_ofK (fn := F56) rfl (by simp [F56]) ?_)
  have vo := v_Of' n (by omega) hn1
  try simp only [r56_0, r56_1, r56_2, r56_3, r56_5, r56_6, r56_7, r56_4, r56_8, c56, F56, go_sem, Int.reduceTMod, Int.reduceTDiv, Int.reduceDiv, Int.reduceMod, Int.reduceAdd, Int.reduceSub, Int.reduceMul, Int.reduceNeg, Int.reducePow, Int.reduceEq, ↓reduceIte, Nat.reduceEqDiff, Nat.reduceAdd, Nat.reduceMul, Nat.reduceLeDiff, Nat.reduceSub, Nat.reduceLT, Int.reduceToNat, Int.reduceLT, Int.reduceLE, reduceCtorEq]
  repeat' ((first | refine FK_split (fun h_ => ?_) (fun h_ => ?_) | refine GK_split (fun h_ => ?_) (fun h_ => ?_) | refine ite_both (fun h_ => ?_) (fun h_ => ?_)) <;> (try simp only [decide_eq_true_eq, decide_eq_false_iff_not, Bool.not_true, Bool.not_false, Bool.not_eq_true', Bool.not_eq_false', Bool.not_eq_eq_eq_not, Decidable.not_not] at h_) <;> (try simp only [r56_0, r56_1, r56_2, r56_3, r56_5, r56_6, r56_7, r56_4, r56_8, c56, F56, h_, go_sem, Int.reduceTMod, Int.reduceTDiv, Int.reduceDiv, Int.reduceMod, Int.reduceAdd, Int.reduceSub, Int.reduceMul, Int.reduceNeg, Int.reducePow, Int.reduceEq, ↓reduceIte, Nat.reduceEqDiff, Nat.reduceAdd, Nat.reduceMul, Nat.reduceLeDiff, Nat.reduceSub, Nat.reduceLT, Int.reduceToNat, Int.reduceLT, Int.reduceLE, reduceCtorEq]))
  refine XK_iter (inv := fun c s => s.e 4 = RI (31 - (c : Int)) ∧ s.e 0 = RI n ∧ ∃ r : Int, s.e 3 = RI r ∧ 0 ≤ r ∧ r % 2 ^ (32 - c) = 0 ∧ r + 2 ^ (32 - c) ≤ 4294967296 ∧ r * r ≤ n ∧ n < (r + 2 ^ (32 - c)) * (r + 2 ^ (32 - c))) 32
    (fun L _ => ⟨fun c hc s hs next => ?_, fun s hs => ?_⟩) 0 (by omega) _ ?_
  · obtain ⟨q4, q0, r, q3, h0, h1, h2, h3, h4⟩ := hs
    obtain ⟨i, hi⟩ : ∃ i, i = 31 - c := ⟨_, rfl⟩
    have ei : (31 : Int) - (c : Int) = ((i : Nat) : Int) := by omega
    have e32 : 32 - c = i + 1 := by omega
    have e31 : 32 - (c + 1) = i := by omega
    rw [ei] at q4
    rw [e32] at h1 h2 h4
    have p := pow32 (i := i) (by omega)
    have eo := orBit (r := r) (i := i) (by omega) h0 (by rw [Int.pow_succ] at h2; omega) h1
    rw [Int.pow_succ] at h2 h4
    have mod0 : r % 2 ^ i = 0 := by
      have : (2 : Int) ^ i ∣ 2 ^ (i + 1) := ⟨2, by rw [Int.pow_succ]⟩
      exact Int.emod_eq_zero_of_dvd (Int.dvd_trans this (Int.dvd_of_emod_eq_zero h1))
    have mod1 : (r + 2 ^ i) % 2 ^ i = 0 := by rw [Int.add_emod_right]; exact mod0
    have c3 : (0 ≤ (i : Int)) = True := eq_true (by omega)
    have c4 : min i 64 = i := by omega
    have c5 : IntKind.i64.wrap ((i : Int) - 1) = 31 - ((c + 1 : Nat) : Int) := (wr_eq (by omega) (by omega)).trans (by omega)
    generalize hB : (2 : Int) ^ i = B at *
    have vm := v_wMul (r + B) (r + B) (by omega) (by omega) (by omega) (by omega)
    by_cases g : (r + B) * (r + B) - n ≤ 0
    · skip
      try simp only [r56_0, r56_1, r56_2, r56_3, r56_5, r56_6, r56_7, r56_4, r56_8, c56, F56, l56_0, q4, q0, q3, c3, c4, c5, hB, eo, vm, vo, v_NCmp, cmpW, sgn_le, g, Int.toNat_natCast, go_sem, Int.reduceTMod, Int.reduceTDiv, Int.reduceDiv, Int.reduceMod, Int.reduceAdd, Int.reduceSub, Int.reduceMul, Int.reduceNeg, Int.reducePow, Int.reduceEq, ↓reduceIte, Nat.reduceEqDiff, Nat.reduceAdd, Nat.reduceMul, Nat.reduceLeDiff, Nat.reduceSub, Nat.reduceLT, Int.reduceToNat, Int.reduceLT, Int.reduceLE, reduceCtorEq]
      repeat' ((first | refine FK_split (fun h_ => ?_) (fun h_ => ?_) | refine GK_split (fun h_ => ?_) (fun h_ => ?_) | refine ite_both (fun h_ => ?_) (fun h_ => ?_)) <;> (try simp only [decide_eq_true_eq, decide_eq_false_iff_not, Bool.not_true, Bool.not_false, Bool.not_eq_true', Bool.not_eq_false', Bool.not_eq_eq_eq_not, Decidable.not_not] at h_) <;> (try simp only [r56_0, r56_1, r56_2, r56_3, r56_5, r56_6, r56_7, r56_4, r56_8, c56, F56, l56_0, q4, q0, q3, c3, c4, c5, hB, eo, vm, vo, v_NCmp, cmpW, sgn_le, g, Int.toNat_natCast, h_, go_sem, Int.reduceTMod, Int.reduceTDiv, Int.reduceDiv, Int.reduceMod, Int.reduceAdd, Int.reduceSub, Int.reduceMul, Int.reduceNeg, Int.reducePow, Int.reduceEq, ↓reduceIte, Nat.reduceEqDiff, Nat.reduceAdd, Nat.reduceMul, Nat.reduceLeDiff, Nat.reduceSub, Nat.reduceLT, Int.reduceToNat, Int.reduceLT, Int.reduceLE, reduceCtorEq]))
      refine next _ ⟨?_, ?_, r + B, ?_, by omega, by rw [e31, hB]; exact mod1, by rw [e31, hB]; omega, by omega, ?_⟩
      · simp only [go_sem, Int.reduceTMod, Int.reduceTDiv, Int.reduceDiv, Int.reduceMod, Int.reduceAdd, Int.reduceSub, Int.reduceMul, Int.reduceNeg, Int.reducePow, Int.reduceEq, ↓reduceIte, Nat.reduceEqDiff, Nat.reduceAdd, Nat.reduceMul, Nat.reduceLeDiff, Nat.reduceSub, Nat.reduceLT, Int.reduceToNat, Int.reduceLT, Int.reduceLE, reduceCtorEq]
      · simp only [q0, go_sem, Int.reduceTMod, Int.reduceTDiv, Int.reduceDiv, Int.reduceMod, Int.reduceAdd, Int.reduceSub, Int.reduceMul, Int.reduceNeg, Int.reducePow, Int.reduceEq, ↓reduceIte, Nat.reduceEqDiff, Nat.reduceAdd, Nat.reduceMul, Nat.reduceLeDiff, Nat.reduceSub, Nat.reduceLT, Int.reduceToNat, Int.reduceLT, Int.reduceLE, reduceCtorEq]
      · simp only [go_sem, Int.reduceTMod, Int.reduceTDiv, Int.reduceDiv, Int.reduceMod, Int.reduceAdd, Int.reduceSub, Int.reduceMul, Int.reduceNeg, Int.reducePow, Int.reduceEq, ↓reduceIte, Nat.reduceEqDiff, Nat.reduceAdd, Nat.reduceMul, Nat.reduceLeDiff, Nat.reduceSub, Nat.reduceLT, Int.reduceToNat, Int.reduceLT, Int.reduceLE, reduceCtorEq]
      · rw [e31, hB, show r + B + B = r + B * 2 by omega]
        exact h4
    · skip
      try simp only [r56_0, r56_1, r56_2, r56_3, r56_5, r56_6, r56_7, r56_4, r56_8, c56, F56, l56_0, q4, q0, q3, c3, c4, c5, hB, eo, vm, vo, v_NCmp, cmpW, sgn_le, g, Int.toNat_natCast, go_sem, Int.reduceTMod, Int.reduceTDiv, Int.reduceDiv, Int.reduceMod, Int.reduceAdd, Int.reduceSub, Int.reduceMul, Int.reduceNeg, Int.reducePow, Int.reduceEq, ↓reduceIte, Nat.reduceEqDiff, Nat.reduceAdd, Nat.reduceMul, Nat.reduceLeDiff, Nat.reduceSub, Nat.reduceLT, Int.reduceToNat, Int.reduceLT, Int.reduceLE, reduceCtorEq]
      repeat' ((first | refine FK_split (fun h_ => ?_) (fun h_ => ?_) | refine GK_split (fun h_ => ?_) (fun h_ => ?_) | refine ite_both (fun h_ => ?_) (fun h_ => ?_)) <;> (try simp only [decide_eq_true_eq, decide_eq_false_iff_not, Bool.not_true, Bool.not_false, Bool.not_eq_true', Bool.not_eq_false', Bool.not_eq_eq_eq_not, Decidable.not_not] at h_) <;> (try simp only [r56_0, r56_1, r56_2, r56_3, r56_5, r56_6, r56_7, r56_4, r56_8, c56, F56, l56_0, q4, q0, q3, c3, c4, c5, hB, eo, vm, vo, v_NCmp, cmpW, sgn_le, g, Int.toNat_natCast, h_, go_sem, Int.reduceTMod, Int.reduceTDiv, Int.reduceDiv, Int.reduceMod, Int.reduceAdd, Int.reduceSub, Int.reduceMul, Int.reduceNeg, Int.reducePow, Int.reduceEq, ↓reduceIte, Nat.reduceEqDiff, Nat.reduceAdd, Nat.reduceMul, Nat.reduceLeDiff, Nat.reduceSub, Nat.reduceLT, Int.reduceToNat, Int.reduceLT, Int.reduceLE, reduceCtorEq]))
      refine next _ ⟨?_, ?_, r, ?_, h0, by rw [e31, hB]; exact mod0, by rw [e31, hB]; omega, h3, ?_⟩
      · simp only [go_sem, Int.reduceTMod, Int.reduceTDiv, Int.reduceDiv, Int.reduceMod, Int.reduceAdd, Int.reduceSub, Int.reduceMul, Int.reduceNeg, Int.reducePow, Int.reduceEq, ↓reduceIte, Nat.reduceEqDiff, Nat.reduceAdd, Nat.reduceMul, Nat.reduceLeDiff, Nat.reduceSub, Nat.reduceLT, Int.reduceToNat, Int.reduceLT, Int.reduceLE, reduceCtorEq]
      · simp only [q0, go_sem, Int.reduceTMod, Int.reduceTDiv, Int.reduceDiv, Int.reduceMod, Int.reduceAdd, Int.reduceSub, Int.reduceMul, Int.reduceNeg, Int.reducePow, Int.reduceEq, ↓reduceIte, Nat.reduceEqDiff, Nat.reduceAdd, Nat.reduceMul, Nat.reduceLeDiff, Nat.reduceSub, Nat.reduceLT, Int.reduceToNat, Int.reduceLT, Int.reduceLE, reduceCtorEq]
      · simp only [q3, go_sem, Int.reduceTMod, Int.reduceTDiv, Int.reduceDiv, Int.reduceMod, Int.reduceAdd, Int.reduceSub, Int.reduceMul, Int.reduceNeg, Int.reducePow, Int.reduceEq, ↓reduceIte, Nat.reduceEqDiff, Nat.reduceAdd, Nat.reduceMul, Nat.reduceLeDiff, Nat.reduceSub, Nat.reduceLT, Int.reduceToNat, Int.reduceLT, Int.reduceLE, reduceCtorEq]
      · rw [e31, hB]; omega
  · obtain ⟨q4, q0, r, q3, h0, h1, h2, h3, h4⟩ := hs
    have e : isq n = r := isq_eq h0 h3 (by simpa using h4)
    try simp only [r56_0, r56_1, r56_2, r56_3, r56_5, r56_6, r56_7, r56_4, r56_8, c56, F56, l56_0, q4, q0, q3, e, go_sem, Int.reduceTMod, Int.reduceTDiv, Int.reduceDiv, Int.reduceMod, Int.reduceAdd, Int.reduceSub, Int.reduceMul, Int.reduceNeg, Int.reducePow, Int.reduceEq, ↓reduceIte, Nat.reduceEqDiff, Nat.reduceAdd, Nat.reduceMul, Nat.reduceLeDiff, Nat.reduceSub, Nat.reduceLT, Int.reduceToNat, Int.reduceLT, Int.reduceLE, reduceCtorEq]
    repeat' ((first | refine FK_split (fun h_ => ?_) (fun h_ => ?_) | refine GK_split (fun h_ => ?_) (fun h_ => ?_) | refine ite_both (fun h_ => ?_) (fun h_ => ?_)) <;> (try simp only [decide_eq_true_eq, decide_eq_false_iff_not, Bool.not_true, Bool.not_false, Bool.not_eq_true', Bool.not_eq_false', Bool.not_eq_eq_eq_not, Decidable.not_not] at h_) <;> (try simp only [r56_0, r56_1, r56_2, r56_3, r56_5, r56_6, r56_7, r56_4, r56_8, c56, F56, l56_0, q4, q0, q3, e, h_, go_sem, Int.reduceTMod, Int.reduceTDiv, Int.reduceDiv, Int.reduceMod, Int.reduceAdd, Int.reduceSub, Int.reduceMul, Int.reduceNeg, Int.reducePow, Int.reduceEq, ↓reduceIte, Nat.reduceEqDiff, Nat.reduceAdd, Nat.reduceMul, Nat.reduceLeDiff, Nat.reduceSub, Nat.reduceLT, Int.reduceToNat, Int.reduceLT, Int.reduceLE, reduceCtorEq]))
  · refine ⟨?_, ?_, 0, ?_, by decide, by decide, by decide, by omega, ?_⟩
    · simp only [go_sem, Int.reduceTMod, Int.reduceTDiv, Int.reduceDiv, Int.reduceMod, Int.reduceAdd, Int.reduceSub, Int.reduceMul, Int.reduceNeg, Int.reducePow, Int.reduceEq, ↓reduceIte, Nat.reduceEqDiff, Nat.reduceAdd, Nat.reduceMul, Nat.reduceLeDiff, Nat.reduceSub, Nat.reduceLT, Int.reduceToNat, Int.reduceLT, Int.reduceLE, reduceCtorEq]
    · simp only [go_sem, Int.reduceTMod, Int.reduceTDiv, Int.reduceDiv, Int.reduceMod, Int.reduceAdd, Int.reduceSub, Int.reduceMul, Int.reduceNeg, Int.reducePow, Int.reduceEq, ↓reduceIte, Nat.reduceEqDiff, Nat.reduceAdd, Nat.reduceMul, Nat.reduceLeDiff, Nat.reduceSub, Nat.reduceLT, Int.reduceToNat, Int.reduceLT, Int.reduceLE, reduceCtorEq]
    · simp only [go_sem, Int.reduceTMod, Int.reduceTDiv, Int.reduceDiv, Int.reduceMod, Int.reduceAdd, Int.reduceSub, Int.reduceMul, Int.reduceNeg, Int.reducePow, Int.reduceEq, ↓reduceIte, Nat.reduceEqDiff, Nat.reduceAdd, Nat.reduceMul, Nat.reduceLeDiff, Nat.reduceSub, Nat.reduceLT, Int.reduceToNat, Int.reduceLT, Int.reduceLE, reduceCtorEq]
    · have : ((0 : Int) + 2 ^ (32 - 0)) * (0 + 2 ^ (32 - 0)) = 18446744073709551616 := by decide
      rw [this]; omega

/- Roots: there is one; the reference's walked. Conditions: those that each theorem names. -/
open Go Go.Proofs Go.RowKit
set_option linter.unusedSimpArgs false
set_option linter.unusedVariables false

theorem isq_ex : ∀ n : Nat, ∃ q : Nat, q * q ≤ n ∧ n < (q + 1) * (q + 1)
  | 0 => ⟨0, by decide, by decide⟩
  | n + 1 => by
    obtain ⟨q, h1, h2⟩ := isq_ex n
    by_cases c : (q + 1) * (q + 1) ≤ n + 1
    · refine ⟨q + 1, c, ?_⟩
      have : (q + 1 + 1) * (q + 1 + 1) = (q + 1) * (q + 1) + (2 * q + 3) := by
        simp only [Nat.add_mul, Nat.mul_add]; omega
      omega
    · exact ⟨q, by omega, by omega⟩
theorem isq_spec {n : Int} (h : 0 ≤ n) : 0 ≤ isq n ∧ isq n * isq n ≤ n ∧ n < (isq n + 1) * (isq n + 1) := by
  obtain ⟨k, rfl⟩ := Int.eq_ofNat_of_zero_le h
  obtain ⟨q, h1, h2⟩ := isq_ex k
  have a1 : (q : Int) * q ≤ (k : Int) := by exact_mod_cast h1
  have a2 : (k : Int) < ((q : Int) + 1) * ((q : Int) + 1) := by exact_mod_cast h2
  rw [isq_eq (by omega) a1 a2]
  exact ⟨by omega, a1, a2⟩
theorem isq_le {n b : Int} (h : 0 ≤ n) (hb : 0 ≤ b) (h1 : n ≤ b * b) : isq n ≤ b := by
  obtain ⟨a1, a2, a3⟩ := isq_spec h
  rcases Int.lt_or_le b (isq n) with c | c
  · have := Int.mul_le_mul (show b + 1 ≤ isq n by omega) (show b + 1 ≤ isq n by omega) (by omega) (by omega)
    have e : (b + 1) * (b + 1) = b * b + 2 * b + 1 := by rw [Int.add_mul, Int.mul_add]; omega
    omega
  · exact c
theorem v_Root (n : Int) (hn0 : 0 ≤ n) (hn1 : n ≤ 1152921504606846976) (m : Mem) (k : Nat) : callF TA 59 [RI n] m k = some (RI (isq n)) := by
  refine callF_of (Fn_ofK (fn := F59) rfl (by simp [F59]) ?_)
  try simp only [r59_0, r59_1, r59_2, r59_3, r59_4, r59_5, r59_6, r59_7, c59, F59, go_sem, Int.reduceTMod, Int.reduceTDiv, Int.reduceDiv, Int.reduceMod, Int.reduceAdd, Int.reduceSub, Int.reduceMul, Int.reduceNeg, Int.reducePow, Int.reduceEq, ↓reduceIte, Nat.reduceEqDiff, Nat.reduceAdd, Nat.reduceMul, Nat.reduceLeDiff, Nat.reduceSub, Nat.reduceLT, Int.reduceToNat, Int.reduceLT, Int.reduceLE, reduceCtorEq]
  repeat' ((first | refine FK_split (fun h_ => ?_) (fun h_ => ?_) | refine GK_split (fun h_ => ?_) (fun h_ => ?_) | refine ite_both (fun h_ => ?_) (fun h_ => ?_)) <;> (try simp only [decide_eq_true_eq, decide_eq_false_iff_not, Bool.not_true, Bool.not_false, Bool.not_eq_true', Bool.not_eq_false', Bool.not_eq_eq_eq_not, Decidable.not_not] at h_) <;> (try simp only [r59_0, r59_1, r59_2, r59_3, r59_4, r59_5, r59_6, r59_7, c59, F59, h_, go_sem, Int.reduceTMod, Int.reduceTDiv, Int.reduceDiv, Int.reduceMod, Int.reduceAdd, Int.reduceSub, Int.reduceMul, Int.reduceNeg, Int.reducePow, Int.reduceEq, ↓reduceIte, Nat.reduceEqDiff, Nat.reduceAdd, Nat.reduceMul, Nat.reduceLeDiff, Nat.reduceSub, Nat.reduceLT, Int.reduceToNat, Int.reduceLT, Int.reduceLE, reduceCtorEq]))
  refine XK_down (inv := fun d s => s.e 0 = RI n ∧ ∃ a b : Int, s.e 3 = RI a ∧ s.e 4 = RI b ∧ (0 ≤ a ∧ a < b ∧ b ≤ 1073741825) ∧ a * a ≤ n ∧ n < b * b ∧ d = (b - a).toNat)
    (fun L _ d s hs next => ?_) 1073741825 _ ?_
  · obtain ⟨q0, a, b, q3, q4, ⟨h0, h1, h2⟩, h3, h4, h5⟩ := hs
    have w1 : IntKind.i64.wrap (b - a) = b - a := wr_eq (by omega) (by omega)
    by_cases g : 1 < b - a
    · obtain ⟨c, hc⟩ : ∃ c, c = (a + b) / 2 := ⟨_, rfl⟩
      have w2 : IntKind.i64.wrap (a + b) = a + b := wr_eq (by omega) (by omega)
      have w3 : (a + b).tdiv 2 = c := by rw [Int.tdiv_eq_ediv_of_nonneg (by omega), hc]
      have w4 : IntKind.i64.wrap c = c := wr_eq (by omega) (by omega)
      have cc : 0 ≤ c * c := Int.mul_nonneg (by omega) (by omega)
      have cb : c * c ≤ 1073741825 * 1073741825 := Int.mul_le_mul (by omega) (by omega) (by omega) (by omega)
      have w5 : IntKind.i64.wrap (c * c) = c * c := wr_eq (by omega) (by omega)
      by_cases g2 : c * c ≤ n
      · skip
        try simp only [r59_0, r59_1, r59_2, r59_3, r59_4, r59_5, r59_6, r59_7, c59, F59, l59_0, q0, q3, q4, w1, g, w2, w3, w4, w5, g2, go_sem, Int.reduceTMod, Int.reduceTDiv, Int.reduceDiv, Int.reduceMod, Int.reduceAdd, Int.reduceSub, Int.reduceMul, Int.reduceNeg, Int.reducePow, Int.reduceEq, ↓reduceIte, Nat.reduceEqDiff, Nat.reduceAdd, Nat.reduceMul, Nat.reduceLeDiff, Nat.reduceSub, Nat.reduceLT, Int.reduceToNat, Int.reduceLT, Int.reduceLE, reduceCtorEq]
        repeat' ((first | refine FK_split (fun h_ => ?_) (fun h_ => ?_) | refine GK_split (fun h_ => ?_) (fun h_ => ?_) | refine ite_both (fun h_ => ?_) (fun h_ => ?_)) <;> (try simp only [decide_eq_true_eq, decide_eq_false_iff_not, Bool.not_true, Bool.not_false, Bool.not_eq_true', Bool.not_eq_false', Bool.not_eq_eq_eq_not, Decidable.not_not] at h_) <;> (try simp only [r59_0, r59_1, r59_2, r59_3, r59_4, r59_5, r59_6, r59_7, c59, F59, l59_0, q0, q3, q4, w1, g, w2, w3, w4, w5, g2, h_, go_sem, Int.reduceTMod, Int.reduceTDiv, Int.reduceDiv, Int.reduceMod, Int.reduceAdd, Int.reduceSub, Int.reduceMul, Int.reduceNeg, Int.reducePow, Int.reduceEq, ↓reduceIte, Nat.reduceEqDiff, Nat.reduceAdd, Nat.reduceMul, Nat.reduceLeDiff, Nat.reduceSub, Nat.reduceLT, Int.reduceToNat, Int.reduceLT, Int.reduceLE, reduceCtorEq]))
        refine next (b - c).toNat _ (by omega) ⟨?_, c, b, ?_, ?_, ⟨by omega, by omega, h2⟩, g2, h4, rfl⟩
        all_goals simp only [q0, q3, q4, go_sem, Int.reduceTMod, Int.reduceTDiv, Int.reduceDiv, Int.reduceMod, Int.reduceAdd, Int.reduceSub, Int.reduceMul, Int.reduceNeg, Int.reducePow, Int.reduceEq, ↓reduceIte, Nat.reduceEqDiff, Nat.reduceAdd, Nat.reduceMul, Nat.reduceLeDiff, Nat.reduceSub, Nat.reduceLT, Int.reduceToNat, Int.reduceLT, Int.reduceLE, reduceCtorEq]
      · skip
        try simp only [r59_0, r59_1, r59_2, r59_3, r59_4, r59_5, r59_6, r59_7, c59, F59, l59_0, q0, q3, q4, w1, g, w2, w3, w4, w5, g2, go_sem, Int.reduceTMod, Int.reduceTDiv, Int.reduceDiv, Int.reduceMod, Int.reduceAdd, Int.reduceSub, Int.reduceMul, Int.reduceNeg, Int.reducePow, Int.reduceEq, ↓reduceIte, Nat.reduceEqDiff, Nat.reduceAdd, Nat.reduceMul, Nat.reduceLeDiff, Nat.reduceSub, Nat.reduceLT, Int.reduceToNat, Int.reduceLT, Int.reduceLE, reduceCtorEq]
        repeat' ((first | refine FK_split (fun h_ => ?_) (fun h_ => ?_) | refine GK_split (fun h_ => ?_) (fun h_ => ?_) | refine ite_both (fun h_ => ?_) (fun h_ => ?_)) <;> (try simp only [decide_eq_true_eq, decide_eq_false_iff_not, Bool.not_true, Bool.not_false, Bool.not_eq_true', Bool.not_eq_false', Bool.not_eq_eq_eq_not, Decidable.not_not] at h_) <;> (try simp only [r59_0, r59_1, r59_2, r59_3, r59_4, r59_5, r59_6, r59_7, c59, F59, l59_0, q0, q3, q4, w1, g, w2, w3, w4, w5, g2, h_, go_sem, Int.reduceTMod, Int.reduceTDiv, Int.reduceDiv, Int.reduceMod, Int.reduceAdd, Int.reduceSub, Int.reduceMul, Int.reduceNeg, Int.reducePow, Int.reduceEq, ↓reduceIte, Nat.reduceEqDiff, Nat.reduceAdd, Nat.reduceMul, Nat.reduceLeDiff, Nat.reduceSub, Nat.reduceLT, Int.reduceToNat, Int.reduceLT, Int.reduceLE, reduceCtorEq]))
        refine next (c - a).toNat _ (by omega) ⟨?_, a, c, ?_, ?_, ⟨by omega, by omega, by omega⟩, h3, by omega, rfl⟩
        all_goals simp only [q0, q3, q4, go_sem, Int.reduceTMod, Int.reduceTDiv, Int.reduceDiv, Int.reduceMod, Int.reduceAdd, Int.reduceSub, Int.reduceMul, Int.reduceNeg, Int.reducePow, Int.reduceEq, ↓reduceIte, Nat.reduceEqDiff, Nat.reduceAdd, Nat.reduceMul, Nat.reduceLeDiff, Nat.reduceSub, Nat.reduceLT, Int.reduceToNat, Int.reduceLT, Int.reduceLE, reduceCtorEq]
    · have hb : b = a + 1 := by omega
      subst hb
      have e : isq n = a := isq_eq h0 h3 h4
      try simp only [r59_0, r59_1, r59_2, r59_3, r59_4, r59_5, r59_6, r59_7, c59, F59, l59_0, q0, q3, q4, w1, g, e, go_sem, Int.reduceTMod, Int.reduceTDiv, Int.reduceDiv, Int.reduceMod, Int.reduceAdd, Int.reduceSub, Int.reduceMul, Int.reduceNeg, Int.reducePow, Int.reduceEq, ↓reduceIte, Nat.reduceEqDiff, Nat.reduceAdd, Nat.reduceMul, Nat.reduceLeDiff, Nat.reduceSub, Nat.reduceLT, Int.reduceToNat, Int.reduceLT, Int.reduceLE, reduceCtorEq]
      repeat' ((first | refine FK_split (fun h_ => ?_) (fun h_ => ?_) | refine GK_split (fun h_ => ?_) (fun h_ => ?_) | refine ite_both (fun h_ => ?_) (fun h_ => ?_)) <;> (try simp only [decide_eq_true_eq, decide_eq_false_iff_not, Bool.not_true, Bool.not_false, Bool.not_eq_true', Bool.not_eq_false', Bool.not_eq_eq_eq_not, Decidable.not_not] at h_) <;> (try simp only [r59_0, r59_1, r59_2, r59_3, r59_4, r59_5, r59_6, r59_7, c59, F59, l59_0, q0, q3, q4, w1, g, e, h_, go_sem, Int.reduceTMod, Int.reduceTDiv, Int.reduceDiv, Int.reduceMod, Int.reduceAdd, Int.reduceSub, Int.reduceMul, Int.reduceNeg, Int.reducePow, Int.reduceEq, ↓reduceIte, Nat.reduceEqDiff, Nat.reduceAdd, Nat.reduceMul, Nat.reduceLeDiff, Nat.reduceSub, Nat.reduceLT, Int.reduceToNat, Int.reduceLT, Int.reduceLE, reduceCtorEq]))
  · refine ⟨?_, 0, 1073741825, ?_, ?_, ⟨by omega, by omega, by omega⟩, by omega, by omega, by decide⟩
    all_goals simp only [go_sem, Int.reduceTMod, Int.reduceTDiv, Int.reduceDiv, Int.reduceMod, Int.reduceAdd, Int.reduceSub, Int.reduceMul, Int.reduceNeg, Int.reducePow, Int.reduceEq, ↓reduceIte, Nat.reduceEqDiff, Nat.reduceAdd, Nat.reduceMul, Nat.reduceLeDiff, Nat.reduceSub, Nat.reduceLT, Int.reduceToNat, Int.reduceLT, Int.reduceLE, reduceCtorEq]

end Go.Proofs.YtidpeongblkcbaaDoor.Sy
