/- An evaluator of a part of Go's operations over a memory of its own, part seventeen: calls told as values. Conditions: those that each theorem names. -/
import Derived.Test.YtkdbnmohpanpfaaSyP
namespace Go.Proofs.Ytkdbnmohpanpfaa.Sy
open Go
set_option linter.unusedVariables false
set_option linter.unusedSimpArgs false

open Classical in
/-- A function's answer, whatever the rounds. -/
noncomputable def callR (T : Nat → Option SFun) : Callf := fun f a m n => if h : ∃ x, ∃ k, run T k f a m n = some x then some (Classical.choose h) else none

theorem callR_of {T : Nat → Option SFun} {k f : Nat} {a : List Reg} {m : Mem} {n : Nat} {x : Reg × Mem × Nat} (h : run T k f a m n = some x) : callR T f a m n = some x := by
  have hx : ∃ x, ∃ k, run T k f a m n = some x := ⟨x, k, h⟩
  unfold callR
  rw [dif_pos hx]
  obtain ⟨k2, h2⟩ := Classical.choose_spec hx
  have e1 := run_mono (Nat.le_max_left k k2) _ _ _ _ _ h
  have e2 := run_mono (Nat.le_max_right k k2) _ _ _ _ _ h2
  rw [e1] at e2
  exact e2.symm ▸ rfl

theorem callR_inv {T : Nat → Option SFun} {f : Nat} {a : List Reg} {m : Mem} {n : Nat} {x : Reg × Mem × Nat} (h : callR T f a m n = some x) : ∃ k, run T k f a m n = some x := by
  unfold callR at h
  split at h
  case isFalse => cases h
  rename_i hx
  cases h
  exact Classical.choose_spec hx

theorem run_le {T : Nat → Option SFun} (k : Nat) : CallLe (run T k) (callR T) := fun _ _ _ _ _ h => callR_of h

theorem doCall_R {T : Nat → Option SFun} {md : Mode} {f : Nat} {a : List Reg} {m : Mem} {n : Nat} {x : Reg × Mem × Nat} (h : doCall (callR T) md f a m n = some x) : ∃ k, doCall (run T k) md f a m n = some x := by
  unfold doCall at h ⊢
  cases md with
  | q =>
    simp only at h ⊢
    split at h
    case h_2 => cases h
    rename_i r m1 n1 h1
    obtain ⟨k, hk⟩ := callR_inv h1
    exact ⟨k, by rw [hk]; exact h⟩
  | k =>
    simp only at h ⊢
    split at h
    case h_2 => cases h
    rename_i r m1 n1 h1
    obtain ⟨k, hk⟩ := callR_inv h1
    exact ⟨k, by rw [hk]; exact h⟩
  | w => exact callR_inv h
  | t =>
    simp only at h ⊢
    split at h
    case h_2 => cases h
    rename_i b hb
    split at h
    case isFalse => cases h
    rename_i hf
    split at h
    case h_2 => cases h
    rename_i r m1 n1 h1
    obtain ⟨k, hk⟩ := callR_inv h1
    exact ⟨k, by rw [if_pos hf, hk]; exact h⟩
  | z g =>
    simp only at h ⊢
    split at h
    case isFalse => cases h
    rename_i hf
    split at h
    case h_2 => cases h
    rename_i r m1 n1 h1
    obtain ⟨k, hk⟩ := callR_inv h1
    exact ⟨k, by rw [if_pos hf, hk]; exact h⟩

section
variable {T : Nat → Option SFun} {d : Option Nat} {os : List SOper} {env : Nat → Reg} {m : Mem} {n : Nat} {Q : (Nat → Reg) → Mem → Nat → Prop}

theorem R_call {md : Mode} {f : Nat} {xs : List O} : R T (⟨d, .call md f xs, none⟩ :: os) env m n Q = Then T d os env Q (doCall (callR T) md f (evOs env xs) m n) := by
  apply propext
  constructor
  · rintro ⟨k, e, m', n', h1, h2⟩
    simp only [evalOps, wantedS, evalOp] at h1
    split at h1
    case h_2 => cases h1
    rename_i r m1 n1 h3
    rw [doCall_mono (run_le k) h3]
    exact ⟨k, e, m', n', h1, h2⟩
  · intro h
    cases h3 : doCall (callR T) md f (evOs env xs) m n with
    | none => rw [h3] at h; exact h.elim
    | some y =>
      obtain ⟨r, m1, n1⟩ := y
      rw [h3] at h
      obtain ⟨k2, e, m', n', h1, h2⟩ := h
      obtain ⟨k1, hk⟩ := doCall_R h3
      refine ⟨max k1 k2, e, m', n', ?_, h2⟩
      simp only [evalOps, wantedS, evalOp]
      rw [doCall_mono (run_mono (Nat.le_max_left k1 k2)) hk]
      exact evalOps_mono (run_mono (Nat.le_max_right k1 k2)) h1

/-- A quiet function's answer. -/
noncomputable def callF (T : Nat → Option SFun) (f : Nat) (a : List Reg) (m : Mem) (n : Nat) : Option Reg := (callR T f a m n).map (·.1)
theorem callF_of {f : Nat} {a : List Reg} {r0 : Reg} (h : Fn T f a m n (fun r _ _ => r = r0)) : callF T f a m n = some r0 := by
  obtain ⟨k, r, m', n', h1, rfl⟩ := h
  unfold callF
  rw [callR_of h1]
  rfl

theorem evOs_c (rs : List Reg) : evOs env (rs.map O.c) = rs := by
  induction rs with
  | nil => rfl
  | cons r rs ih => simp [evOs, evO, ih]

end

theorem iter_mono {f : St → Option (Ex × St)} {x : Ex × St} : ∀ {j k : Nat} {s : St}, j ≤ k → iter f j s = some x → iter f k s = some x
  | 0, _, _, _, h => by simp [iter] at h
  | j + 1, 0, _, hle, _ => by omega
  | j + 1, k + 1, s, hle, h => by
    simp only [iter] at h ⊢
    cases h1 : f s with
    | none => rw [h1] at h; cases h
    | some y =>
      rw [h1] at h
      obtain ⟨e, s'⟩ := y
      cases e with
      | n => exact iter_mono (by omega) h
      | x id => exact h
      | r => exact h

theorem X_loopE {T : Nat → Option SFun} {b : SC} {s : St} {Q : Ex → St → Prop} : X T (.loop b) s Q = X T b s (Next Q (fun s' => X T (.loop b) s' Q)) := by
  apply propext
  constructor
  · rintro ⟨k, e, s', h1, h2⟩
    simp only [exec] at h1
    cases k with
    | zero => simp [iter] at h1
    | succ k =>
      simp only [iter] at h1
      cases h3 : exec (run T (k + 1)) (k + 1) b s with
      | none => rw [h3] at h1; cases h1
      | some y =>
        rw [h3] at h1
        obtain ⟨e1, s1⟩ := y
        cases e1 with
        | n => exact ⟨k + 1, .n, s1, h3, k + 1, e, s', by simp only [exec]; exact iter_mono (Nat.le_succ k) h1, h2⟩
        | x id => cases h1; exact ⟨k + 1, _, _, h3, h2⟩
        | r => cases h1; exact ⟨k + 1, _, _, h3, h2⟩
  · exact X_loop

/-! ### a walk as a machine: what comes later is data, so that a walk's simp does not look into it -/
inductive Kt where
  | top (Q : Ex → St → Prop)
  | fin (rs : List SRes) (Q : Reg → Mem → Nat → Prop)
  | seq (b : SC) (k : Kt)
  | blk (id : Nat) (k : Kt)
  | lp (b : SC) (k : Kt)
  | chk (dis : List (Nat × Nat)) (k : Kt)
  | chku (es : List Nat) (dis : List (Nat × Nat)) (m : Mem) (k : Kt)

section
variable {T : Nat → Option SFun}
def Kt.den (T : Nat → Option SFun) : Kt → Ex → St → Prop
  | .top Q => Q
  | .fin rs Q => Ret rs Q
  | .seq b k => Next (k.den T) (fun s => X T b s (k.den T))
  | .blk id k => Out id (k.den T)
  | .lp b k => Next (k.den T) (fun s => X T (.loop b) s (k.den T))
  | .chk dis k => Next (k.den T) (fun s => disOk s.e dis = true ∧ k.den T .n s)
  | .chku es dis m k => Next (k.den T) (fun s => (disOk s.e dis = true ∧ safeOk m s.e es = true) ∧ k.den T .n s)
def XK (T : Nat → Option SFun) (c : SC) (s : St) (k : Kt) : Prop := X T c s (k.den T)
def RK (T : Nat → Option SFun) (os : List SOper) (e : Nat → Reg) (m : Mem) (n : Nat) (k : Kt) : Prop := R T os e m n (fun e m n => k.den T .n ⟨e, m, n⟩)
def KN (T : Nat → Option SFun) (k : Kt) (s : St) : Prop := k.den T .n s
def KX (T : Nat → Option SFun) (k : Kt) (id : Nat) (s : St) : Prop := k.den T (.x id) s
def KR (T : Nat → Option SFun) (k : Kt) (s : St) : Prop := k.den T .r s
/-- A fork. -/
def FK (T : Nat → Option SFun) (r : Reg) (a b : SC) (s : St) (k : Kt) : Prop := condK r (XK T a s k) (XK T b s k)
/-- An operation behind a guard. -/
def GK (T : Nat → Option SFun) (t : Option Bool) (b : Bool) (d : Option Nat) (op : SOp) (os : List SOper) (e : Nat → Reg) (m : Mem) (n : Nat) (k : Kt) : Prop :=
  if t = some b then RK T (⟨d, op, none⟩ :: os) e m n k else RK T os (putE e d (.tup [])) m n k
def ThenK (T : Nat → Option SFun) (d : Option Nat) (os : List SOper) (e : Nat → Reg) (k : Kt) : Option (Reg × Mem × Nat) → Prop
  | some (r, m, n) => RK T os (putE e d r) m n k
  | none => False
def QK (T : Nat → Option SFun) (d : Option Nat) (os : List SOper) (e : Nat → Reg) (m : Mem) (n : Nat) (k : Kt) : Option Reg → Prop
  | some r => r.flat = true ∧ RK T os (putE e d r) m n k
  | none => False
def TKd (T : Nat → Option SFun) (d : Option Nat) (f : Nat) (as : List Reg) (os : List SOper) (e : Nat → Reg) (m : Mem) (n : Nat) (k : Kt) : Option Blk → Prop
  | some b => (flats as = true ∧ b.cells.all Cell.flat = true) ∧ QK T d os e m n k (callF T f as (tabM b.cells) 1)
  | none => False
def VK (T : Nat → Option SFun) (d : Option Nat) (md : Mode) (as : List Reg) (os : List SOper) (e : Nat → Reg) (m : Mem) (n : Nat) (k : Kt) : Reg → Prop
  | .one (.clo f caps) => RK T (⟨d, .call md f ((as ++ caps.map Reg.one).map O.c), none⟩ :: os) e m n k
  | _ => False
def plainOp : SOp → Bool
  | .call .. | .callv .. | .len .. => false
  | _ => true

variable {c : O} {a b : SC} {s : St} {k : Kt} {id j : Nat} {e : Nat → Reg} {m : Mem} {n : Nat} {d : Option Nat} {op : SOp} {os : List SOper}
theorem XK_seq : XK T (.seq a b) s k = XK T a s (.seq b k) := X_seq
theorem XK_block : XK T (.block id b) s k = XK T b s (.blk id k) := X_block
theorem XK_skip : XK T .skip s k = KN T k s := X_skip
theorem XK_exit : XK T (.exit id) s k = KX T k id s := X_exit
theorem XK_ret : XK T .ret s k = KR T k s := X_ret
theorem XK_cond : XK T (.cond c a b) s k = FK T (evO s.e c) a b s k := X_condK
theorem XK_reg : XK T (.reg os) s k = RK T os s.e s.m s.n k := X_reg
theorem XK_dreg {dis : List (Nat × Nat)} : XK T (.dreg dis os) s k = RK T os s.e s.m s.n (.chk dis k) := X_dreg
theorem XK_ureg {es : List Nat} {dis : List (Nat × Nat)} : XK T (.ureg es dis os) s k = RK T os s.e s.m s.n (.chku es dis s.m k) := X_ureg
theorem XK_preg {j f : Nat} {args : List O} {dis : List (Nat × Nat)} (h : Fn T f (evOs s.e args) (frz s.m) s.n (fun r _ n' => (r.flat = true ∨ n' = s.n) ∧ XK T (.dreg dis (setOp os j (.mv (.c r)))) s k)) : XK T (.preg j f args dis os) s k := X_preg h
theorem XK_pureg {j f : Nat} {args : List O} {es : List Nat} {dis : List (Nat × Nat)} (h : RK T (os.take j) s.e s.m s.n (.top fun _ s1 => safeOk s.m s1.e (usesOs args) = true ∧ Fn T f (evOs s1.e args) (frz s.m) s.n (fun r _ _ => r.flat = true ∧ XK T (.ureg es dis (setOp os j (.pre r args))) s k))) : XK T (.pureg j f args es dis os) s k := X_pureg h
theorem XK_loop : XK T (.loop b) s k = XK T b s (.lp b k) := X_loopE
theorem KN_seq : KN T (.seq b k) s = XK T b s k := rfl
theorem KN_blk : KN T (.blk id k) s = KN T k s := rfl
theorem KN_lp : KN T (.lp b k) s = XK T (.loop b) s k := rfl
theorem KN_chk {dis : List (Nat × Nat)} : KN T (.chk dis k) s = (disOk s.e dis = true ∧ KN T k s) := rfl
theorem KN_chku {es : List Nat} {dis : List (Nat × Nat)} : KN T (.chku es dis m k) s = ((disOk s.e dis = true ∧ safeOk m s.e es = true) ∧ KN T k s) := rfl
theorem KN_top {Q : Ex → St → Prop} : KN T (.top Q) s = Q .n s := rfl
theorem KN_fin {rs : List SRes} {Q : Reg → Mem → Nat → Prop} : KN T (.fin rs Q) s = ∃ regs, evRes s rs = some regs ∧ Q (pack regs) s.m s.n := rfl
theorem KX_seq : KX T (.seq b k) id s = KX T k id s := rfl
theorem KX_lp : KX T (.lp b k) id s = KX T k id s := rfl
theorem KX_blk : KX T (.blk j k) id s = if id = j then KN T k s else KX T k id s := rfl
theorem KX_chk {dis : List (Nat × Nat)} : KX T (.chk dis k) id s = KX T k id s := rfl
theorem KX_top {Q : Ex → St → Prop} : KX T (.top Q) id s = Q (.x id) s := rfl
theorem KR_seq : KR T (.seq b k) s = KR T k s := rfl
theorem KR_blk : KR T (.blk id k) s = KR T k s := rfl
theorem KR_lp : KR T (.lp b k) s = KR T k s := rfl
theorem KR_chk {dis : List (Nat × Nat)} : KR T (.chk dis k) s = KR T k s := rfl
theorem KR_top {Q : Ex → St → Prop} : KR T (.top Q) s = Q .r s := rfl
theorem KR_fin {rs : List SRes} {Q : Reg → Mem → Nat → Prop} : KR T (.fin rs Q) s = ∃ regs, evRes s rs = some regs ∧ Q (pack regs) s.m s.n := rfl
theorem FK_true : FK T (RB true) a b s k = XK T a s k := by simp [FK, condK_bool]
theorem FK_false : FK T (RB false) a b s k = XK T b s k := by simp [FK, condK_bool]
theorem RK_nil : RK T [] e m n k = KN T k ⟨e, m, n⟩ := R_nil
theorem RK_op (h : plainOp op = true) : RK T (⟨d, op, none⟩ :: os) e m n k = ThenK T d os e k (evalOp noCall e m n op) := by
  have hc : isCall op = false := by cases op <;> simp_all [plainOp, isCall]
  unfold RK
  rw [R_op hc]
  cases evalOp noCall e m n op with
  | none => rfl
  | some x => rfl
theorem RK_mv {x : O} : RK T (⟨d, .mv x, none⟩ :: os) e m n k = ThenK T d os e k (evalOp noCall e m n (.mv x)) := RK_op rfl
theorem RK_pick {x : O} {y : O} {z : O} : RK T (⟨d, .pick x y z, none⟩ :: os) e m n k = ThenK T d os e k (evalOp noCall e m n (.pick x y z)) := RK_op rfl
theorem RK_alloc {zz : List Cell} : RK T (⟨d, .alloc zz, none⟩ :: os) e m n k = ThenK T d os e k (evalOp noCall e m n (.alloc zz)) := RK_op rfl
theorem RK_box {x : O} : RK T (⟨d, .box x, none⟩ :: os) e m n k = ThenK T d os e k (evalOp noCall e m n (.box x)) := RK_op rfl
theorem RK_build {zz : List Cell} {ps : List (Nat × Nat × O)} : RK T (⟨d, .build zz ps, none⟩ :: os) e m n k = ThenK T d os e k (evalOp noCall e m n (.build zz ps)) := RK_op rfl
theorem RK_bslice {zz : List Cell} {k1 : Nat} {k2 : Nat} {ps : List (Nat × Nat × O)} : RK T (⟨d, .bslice zz k1 k2 ps, none⟩ :: os) e m n k = ThenK T d os e k (evalOp noCall e m n (.bslice zz k1 k2 ps)) := RK_op rfl
theorem RK_load1 {x : O} : RK T (⟨d, .load1 x, none⟩ :: os) e m n k = ThenK T d os e k (evalOp noCall e m n (.load1 x)) := RK_op rfl
theorem RK_loadA {k1 : Nat} {x : O} : RK T (⟨d, .loadA k1 x, none⟩ :: os) e m n k = ThenK T d os e k (evalOp noCall e m n (.loadA k1 x)) := RK_op rfl
theorem RK_store {k1 : Nat} {x : O} {y : O} : RK T (⟨d, .store k1 x y, none⟩ :: os) e m n k = ThenK T d os e k (evalOp noCall e m n (.store k1 x y)) := RK_op rfl
theorem RK_nilchk {x : O} : RK T (⟨d, .nilchk x, none⟩ :: os) e m n k = ThenK T d os e k (evalOp noCall e m n (.nilchk x)) := RK_op rfl
theorem RK_bin {bo : BinOp} {x : O} {y : O} : RK T (⟨d, .bin bo x y, none⟩ :: os) e m n k = ThenK T d os e k (evalOp noCall e m n (.bin bo x y)) := RK_op rfl
theorem RK_beq {bb : Bool} {x : O} {y : O} : RK T (⟨d, .beq bb x y, none⟩ :: os) e m n k = ThenK T d os e k (evalOp noCall e m n (.beq bb x y)) := RK_op rfl
theorem RK_eqv {ks : List Sk} {bb : Bool} {x : O} {y : O} : RK T (⟨d, .eqv ks bb x y, none⟩ :: os) e m n k = ThenK T d os e k (evalOp noCall e m n (.eqv ks bb x y)) := RK_op rfl
theorem RK_eqnil {k1 : Nat} {bb : Bool} {x : O} : RK T (⟨d, .eqnil k1 bb x, none⟩ :: os) e m n k = ThenK T d os e k (evalOp noCall e m n (.eqnil k1 bb x)) := RK_op rfl
theorem RK_un {uo : UnOp} {x : O} : RK T (⟨d, .un uo x, none⟩ :: os) e m n k = ThenK T d os e k (evalOp noCall e m n (.un uo x)) := RK_op rfl
theorem RK_conv {ik : IntKind} {x : O} : RK T (⟨d, .conv ik x, none⟩ :: os) e m n k = ThenK T d os e k (evalOp noCall e m n (.conv ik x)) := RK_op rfl
theorem RK_mkfn {k1 : Nat} {xs : List O} : RK T (⟨d, .mkfn k1 xs, none⟩ :: os) e m n k = ThenK T d os e k (evalOp noCall e m n (.mkfn k1 xs)) := RK_op rfl
theorem RK_mkslice {zz : List Cell} {k1 : Nat} {k2 : Nat} {x : O} {y : O} : RK T (⟨d, .mkslice zz k1 k2 x y, none⟩ :: os) e m n k = ThenK T d os e k (evalOp noCall e m n (.mkslice zz k1 k2 x y)) := RK_op rfl
theorem RK_pre {r : Reg} {xs : List O} : RK T (⟨d, .pre r xs, none⟩ :: os) e m n k = ThenK T d os e k (evalOp noCall e m n (.pre r xs)) := RK_op rfl
theorem RK_appz {zz : List Cell} {k1 : Nat} {k2 : Nat} {x : O} {y : O} : RK T (⟨d, .appz zz k1 k2 x y, none⟩ :: os) e m n k = ThenK T d os e k (evalOp noCall e m n (.appz zz k1 k2 x y)) := RK_op rfl
theorem RK_slS {k1 : Nat} {x : O} {l1 : Option O} {l2 : Option O} {l3 : Option O} : RK T (⟨d, .slS k1 x l1 l2 l3, none⟩ :: os) e m n k = ThenK T d os e k (evalOp noCall e m n (.slS k1 x l1 l2 l3)) := RK_op rfl
theorem RK_slA {k1 : Nat} {k2 : Nat} {x : O} {l1 : Option O} {l2 : Option O} {l3 : Option O} : RK T (⟨d, .slA k1 k2 x l1 l2 l3, none⟩ :: os) e m n k = ThenK T d os e k (evalOp noCall e m n (.slA k1 k2 x l1 l2 l3)) := RK_op rfl
theorem RK_fadr {k1 : Nat} {x : O} : RK T (⟨d, .fadr k1 x, none⟩ :: os) e m n k = ThenK T d os e k (evalOp noCall e m n (.fadr k1 x)) := RK_op rfl
theorem RK_fld {k1 : Nat} {k2 : Nat} {bb : Bool} {x : O} : RK T (⟨d, .fld k1 k2 bb x, none⟩ :: os) e m n k = ThenK T d os e k (evalOp noCall e m n (.fld k1 k2 bb x)) := RK_op rfl
theorem RK_iadrA {k1 : Nat} {k2 : Nat} {x : O} {y : O} : RK T (⟨d, .iadrA k1 k2 x y, none⟩ :: os) e m n k = ThenK T d os e k (evalOp noCall e m n (.iadrA k1 k2 x y)) := RK_op rfl
theorem RK_iadrS {k1 : Nat} {x : O} {y : O} : RK T (⟨d, .iadrS k1 x y, none⟩ :: os) e m n k = ThenK T d os e k (evalOp noCall e m n (.iadrS k1 x y)) := RK_op rfl
theorem RK_istr {l : List Nat} {x : O} : RK T (⟨d, .istr l x, none⟩ :: os) e m n k = ThenK T d os e k (evalOp noCall e m n (.istr l x)) := RK_op rfl
theorem RK_idxA {k1 : Nat} {k2 : Nat} {bb : Bool} {x : O} {y : O} : RK T (⟨d, .idxA k1 k2 bb x y, none⟩ :: os) e m n k = ThenK T d os e k (evalOp noCall e m n (.idxA k1 k2 bb x y)) := RK_op rfl
theorem RK_ext {x : O} {k1 : Nat} : RK T (⟨d, .ext x k1, none⟩ :: os) e m n k = ThenK T d os e k (evalOp noCall e m n (.ext x k1)) := RK_op rfl
theorem RK_lenC {k1 : Nat} : RK T (⟨d, .lenC k1, none⟩ :: os) e m n k = ThenK T d os e k (evalOp noCall e m n (.lenC k1)) := RK_op rfl
theorem RK_cap {x : O} : RK T (⟨d, .cap x, none⟩ :: os) e m n k = ThenK T d os e k (evalOp noCall e m n (.cap x)) := RK_op rfl
theorem RK_app {k1 : Nat} {k2 : Nat} {x : O} {y : O} : RK T (⟨d, .app k1 k2 x y, none⟩ :: os) e m n k = ThenK T d os e k (evalOp noCall e m n (.app k1 k2 x y)) := RK_op rfl
theorem RK_cpy {k1 : Nat} {x : O} {y : O} : RK T (⟨d, .cpy k1 x y, none⟩ :: os) e m n k = ThenK T d os e k (evalOp noCall e m n (.cpy k1 x y)) := RK_op rfl
theorem RK_mn {xs : List O} : RK T (⟨d, .mn xs, none⟩ :: os) e m n k = ThenK T d os e k (evalOp noCall e m n (.mn xs)) := RK_op rfl
theorem RK_mx {xs : List O} : RK T (⟨d, .mx xs, none⟩ :: os) e m n k = ThenK T d os e k (evalOp noCall e m n (.mx xs)) := RK_op rfl
theorem RK_carry {bb : Bool} {xs : List O} : RK T (⟨d, .carry bb xs, none⟩ :: os) e m n k = ThenK T d os e k (evalOp noCall e m n (.carry bb xs)) := RK_op rfl
theorem RK_clr {zz : List Cell} {k1 : Nat} {x : O} : RK T (⟨d, .clr zz k1 x, none⟩ :: os) e m n k = ThenK T d os e k (evalOp noCall e m n (.clr zz k1 x)) := RK_op rfl
theorem RK_len {x : O} : RK T (⟨d, .len x, none⟩ :: os) e m n k = ThenK T d os e k ((lenO (evO e x)).map fun l => (RI l, m, n)) := by
  unfold RK
  rw [R_len]
  cases lenO (evO e x) with
  | none => rfl
  | some x => rfl
theorem ThenK_some {r : Reg} : ThenK T d os e k (some (r, m, n)) = RK T os (putE e d r) m n k := rfl
theorem RK_guard {t : Nat} {w : Bool} : RK T (⟨d, op, some (some t, w)⟩ :: os) e m n k = GK T (boolOf (e t)) w d op os e m n k := R_guard
theorem GK_tt : GK T (some true) true d op os e m n k = RK T (⟨d, op, none⟩ :: os) e m n k := by simp [GK]
theorem GK_ff : GK T (some false) false d op os e m n k = RK T (⟨d, op, none⟩ :: os) e m n k := by simp [GK]
theorem GK_tf : GK T (some true) false d op os e m n k = RK T os (putE e d (.tup [])) m n k := by simp [GK]
theorem GK_ft : GK T (some false) true d op os e m n k = RK T os (putE e d (.tup [])) m n k := by simp [GK]
theorem GK_none {w : Bool} : GK T none w d op os e m n k = RK T os (putE e d (.tup [])) m n k := by simp [GK]
theorem QK_some {r : Reg} : QK T d os e m n k (some r) = (r.flat = true ∧ RK T os (putE e d r) m n k) := rfl
theorem RK_callQ {f : Nat} {xs : List O} : RK T (⟨d, .call .q f xs, none⟩ :: os) e m n k = QK T d os e m n k (callF T f (evOs e xs) (frz m) n) := by
  unfold RK
  rw [R_call]
  simp only [doCall, callF]
  cases callR T f (evOs e xs) (frz m) n with
  | none => rfl
  | some x =>
    obtain ⟨r, m', n'⟩ := x
    simp only [Option.map_some, QK]
    split
    · rename_i h; simp [Then, h, RK]
    · rename_i h; simp [Then, h]
theorem RK_callZ {g f : Nat} {xs : List O} : RK T (⟨d, .call (.z g) f xs, none⟩ :: os) e m n k = (flats (evOs e xs) = true ∧ QK T d os e m n k (callF T f (evOs e xs) (fun _ => none) g)) := by
  unfold RK
  rw [R_call]
  simp only [doCall, callF]
  by_cases hf : flats (evOs e xs) = true
  · rw [if_pos hf]
    cases callR T f (evOs e xs) (fun _ => none) g with
    | none => simp [Then, QK]
    | some x =>
      obtain ⟨r, m', n'⟩ := x
      simp only [Option.map_some, QK, hf, true_and]
      split
      · rename_i h; simp [Then, h, RK]
      · rename_i h; simp [Then, h]
  · rw [if_neg hf]
    simp [Then, hf]
theorem TK_some {f : Nat} {as : List Reg} {b : Blk} : TKd T d f as os e m n k (some b) = ((flats as = true ∧ b.cells.all Cell.flat = true) ∧ QK T d os e m n k (callF T f as (tabM b.cells) 1)) := rfl
theorem RK_callT {f : Nat} {xs : List O} : RK T (⟨d, .call .t f xs, none⟩ :: os) e m n k = TKd T d f (evOs e xs) os e m n k (m 0) := by
  unfold RK
  rw [R_call]
  simp only [doCall, callF]
  cases hb : m 0 with
  | none => simp [Then, TKd]
  | some b =>
    simp only [TKd, callF]
    by_cases hf : flats (evOs e xs) = true ∧ b.cells.all Cell.flat = true
    · rw [if_pos hf]
      cases callR T f (evOs e xs) (tabM b.cells) 1 with
      | none => simp [Then, QK]
      | some x =>
        obtain ⟨r, m', n'⟩ := x
        simp only [Option.map_some, QK, hf.1, hf.2, and_self, true_and]
        split
        · rename_i h; simp [Then, h, RK]
        · rename_i h; simp [Then, h]
    · rw [if_neg hf]
      simp only [Then, eq_false hf, false_and]
theorem VK_clo {md : Mode} {as : List Reg} {f : Nat} {caps : List Cell} : VK T d md as os e m n k (.one (.clo f caps)) = RK T (⟨d, .call md f ((as ++ caps.map Reg.one).map O.c), none⟩ :: os) e m n k := rfl
theorem RK_callV {md : Mode} {x : O} {xs : List O} : RK T (⟨d, .callv md x xs, none⟩ :: os) e m n k = VK T d md (evOs e xs) os e m n k (evO e x) := by
  unfold VK
  split
  · rename_i f caps hx
    unfold RK
    apply propext
    constructor
    · rintro ⟨k, e', m', n', h1, h2⟩
      refine ⟨k, e', m', n', ?_, h2⟩
      simp only [evalOps, wantedS, evalOp, evOs_c] at h1 ⊢
      rw [hx] at h1
      exact h1
    · exact fun h => R_callv hx h
  · rename_i hx
    apply propext
    constructor
    · rintro ⟨k, e', m', n', h1, h2⟩
      simp only [evalOps, wantedS, evalOp] at h1
      cases h1
    · exact fun h => h.elim
theorem RK_callk {f : Nat} {xs : List O} (h : Fn T f (evOs e xs) (frz m) n (fun r m' n' => RK T os (putE e d r) (unfrz m n m') (max n n') k)) : RK T (⟨d, .call .k f xs, none⟩ :: os) e m n k := R_callk h
theorem RK_callw {f : Nat} {xs : List O} (h : Fn T f (evOs e xs) m n (fun r m' n' => RK T os (putE e d r) m' n' k)) : RK T (⟨d, .call .w f xs, none⟩ :: os) e m n k := R_callw h
theorem RK_callq {f : Nat} {xs : List O} (h : Fn T f (evOs e xs) (frz m) n (fun r _ _ => r.flat = true ∧ RK T os (putE e d r) m n k)) : RK T (⟨d, .call .q f xs, none⟩ :: os) e m n k := R_callq h
theorem RK_callz {g f : Nat} {xs : List O} (hf : flats (evOs e xs) = true) (h : Fn T f (evOs e xs) (fun _ => none) g (fun r _ _ => r.flat = true ∧ RK T os (putE e d r) m n k)) : RK T (⟨d, .call (.z g) f xs, none⟩ :: os) e m n k := R_callz hf h
theorem Fn_ofK {f : Nat} {fn : SFun} {a : List Reg} {m : Mem} {n : Nat} {Q : Reg → Mem → Nat → Prop} (hT : T f = some fn) (hl : a.length ≤ fn.nt)
    (h : XK T fn.body ⟨fun t => a.getD t (.tup []), m, n⟩ (.fin fn.res Q)) : Fn T f a m n Q := Fn_of hT hl h

/-- A loop of a known number of rounds. -/
theorem XK_iter {T : Nat → Option SFun} {b : SC} {k : Kt} (inv : Nat → St → Prop) (N : Nat)
    (h : ∀ B, B = b → (∀ i, i < N → ∀ s, inv i s → (∀ s', inv (i + 1) s' → XK T (.loop B) s' k) → XK T b s (.lp B k)) ∧ (∀ s, inv N s → XK T b s (.lp B k))) :
    ∀ i, i ≤ N → ∀ s, inv i s → XK T (.loop b) s k := by
  obtain ⟨h1, h2⟩ := h b rfl
  intro i hi
  obtain ⟨d, hd⟩ : ∃ d, d = N - i := ⟨_, rfl⟩
  induction d generalizing i with
  | zero =>
    intro s hs
    have : i = N := by omega
    subst this
    rw [XK_loop]
    exact h2 s hs
  | succ d ih =>
    intro s hs
    rw [XK_loop]
    exact h1 i (by omega) s hs (fun s' hs' => ih (i + 1) (by omega) (by omega) s' hs')

/-- A loop whose measure goes down. -/
theorem XK_down {T : Nat → Option SFun} {b : SC} {k : Kt} (inv : Nat → St → Prop)
    (h : ∀ B, B = b → ∀ d s, inv d s → (∀ d' s', d' < d → inv d' s' → XK T (.loop B) s' k) → XK T b s (.lp B k)) : ∀ d s, inv d s → XK T (.loop b) s k := by
  intro d
  induction d using Nat.strongRecOn with
  | _ d ih =>
    intro s hs
    rw [XK_loop]
    exact h b rfl d s hs (fun d' s' hd hs' => ih d' hd s' hs')

/-! forks -/
theorem FK_split {t : Bool} (h1 : t = true → XK T a s k) (h2 : t = false → XK T b s k) : FK T (RB t) a b s k := by
  cases t
  · rw [FK_false]; exact h2 rfl
  · rw [FK_true]; exact h1 rfl
theorem GK_split {t w : Bool} (h1 : t = w → RK T (⟨d, op, none⟩ :: os) e m n k) (h2 : t = !w → RK T os (putE e d (.tup [])) m n k) : GK T (some t) w d op os e m n k := by
  unfold GK
  by_cases h : t = w
  · rw [if_pos (by rw [h])]; exact h1 h
  · rw [if_neg (fun e => h (Option.some.inj e))]
    exact h2 (by cases t <;> cases w <;> simp_all)
end

theorem rd_of {m : Mem} {id off k : Nat} {b : Blk} (h : m id = some b) : rd m id off k = rdB b off k := by unfold rd rdB; rw [h]
theorem rd_updn {m : Mem} {k id off j : Nat} : rd (upd m k none) id off j = if id = k then none else rd m id off j := by
  unfold rd
  by_cases h : id = k
  · subst h; rw [upd_same, if_pos rfl]
  · rw [upd_ne _ _ h, if_neg h]
theorem frz_at {m : Mem} {id : Nat} : frz m id = (m id).map fun b => ⟨b.cells, false⟩ := rfl
theorem ite_both {c : Prop} [Decidable c] {p q : Prop} (h1 : c → p) (h2 : ¬ c → q) : if c then p else q := by
  by_cases h : c
  · rw [if_pos h]; exact h1 h
  · rw [if_neg h]; exact h2 h

theorem mem_frz {m : Mem} {id : Nat} {b : Blk} (h : m id = some b) : frz m id = some ⟨b.cells, false⟩ := by unfold frz; rw [h]; rfl
theorem Cell.flat_sc {v : Value} : Cell.flat (.sc v) = true := rfl
theorem Cell.flat_ptr {a b : Nat} : Cell.flat (.ptr a b) = false := rfl
theorem Reg.flat_one {c : Cell} : Reg.flat (.one c) = c.flat := rfl
theorem Reg.flat_agg {cs : List Cell} : Reg.flat (.agg cs) = cs.all Cell.flat := rfl
theorem Reg.flat_tup {rs : List Reg} : Reg.flat (.tup rs) = flats rs := rfl
theorem flats_nil : flats [] = true := rfl
theorem flats_cons {r : Reg} {rs : List Reg} : flats (r :: rs) = (r.flat && flats rs) := rfl
theorem callF_closed {T : Nat → Option SFun} {k f : Nat} {a : List Reg} {m : Mem} {n : Nat} {r : Reg} (h : (run T k f a m n).map (·.1) = some r) : callF T f a m n = some r := by
  obtain ⟨x, h1, h2⟩ := Option.map_eq_some_iff.1 h
  unfold callF
  rw [callR_of h1]
  exact congrArg some h2

theorem um0 {a : Int} : (0 ≤ a % 18446744073709551616) = True := eq_true (Int.emod_nonneg _ (by decide))
theorem um1 {a : Int} : (a % 18446744073709551616 < 18446744073709551616) = True := eq_true (Int.emod_lt_of_pos _ (by decide))
/-! ### the numbers of blocks -/
section
variable {n k id a b : Nat}
theorem nadd : n + k + 1 = n + (k + 1) := Nat.add_assoc _ _ _
theorem na_eq : (n = n + k) = (k = 0) := by apply propext; omega
theorem na_eq' : (n + k = n) = (k = 0) := by apply propext; omega
theorem na_lt : (n < n + k) = (0 < k) := by apply propext; omega
theorem na_ee : (n + a = n + b) = (a = b) := by apply propext; omega
theorem na_ll : (n + a < n + b) = (a < b) := by apply propext; omega
theorem na_ne (h : id < n) : (id = n + k) = False := eq_false (by omega)
theorem na_ne' (h : id < n) : (n + k = id) = False := eq_false (by omega)
theorem na_tt (h : id < n) : (id < n + k) = True := eq_true (by omega)
theorem na_0 (h : id < n) : (id = n) = False := eq_false (by omega)
theorem na_0' (h : id < n) : (n = id) = False := eq_false (by omega)
end
end Go.Proofs.Ytkdbnmohpanpfaa.Sy
