/- An evaluator of a part of Go's operations over a memory of its own, part four: the machine does what the evaluator says, operation by operation. Conditions: those that each theorem names. -/
import Derived.Test.YtkdbnmohpanpfaaSyC
import Derived.Laws.Small
import Derived.Laws.StructEq
import Derived.Laws.Cover3
import Derived.Laws.Pointers
namespace Go.Proofs.Ytkdbnmohpanpfaa.Sy
open Go
set_option linter.unusedVariables false
set_option linter.unusedSimpArgs false

section
variable {P : Program} {o : Oper} {a : Act} {ρ : Loc} {n : Nat} {w : World} {m : Mem} {ng : Nat} {env : Nat → Reg}

theorem d_mv {x : Operand} {x' : O} (ho : o.op = .move x ∨ o.op = .assign x) (hm : MRel ρ n w m) (hg : Glob ng ρ n) (he : ERel ρ n w env a) (hx : slimO ng x = some x') : Does P o a ρ n w m (evO env x') m n :=
  does_same (v := a.eval x) (by rcases ho with ho | ho <;> simp [execOp, ho]) hm (evO_rel hx hg he)

theorem sc_inv {v x : Value} (h : RRel ρ n w (.one (.sc v)) x) : x = v := by
  simp only [RRel, CRel] at h; exact h.1

theorem d_pick {c x y : Operand} {c' x' y' : O} {t : Bool} (ho : o.op = .pick c x y) (hm : MRel ρ n w m) (hg : Glob ng ρ n) (he : ERel ρ n w env a) (hc : slimO ng c = some c') (hx : slimO ng x = some x') (hy : slimO ng y = some y') (ht : evO env c' = .one (.sc (.bool t))) :
    Does P o a ρ n w m (if t then evO env x' else evO env y') m n := by
  have h1 := evO_rel hc hg he
  rw [ht] at h1
  have h2 := sc_inv h1
  refine does_same (v := if t then a.eval x else a.eval y) (by simp [execOp, ho, h2, asBool]) hm ?_
  cases t
  · simpa using evO_rel hy hg he
  · simpa using evO_rel hx hg he

theorem ptr_new (k : Nat × Nat) (hk : k.2 = 0) : RRel (upd ρ n k) (n + 1) w (.one (.ptr n 0)) (.pointer (some ⟨k.1, 0, none⟩)) := by
  simp only [RRel, CRel, upd_same]
  exact ⟨Nat.lt_succ_self _, by rw [hk]⟩

theorem d_alloc {e : TypeId} {z : List Value} (ho : o.op = .alloc e) (hm : MRel ρ n w m) (hz : tzero P e = some z) : Does P o a ρ n w m (.one (.ptr n 0)) (upd m n (some ⟨z.map .sc, true⟩)) (n + 1) := by
  unfold tzero at hz
  split at hz
  case h_2 => cases hz
  rename_i zv hzv
  split at hz
  case isFalse => cases hz
  rename_i hall
  cases hz
  obtain ⟨i, hi, hzi⟩ := Option.bind_eq_some_iff.1 hzv
  have hst := Step.alloc hm (zv.cells.toList.map .sc) zv.cells.toList e (CRels.sc _ (fun v hv => List.all_eq_true.1 hall v hv))
  refine does_run (v := .pointer (some ⟨w.heap.size, 0, none⟩)) ?_ hst (ptr_new _ rfl)
  simp [execOp, ho, Instr.alloc, zeroValue, typeInfo, hi, hzi, newVar, newRow]

theorem d_box {e : TypeId} {x : Operand} {x' : O} {cs : List Cell} (ho : o.op = .box e x) (hm : MRel ρ n w m) (hg : Glob ng ρ n) (he : ERel ρ n w env a) (hx : slimO ng x = some x') (hc : (evO env x').cs? = some cs) :
    Does P o a ρ n w m (.one (.ptr n 0)) (upd m n (some ⟨cs, true⟩)) (n + 1) := by
  obtain ⟨vs, h1, h2⟩ := cs_rel (evO_rel hx hg he) hc
  have hst := Step.alloc hm cs vs e h2
  refine does_run (v := .pointer (some ⟨w.heap.size, 0, none⟩)) ?_ hst (ptr_new _ rfl)
  simp [execOp, ho, Instr.box, newVar, newRow, h1]

theorem info_of_tsz {t : TypeId} {s : Nat} (h : tsz P t = some s) : ∃ i, P.info? t = some i ∧ i.size = s := by
  unfold tsz at h
  obtain ⟨i, h1, h2⟩ := Option.map_eq_some_iff.1 h
  exact ⟨i, h1, h2⟩
theorem run_sizeOf_tsz {t : TypeId} {s : Nat} (h : tsz P t = some s) (w : World) : (sizeOf t).run P w = .ok s w := by
  obtain ⟨i, h1, h2⟩ := info_of_tsz h
  simp [sizeOf, typeInfo, h1, h2]
theorem run_isAgg_tagg {t : TypeId} {b : Bool} (h : tagg P t = some b) (w : World) : (isAgg t).run P w = .ok b w := by
  unfold tagg at h
  split at h
  · rename_i fs hu; cases h; simp [isAgg, run_underlying hu]
  · rename_i l e hu; cases h; simp [isAgg, run_underlying hu]
  · rename_i d h1 h2 hu
    cases h
    cases d <;> first | (simp [isAgg, run_underlying hu]; done) | (exact absurd rfl (h1 _)) | (exact absurd rfl (h2 _ _))
  · cases h

theorem ptr_inv {id off : Nat} {x : Value} (h : RRel ρ n w (.one (.ptr id off)) x) : id < n ∧ x = .pointer (some ⟨(ρ id).1, (ρ id).2 + off, none⟩) := by
  simpa only [RRel, CRel] using h

theorem d_load1 {t : TypeId} {x : Operand} {x' : O} {s id off : Nat} {b : Blk} {c : Cell} (ho : o.op = .load t x) (hm : MRel ρ n w m) (hg : Glob ng ρ n) (he : ERel ρ n w env a) (hx : slimO ng x = some x') (hag : tagg P t = some false) (hs : tsz P t = some s)
    (hp : evO env x' = .one (.ptr id off)) (hb : m id = some b) (hc : b.cells[off]? = some c) : Does P o a ρ n w m (.one c) m n := by
  have h1 := evO_rel hx hg he
  rw [hp] at h1
  obtain ⟨_, h2⟩ := ptr_inv h1
  obtain ⟨v, h3, h4⟩ := hm.cells id b hb off c hc
  refine does_same (v := v) ?_ hm (by simpa only [RRel] using h4)
  simp [execOp, ho, h2, Instr.loadAt, Instr.sureAddr, loadVar, run_isAgg_tagg hag, h3]

theorem d_loadA {t : TypeId} {x : Operand} {x' : O} {s id off : Nat} {cs : List Cell} (ho : o.op = .load t x) (hm : MRel ρ n w m) (hg : Glob ng ρ n) (he : ERel ρ n w env a) (hx : slimO ng x = some x') (hag : tagg P t = some true) (hs : tsz P t = some s)
    (hp : evO env x' = .one (.ptr id off)) (hc : rd m id off s = some cs) : Does P o a ρ n w m (.agg cs) m n := by
  have h1 := evO_rel hx hg he
  rw [hp] at h1
  obtain ⟨_, h2⟩ := ptr_inv h1
  obtain ⟨vs, h3, h4, h5, h6⟩ := run_loadCells_rd (P := P) hm hc
  refine does_same (v := .agg vs.toArray) ?_ hm (by simp only [RRel]; exact ⟨vs, rfl, h3⟩)
  simp [execOp, ho, h2, Instr.loadAt, Instr.sureAddr, loadVar, run_isAgg_tagg hag, run_sizeOf_tsz hs, h6]

theorem d_store {t : TypeId} {x v : Operand} {x' v' : O} {s id off : Nat} {cs : List Cell} {m' : Mem} (ho : o.op = .store t x v) (hm : MRel ρ n w m) (hg : Glob ng ρ n) (he : ERel ρ n w env a) (hx : slimO ng x = some x') (hv : slimO ng v = some v') (hs : tsz P t = some s)
    (hp : evO env x' = .one (.ptr id off)) (hc : (evO env v').cs? = some cs) (hl : cs.length = s) (hw : wr m id off cs = some m') : Does P o a ρ n w m (.tup []) m' n := by
  have h1 := evO_rel hx hg he
  rw [hp] at h1
  obtain ⟨_, h2⟩ := ptr_inv h1
  obtain ⟨vs, h3, h4⟩ := cs_rel (evO_rel hv hg he) hc
  obtain ⟨h5, h6, h7⟩ := Step.store hm hw h4
  have h8 := run_storeCells_cells (P := P) (ρ id).1 ((ρ id).2 + off) vs 0 w (by simpa using h6) (by simpa using h7) (CRels.all_one _ _ h4)
  simp only [Nat.add_zero] at h8
  have hlen : vs.length = s := (CRels.length _ _ h4).trans hl
  refine does_skip ?_ h5
  simp [execOp, ho, h2, Instr.storeAt, Instr.sureAddr, storeVar, run_sizeOf_tsz hs, h3, hlen, h8]

theorem d_nilp {x : Operand} {x' : O} {id off : Nat} (ho : o.op = .nilCheck x) (hm : MRel ρ n w m) (hg : Glob ng ρ n) (he : ERel ρ n w env a) (hx : slimO ng x = some x') (hp : evO env x' = .one (.ptr id off)) :
    Does P o a ρ n w m (.one (.ptr id off)) m n := by
  have h1 := evO_rel hx hg he
  rw [hp] at h1
  obtain ⟨_, h2⟩ := ptr_inv h1
  exact does_same (v := a.eval x) (by simp [execOp, ho, h2]) hm h1

theorem d_nilf {x : Operand} {x' : O} {f : Nat} {cs : List Cell} (ho : o.op = .nilCheck x) (hm : MRel ρ n w m) (hg : Glob ng ρ n) (he : ERel ρ n w env a) (hx : slimO ng x = some x') (hp : evO env x' = .one (.clo f cs)) :
    Does P o a ρ n w m (.one (.clo f cs)) m n := by
  have h1 := evO_rel hx hg he
  rw [hp] at h1
  obtain ⟨vs, h2, _⟩ : ∃ vs : List Value, a.eval x = .func (.func f) #[] vs.toArray ∧ CRels ρ n w cs vs := by simpa only [RRel, CRel] using h1
  exact does_same (v := a.eval x) (by simp [execOp, ho, h2]) hm h1

theorem run_binV {op : BinOp} {t : TypeId} {x y v : Value} (h : binV op x y = some v) (w : World) : (binOp op t x y).run P w = .ok v w := by
  unfold binV at h
  split at h
  · rename_i k a k' b
    cases op <;> simp only at h
    case shl => split at h <;> first | (cases h; done) | (rename_i hb; cases h; simp [binOp, Op.shift, hb])
    case shr => split at h <;> first | (cases h; done) | (rename_i hb; cases h; simp [binOp, Op.shift, hb])
    case quo => split at h <;> first | (cases h; done) | (rename_i hk; split at h <;> first | (cases h; done) | (rename_i hb; cases h; simp [binOp, Op.intDiv, hk, hb]))
    case rem => split at h <;> first | (cases h; done) | (rename_i hk; split at h <;> first | (cases h; done) | (rename_i hb; cases h; simp [binOp, Op.intDiv, hk, hb]))
    case andNot => cases h
    all_goals (split at h <;> first | (cases h; done) | (rename_i hk; cases h; simp [binOp, Op.intArith, Op.intBits, Op.intCmp, hk]))
  · cases h

theorem run_eqGuard {op : BinOp} {t : TypeId} {x y : Operand} {u v z : Value} (h : binV op u v = some z) (w : World) : (eqGuard op t x y u v).run P w = .ok () w := by
  unfold eqGuard
  cases u <;> simp only [binV] at h <;> first
    | (cases h; done)
    | (cases v <;> simp only at h <;> first | (cases h; done) | (split <;> first | rfl | simp))

theorem d_bin {op : BinOp} {t t2 : TypeId} {x y : Operand} {x' y' : O} {u v z : Value} (ho : o.op = .binOp op t x y t2) (hm : MRel ρ n w m) (hg : Glob ng ρ n) (he : ERel ρ n w env a) (hx : slimO ng x = some x') (hy : slimO ng y = some y')
    (hu : evO env x' = .one (.sc u)) (hv : evO env y' = .one (.sc v)) (h : binV op u v = some z) :
    Does P o a ρ n w m (.one (.sc z)) m n := by
  have h1 := evO_rel hx hg he
  have h2 := evO_rel hy hg he
  rw [hu] at h1
  rw [hv] at h2
  have h3 := sc_inv h1
  have h4 := sc_inv h2
  refine does_same (v := z) ?_ hm ?_
  · have h5 := run_eqGuard (P := P) (t := t) (x := x) (y := y) h w
    have h6 := run_binV (P := P) (t := t) h w
    simp [execOp, ho, h3, h4, h5, h6]
  · simp only [RRel, CRel]
    refine ⟨trivial, ?_⟩
    unfold binV at h
    split at h
    · cases op <;> simp only at h <;> first | (cases h; done) | (split at h <;> first | (cases h; done) | (cases h; rfl) | (split at h <;> first | (cases h; done) | (cases h; rfl)))
    · cases h

theorem d_beq {op : BinOp} {t t2 : TypeId} {x y : Operand} {x' y' : O} {u v : Bool} (ho : o.op = .binOp op t x y t2) (hm : MRel ρ n w m) (hg : Glob ng ρ n) (he : ERel ρ n w env a) (hx : slimO ng x = some x') (hy : slimO ng y = some y')
    (hop : op = .eql ∨ op = .neq) (ht : P.underlying t = some .bool) (hu : evO env x' = .one (.sc (.bool u))) (hv : evO env y' = .one (.sc (.bool v))) :
    Does P o a ρ n w m (.one (.sc (.bool ((u == v) != (op == .neq))))) m n := by
  have h1 := evO_rel hx hg he
  have h2 := evO_rel hy hg he
  rw [hu] at h1
  rw [hv] at h2
  have h3 := sc_inv h1
  have h4 := sc_inv h2
  refine does_same (v := .bool ((u == v) != (op == .neq))) ?_ hm (by simp [RRel, CRel, Value.oneCell'])
  rcases hop with rfl | rfl
  · simp [execOp, ho, h3, h4, eqGuard, binOp, run_equal_bool w t u v ht]; cases u <;> cases v <;> rfl
  · simp [execOp, ho, h3, h4, eqGuard, binOp, run_equal_bool w t u v ht]

theorem d_un {op : UnOp} {t : TypeId} {x : Operand} {x' : O} {u z : Value} (ho : o.op = .unOp op t x) (hm : MRel ρ n w m) (hg : Glob ng ρ n) (he : ERel ρ n w env a) (hx : slimO ng x = some x') (hu : evO env x' = .one (.sc u)) (h : unV op u = some z) :
    Does P o a ρ n w m (.one (.sc z)) m n := by
  have h1 := evO_rel hx hg he
  rw [hu] at h1
  have h3 := sc_inv h1
  unfold unV at h
  split at h
  · rename_i k b
    cases op <;> simp only at h <;> first | (cases h; done) | (cases h; exact does_same (v := .int k (k.wrap (0 - b))) (by simp [execOp, ho, h3, Op.unary, Op.intArith]) hm (by simp [RRel, CRel, Value.oneCell']))
  · rename_i b
    cases op <;> simp only at h <;> first | (cases h; done) | (cases h; exact does_same (v := .bool !b) (by simp [execOp, ho, h3, Op.unary]) hm (by simp [RRel, CRel, Value.oneCell']))
  · cases h

theorem d_conv {s d : TypeId} {x : Operand} {x' : O} {k k' ks : IntKind} {u : Int} (ho : o.op = .convert s d x) (hm : MRel ρ n w m) (hg : Glob ng ρ n) (he : ERel ρ n w env a) (hx : slimO ng x = some x') (hs : P.underlying s = some (.int ks)) (hd : P.underlying d = some (.int k)) (hu : evO env x' = .one (.sc (.int k' u))) :
    Does P o a ρ n w m (.one (.sc (.int k (k.wrap u)))) m n := by
  have h1 := evO_rel hx hg he
  rw [hu] at h1
  have h3 := sc_inv h1
  exact does_same (v := .int k (k.wrap u)) (by simp [execOp, ho, h3, convert, run_underlying hs, run_underlying hd, Conv.intToInt]) hm (by simp [RRel, CRel, Value.oneCell'])

theorem capsOf_rel : ∀ {rs : List Reg} {vs : List Value} {cs : List Cell}, RRels ρ n w rs vs → evalOp.capsOf rs = some cs → CRels ρ n w cs vs
  | [], vs, cs, h, hc => by simp only [evalOp.capsOf, Option.some.injEq] at hc; subst hc; simpa only [RRels, CRels] using h
  | .one c :: rs, vs, cs, h, hc => by
    simp only [evalOp.capsOf, Option.map_eq_some_iff] at hc
    obtain ⟨cs', h1, rfl⟩ := hc
    simp only [RRels] at h
    obtain ⟨v, r, rfl, h2, h3⟩ := h
    simp only [CRels]
    exact ⟨v, r, rfl, by simpa only [RRel] using h2, capsOf_rel h3 h1⟩
  | .agg _ :: _, _, _, _, hc => by simp [evalOp.capsOf] at hc
  | .tup _ :: _, _, _, _, hc => by simp [evalOp.capsOf] at hc

theorem d_mkfn {f : Nat} {caps first : Array Operand} {os : List O} {cs : List Cell} (ho : o.op = .makeFunc (.func f) first caps) (hf : first.size = 0) (hm : MRel ρ n w m) (hg : Glob ng ρ n) (he : ERel ρ n w env a) (hx : slimOs ng caps.toList = some os) (hc : evalOp.capsOf (evOs env os) = some cs) :
    Does P o a ρ n w m (.one (.clo f cs)) m n := by
  have h1 := evOs_rel hg he hx
  have h2 := capsOf_rel h1 hc
  have hf' : first = #[] := Array.eq_empty_of_size_eq_zero hf
  refine does_same (v := .func (.func f) #[] (caps.map a.eval)) (by simp [execOp, ho, Instr.makeFunc, hf']) hm ?_
  simp only [RRel, CRel]
  exact ⟨caps.toList.map a.eval, by congr 1; apply Array.ext'; simp, h2⟩

theorem d_fadr {t : TypeId} {i : Nat} {x : Operand} {x' : O} {fs : Array Field} {f : Field} {s id off : Nat} (ho : o.op = .fieldAddr t x i) (hm : MRel ρ n w m) (hg : Glob ng ρ n) (he : ERel ρ n w env a) (hx : slimO ng x = some x')
    (hu : P.underlying t = some (.struct fs)) (hf : fs[i]? = some f) (hs : tsz P f.type = some (s + 1)) (hp : evO env x' = .one (.ptr id off)) : Does P o a ρ n w m (.one (.ptr id (off + f.offset))) m n := by
  have h1 := evO_rel hx hg he
  rw [hp] at h1
  obtain ⟨h0, h2⟩ := ptr_inv h1
  refine does_same (v := .pointer (some ⟨(ρ id).1, (ρ id).2 + (off + f.offset), none⟩)) ?_ hm (by simp only [RRel, CRel]; exact ⟨h0, trivial⟩)
  simp [execOp, ho, h2, Instr.fieldAt, run_underlying hu, hf, Instr.sureAddr, fieldPlace, run_sizeOf_tsz hs, Addr.add0, Nat.add_assoc]

theorem part_agg {t : TypeId} {vs : List Value} {cs : List Cell} {off s : Nat} (hc : CRels ρ n w cs vs) (hs : tsz P t = some s) (hag : tagg P t = some true) (hle : off + s ≤ cs.length) :
    ∃ v, (part t vs.toArray off).run P w = .ok v w ∧ RRel ρ n w (.agg ((cs.drop off).take s)) v := by
  refine ⟨.agg (vs.toArray.extract off (off + s)), by simp [part, run_isAgg_tagg hag, run_sizeOf_tsz hs], ?_⟩
  simp only [RRel]
  refine ⟨(vs.drop off).take s, ?_, (hc.drop off).take s⟩
  congr 1
  apply Array.ext'
  simp [List.extract_eq_take_drop]

theorem part_one {t : TypeId} {vs : List Value} {cs : List Cell} {off : Nat} {c : Cell} (hc : CRels ρ n w cs vs) (hag : tagg P t = some false) (hg : cs[off]? = some c) :
    ∃ v, (part t vs.toArray off).run P w = .ok v w ∧ RRel ρ n w (.one c) v := by
  obtain ⟨v, h1, h2⟩ := CRels.get _ _ hc off c hg
  refine ⟨v, by simp [part, run_isAgg_tagg hag, h1], ?_⟩
  simp only [RRel]; exact h2

theorem agg_inv {cs : List Cell} {x : Value} (h : RRel ρ n w (.agg cs) x) : ∃ vs : List Value, x = .agg vs.toArray ∧ CRels ρ n w cs vs := by
  simpa only [RRel] using h

theorem d_fld_agg {t : TypeId} {i : Nat} {x : Operand} {x' : O} {fs : Array Field} {f : Field} {s : Nat} {cs : List Cell} (ho : o.op = .field t x i) (hm : MRel ρ n w m) (hg : Glob ng ρ n) (he : ERel ρ n w env a) (hx : slimO ng x = some x')
    (hu : P.underlying t = some (.struct fs)) (hf : fs[i]? = some f) (hs : tsz P f.type = some s) (hag : tagg P f.type = some true) (hp : evO env x' = .agg cs) (hle : f.offset + s ≤ cs.length) :
    Does P o a ρ n w m (.agg ((cs.drop f.offset).take s)) m n := by
  have h1 := evO_rel hx hg he
  rw [hp] at h1
  obtain ⟨vs, h2, h3⟩ := agg_inv h1
  obtain ⟨v, h4, h5⟩ := part_agg h3 hs hag hle
  exact does_same (v := v) (by simp [execOp, ho, h2, Instr.field, run_underlying hu, hf, asAgg, h4]) hm h5

theorem d_fld_one {t : TypeId} {i : Nat} {x : Operand} {x' : O} {fs : Array Field} {f : Field} {cs : List Cell} {c : Cell} (ho : o.op = .field t x i) (hm : MRel ρ n w m) (hg : Glob ng ρ n) (he : ERel ρ n w env a) (hx : slimO ng x = some x')
    (hu : P.underlying t = some (.struct fs)) (hf : fs[i]? = some f) (hag : tagg P f.type = some false) (hp : evO env x' = .agg cs) (hc : cs[f.offset]? = some c) :
    Does P o a ρ n w m (.one c) m n := by
  have h1 := evO_rel hx hg he
  rw [hp] at h1
  obtain ⟨vs, h2, h3⟩ := agg_inv h1
  obtain ⟨v, h4, h5⟩ := part_one (P := P) h3 hag hc
  exact does_same (v := v) (by simp [execOp, ho, h2, Instr.field, run_underlying hu, hf, asAgg, h4]) hm h5

theorem ix_inv {r : Reg} {i : Int} {x : Value} (h : RRel ρ n w r x) (hi : ix r = some i) : ∃ k, x = .int k i := by
  unfold ix at hi
  split at hi
  · cases hi; exact ⟨_, sc_inv h⟩
  · cases hi

theorem d_idx_agg {t e : TypeId} {x y : Operand} {x' y' : O} {len s : Nat} {cs : List Cell} {i : Int} (ho : o.op = .index t x y) (hm : MRel ρ n w m) (hg : Glob ng ρ n) (he : ERel ρ n w env a) (hx : slimO ng x = some x') (hy : slimO ng y = some y')
    (hu : P.underlying t = some (.array len e)) (hs : tsz P e = some s) (hag : tagg P e = some true) (hp : evO env x' = .agg cs) (hi : ix (evO env y') = some i) (h0 : 0 ≤ i) (h1 : i < len) (hle : i.toNat * s + s ≤ cs.length) :
    Does P o a ρ n w m (.agg ((cs.drop (i.toNat * s)).take s)) m n := by
  have h1' := evO_rel hx hg he
  rw [hp] at h1'
  obtain ⟨vs, h2, h3⟩ := agg_inv h1'
  obtain ⟨k, h6⟩ := ix_inv (evO_rel hy hg he) hi
  obtain ⟨v, h4, h5⟩ := part_agg h3 hs hag hle
  exact does_same (v := v) (by simp [execOp, ho, h2, h6, Instr.index, run_underlying hu, asIntOf, run_sizeOf_tsz hs, h0, h1, h4]) hm h5

theorem d_idx_one {t e : TypeId} {x y : Operand} {x' y' : O} {len s : Nat} {cs : List Cell} {c : Cell} {i : Int} (ho : o.op = .index t x y) (hm : MRel ρ n w m) (hg : Glob ng ρ n) (he : ERel ρ n w env a) (hx : slimO ng x = some x') (hy : slimO ng y = some y')
    (hu : P.underlying t = some (.array len e)) (hs : tsz P e = some s) (hag : tagg P e = some false) (hp : evO env x' = .agg cs) (hi : ix (evO env y') = some i) (h0 : 0 ≤ i) (h1 : i < len) (hc : cs[i.toNat * s]? = some c) :
    Does P o a ρ n w m (.one c) m n := by
  have h1' := evO_rel hx hg he
  rw [hp] at h1'
  obtain ⟨vs, h2, h3⟩ := agg_inv h1'
  obtain ⟨k, h6⟩ := ix_inv (evO_rel hy hg he) hi
  obtain ⟨v, h4, h5⟩ := part_one (P := P) h3 hag hc
  exact does_same (v := v) (by simp [execOp, ho, h2, h6, Instr.index, run_underlying hu, asIntOf, run_sizeOf_tsz hs, h0, h1, h4]) hm h5

theorem bytes_at {s : ByteArray} {i b : Nat} (h : (s.data.toList.map UInt8.toNat)[i]? = some b) : ∃ c : UInt8, s[i]? = some c ∧ c.toNat = b := by
  rw [List.getElem?_map] at h
  obtain ⟨c, h1, h2⟩ := Option.map_eq_some_iff.1 h
  have h3 := List.getElem?_eq_some_iff.1 h1
  obtain ⟨h4, h5⟩ := h3
  have h6 : i < s.size := by simpa using h4
  refine ⟨c, ?_, h2⟩
  rw [getElem?_pos s i h6]
  congr 1
theorem d_istr {t : TypeId} {x y : Operand} {y' : O} {s : ByteArray} {i : Int} {b : Nat} (ho : o.op = .index t x y) (hx : slimO ng x = some (.c (.one (.sc (.string s))))) (hm : MRel ρ n w m) (hg : Glob ng ρ n) (he : ERel ρ n w env a) (hy : slimO ng y = some y')
    (hu : P.underlying t = some .string) (hi : ix (evO env y') = some i) (h0 : 0 ≤ i) (hc : (s.data.toList.map UInt8.toNat)[i.toNat]? = some b) :
    Does P o a ρ n w m (.one (.sc (.int .u8 b))) m n := by
  obtain ⟨k, h6⟩ := ix_inv (evO_rel hy hg he) hi
  obtain ⟨c, h7, h8⟩ := bytes_at hc
  have h9 := sc_inv (evO_rel hx hg he)
  exact does_same (v := .int .u8 b) (by simp [execOp, ho, h6, h9, Instr.index, run_underlying hu, asIntOf, h0, h7, h8]) hm (by simp only [RRel, CRel]; exact ⟨trivial, rfl⟩)

theorem sl_inv {id off len sz : Nat} {cap : Option Nat} {x : Value} (h : RRel ρ n w (.one (.sl id off len cap sz)) x) :
    id < n ∧ ∃ o cp, x = .slice (some ⟨(ρ id).1, o, none⟩) len cp ∧ (cp ≠ 0 → o = (ρ id).2 + off) ∧ len ≤ cp ∧ (∀ c, cap = some c → cp = c) ∧ (∀ j, j < cp * sz → (w.cell? ⟨(ρ id).1, o + j, none⟩).isSome = true) := by
  simpa only [RRel, CRel] using h

theorem d_iadrA {t e : TypeId} {x y : Operand} {x' y' : O} {len s id off : Nat} {i : Int} (ho : o.op = .indexAddr t x y) (hm : MRel ρ n w m) (hg : Glob ng ρ n) (he : ERel ρ n w env a) (hx : slimO ng x = some x') (hy : slimO ng y = some y')
    (hu : P.underlying t = some (.array len e)) (hs : tsz P e = some s) (hp : evO env x' = .one (.ptr id off)) (hi : ix (evO env y') = some i) (h0 : 0 ≤ i) (h1 : i < len) :
    Does P o a ρ n w m (.one (.ptr id (off + i.toNat * s))) m n := by
  have h1' := evO_rel hx hg he
  rw [hp] at h1'
  obtain ⟨h3, h2⟩ := ptr_inv h1'
  obtain ⟨k, h6⟩ := ix_inv (evO_rel hy hg he) hi
  refine does_same (v := .pointer (some ⟨(ρ id).1, (ρ id).2 + (off + i.toNat * s), none⟩)) ?_ hm (by simp only [RRel, CRel]; exact ⟨h3, trivial⟩)
  simp [execOp, ho, h2, h6, Instr.indexAt, run_underlying hu, asIntOf, Instr.sureAddr, run_sizeOf_tsz hs, h0, h1, Addr.add0, Nat.add_assoc]

theorem d_iadrS {t e : TypeId} {x y : Operand} {x' y' : O} {len s id off : Nat} {cap : Option Nat} {i : Int} (ho : o.op = .indexAddr t x y) (hm : MRel ρ n w m) (hg : Glob ng ρ n) (he : ERel ρ n w env a) (hx : slimO ng x = some x') (hy : slimO ng y = some y')
    (hu : P.underlying t = some (.slice e)) (hs : tsz P e = some s) (hp : evO env x' = .one (.sl id off len cap s)) (hi : ix (evO env y') = some i) (h0 : 0 ≤ i) (h1 : i < len) :
    Does P o a ρ n w m (.one (.ptr id (off + i.toNat * s))) m n := by
  have h1' := evO_rel hx hg he
  rw [hp] at h1'
  obtain ⟨h3, oo, cp, h2, h7, h8, _, _⟩ := sl_inv h1'
  have h9 := h7 (by omega)
  subst h9
  obtain ⟨k, h6⟩ := ix_inv (evO_rel hy hg he) hi
  refine does_same (v := .pointer (some ⟨(ρ id).1, (ρ id).2 + (off + i.toNat * s), none⟩)) ?_ hm (by simp only [RRel, CRel]; exact ⟨h3, trivial⟩)
  simp [execOp, ho, h2, h6, Instr.indexAt, run_underlying hu, asIntOf, Instr.sureAddr, run_sizeOf_tsz hs, h0, h1, Addr.add0, Nat.add_assoc]

theorem d_ext {x : Operand} {x' : O} {i : Nat} {rs : List Reg} {r : Reg} (ho : o.op = .extract x i) (hm : MRel ρ n w m) (hg : Glob ng ρ n) (he : ERel ρ n w env a) (hx : slimO ng x = some x') (hp : evO env x' = .tup rs) (hr : rs[i]? = some r) :
    Does P o a ρ n w m r m n := by
  have h1 := evO_rel hx hg he
  rw [hp] at h1
  obtain ⟨vs, h2, h3⟩ : ∃ vs : List Value, a.eval x = .tuple vs.toArray ∧ RRels ρ n w rs vs := by simpa only [RRel] using h1
  obtain ⟨v, h4, h5⟩ := RRels.get _ _ h3 i r hr
  exact does_same (v := v) (by simp [execOp, ho, h2, Instr.extract, h4]) hm h5
end
end Go.Proofs.Ytkdbnmohpanpfaa.Sy
