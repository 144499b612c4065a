/- An evaluator of a part of Go's operations over a memory of its own, part nine: calls; all operations together. Conditions: those that each theorem names. -/
import Derived.Test.YtfhjndnempmcaaaSyH
namespace Go.Proofs.Ytfhjndnempmcaaa.Sy
open Go
set_option linter.unusedVariables false
set_option linter.unusedSimpArgs false

section
variable {P : Program} {ρ : Loc} {n : Nat} {w : World} {m : Mem} {o : Oper} {a : Act} {ng : Nat} {env : Nat → Reg}

theorem minI_rel {k : Int} : ∀ {rs : List Reg} {vs : List Value} {v : Int}, RRels ρ n w rs vs → minI k rs = some v → (vs.foldlM Builtin.min2 (.int .i64 k) : Sem Value) = pure (.int .i64 v)
  | [], vs, v, h, hv => by
    simp only [RRels] at h; subst h
    simp only [minI, Option.some.injEq] at hv; subst hv; rfl
  | r :: rs, vs, v, h, hv => by
    simp only [RRels] at h
    obtain ⟨u, us, rfl, h2, h3⟩ := h
    unfold minI at hv
    split at hv
    · rename_i heq; cases heq
    · rename_i a b r' heq
      cases heq
      have := sc_inv h2
      subst this
      have ih := minI_rel h3 hv
      simpa [List.foldlM_cons, Builtin.min2] using ih
    · cases hv

theorem maxI_rel {k : Int} : ∀ {rs : List Reg} {vs : List Value} {v : Int}, RRels ρ n w rs vs → maxI k rs = some v → (vs.foldlM Builtin.max2 (.int .i64 k) : Sem Value) = pure (.int .i64 v)
  | [], vs, v, h, hv => by
    simp only [RRels] at h; subst h
    simp only [maxI, Option.some.injEq] at hv; subst hv; rfl
  | r :: rs, vs, v, h, hv => by
    simp only [RRels] at h
    obtain ⟨u, us, rfl, h2, h3⟩ := h
    unfold maxI at hv
    split at hv
    · rename_i heq; cases heq
    · rename_i a b r' heq
      cases heq
      have := sc_inv h2
      subst this
      have ih := maxI_rel h3 hv
      simpa [List.foldlM_cons, Builtin.max2] using ih
    · cases hv

theorem d_mn {c : Call} {os : List O} {k v : Int} {rs : List Reg} (ho : o.op = .call c) (hca : c.callee = .builtin .min) (hargs : slimOs ng c.args.toList = some os) (hm : MRel ρ n w m) (hg : Glob ng ρ n) (he : ERel ρ n w env a)
    (hp : evOs env os = .one (.sc (.int .i64 k)) :: rs) (hv : minI k rs = some v) : Does P o a ρ n w m (.one (.sc (.int .i64 v))) m n := by
  have h1 := evOs_rel hg he hargs
  rw [hp] at h1
  simp only [RRels] at h1
  obtain ⟨u, us, h2, h3, h4⟩ := h1
  have := sc_inv h3
  subst this
  have h5 := minI_rel h4 hv
  refine does_same (v := .int .i64 v) ?_ hm (by simp [RRel, CRel, Value.oneCell'])
  simp [execOp, ho, resolve, hca, invoke, builtin, Builtin.min_, h2, h5]

theorem d_mx {c : Call} {os : List O} {k v : Int} {rs : List Reg} (ho : o.op = .call c) (hca : c.callee = .builtin .max) (hargs : slimOs ng c.args.toList = some os) (hm : MRel ρ n w m) (hg : Glob ng ρ n) (he : ERel ρ n w env a)
    (hp : evOs env os = .one (.sc (.int .i64 k)) :: rs) (hv : maxI k rs = some v) : Does P o a ρ n w m (.one (.sc (.int .i64 v))) m n := by
  have h1 := evOs_rel hg he hargs
  rw [hp] at h1
  simp only [RRels] at h1
  obtain ⟨u, us, h2, h3, h4⟩ := h1
  have := sc_inv h3
  subst this
  have h5 := maxI_rel h4 hv
  refine does_same (v := .int .i64 v) ?_ hm (by simp [RRel, CRel, Value.oneCell'])
  simp [execOp, ho, resolve, hca, invoke, builtin, Builtin.max_, h2, h5]

def nilV : Value → Option Bool
  | .slice (some _) _ _ => some false
  | .slice none _ _ => some true
  | .func _ _ _ => some false
  | .pointer (some _) => some false
  | _ => none

theorem d_eqnil {op : BinOp} {t t2 : TypeId} {x y : Operand} {b : Bool} {yv : Value} {d : TypeDesc} (ho : o.op = .binOp op t x y t2) (hm : MRel ρ n w m) (hop : op = .eql ∨ op = .neq) (hu : P.underlying t = some d)
    (hy : a.eval y = yv) (hk : (∃ e, d = .slice e ∧ yv = .slice none 0 0 ∧ ∃ ad l c, a.eval x = .slice ad l c ∧ b = ad.isNone) ∨ (∃ p r v, d = .func p r v ∧ yv = .nilFunc ∧ ∃ f1 f2 f3, a.eval x = .func f1 f2 f3 ∧ b = false) ∨ (∃ e, d = .pointer e ∧ yv = .pointer none ∧ ∃ ad, a.eval x = .pointer ad ∧ b = ad.isNone)) :
    Does P o a ρ n w m (.one (.sc (.bool (b != (op == .neq))))) m n := by
  have heq : (Op.equal t (a.eval x) yv).run P w = .ok b w ∧ (eqGuard op t x y (a.eval x) yv).run P w = .ok () w ∧ (binOp op t (a.eval x) yv).run P w = .ok (.bool (b != (op == .neq))) w := by
    have h1 : ∀ dd, (Op.equalIn (dd + 1) t (a.eval x) yv).run P w = .ok b w := by
      intro dd
      rcases hk with ⟨e, rfl, rfl, ad, l, c, hx, rfl⟩ | ⟨p, r, v, rfl, rfl, f1, f2, f3, hx, rfl⟩ | ⟨e, rfl, rfl, ad, hx, rfl⟩
      · rw [hx]; cases ad <;> simp [Op.equalIn, run_underlying hu]
      · rw [hx]; simp [Op.equalIn, run_underlying hu]
      · rw [hx]; cases ad <;> simp [Op.equalIn, run_underlying hu]
    have h2 : (Op.equal t (a.eval x) yv).run P w = .ok b w := h1 9999
    refine ⟨h2, ?_, ?_⟩
    · rcases hk with ⟨e, rfl, rfl, ad, l, c, hx, rfl⟩ | ⟨p, r, v, rfl, rfl, f1, f2, f3, hx, rfl⟩ | ⟨e, rfl, rfl, ad, hx, rfl⟩ <;> rw [hx] <;> rcases hop with rfl | rfl <;> simp [eqGuard]
    · rcases hk with ⟨e, rfl, rfl, ad, l, c, hx, rfl⟩ | ⟨p, r, v, rfl, rfl, f1, f2, f3, hx, rfl⟩ | ⟨e, rfl, rfl, ad, hx, rfl⟩ <;> rw [hx] at h2 ⊢ <;> rcases hop with rfl | rfl <;> first | (simp [binOp, h2]; done) | (simp [binOp, h2]; cases ad <;> rfl)
  refine does_same (v := .bool (b != (op == .neq))) ?_ hm (by simp [RRel, CRel, Value.oneCell'])
  simp [execOp, ho, hy, heq.2.1, heq.2.2]
end

/-! ### calls -/
def CallOK (P : Program) (ng : Nat) (call : Callf) : Prop :=
  ∀ f args m n r m' n', call f args m n = some (r, m', n') → ∀ ρ w vs, MRel ρ n w m → Glob ng ρ n → RRels ρ n w args vs →
    (∃ fn, P.funcs[f]? = some fn ∧ fn.body.isSome = true ∧ (fn.name == "runtime.NumGoroutine") = false) ∧
    Calls P f vs.toArray w (fun e w' => ∃ v ρ', e = .returned v ∧ Step ρ n w m ρ' n' w' m' ∧ RRel ρ' n' w' r v)

section
variable {ρ ρ' : Loc} {n n' : Nat} {w w' : World} {m m' : Mem}

theorem flat_cells : ∀ {cs : List Cell} {vs : List Value}, cs.all Cell.flat = true → CRels ρ n w cs vs → CRels ρ' n' w' cs vs
  | [], vs, _, h => by simpa only [CRels] using h
  | c :: cs, vs, hf, h => by
    simp only [List.all_cons, Bool.and_eq_true] at hf
    simp only [CRels] at h ⊢
    obtain ⟨v, r, h1, h2, h3⟩ := h
    refine ⟨v, r, h1, ?_, flat_cells hf.2 h3⟩
    cases c <;> first | (simpa only [CRel] using h2) | (simp [Cell.flat] at hf)

mutual
theorem flat_rel : ∀ {r : Reg} {v : Value}, r.flat = true → RRel ρ n w r v → RRel ρ' n' w' r v
  | .one c, v, hf, h => by
    simp only [RRel] at h ⊢
    cases c <;> first | (simpa only [CRel] using h) | (simp [Reg.flat, Cell.flat] at hf)
  | .agg cs, v, hf, h => by
    simp only [RRel] at h ⊢
    obtain ⟨vs, h1, h2⟩ := h
    exact ⟨vs, h1, flat_cells (by simpa only [Reg.flat] using hf) h2⟩
  | .tup rs, v, hf, h => by
    simp only [RRel] at h ⊢
    obtain ⟨vs, h1, h2⟩ := h
    exact ⟨vs, h1, flats_rel (by simpa only [Reg.flat] using hf) h2⟩
theorem flats_rel : ∀ {rs : List Reg} {vs : List Value}, flats rs = true → RRels ρ n w rs vs → RRels ρ' n' w' rs vs
  | [], vs, _, h => by simpa only [RRels] using h
  | c :: cs, vs, hf, h => by
    simp only [flats, Bool.and_eq_true] at hf
    simp only [RRels] at h ⊢
    obtain ⟨v, r, h1, h2, h3⟩ := h
    exact ⟨v, r, h1, flat_rel hf.1 h2, flats_rel hf.2 h3⟩
end

theorem frz_own {k : Nat} : ¬ Own ρ (frz m) k := by
  rintro ⟨id, b, h1, h2, _⟩
  unfold frz at h1
  obtain ⟨b0, _, rfl⟩ := Option.map_eq_some_iff.1 h1
  cases h2

theorem MRel.frz (h : MRel ρ n w m) : MRel ρ n w (frz m) := h.sub (fun id b hb => by
  unfold Sy.frz at hb
  obtain ⟨b0, h1, rfl⟩ := Option.map_eq_some_iff.1 hb
  exact ⟨b0, h1, rfl, fun h => by cases h⟩)

/-- Where no old block has turned, what was there is there. -/
theorem MRel.quiet (h : MRel ρ n w m) (hf : ∀ k, k < w.heap.size → w'.heap[k]? = w.heap[k]?) (hs : w.heap.size ≤ w'.heap.size) (L : Le ρ n w ρ n w') : MRel ρ n w' m where
  lt := h.lt
  blk := fun id b hb => Nat.lt_of_lt_of_le (h.blk id b hb) hs
  cells := fun id b hb i c hc => by
    obtain ⟨v, h1, h2⟩ := h.cells id b hb i c hc
    exact ⟨v, by rw [World.cell?_of_block (w := w) (hf _ (h.blk id b hb))]; exact h1, CRel.mono L _ _ h2⟩
  soft := fun id b hb ho o => by
    rw [World.frozen?_of_block (w := w) (hf _ (h.blk id b hb))]; exact h.soft id b hb ho o
  apart := h.apart

theorem Step.quiet (h : MRel ρ n w m) (hst : Step ρ n w (frz m) ρ' n' w' m') : Step ρ n w m ρ n w' m := by
  have hf : ∀ k, k < w.heap.size → w'.heap[k]? = w.heap[k]? := fun k hk => hst.fr.block k hk frz_own
  have L : Le ρ n w ρ n w' := ⟨Nat.le_refl _, fun _ _ => rfl, hst.le.live⟩
  exact ⟨L, h.quiet hf hst.fr.size L, hst.fr.mono (fun k hk => absurd hk frz_own), fun id b _ hb => ⟨b, hb, fun x => x⟩, fun id b h1 h2 => absurd (h.lt id b h2) (Nat.not_lt.2 h1)⟩

theorem Step.kept (h : MRel ρ n w m) (hst : Step ρ n w (frz m) ρ' n' w' m') : Step ρ n w m ρ' n' w' (unfrz m n m') := by
  have hf : ∀ k, k < w.heap.size → w'.heap[k]? = w.heap[k]? := fun k hk => hst.fr.block k hk frz_own
  have L : Le ρ n w ρ n w' := ⟨Nat.le_refl _, fun _ _ => rfl, hst.le.live⟩
  have hq := h.quiet hf hst.fr.size L
  have hcase : ∀ id b, unfrz m n m' id = some b → (id < n ∧ m id = some b) ∨ (n ≤ id ∧ m' id = some b) := fun id b hb => by
    unfold unfrz at hb
    split at hb
    · rename_i hlt; exact Or.inl ⟨hlt, hb⟩
    · rename_i hge; exact Or.inr ⟨Nat.le_of_not_lt hge, hb⟩
  have L2 : Le ρ n w' ρ' n' w' := ⟨hst.le.le, hst.le.loc, fun _ h => h⟩
  refine ⟨hst.le, ⟨?_, ?_, ?_, ?_, ?_⟩, hst.fr.mono (fun k hk => absurd hk frz_own), ?_, ?_⟩
  · intro id b hb
    rcases hcase id b hb with ⟨h1, h2⟩ | ⟨h1, h2⟩
    · exact Nat.lt_of_lt_of_le h1 hst.le.le
    · exact hst.rel.lt id b h2
  · intro id b hb
    rcases hcase id b hb with ⟨h1, h2⟩ | ⟨h1, h2⟩
    · rw [hst.le.loc id h1]; exact hq.blk id b h2
    · exact hst.rel.blk id b h2
  · intro id b hb i c hc
    rcases hcase id b hb with ⟨h1, h2⟩ | ⟨h1, h2⟩
    · rw [hst.le.loc id h1]
      obtain ⟨v, h3, h4⟩ := hq.cells id b h2 i c hc
      exact ⟨v, h3, CRel.mono L2 _ _ h4⟩
    · exact hst.rel.cells id b h2 i c hc
  · intro id b hb ho o
    rcases hcase id b hb with ⟨h1, h2⟩ | ⟨h1, h2⟩
    · rw [hst.le.loc id h1]; exact hq.soft id b h2 ho o
    · exact hst.rel.soft id b h2 ho o
  · intro id b hb ho id' b' hb' hne
    rcases hcase id b hb with ⟨h1, h2⟩ | ⟨h1, h2⟩
    · rcases hcase id' b' hb' with ⟨h3, h4⟩ | ⟨h3, h4⟩
      · rw [hst.le.loc id h1, hst.le.loc id' h3]; exact h.apart id b h2 ho id' b' h4 hne
      · rw [hst.le.loc id h1]
        have := h.blk id b h2
        rcases hst.fresh id' b' h3 h4 with h5 | h5
        · omega
        · exact absurd h5 frz_own
    · rcases hcase id' b' hb' with ⟨h3, h4⟩ | ⟨h3, h4⟩
      · rw [hst.le.loc id' h3]
        have := h.blk id' b' h4
        rcases hst.fresh id b h1 h2 with h5 | h5
        · omega
        · exact absurd h5 frz_own
      · exact hst.rel.apart id b h2 ho id' b' h4 hne
  · intro id b hi hb
    rcases hcase id b hb with ⟨h1, h2⟩ | ⟨h1, h2⟩
    · exact ⟨b, h2, fun x => x⟩
    · omega
  · intro id b hi hb
    rcases hcase id b hb with ⟨h1, h2⟩ | ⟨h1, h2⟩
    · omega
    · rcases hst.fresh id b h1 h2 with h5 | h5
      · exact Or.inl h5
      · exact absurd h5 frz_own
end

section
variable {P : Program} {ρ : Loc} {n n' : Nat} {w : World} {m m' : Mem} {o : Oper} {a : Act} {ng : Nat} {env : Nat → Reg} {call : Callf} {r : Reg}

theorem Step.max_n {ρ' : Loc} {w' : World} (h : Step ρ n w m ρ' n' w' m') : max n n' = n' := Nat.max_eq_right h.le.le

theorem doCall_ok (hcall : CallOK P ng call) {md : Mode} (hz : zOk ng md = true) {f : Nat} {args : List Reg} {vs : List Value} (h : doCall call md f args m n = some (r, m', n')) (hm : MRel ρ n w m) (hg : Glob ng ρ n) (hargs : RRels ρ n w args vs) :
    (∃ fn, P.funcs[f]? = some fn ∧ fn.body.isSome = true ∧ (fn.name == "runtime.NumGoroutine") = false) ∧
    Calls P f vs.toArray w (fun e w' => ∃ v ρ', e = .returned v ∧ Step ρ n w m ρ' n' w' m' ∧ RRel ρ' n' w' r v) := by
  unfold doCall at h
  cases md with
  | q =>
    simp only at h
    split at h
    case h_2 => cases h
    rename_i r1 m1 n1 h1
    split at h
    case isFalse => cases h
    rename_i hfl
    cases h
    obtain ⟨h2, h3⟩ := hcall f args _ n _ _ _ h1 ρ w vs hm.frz hg hargs
    refine ⟨h2, h3.mono fun e w' he => ?_⟩
    obtain ⟨v, ρ', h4, h5, h6⟩ := he
    exact ⟨v, ρ, h4, Step.quiet hm h5, flat_rel hfl h6⟩
  | k =>
    simp only at h
    split at h
    case h_2 => cases h
    rename_i r1 m1 n1 h1
    cases h
    obtain ⟨h2, h3⟩ := hcall f args _ n _ _ _ h1 ρ w vs hm.frz hg hargs
    refine ⟨h2, h3.mono fun e w' he => ?_⟩
    obtain ⟨v, ρ', h4, h5, h6⟩ := he
    rw [h5.max_n]
    exact ⟨v, ρ', h4, Step.kept hm h5, h6⟩
  | w => exact hcall f args m n _ _ _ h ρ w vs hm hg hargs
  | z g =>
    simp only [zOk, beq_iff_eq] at hz
    subst hz
    simp only at h
    split at h
    case isFalse => cases h
    rename_i hfa
    split at h
    case h_2 => cases h
    rename_i r1 m1 n1 h1
    split at h
    case isFalse => cases h
    rename_i hfl
    cases h
    have hem : MRel ρ g w (fun _ => none) := ⟨fun id b hb => (by cases hb), fun id b hb => (by cases hb), fun id b hb => (by cases hb), fun id b hb => (by cases hb), fun id b hb => (by cases hb)⟩
    obtain ⟨h2, h3⟩ := hcall f args _ g _ _ _ h1 ρ w vs hem (fun k hk => ⟨hk, (hg k hk).2⟩) (flats_rel hfa hargs)
    refine ⟨h2, h3.mono fun e w' he => ?_⟩
    obtain ⟨v, ρ', h4, h5, h6⟩ := he
    have hno : ∀ k, ¬ Own ρ (fun _ => none) k := by rintro k ⟨id, b, h, _⟩; cases h
    have hf : ∀ k, k < w.heap.size → w'.heap[k]? = w.heap[k]? := fun k hk => h5.fr.block k hk (hno k)
    have L : Le ρ n w ρ n w' := ⟨Nat.le_refl _, fun _ _ => rfl, h5.le.live⟩
    exact ⟨v, ρ, h4, ⟨L, hm.quiet hf h5.fr.size L, h5.fr.mono (fun k hk => absurd hk (hno k)), fun id b _ hb => ⟨b, hb, fun x => x⟩, fun id b q1 q2 => absurd (hm.lt id b q2) (Nat.not_lt.2 q1)⟩, flat_rel hfl h6⟩

theorem does_call {f : Nat} {vs : List Value} (hr : (execOp a.eval o).run P w = .ok (.enter f vs.toArray) w)
    (hc : Calls P f vs.toArray w (fun e w' => ∃ v ρ', e = .returned v ∧ Step ρ n w m ρ' n' w' m' ∧ RRel ρ' n' w' r v)) : Does P o a ρ n w m r m' n' := by
  intro next Q h
  unfold Oper.wp
  rw [hr, Oper.upon_enter]
  refine hc.mono fun e w' he => ?_
  obtain ⟨v, ρ', rfl, h5, h6⟩ := he
  exact h v ρ' w' h5 h6

theorem run_callFunc {f : Nat} {fn : Func} {args : Array Value} (h1 : P.funcs[f]? = some fn) (h2 : fn.body.isSome = true) (h3 : (fn.name == "runtime.NumGoroutine") = false) (w : World) : (callFunc f args).run P w = .ok (.enter f args) w := by
  have h4 : fn.body.isNone = false := by cases hb : fn.body <;> simp [hb] at h2 ⊢
  have h5 : ¬ fn.name = "runtime.NumGoroutine" := by simpa using h3
  have h6 : ¬ fn.body = none := by intro h; simp [h] at h2
  simp [callFunc, h1, h5, h6]

theorem d_call (hcall : CallOK P ng call) {c : Call} {f : Nat} {os : List O} {md : Mode} (ho : o.op = .call c) (hca : c.callee = .value (.func f)) (hargs : slimOs ng c.args.toList = some os) (hm : MRel ρ n w m) (hg : Glob ng ρ n) (he : ERel ρ n w env a)
    (hz : zOk ng md = true) (h : doCall call md f (evOs env os) m n = some (r, m', n')) : Does P o a ρ n w m r m' n' := by
  obtain ⟨⟨fn, h1, h2, h3⟩, h4⟩ := doCall_ok hcall hz h hm hg (evOs_rel hg he hargs)
  refine does_call (vs := c.args.toList.map a.eval) ?_ h4
  have h5 := run_callFunc (args := (c.args.toList.map a.eval).toArray) h1 h2 h3 w
  have h6 : (c.args.toList.map a.eval).toArray = c.args.map a.eval := by apply Array.ext'; simp
  rw [h6] at h5 ⊢
  simp [execOp, ho, resolve, hca, Act.eval, Deferred.ofValue, invoke, h5]

theorem d_callv (hcall : CallOK P ng call) {c : Call} {x : Operand} {x' : O} {f : Nat} {caps : List Cell} {os : List O} {md : Mode} (ho : o.op = .call c) (hca : c.callee = .value x) (hx : slimO ng x = some x') (hp : evO env x' = .one (.clo f caps)) (hargs : slimOs ng c.args.toList = some os) (hm : MRel ρ n w m) (hg : Glob ng ρ n) (he : ERel ρ n w env a)
    (hz : zOk ng md = true) (h : doCall call md f (evOs env os ++ caps.map .one) m n = some (r, m', n')) : Does P o a ρ n w m r m' n' := by
  have h0 := evO_rel hx hg he
  rw [hp] at h0
  obtain ⟨cv, hv, hc⟩ : ∃ vs : List Value, a.eval x = .func (.func f) #[] vs.toArray ∧ CRels ρ n w caps vs := by simpa only [RRel, CRel] using h0
  have happ : ∀ {rs : List Reg} {vs : List Value}, RRels ρ n w rs vs → RRels ρ n w (rs ++ caps.map .one) (vs ++ cv) := by
    have hcr : ∀ {cs : List Cell} {us : List Value}, CRels ρ n w cs us → RRels ρ n w (cs.map .one) us := by
      intro cs
      induction cs with
      | nil => intro us h; simpa only [CRels, List.map_nil, RRels] using h
      | cons c cs ih =>
        intro us h
        simp only [CRels] at h
        obtain ⟨v, r, h1, h2, h3⟩ := h
        simp only [List.map_cons, RRels]
        exact ⟨v, r, h1, by simpa only [RRel] using h2, ih h3⟩
    intro rs
    induction rs with
    | nil => intro vs h; simp only [RRels] at h; subst h; exact hcr hc
    | cons r rs ih =>
      intro vs h
      simp only [RRels] at h
      obtain ⟨v, us, rfl, h2, h3⟩ := h
      simp only [List.cons_append, RRels]
      exact ⟨v, us ++ cv, rfl, h2, ih h3⟩
  obtain ⟨⟨fn, h1, h2, h3⟩, h4⟩ := doCall_ok hcall hz h hm hg (happ (evOs_rel hg he hargs))
  refine does_call (vs := c.args.toList.map a.eval ++ cv) ?_ h4
  have h5 := run_callFunc (args := (c.args.toList.map a.eval ++ cv).toArray) h1 h2 h3 w
  have h6 : (c.args.toList.map a.eval ++ cv).toArray = c.args.map a.eval ++ cv.toArray := by apply Array.ext'; simp
  rw [h6] at h5 ⊢
  simp [execOp, ho, resolve, hca, hv, Deferred.ofValue, invoke, h5]
end
end Go.Proofs.Ytfhjndnempmcaaa.Sy
