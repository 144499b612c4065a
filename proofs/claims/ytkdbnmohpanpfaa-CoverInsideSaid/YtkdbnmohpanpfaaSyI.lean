/- An evaluator of a part of Go's operations over a memory of its own, part nine: calls; all operations together. Conditions: those that each theorem names. -/
import Derived.Test.YtkdbnmohpanpfaaSyH
import Derived.Laws.Externs
import Derived.KernelRfl
namespace Go.Proofs.Ytkdbnmohpanpfaa.Sy
open Go
set_option linter.unusedVariables false
set_option linter.unusedSimpArgs false

section
variable {P : Program} {ρ : Loc} {n : Nat} {w : World} {m : Mem} {o : Oper} {a : Act} {ng : Nat} {env : Nat → Reg}

theorem minI_rel {kd : IntKind} {k : Int} : ∀ {rs : List Reg} {vs : List Value} {v : Int}, RRels ρ n w rs vs → minI k rs = some v → (vs.foldlM Builtin.min2 (.int kd k) : Sem Value) = pure (.int kd v)
  | [], vs, v, h, hv => by
    simp only [RRels] at h; subst h
    simp only [minI, Option.some.injEq] at hv; subst hv; rfl
  | r :: rs, vs, v, h, hv => by
    simp only [RRels] at h
    obtain ⟨u, us, rfl, h2, h3⟩ := h
    unfold minI at hv
    split at hv
    · rename_i heq; cases heq
    · rename_i a kk b r' heq
      cases heq
      have := sc_inv h2
      subst this
      have ih := minI_rel (kd := kd) h3 hv
      simpa [List.foldlM_cons, Builtin.min2] using ih
    · cases hv

theorem maxI_rel {kd : IntKind} {k : Int} : ∀ {rs : List Reg} {vs : List Value} {v : Int}, RRels ρ n w rs vs → maxI k rs = some v → (vs.foldlM Builtin.max2 (.int kd k) : Sem Value) = pure (.int kd v)
  | [], vs, v, h, hv => by
    simp only [RRels] at h; subst h
    simp only [maxI, Option.some.injEq] at hv; subst hv; rfl
  | r :: rs, vs, v, h, hv => by
    simp only [RRels] at h
    obtain ⟨u, us, rfl, h2, h3⟩ := h
    unfold maxI at hv
    split at hv
    · rename_i heq; cases heq
    · rename_i a kk b r' heq
      cases heq
      have := sc_inv h2
      subst this
      have ih := maxI_rel (kd := kd) h3 hv
      simpa [List.foldlM_cons, Builtin.max2] using ih
    · cases hv

theorem d_mn {c : Call} {os : List O} {kd : IntKind} {k v : Int} {rs : List Reg} (ho : o.op = .call c) (hca : c.callee = .builtin .min) (hargs : slimOs ng c.args.toList = some os) (hm : MRel ρ n w m) (hg : Glob ng ρ n) (he : ERel ρ n w env a)
    (hp : evOs env os = .one (.sc (.int kd k)) :: rs) (hv : minI k rs = some v) : Does P o a ρ n w m (.one (.sc (.int kd v))) m n := by
  have h1 := evOs_rel hg he hargs
  rw [hp] at h1
  simp only [RRels] at h1
  obtain ⟨u, us, h2, h3, h4⟩ := h1
  have := sc_inv h3
  subst this
  have h5 := minI_rel (kd := kd) h4 hv
  refine does_same (v := .int kd v) ?_ hm (by simp [RRel, CRel, Value.oneCell'])
  simp [execOp, ho, resolve, hca, invoke, builtin, Builtin.min_, h2, h5]

theorem d_mx {c : Call} {os : List O} {kd : IntKind} {k v : Int} {rs : List Reg} (ho : o.op = .call c) (hca : c.callee = .builtin .max) (hargs : slimOs ng c.args.toList = some os) (hm : MRel ρ n w m) (hg : Glob ng ρ n) (he : ERel ρ n w env a)
    (hp : evOs env os = .one (.sc (.int kd k)) :: rs) (hv : maxI k rs = some v) : Does P o a ρ n w m (.one (.sc (.int kd v))) m n := by
  have h1 := evOs_rel hg he hargs
  rw [hp] at h1
  simp only [RRels] at h1
  obtain ⟨u, us, h2, h3, h4⟩ := h1
  have := sc_inv h3
  subst this
  have h5 := maxI_rel (kd := kd) h4 hv
  refine does_same (v := .int kd v) ?_ hm (by simp [RRel, CRel, Value.oneCell'])
  simp [execOp, ho, resolve, hca, invoke, builtin, Builtin.max_, h2, h5]

def nilV : Value → Option Bool
  | .slice (some _) _ _ => some false
  | .slice none _ _ => some true
  | .func _ _ _ => some false
  | .pointer (some _) => some false
  | _ => none

theorem d_eqnil {op : BinOp} {t t2 : TypeId} {x y : Operand} {b : Bool} {yv : Value} {d : TypeDesc} (ho : o.op = .binOp op t x y t2) (hm : MRel ρ n w m) (hop : op = .eql ∨ op = .neq) (hu : P.underlying t = some d)
    (hy : a.eval y = yv) (hk : (∃ e, d = .slice e ∧ yv = .slice none 0 0 ∧ ∃ ad l c, a.eval x = .slice ad l c ∧ b = ad.isNone) ∨ (∃ p r v, d = .func p r v ∧ yv = .nilFunc ∧ ∃ f1 f2 f3, a.eval x = .func f1 f2 f3 ∧ b = false) ∨ (∃ e, d = .pointer e ∧ yv = .pointer none ∧ ∃ ad, a.eval x = .pointer ad ∧ b = ad.isNone)) :
    Does P o a ρ n w m (.one (.sc (.bool (b != (op == .neq))))) m n := by
  have heq : (Op.equal t (a.eval x) yv).run P w = .ok b w ∧ (eqGuard op t x y (a.eval x) yv).run P w = .ok () w ∧ (binOp op t (a.eval x) yv).run P w = .ok (.bool (b != (op == .neq))) w := by
    have h1 : ∀ dd, (Op.equalIn (dd + 1) t (a.eval x) yv).run P w = .ok b w := by
      intro dd
      rcases hk with ⟨e, rfl, rfl, ad, l, c, hx, rfl⟩ | ⟨p, r, v, rfl, rfl, f1, f2, f3, hx, rfl⟩ | ⟨e, rfl, rfl, ad, hx, rfl⟩
      · rw [hx]; cases ad <;> simp [Op.equalIn, run_underlying hu]
      · rw [hx]; simp [Op.equalIn, run_underlying hu]
      · rw [hx]; cases ad <;> simp [Op.equalIn, run_underlying hu]
    have h2 : (Op.equal t (a.eval x) yv).run P w = .ok b w := h1 9999
    refine ⟨h2, ?_, ?_⟩
    · rcases hk with ⟨e, rfl, rfl, ad, l, c, hx, rfl⟩ | ⟨p, r, v, rfl, rfl, f1, f2, f3, hx, rfl⟩ | ⟨e, rfl, rfl, ad, hx, rfl⟩ <;> rw [hx] <;> rcases hop with rfl | rfl <;> simp [eqGuard]
    · rcases hk with ⟨e, rfl, rfl, ad, l, c, hx, rfl⟩ | ⟨p, r, v, rfl, rfl, f1, f2, f3, hx, rfl⟩ | ⟨e, rfl, rfl, ad, hx, rfl⟩ <;> rw [hx] at h2 ⊢ <;> rcases hop with rfl | rfl <;> first | (simp [binOp, h2]; done) | (simp [binOp, h2]; cases ad <;> rfl)
  refine does_same (v := .bool (b != (op == .neq))) ?_ hm (by simp [RRel, CRel, Value.oneCell'])
  simp [execOp, ho, hy, heq.2.1, heq.2.2]
end

/-! ### calls -/
def CallOK (P : Program) (ng : Nat) (call : Callf) : Prop :=
  ∀ f args m n r m' n', call f args m n = some (r, m', n') → ∀ ρ w vs, MRel ρ n w m → Glob ng ρ n → RRels ρ n w args vs →
    (∃ fn, P.funcs[f]? = some fn ∧ fn.body.isSome = true ∧ (fn.name == "runtime.NumGoroutine") = false) ∧
    Calls P f vs.toArray w (fun e w' => ∃ v ρ', e = .returned v ∧ Step ρ n w m ρ' n' w' m' ∧ RRel ρ' n' w' r v)

section
variable {ρ ρ' : Loc} {n n' : Nat} {w w' : World} {m m' : Mem}

theorem flat_cells : ∀ {cs : List Cell} {vs : List Value}, cs.all Cell.flat = true → CRels ρ n w cs vs → CRels ρ' n' w' cs vs
  | [], vs, _, h => by simpa only [CRels] using h
  | c :: cs, vs, hf, h => by
    simp only [List.all_cons, Bool.and_eq_true] at hf
    simp only [CRels] at h ⊢
    obtain ⟨v, r, h1, h2, h3⟩ := h
    refine ⟨v, r, h1, ?_, flat_cells hf.2 h3⟩
    cases c <;> first | (simpa only [CRel] using h2) | (simp [Cell.flat] at hf)

mutual
theorem flat_rel : ∀ {r : Reg} {v : Value}, r.flat = true → RRel ρ n w r v → RRel ρ' n' w' r v
  | .one c, v, hf, h => by
    simp only [RRel] at h ⊢
    cases c <;> first | (simpa only [CRel] using h) | (simp [Reg.flat, Cell.flat] at hf)
  | .agg cs, v, hf, h => by
    simp only [RRel] at h ⊢
    obtain ⟨vs, h1, h2⟩ := h
    exact ⟨vs, h1, flat_cells (by simpa only [Reg.flat] using hf) h2⟩
  | .tup rs, v, hf, h => by
    simp only [RRel] at h ⊢
    obtain ⟨vs, h1, h2⟩ := h
    exact ⟨vs, h1, flats_rel (by simpa only [Reg.flat] using hf) h2⟩
theorem flats_rel : ∀ {rs : List Reg} {vs : List Value}, flats rs = true → RRels ρ n w rs vs → RRels ρ' n' w' rs vs
  | [], vs, _, h => by simpa only [RRels] using h
  | c :: cs, vs, hf, h => by
    simp only [flats, Bool.and_eq_true] at hf
    simp only [RRels] at h ⊢
    obtain ⟨v, r, h1, h2, h3⟩ := h
    exact ⟨v, r, h1, flat_rel hf.1 h2, flats_rel hf.2 h3⟩
end

theorem frz_own {k : Nat} : ¬ Own ρ (frz m) k := by
  rintro ⟨id, b, h1, h2, _⟩
  unfold frz at h1
  obtain ⟨b0, _, rfl⟩ := Option.map_eq_some_iff.1 h1
  cases h2

theorem MRel.frz (h : MRel ρ n w m) : MRel ρ n w (frz m) := h.sub (fun id b hb => by
  unfold Sy.frz at hb
  obtain ⟨b0, h1, rfl⟩ := Option.map_eq_some_iff.1 hb
  exact ⟨b0, h1, rfl, fun h => by cases h⟩)

/-- Where no old block has turned, what was there is there. -/
theorem MRel.quiet (h : MRel ρ n w m) (hf : ∀ k, k < w.heap.size → w'.heap[k]? = w.heap[k]?) (hs : w.heap.size ≤ w'.heap.size) (L : Le ρ n w ρ n w') : MRel ρ n w' m where
  lt := h.lt
  blk := fun id b hb => Nat.lt_of_lt_of_le (h.blk id b hb) hs
  cells := fun id b hb i c hc => by
    obtain ⟨v, h1, h2⟩ := h.cells id b hb i c hc
    exact ⟨v, by rw [World.cell?_of_block (w := w) (hf _ (h.blk id b hb))]; exact h1, CRel.mono L _ _ h2⟩
  soft := fun id b hb ho o => by
    rw [World.frozen?_of_block (w := w) (hf _ (h.blk id b hb))]; exact h.soft id b hb ho o
  apart := h.apart

theorem Step.quiet (h : MRel ρ n w m) (hst : Step ρ n w (frz m) ρ' n' w' m') : Step ρ n w m ρ n w' m := by
  have hf : ∀ k, k < w.heap.size → w'.heap[k]? = w.heap[k]? := fun k hk => hst.fr.block k hk frz_own
  have L : Le ρ n w ρ n w' := ⟨Nat.le_refl _, fun _ _ => rfl, hst.le.live⟩
  exact ⟨L, h.quiet hf hst.fr.size L, hst.fr.mono (fun k hk => absurd hk frz_own), fun id b _ hb => ⟨b, hb, fun x => x⟩, fun id b h1 h2 => absurd (h.lt id b h2) (Nat.not_lt.2 h1)⟩

theorem Step.kept (h : MRel ρ n w m) (hst : Step ρ n w (frz m) ρ' n' w' m') : Step ρ n w m ρ' n' w' (unfrz m n m') := by
  have hf : ∀ k, k < w.heap.size → w'.heap[k]? = w.heap[k]? := fun k hk => hst.fr.block k hk frz_own
  have L : Le ρ n w ρ n w' := ⟨Nat.le_refl _, fun _ _ => rfl, hst.le.live⟩
  have hq := h.quiet hf hst.fr.size L
  have hcase : ∀ id b, unfrz m n m' id = some b → (id < n ∧ m id = some b) ∨ (n ≤ id ∧ m' id = some b) := fun id b hb => by
    unfold unfrz at hb
    split at hb
    · rename_i hlt; exact Or.inl ⟨hlt, hb⟩
    · rename_i hge; exact Or.inr ⟨Nat.le_of_not_lt hge, hb⟩
  have L2 : Le ρ n w' ρ' n' w' := ⟨hst.le.le, hst.le.loc, fun _ h => h⟩
  refine ⟨hst.le, ⟨?_, ?_, ?_, ?_, ?_⟩, hst.fr.mono (fun k hk => absurd hk frz_own), ?_, ?_⟩
  · intro id b hb
    rcases hcase id b hb with ⟨h1, h2⟩ | ⟨h1, h2⟩
    · exact Nat.lt_of_lt_of_le h1 hst.le.le
    · exact hst.rel.lt id b h2
  · intro id b hb
    rcases hcase id b hb with ⟨h1, h2⟩ | ⟨h1, h2⟩
    · rw [hst.le.loc id h1]; exact hq.blk id b h2
    · exact hst.rel.blk id b h2
  · intro id b hb i c hc
    rcases hcase id b hb with ⟨h1, h2⟩ | ⟨h1, h2⟩
    · rw [hst.le.loc id h1]
      obtain ⟨v, h3, h4⟩ := hq.cells id b h2 i c hc
      exact ⟨v, h3, CRel.mono L2 _ _ h4⟩
    · exact hst.rel.cells id b h2 i c hc
  · intro id b hb ho o
    rcases hcase id b hb with ⟨h1, h2⟩ | ⟨h1, h2⟩
    · rw [hst.le.loc id h1]; exact hq.soft id b h2 ho o
    · exact hst.rel.soft id b h2 ho o
  · intro id b hb ho id' b' hb' hne
    rcases hcase id b hb with ⟨h1, h2⟩ | ⟨h1, h2⟩
    · rcases hcase id' b' hb' with ⟨h3, h4⟩ | ⟨h3, h4⟩
      · rw [hst.le.loc id h1, hst.le.loc id' h3]; exact h.apart id b h2 ho id' b' h4 hne
      · rw [hst.le.loc id h1]
        have := h.blk id b h2
        rcases hst.fresh id' b' h3 h4 with h5 | h5
        · omega
        · exact absurd h5 frz_own
    · rcases hcase id' b' hb' with ⟨h3, h4⟩ | ⟨h3, h4⟩
      · rw [hst.le.loc id' h3]
        have := h.blk id' b' h4
        rcases hst.fresh id b h1 h2 with h5 | h5
        · omega
        · exact absurd h5 frz_own
      · exact hst.rel.apart id b h2 ho id' b' h4 hne
  · intro id b hi hb
    rcases hcase id b hb with ⟨h1, h2⟩ | ⟨h1, h2⟩
    · exact ⟨b, h2, fun x => x⟩
    · omega
  · intro id b hi hb
    rcases hcase id b hb with ⟨h1, h2⟩ | ⟨h1, h2⟩
    · omega
    · rcases hst.fresh id b h1 h2 with h5 | h5
      · exact Or.inl h5
      · exact absurd h5 frz_own
end

section
variable {P : Program} {ρ : Loc} {n n' : Nat} {w : World} {m m' : Mem} {o : Oper} {a : Act} {ng : Nat} {env : Nat → Reg} {call : Callf} {r : Reg}

theorem Step.max_n {ρ' : Loc} {w' : World} (h : Step ρ n w m ρ' n' w' m') : max n n' = n' := Nat.max_eq_right h.le.le

theorem doCall_ok (hcall : CallOK P ng call) {md : Mode} (hz : zOk ng md = true) {f : Nat} {args : List Reg} {vs : List Value} (h : doCall call md f args m n = some (r, m', n')) (hm : MRel ρ n w m) (hg : Glob ng ρ n) (hargs : RRels ρ n w args vs) :
    (∃ fn, P.funcs[f]? = some fn ∧ fn.body.isSome = true ∧ (fn.name == "runtime.NumGoroutine") = false) ∧
    Calls P f vs.toArray w (fun e w' => ∃ v ρ', e = .returned v ∧ Step ρ n w m ρ' n' w' m' ∧ RRel ρ' n' w' r v) := by
  unfold doCall at h
  cases md with
  | q =>
    simp only at h
    split at h
    case h_2 => cases h
    rename_i r1 m1 n1 h1
    split at h
    case isFalse => cases h
    rename_i hfl
    cases h
    obtain ⟨h2, h3⟩ := hcall f args _ n _ _ _ h1 ρ w vs hm.frz hg hargs
    refine ⟨h2, h3.mono fun e w' he => ?_⟩
    obtain ⟨v, ρ', h4, h5, h6⟩ := he
    exact ⟨v, ρ, h4, Step.quiet hm h5, flat_rel hfl h6⟩
  | k =>
    simp only at h
    split at h
    case h_2 => cases h
    rename_i r1 m1 n1 h1
    cases h
    obtain ⟨h2, h3⟩ := hcall f args _ n _ _ _ h1 ρ w vs hm.frz hg hargs
    refine ⟨h2, h3.mono fun e w' he => ?_⟩
    obtain ⟨v, ρ', h4, h5, h6⟩ := he
    rw [h5.max_n]
    exact ⟨v, ρ', h4, Step.kept hm h5, h6⟩
  | w => exact hcall f args m n _ _ _ h ρ w vs hm hg hargs
  | t =>
    simp only [zOk, beq_iff_eq] at hz
    subst hz
    simp only at h
    split at h
    case h_2 => cases h
    rename_i b hb
    split at h
    case isFalse => cases h
    rename_i hfa
    split at h
    case h_2 => cases h
    rename_i r1 m1 n1 h1
    split at h
    case isFalse => cases h
    rename_i hfl
    cases h
    have htab : ∀ id c, tabM b.cells id = some c → id = 0 ∧ c = ⟨b.cells, false⟩ := fun id c hc => by
      unfold tabM upd at hc
      split at hc
      · rename_i e; cases hc; exact ⟨e, rfl⟩
      · cases hc
    have hno : ∀ k, ¬ Own ρ (tabM b.cells) k := by
      rintro k ⟨id, c, h, h2, _⟩
      obtain ⟨_, rfl⟩ := htab id c h
      cases h2
    have hem : MRel ρ 1 w (tabM b.cells) := by
      refine ⟨fun id c hc => ?_, fun id c hc => ?_, fun id c hc i x hx => ?_, fun id c hc ho => ?_, fun id c hc ho => ?_⟩
      · obtain ⟨rfl, _⟩ := htab id c hc; omega
      · obtain ⟨rfl, _⟩ := htab id c hc; exact hm.blk 0 b hb
      · obtain ⟨rfl, rfl⟩ := htab id c hc
        obtain ⟨v, q1, q2⟩ := hm.cells 0 b hb i x hx
        have hfx := List.all_eq_true.1 hfa.2 x (List.mem_of_getElem? hx)
        refine ⟨v, q1, ?_⟩
        cases x <;> first | (simp [Cell.flat] at hfx; done) | simpa only [CRel] using q2
      · obtain ⟨rfl, rfl⟩ := htab id c hc; cases ho
      · obtain ⟨rfl, rfl⟩ := htab id c hc; cases ho
    obtain ⟨h2, h3⟩ := hcall f args _ 1 _ _ _ h1 ρ w vs hem (fun k hk => ⟨hk, (hg k hk).2⟩) (flats_rel hfa.1 hargs)
    refine ⟨h2, h3.mono fun e w' he => ?_⟩
    obtain ⟨v, ρ', h4, h5, h6⟩ := he
    have hf : ∀ k, k < w.heap.size → w'.heap[k]? = w.heap[k]? := fun k hk => h5.fr.block k hk (hno k)
    have L : Le ρ n w ρ n w' := ⟨Nat.le_refl _, fun _ _ => rfl, h5.le.live⟩
    exact ⟨v, ρ, h4, ⟨L, hm.quiet hf h5.fr.size L, h5.fr.mono (fun k hk => absurd hk (hno k)), fun id b _ hb => ⟨b, hb, fun x => x⟩, fun id b q1 q2 => absurd (hm.lt id b q2) (Nat.not_lt.2 q1)⟩, flat_rel hfl h6⟩
  | z g =>
    simp only [zOk, beq_iff_eq] at hz
    subst hz
    simp only at h
    split at h
    case isFalse => cases h
    rename_i hfa
    split at h
    case h_2 => cases h
    rename_i r1 m1 n1 h1
    split at h
    case isFalse => cases h
    rename_i hfl
    cases h
    have hem : MRel ρ g w (fun _ => none) := ⟨fun id b hb => (by cases hb), fun id b hb => (by cases hb), fun id b hb => (by cases hb), fun id b hb => (by cases hb), fun id b hb => (by cases hb)⟩
    obtain ⟨h2, h3⟩ := hcall f args _ g _ _ _ h1 ρ w vs hem (fun k hk => ⟨hk, (hg k hk).2⟩) (flats_rel hfa hargs)
    refine ⟨h2, h3.mono fun e w' he => ?_⟩
    obtain ⟨v, ρ', h4, h5, h6⟩ := he
    have hno : ∀ k, ¬ Own ρ (fun _ => none) k := by rintro k ⟨id, b, h, _⟩; cases h
    have hf : ∀ k, k < w.heap.size → w'.heap[k]? = w.heap[k]? := fun k hk => h5.fr.block k hk (hno k)
    have L : Le ρ n w ρ n w' := ⟨Nat.le_refl _, fun _ _ => rfl, h5.le.live⟩
    exact ⟨v, ρ, h4, ⟨L, hm.quiet hf h5.fr.size L, h5.fr.mono (fun k hk => absurd hk (hno k)), fun id b _ hb => ⟨b, hb, fun x => x⟩, fun id b q1 q2 => absurd (hm.lt id b q2) (Nat.not_lt.2 q1)⟩, flat_rel hfl h6⟩

theorem does_call {f : Nat} {vs : List Value} (hr : (execOp a.eval o).run P w = .ok (.enter f vs.toArray) w)
    (hc : Calls P f vs.toArray w (fun e w' => ∃ v ρ', e = .returned v ∧ Step ρ n w m ρ' n' w' m' ∧ RRel ρ' n' w' r v)) : Does P o a ρ n w m r m' n' := by
  intro F nf _ next Q hsem h
  refine ⟨fun f _ => Wide.fn f, ?_⟩
  rw [hsem, hr, Oper.uponIn_enter]
  refine ⟨fun hd => absurd hd (by rw [Wide.depth]; simp), CallsIn.mono (Wide.calls hc) fun e w' he => ?_⟩
  obtain ⟨v, ρ', rfl, h5, h6⟩ := he
  exact h v ρ' w' h5 h6

theorem run_callFunc {f : Nat} {fn : Func} {args : Array Value} (h1 : P.funcs[f]? = some fn) (h2 : fn.body.isSome = true) (h3 : (fn.name == "runtime.NumGoroutine") = false) (w : World) : (callFunc f args).run P w = .ok (.enter f args) w := by
  have h4 : fn.body.isNone = false := by cases hb : fn.body <;> simp [hb] at h2 ⊢
  have h5 : ¬ fn.name = "runtime.NumGoroutine" := by simpa using h3
  have h6 : ¬ fn.body = none := by intro h; simp [h] at h2
  simp [callFunc, h1, h5, h6]

theorem d_call (hcall : CallOK P ng call) {c : Call} {f : Nat} {os : List O} {md : Mode} (ho : o.op = .call c) (hca : c.callee = .value (.func f)) (hargs : slimOs ng c.args.toList = some os) (hm : MRel ρ n w m) (hg : Glob ng ρ n) (he : ERel ρ n w env a)
    (hz : zOk ng md = true) (h : doCall call md f (evOs env os) m n = some (r, m', n')) : Does P o a ρ n w m r m' n' := by
  obtain ⟨⟨fn, h1, h2, h3⟩, h4⟩ := doCall_ok hcall hz h hm hg (evOs_rel hg he hargs)
  refine does_call (vs := c.args.toList.map a.eval) ?_ h4
  have h5 := run_callFunc (args := (c.args.toList.map a.eval).toArray) h1 h2 h3 w
  have h6 : (c.args.toList.map a.eval).toArray = c.args.map a.eval := by apply Array.ext'; simp
  rw [h6] at h5 ⊢
  simp [execOp, ho, resolve, hca, Act.eval, Deferred.ofValue, invoke, h5]

theorem d_callv (hcall : CallOK P ng call) {c : Call} {x : Operand} {x' : O} {f : Nat} {caps : List Cell} {os : List O} {md : Mode} (ho : o.op = .call c) (hca : c.callee = .value x) (hx : slimO ng x = some x') (hp : evO env x' = .one (.clo f caps)) (hargs : slimOs ng c.args.toList = some os) (hm : MRel ρ n w m) (hg : Glob ng ρ n) (he : ERel ρ n w env a)
    (hz : zOk ng md = true) (h : doCall call md f (evOs env os ++ caps.map .one) m n = some (r, m', n')) : Does P o a ρ n w m r m' n' := by
  have h0 := evO_rel hx hg he
  rw [hp] at h0
  obtain ⟨cv, hv, hc⟩ : ∃ vs : List Value, a.eval x = .func (.func f) #[] vs.toArray ∧ CRels ρ n w caps vs := by simpa only [RRel, CRel] using h0
  have happ : ∀ {rs : List Reg} {vs : List Value}, RRels ρ n w rs vs → RRels ρ n w (rs ++ caps.map .one) (vs ++ cv) := by
    have hcr : ∀ {cs : List Cell} {us : List Value}, CRels ρ n w cs us → RRels ρ n w (cs.map .one) us := by
      intro cs
      induction cs with
      | nil => intro us h; simpa only [CRels, List.map_nil, RRels] using h
      | cons c cs ih =>
        intro us h
        simp only [CRels] at h
        obtain ⟨v, r, h1, h2, h3⟩ := h
        simp only [List.map_cons, RRels]
        exact ⟨v, r, h1, by simpa only [RRel] using h2, ih h3⟩
    intro rs
    induction rs with
    | nil => intro vs h; simp only [RRels] at h; subst h; exact hcr hc
    | cons r rs ih =>
      intro vs h
      simp only [RRels] at h
      obtain ⟨v, us, rfl, h2, h3⟩ := h
      simp only [List.cons_append, RRels]
      exact ⟨v, us ++ cv, rfl, h2, ih h3⟩
  obtain ⟨⟨fn, h1, h2, h3⟩, h4⟩ := doCall_ok hcall hz h hm hg (happ (evOs_rel hg he hargs))
  refine does_call (vs := c.args.toList.map a.eval ++ cv) ?_ h4
  have h5 := run_callFunc (args := (c.args.toList.map a.eval ++ cv).toArray) h1 h2 h3 w
  have h6 : (c.args.toList.map a.eval ++ cv).toArray = c.args.map a.eval ++ cv.toArray := by apply Array.ext'; simp
  rw [h6] at h5 ⊢
  simp [execOp, ho, resolve, hca, hv, Deferred.ofValue, invoke, h5]
/-! ### math/bits' sums with a carry -/
theorem look_add : (Extern.allNextRows.lookup "math/bits.Add64").isNone = true ∧ (Extern.allNextRows.lookup "math/bits.Sub64").isNone = true ∧ (Extern.allNextRows.lookup "").isNone = true := ⟨by kernel_rfl, by kernel_rfl, by kernel_rfl⟩
theorem look_gen : ((Extern.allGenericRows.lookup "math/bits.Add64").isNone = true ∧ (Extern.allTypedRows.lookup "math/bits.Add64").isNone = true) ∧ (Extern.allGenericRows.lookup "math/bits.Sub64").isNone = true ∧ (Extern.allTypedRows.lookup "math/bits.Sub64").isNone = true := ⟨⟨by kernel_rfl, by kernel_rfl⟩, by kernel_rfl, by kernel_rfl⟩
def addE : Array Value → Sem Value := fun args => do
  let (x, y, c) ← Extern.MathBitsCarry.three "Add64" args
  pure (Extern.MathBitsCarry.pair ((x + y + c) % Extern.MathBitsCarry.m64) ((x + y + c) / Extern.MathBitsCarry.m64))
def subE : Array Value → Sem Value := fun args => do
  let (x, y, b) ← Extern.MathBitsCarry.three "Sub64" args
  pure (Extern.MathBitsCarry.pair ((x + Extern.MathBitsCarry.m64 - y - b) % Extern.MathBitsCarry.m64) (if x < y + b then 1 else 0))
theorem look_addE : Extern.allRows.lookup "math/bits.Add64" = some addE := by kernel_rfl
theorem look_subE : Extern.allRows.lookup "math/bits.Sub64" = some subE := by kernel_rfl
theorem run_addE (x y c : Nat) (hc : c ≤ 1) (w : World) : (addE #[.int .u64 x, .int .u64 y, .int .u64 c]).run P w = .ok (.tuple #[.int .u64 (((x + y + c) % 18446744073709551616 : Nat) : Int), .int .u64 (((x + y + c) / 18446744073709551616 : Nat) : Int)]) w := by
  have : c = 0 ∨ c = 1 := by omega
  rcases this with rfl | rfl <;> rfl
theorem run_subE (x y b : Nat) (hb : b ≤ 1) (w : World) : (subE #[.int .u64 x, .int .u64 y, .int .u64 b]).run P w = .ok (.tuple #[.int .u64 (((x + 18446744073709551616 - y - b) % 18446744073709551616 : Nat) : Int), .int .u64 ((if x < y + b then 1 else 0 : Nat) : Int)]) w := by
  have : b = 0 ∨ b = 1 := by omega
  rcases this with rfl | rfl <;> rfl

def carryV (x y c : Nat) : Bool → Reg
  | false => .tup [.one (.sc (.int .u64 (((x + y + c) % 18446744073709551616 : Nat) : Int))), .one (.sc (.int .u64 (((x + y + c) / 18446744073709551616 : Nat) : Int)))]
  | true => .tup [.one (.sc (.int .u64 (((x + 18446744073709551616 - y - c) % 18446744073709551616 : Nat) : Int))), .one (.sc (.int .u64 ((if x < y + c then 1 else 0 : Nat) : Int)))]
theorem carryR_inv {sub : Bool} {rs : List Reg} {r : Reg} (h : carryR sub rs = some r) : ∃ x y c : Nat, rs = [.one (.sc (.int .u64 x)), .one (.sc (.int .u64 y)), .one (.sc (.int .u64 c))] ∧ x < 18446744073709551616 ∧ y < 18446744073709551616 ∧ c ≤ 1 ∧
    r = carryV x y c sub := by
  unfold carryR at h
  split at h
  case h_2 => cases h
  rename_i x y c
  by_cases hh : 0 ≤ x ∧ x < 18446744073709551616 ∧ 0 ≤ y ∧ y < 18446744073709551616 ∧ (c = 0 ∨ c = 1)
  case neg => rw [if_neg hh] at h; cases h
  rw [if_pos hh] at h
  obtain ⟨h1, h2, h3, h4, h5⟩ := hh
  obtain ⟨x, rfl⟩ := Int.eq_ofNat_of_zero_le h1
  obtain ⟨y, rfl⟩ := Int.eq_ofNat_of_zero_le h3
  obtain ⟨c, rfl⟩ := Int.eq_ofNat_of_zero_le (show 0 ≤ c by omega)
  refine ⟨x, y, c, rfl, by omega, by omega, by omega, ?_⟩
  cases sub
  · simp only [Option.some.injEq] at h
    exact h.symm
  · simp only [Option.some.injEq] at h
    rw [← h]
    have e1 : ((x : Int) - (y : Int) - (c : Int)) % 18446744073709551616 = (((x + 18446744073709551616 - y - c) % 18446744073709551616 : Nat) : Int) := by omega
    have e2 : (if (x : Int) < (y : Int) + (c : Int) then (1 : Int) else 0) = ((if x < y + c then 1 else 0 : Nat) : Int) := by split <;> split <;> first | rfl | (exfalso; omega)
    rw [e1, e2]
    rfl

def carryN : Bool → String
  | false => "math/bits.Add64"
  | true => "math/bits.Sub64"
def carryE : Bool → Array Value → Sem Value
  | false => addE
  | true => subE
theorem d_carry {c : Call} {f : Nat} {fn : Func} {os : List O} {sub : Bool} (ho : o.op = .call c) (hca : c.callee = .value (.func f)) (hargs : slimOs ng c.args.toList = some os) (hf : P.funcs[f]? = some fn) (hb : fn.body.isNone = true)
    (hn : fn.name = carryN sub) (horg : fn.origin = "") (hm : MRel ρ n w m) (hg : Glob ng ρ n) (he : ERel ρ n w env a) (h : carryR sub (evOs env os) = some r) : Does P o a ρ n w m r m n := by
  obtain ⟨x, y, k, hrs, h1, h2, h3, rfl⟩ := carryR_inv h
  have hrel := evOs_rel hg he hargs
  rw [hrs] at hrel
  simp only [RRels, RRel, CRel] at hrel
  obtain ⟨_, _, hv, ⟨rfl, _⟩, _, _, rfl, ⟨rfl, _⟩, _, _, rfl, ⟨rfl, _⟩, rfl⟩ := hrel
  have hv2 : c.args.map a.eval = #[.int .u64 x, .int .u64 y, .int .u64 k] := by apply Array.ext'; simpa using hv
  have h4 : (fn.name == "runtime.NumGoroutine") = false := by rw [hn]; cases sub <;> rfl
  have h5 : Extern.findNext fn = none := by
    unfold Extern.findNext
    have e0 := Option.isNone_iff_eq_none.1 look_add.2.2
    have e1 := Option.isNone_iff_eq_none.1 look_add.1
    have e2 := Option.isNone_iff_eq_none.1 look_add.2.1
    rw [hn, horg]
    cases sub
    · simp only [carryN, e0, e1, Option.map_none]; rfl
    · simp only [carryN, e0, e2, Option.map_none]; rfl
  have h6 : Extern.find fn = some (carryE sub) := by
    unfold Extern.find
    have e1 := Option.isNone_iff_eq_none.1 look_gen.1.1
    have e2 := Option.isNone_iff_eq_none.1 look_gen.1.2
    have e3 := Option.isNone_iff_eq_none.1 look_gen.2.1
    have e4 := Option.isNone_iff_eq_none.1 look_gen.2.2
    rw [hn]
    cases sub
    · simp only [carryN, e1, e2, look_addE, Option.map_none]; rfl
    · simp only [carryN, e3, e4, look_subE, Option.map_none]; rfl
  have h7 := run_callFunc_extern hf h4 hb h5 h6 (c.args.map a.eval) w
  rw [hv2] at h7
  cases sub
  · simp only [carryE] at h7
    rw [run_addE (P := P) x y k h3 w] at h7
    refine does_same (v := .tuple #[.int .u64 (((x + y + k) % 18446744073709551616 : Nat) : Int), .int .u64 (((x + y + k) / 18446744073709551616 : Nat) : Int)]) ?_ hm ?_
    · simp only [Result.andThen] at h7
      simp [execOp, ho, resolve, hca, Act.eval, Deferred.ofValue, invoke, hv2, h7]
    · simp only [carryV, RRel, RRels, CRel]
      exact ⟨_, rfl, _, _, rfl, ⟨rfl, rfl⟩, _, _, rfl, ⟨rfl, rfl⟩, rfl⟩
  · simp only [carryE] at h7
    rw [run_subE (P := P) x y k h3 w] at h7
    refine does_same (v := .tuple #[.int .u64 (((x + 18446744073709551616 - y - k) % 18446744073709551616 : Nat) : Int), .int .u64 ((if x < y + k then 1 else 0 : Nat) : Int)]) ?_ hm ?_
    · simp only [Result.andThen] at h7
      simp [execOp, ho, resolve, hca, Act.eval, Deferred.ofValue, invoke, hv2, h7]
    · simp only [carryV, RRel, RRels, CRel]
      exact ⟨_, rfl, _, _, rfl, ⟨rfl, rfl⟩, _, _, rfl, ⟨rfl, rfl⟩, rfl⟩

/-! ### clear -/
theorem d_clr {t e : TypeId} {c : Call} {x : Operand} {x' : O} {s : Nat} {z : List Value} {r : Reg} {m' : Mem} {n' : Nat} (ho : o.op = .call c) (hca : c.callee = .builtin .clear) (hargs : c.args.toList = [x]) (hat : c.argTypes.toList = [t]) (hm : MRel ρ n w m) (hg : Glob ng ρ n) (he : ERel ρ n w env a)
    (hx : slimO ng x = some x') (hu : P.underlying t = some (.slice e)) (hs : tsz P e = some s) (hz : tzero P e = some z) (hzl : z.length = s) (hs0 : 0 < s)
    (hev : (match evO env x' with
      | .one (.sc (.slice none 0 0)) => some (Reg.tup [], m, n)
      | .one (.sl id off len _ sz') => if sz' = s then (if len = 0 then some (.tup [], m, n) else (wr m id off (List.replicate len (z.map Cell.sc)).flatten).map fun m' => (.tup [], m', n)) else none
      | _ => none) = some (r, m', n')) : Does P o a ρ n w m r m' n' := by
  have e1 : c.args = #[x] := Array.ext' (by simpa using hargs)
  have e2 : c.argTypes = #[t] := Array.ext' (by simpa using hat)
  have hxr := evO_rel hx hg he
  obtain ⟨i, v, hi1, hi2, hi3, hi4⟩ := tzero_inv hz
  split at hev
  · rename_i hp
    rw [hp] at hxr
    cases hev
    have hxv := nils_inv hxr
    refine does_same (v := .tuple #[]) ?_ hm (by simp only [RRel, RRels]; exact ⟨[], rfl, rfl⟩)
    simp [execOp, ho, resolve, hca, e1, e2, invoke, builtin, Builtin.clear_, run_underlying hu, hxv]
  · rename_i id off len cap sz' hp
    split at hev
    case isFalse => cases hev
    rename_i hsz
    subst hsz
    rw [hp] at hxr
    obtain ⟨hid, oo, cp, hxv, ho1, hlc, hcap, hcells⟩ := sl_inv hxr
    split at hev
    · rename_i h0
      cases hev
      subst h0
      refine does_same (v := .tuple #[]) ?_ hm (by simp only [RRel, RRels]; exact ⟨[], rfl, rfl⟩)
      simp [execOp, ho, resolve, hca, e1, e2, invoke, builtin, Builtin.clear_, run_underlying hu, hxv]
    · rename_i h0
      obtain ⟨m1, hw, hq⟩ := Option.map_eq_some_iff.1 hev
      cases hq
      have hne : cp ≠ 0 := by omega
      have ho2 := ho1 hne
      subst ho2
      have hfl : (List.replicate len (z.map Cell.sc)).flatten = (List.replicate len z).flatten.map Cell.sc := by
        clear hw h0 hev hlc hcells hcap hxv
        induction len with
        | zero => rfl
        | succ k ih => simp [List.replicate_succ, ih]
      rw [hfl] at hw
      have hrel : CRels ρ n w ((List.replicate len z).flatten.map Cell.sc) (List.replicate len z).flatten := CRels.sc _ (rep_one hi4 len)
      obtain ⟨h5, h6, h7⟩ := Step.store hm hw hrel
      have hst := run_storeCells_cells (P := P) (ρ id).1 ((ρ id).2 + off) (List.replicate len z).flatten 0 w (by simpa using h6) (by simpa using h7) (CRels.all_one _ _ hrel)
      simp only [Nat.add_zero] at hst
      have hzc : (Builtin.zeroCells v.cells len).toList = (List.replicate len z).flatten := by
        rw [hi3]
        unfold Builtin.zeroCells
        have := rep_arr z (by omega) len
        simpa using congrArg Array.toList this
      refine does_run (v := .tuple #[]) ?_ h5 (by simp only [RRel, RRels]; exact ⟨[], rfl, rfl⟩)
      have hzv := run_zeroValue' (P := P) hi1 hi2 w
      have hst2 : (storeCells ⟨(ρ id).1, (ρ id).2 + off, none⟩ (Builtin.zeroCells v.cells len).toList).run P w = .ok () (w.setCells (ρ id).1 ((ρ id).2 + off) (List.replicate len z).flatten) := by rw [hzc]; exact hst
      generalize w.setCells (ρ id).1 ((ρ id).2 + off) (List.replicate len z).flatten = W2 at *
      cases len with
      | zero => exact absurd rfl h0
      | succ l => simp [execOp, ho, resolve, hca, e1, e2, invoke, builtin, Builtin.clear_, run_underlying hu, hxv, hzv, hst2]
  · cases hev
end
end Go.Proofs.Ytkdbnmohpanpfaa.Sy
