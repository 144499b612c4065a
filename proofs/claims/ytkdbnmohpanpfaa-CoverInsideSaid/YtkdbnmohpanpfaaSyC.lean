/- An evaluator of a part of Go's operations over a memory of its own, part three: the machine does what the evaluator says, for operations on values and on cells. Conditions: those that each theorem names. -/
import Derived.Test.YtkdbnmohpanpfaaSyB
import Derived.Laws.Cells
import Derived.Laws.Entries
import Derived.ArgAppend
namespace Go.Proofs.Ytkdbnmohpanpfaa.Sy
open Go
set_option linter.unusedVariables false
set_option linter.unusedSimpArgs false

def Glob (ng : Nat) (ρ : Loc) (n : Nat) : Prop := ∀ g, g < ng → g < n ∧ ρ g = (g, 0)
theorem Glob.mono {ng : Nat} {ρ ρ' : Loc} {n n' : Nat} {w w' : World} (h : Glob ng ρ n) (L : Le ρ n w ρ' n' w') : Glob ng ρ' n' :=
  fun g hg => ⟨Nat.lt_of_lt_of_le (h g hg).1 L.le, (L.loc g (h g hg).1).trans (h g hg).2⟩

def ERel (ρ : Loc) (n : Nat) (w : World) (env : Nat → Reg) (a : Act) : Prop := ∀ t, RRel ρ n w (env t) (a.tmps.getD t undef)
theorem ERel.mono {ρ ρ' : Loc} {n n' : Nat} {w w' : World} {env : Nat → Reg} {a : Act} (h : ERel ρ n w env a) (L : Le ρ n w ρ' n' w') : ERel ρ' n' w' env a :=
  fun t => RRel.mono L _ _ (h t)

section
variable {ρ : Loc} {n : Nat} {w : World}
theorem CRels.sc : ∀ (vs : List Value), (∀ v ∈ vs, v.oneCell' = true) → CRels ρ n w (vs.map .sc) vs
  | [], _ => by simp [CRels]
  | v :: vs, h => by
    simp only [List.map_cons, CRels]
    exact ⟨v, vs, rfl, by simp only [CRel]; exact ⟨trivial, h v (by simp)⟩, CRels.sc vs (fun x hx => h x (by simp [hx]))⟩

theorem constReg_rel {v : Value} {r : Reg} (h : constReg v = some r) : RRel ρ n w r v := by
  unfold constReg at h
  split at h
  · rename_i cs
    split at h
    · rename_i hall
      cases h
      simp only [RRel]
      exact ⟨cs.toList, by simp, CRels.sc _ (fun v hv => List.all_eq_true.1 hall v hv)⟩
    · cases h
  all_goals first | (cases h; done) | (cases h; simp [RRel, CRel, Value.oneCell'])

theorem evO_rel {ng : Nat} {x : Operand} {o : O} {env : Nat → Reg} {a : Act} (hs : slimO ng x = some o) (hg : Glob ng ρ n) (he : ERel ρ n w env a) : RRel ρ n w (evO env o) (a.eval x) := by
  cases x with
  | tmp t => simp only [slimO, Option.some.injEq] at hs; subst hs; exact he t
  | const v =>
    simp only [slimO, Option.map_eq_some_iff] at hs
    obtain ⟨r, h1, rfl⟩ := hs
    exact constReg_rel h1
  | global g =>
    simp only [slimO] at hs
    split at hs
    · rename_i hlt
      cases hs
      obtain ⟨h1, h2⟩ := hg g hlt
      simp [evO, RRel, CRel, h1, h2, Act.eval]
    · cases hs
  | func f =>
    simp only [slimO, Option.some.injEq] at hs
    subst hs
    simp only [evO, RRel, CRel, Act.eval]
    exact ⟨[], rfl, by simp [CRels]⟩

theorem evOs_rel {ng : Nat} {env : Nat → Reg} {a : Act} (hg : Glob ng ρ n) (he : ERel ρ n w env a) : ∀ {xs : List Operand} {os : List O}, slimOs ng xs = some os → RRels ρ n w (evOs env os) (xs.map a.eval)
  | [], os, h => by simp only [slimOs, Option.some.injEq] at h; subst h; simp [evOs, RRels]
  | x :: xs, os, h => by
    simp only [slimOs] at h
    split at h
    · rename_i y ys h1 h2
      cases h
      simp only [evOs, RRels, List.map_cons]
      exact ⟨_, _, rfl, evO_rel h1 hg he, evOs_rel hg he h2⟩
    · cases h

theorem cs_rel {r : Reg} {v : Value} {cs : List Cell} (h : RRel ρ n w r v) (hc : r.cs? = some cs) : ∃ vs : List Value, v.cells = vs.toArray ∧ CRels ρ n w cs vs := by
  cases r with
  | one c =>
    simp only [Reg.cs?, Option.some.injEq] at hc
    subst hc
    simp only [RRel] at h
    have h1 := CRel.one _ _ h
    exact ⟨[v], by cases v <;> first | rfl | (simp [Value.oneCell'] at h1), by simp only [CRels]; exact ⟨v, [], rfl, h, rfl⟩⟩
  | agg cs' =>
    simp only [Reg.cs?, Option.some.injEq] at hc
    subst hc
    simp only [RRel] at h
    obtain ⟨vs, rfl, h2⟩ := h
    exact ⟨vs, rfl, h2⟩
  | tup rs => simp [Reg.cs?] at hc
end

/-- The fences that let all in: of a function, of a round of a range over a function. -/
class Wide (F : Fence) : Prop where
  out : F = Fence.wide ∨ ∃ l, F = Fence.wide.inRound l
instance : Wide Fence.wide := ⟨Or.inl rfl⟩
instance (l : Nat) : Wide (Fence.wide.inRound l) := ⟨Or.inr ⟨l, rfl⟩⟩
theorem Wide.fn {F : Fence} [h : Wide F] (f : FuncId) : F.fn f := by
  rcases h.out with rfl | ⟨l, rfl⟩ <;> trivial
theorem Wide.depth {F : Fence} [h : Wide F] : F.depth = none := by
  rcases h.out with rfl | ⟨l, rfl⟩ <;> rfl
theorem Wide.calls {F : Fence} [h : Wide F] {n : Nat} {P : Program} {f : FuncId} {args : Array Value} {w : World} {R : Ending → World → Prop} (hc : Calls P f args w R) : CallsIn F n P f args w R := by
  rcases h.out with rfl | ⟨l, rfl⟩
  · exact callsIn_wide.2 hc
  · exact (callsIn_wide.2 hc : CallsIn Fence.wide n P f args w R)

/-- The machine does what the evaluator says. -/
def Does (P : Program) (o : Oper) (a : Act) (ρ : Loc) (n : Nat) (w : World) (m : Mem) (r : Reg) (m' : Mem) (n' : Nat) : Prop :=
  ∀ (F : Fence) (nf : Nat) [Wide F] (next : Act → World → Prop) (Q : Exit → Act → World → Prop), (∀ rd, o.semAt rd a.eval = execOp a.eval o) →
    (∀ v ρ' w', Step ρ n w m ρ' n' w' m' → RRel ρ' n' w' r v → next (a.put o.dst v) w') → o.wpIn F nf P a w next Q

section
variable {P : Program} {o : Oper} {a : Act} {ρ ρ' : Loc} {n n' : Nat} {w w' : World} {m m' : Mem} {r : Reg}

theorem does_run {v : Value} (hr : (execOp a.eval o).run P w = .ok (.value v) w') (hs : Step ρ n w m ρ' n' w' m') (hv : RRel ρ' n' w' r v) : Does P o a ρ n w m r m' n' := by
  intro F nf _ next Q hsem h
  refine ⟨fun f _ => Wide.fn f, ?_⟩
  rw [hsem, hr]
  exact h v ρ' w' hs hv

theorem does_skip (hr : (execOp a.eval o).run P w = .ok .skip w') (hs : Step ρ n w m ρ' n' w' m') : Does P o a ρ n w m (.tup []) m' n' := by
  intro F nf _ next Q hsem h
  refine ⟨fun f _ => Wide.fn f, ?_⟩
  rw [hsem, hr]
  exact h undef ρ' w' hs (by simp only [RRel, undef]; exact ⟨[], rfl, by simp [RRels]⟩)

theorem does_same {v : Value} (hr : (execOp a.eval o).run P w = .ok (.value v) w) (hm : MRel ρ n w m) (hv : RRel ρ n w r v) : Does P o a ρ n w m r m n :=
  does_run hr (Step.refl hm) hv
end

section
variable {P : Program} {ρ : Loc} {n : Nat} {w : World} {m : Mem}

theorem Addr.add0 (b o k : Nat) : (⟨b, o, none⟩ : Addr).add k = ⟨b, o + k, none⟩ := by
  unfold Addr.add
  split
  · rename_i h; simp [h]
  · rfl

theorem rd_cells {id off k : Nat} {cs : List Cell} (hm : MRel ρ n w m) (h : rd m id off k = some cs) :
    id < n ∧ cs.length = k ∧ ∃ vs : List Value, CRels ρ n w cs vs ∧ ∀ (j : Nat) (v : Value), vs[j]? = some v → w.cell? ⟨(ρ id).1, (ρ id).2 + off + j, none⟩ = some v := by
  unfold rd at h
  split at h
  · rename_i b hb
    split at h
    · rename_i hle
      cases h
      refine ⟨hm.lt id b hb, by simp; omega, ?_⟩
      have hget : ∀ j, j < k → ∃ c, b.cells[off + j]? = some c := fun j hj => ⟨b.cells[off + j], List.getElem?_eq_getElem (by omega)⟩
      have hv : ∀ j, j < k → ∃ v, w.cell? ⟨(ρ id).1, (ρ id).2 + (off + j), none⟩ = some v := fun j hj => by
        obtain ⟨c, hc⟩ := hget j hj
        obtain ⟨v, h1, _⟩ := hm.cells id b hb _ c hc
        exact ⟨v, h1⟩
      let vs : List Value := (List.range k).map fun j => (w.cell? ⟨(ρ id).1, (ρ id).2 + (off + j), none⟩).getD undef
      refine ⟨vs, ?_, ?_⟩
      · apply CRels.of_get
        · simp [vs]; omega
        · intro i c v hc hvv
          have hi : i < k := by
            have := (List.getElem?_eq_some_iff.1 hvv).1
            simpa [vs] using this
          have hc' : b.cells[off + i]? = some c := by
            rw [List.getElem?_take_of_lt hi, List.getElem?_drop] at hc
            exact hc
          obtain ⟨v', h1, h2⟩ := hm.cells id b hb _ c hc'
          have : v = v' := by
            simp [vs, List.getElem?_range hi, h1] at hvv
            exact hvv.symm
          rw [this]; exact h2
      · intro j v hj
        have hjk : j < k := by
          have := (List.getElem?_eq_some_iff.1 hj).1
          simpa [vs] using this
        obtain ⟨v', h1⟩ := hv j hjk
        have : v = v' := by
          simp [vs, List.getElem?_range hjk, h1] at hj
          exact hj.symm
        rw [this, Nat.add_assoc]; exact h1
    · cases h
  · cases h

theorem run_loadCells_rd {id off k : Nat} {cs : List Cell} (hm : MRel ρ n w m) (h : rd m id off k = some cs) :
    ∃ vs : List Value, CRels ρ n w cs vs ∧ vs.length = k ∧ (∀ (j : Nat) (v : Value), vs[j]? = some v → w.cell? ((⟨(ρ id).1, (ρ id).2 + off, none⟩ : Addr).add j) = some v) ∧ (loadCells ⟨(ρ id).1, (ρ id).2 + off, none⟩ k).run P w = .ok vs.toArray w := by
  obtain ⟨h1, h2, vs, h3, h4⟩ := rd_cells hm h
  have hl : vs.length = k := (CRels.length _ _ h3).trans h2
  have h5 : ∀ (j : Nat) (v : Value), vs[j]? = some v → w.cell? ((⟨(ρ id).1, (ρ id).2 + off, none⟩ : Addr).add j) = some v := fun j v hj => by
    rw [Addr.add0]; exact h4 j v hj
  refine ⟨vs, h3, hl, h5, ?_⟩
  have := run_loadCells_list (P := P) w ⟨(ρ id).1, (ρ id).2 + off, none⟩ vs h5
  rwa [hl] at this
end

/-! ### a store -/
theorem setL_length : ∀ (cs l : List Cell) (o : Nat), (setL l o cs).length = l.length
  | [], l, o => rfl
  | c :: cs, l, o => by rw [setL, setL_length cs]; simp

theorem setL_out : ∀ (cs l : List Cell) (o i : Nat), i < o ∨ o + cs.length ≤ i → (setL l o cs)[i]? = l[i]?
  | [], l, o, i, _ => rfl
  | c :: cs, l, o, i, h => by
    rw [setL, setL_out cs _ (o + 1) i (by simp at h; omega), List.getElem?_set_ne (by simp at h; omega)]

theorem setL_in : ∀ (cs l : List Cell) (o j : Nat), o + cs.length ≤ l.length → j < cs.length → (setL l o cs)[o + j]? = cs[j]?
  | [], l, o, j, _, hj => by simp at hj
  | c :: cs, l, o, 0, h, _ => by
    rw [setL, setL_out cs _ (o + 1) _ (Or.inl (by omega))]
    simp at h
    simp [List.getElem?_set_self (show o < l.length by omega)]
  | c :: cs, l, o, j + 1, h, hj => by
    have := setL_in cs (l.set o c) (o + 1) j (by simp at h ⊢; omega) (by simpa using hj)
    rw [setL, show o + (j + 1) = o + 1 + j by omega, this]
    simp

theorem World.heap_setCells_ne (b : Nat) : ∀ (vs : List Value) (o : Nat) (w : World) (k : Nat), k ≠ b → (w.setCells b o vs).heap[k]? = w.heap[k]?
  | [], _, _, _, _ => rfl
  | v :: r, o, w, k, h => by rw [World.setCells, World.heap_setCells_ne b r _ _ k h, Go.RowKit.Below.heap_setCell _ _ _ _ h]
theorem World.size_setCells (b : Nat) : ∀ (vs : List Value) (o : Nat) (w : World), (w.setCells b o vs).heap.size = w.heap.size
  | [], _, _ => rfl
  | v :: r, o, w => by rw [World.setCells, World.size_setCells b r]; simp
theorem World.same_setCells (b : Nat) : ∀ (vs : List Value) (o : Nat) (w : World), (w.setCells b o vs).os = w.os ∧ (w.setCells b o vs).tape = w.tape ∧ (w.setCells b o vs).output = w.output
  | [], _, _ => ⟨rfl, rfl, rfl⟩
  | v :: r, o, w => by rw [World.setCells]; exact World.same_setCells b r (o + 1) _
theorem World.live_setCells (b o : Nat) (vs : List Value) (w : World) (hl : ∀ j, j < vs.length → (w.cell? ⟨b, o + j, none⟩).isSome = true) (a : Addr) (h : (w.cell? a).isSome = true) : ((w.setCells b o vs).cell? a).isSome = true := by
  by_cases hb : a.block = b ∧ a.spot = none ∧ o ≤ a.off ∧ a.off < o + vs.length
  · obtain ⟨h1, h2, h3, h4⟩ := hb
    have := World.cell?_setCells_in b vs o w hl (a.off - o) (by omega)
    rw [show o + (a.off - o) = a.off by omega] at this
    have ha : a = ⟨b, a.off, none⟩ := by cases a; simp_all
    rw [ha, this]; rfl
  · rw [World.cell?_setCells_out b vs o w a (fun h1 h2 => by
      rcases Nat.lt_or_ge a.off o with h3 | h3
      · exact Or.inl h3
      · refine Or.inr (Nat.le_of_not_lt fun h4 => hb ⟨h1, h2, h3, h4⟩))]
    exact h

section
variable {P : Program} {ρ : Loc} {n : Nat} {w : World} {m : Mem}

theorem Step.store {m' : Mem} {id off : Nat} {cs : List Cell} {vs : List Value} (hm : MRel ρ n w m) (hw : wr m id off cs = some m') (hc : CRels ρ n w cs vs) :
    Step ρ n w m ρ n (w.setCells (ρ id).1 ((ρ id).2 + off) vs) m' ∧
      (∀ j, j < vs.length → (w.cell? ⟨(ρ id).1, (ρ id).2 + off + j, none⟩).isSome = true) ∧ (∀ j, j < vs.length → w.frozen? ⟨(ρ id).1, (ρ id).2 + off + j, none⟩ = false) := by
  unfold wr at hw
  split at hw
  case h_2 => cases hw
  rename_i b hb
  split at hw
  case isFalse => cases hw
  rename_i hh
  obtain ⟨hown, hle⟩ := hh
  cases hw
  have hlen := CRels.length _ _ hc
  have hlive : ∀ j, j < vs.length → (w.cell? ⟨(ρ id).1, (ρ id).2 + off + j, none⟩).isSome = true := fun j hj => by
    obtain ⟨v, h1, _⟩ := hm.cells id b hb (off + j) b.cells[off + j] (List.getElem?_eq_getElem (by omega))
    rw [Nat.add_assoc, h1]; rfl
  have hL : Le ρ n w ρ n (w.setCells (ρ id).1 ((ρ id).2 + off) vs) := ⟨Nat.le_refl _, fun _ _ => rfl, fun a h => World.live_setCells _ _ _ _ hlive a h⟩
  obtain ⟨ho, ht, hp⟩ := World.same_setCells (ρ id).1 vs ((ρ id).2 + off) w
  have hback : ∀ id' b', upd m id (some ⟨setL b.cells off cs, true⟩) id' = some b' → ∃ b0, m id' = some b0 ∧ (b'.own = true → b0.own = true) := fun id' b' h => by
    by_cases e : id' = id
    · subst e; exact ⟨b, hb, fun _ => hown⟩
    · rw [upd_ne _ _ e] at h; exact ⟨b', h, fun x => x⟩
  refine ⟨⟨hL, ⟨?_, ?_, ?_, ?_, ?_⟩, ⟨ho, ht, hp, by rw [World.size_setCells]; exact Nat.le_refl _, fun k hk hn => World.heap_setCells_ne _ _ _ _ _ (fun e => hn ⟨id, b, hb, hown, e.symm⟩)⟩, ?_, ?_⟩, hlive, fun j hj => hm.soft id b hb hown _⟩
  · intro id' b' h
    obtain ⟨b0, h1, _⟩ := hback id' b' h
    exact hm.lt id' b0 h1
  · intro id' b' h
    obtain ⟨b0, h1, _⟩ := hback id' b' h
    rw [World.size_setCells]; exact hm.blk id' b0 h1
  · intro id' b' h i c hi
    by_cases e : id' = id
    · subst e
      rw [upd_same] at h
      cases h
      simp only at hi
      rcases Nat.lt_or_ge i off with h1 | h1
      · rw [setL_out cs _ off i (Or.inl h1)] at hi
        obtain ⟨v, h2, h3⟩ := hm.cells id' b hb i c hi
        exact ⟨v, by rw [World.cell?_setCells_out _ _ _ _ _ (fun _ _ => Or.inl (by simp; omega))]; exact h2, CRel.mono hL _ _ h3⟩
      · rcases Nat.lt_or_ge i (off + cs.length) with h2 | h2
        · obtain ⟨j, rfl⟩ : ∃ j, i = off + j := ⟨i - off, by omega⟩
          rw [setL_in cs _ off j hle (by omega)] at hi
          obtain ⟨v, h3, h4⟩ := CRels.get _ _ hc j c hi
          have hj : j < vs.length := by omega
          have := World.cell?_setCells_in (ρ id').1 vs ((ρ id').2 + off) w hlive j hj
          refine ⟨v, ?_, CRel.mono hL _ _ h4⟩
          rw [← Nat.add_assoc, this]
          rw [List.getElem?_eq_getElem hj] at h3
          exact h3
        · rw [setL_out cs _ off i (Or.inr h2)] at hi
          obtain ⟨v, h3, h4⟩ := hm.cells id' b hb i c hi
          exact ⟨v, by rw [World.cell?_setCells_out _ _ _ _ _ (fun _ _ => Or.inr (by simp; omega))]; exact h3, CRel.mono hL _ _ h4⟩
    · rw [upd_ne _ _ e] at h
      obtain ⟨v, h2, h3⟩ := hm.cells id' b' h i c hi
      have hne := hm.apart id b hb hown id' b' h e
      exact ⟨v, by rw [World.cell?_setCells_out _ _ _ _ _ (fun h1 _ => absurd h1 hne)]; exact h2, CRel.mono hL _ _ h3⟩
  · intro id' b' h hown' o
    obtain ⟨b0, h1, h2⟩ := hback id' b' h
    rw [World.frozen?_setCells]; exact hm.soft id' b0 h1 (h2 hown') o
  · intro id' b' h hown' id'' b'' h' hne
    obtain ⟨b0, h1, h2⟩ := hback id' b' h
    obtain ⟨b1, h3, _⟩ := hback id'' b'' h'
    exact hm.apart id' b0 h1 (h2 hown') id'' b1 h3 hne
  · intro id' b' _ h
    exact hback id' b' h
  · intro id' b' hi h
    obtain ⟨b0, h1, _⟩ := hback id' b' h
    exact absurd (hm.lt id' b0 h1) (Nat.not_lt.2 hi)
end
end Go.Proofs.Ytkdbnmohpanpfaa.Sy
