/- An evaluator of a part of Go's operations over a memory of its own, part one: its values, its memory, how both stand to the machine's. Conditions: those that each theorem names. -/
import Derived.Orders
import Derived.OrdersIn
import Derived.LoopNIn
import Derived.Below
import Derived.Laws.IdiomCopy
import Derived.Laws.NewBlocks
import Derived.Laws.AppendOwn
namespace Go.Proofs.Ytkdbnmohpanpfaa.Sy
open Go
set_option linter.unusedVariables false

inductive Cell where
  | sc (v : Value)
  | ptr (id off : Nat)
  | sl (id off len : Nat) (cap : Option Nat) (sz : Nat)
  | clo (f : Nat) (caps : List Cell)
  deriving Inhabited

inductive Reg where
  | one (c : Cell)
  | agg (cs : List Cell)
  | tup (rs : List Reg)
  deriving Inhabited

structure Blk where
  cells : List Cell
  own : Bool

abbrev Mem := Nat → Option Blk
abbrev Loc := Nat → Nat × Nat

mutual
def CRel (ρ : Loc) (n : Nat) (w : World) : Cell → Value → Prop
  | .sc v, x => x = v ∧ v.oneCell' = true
  | .ptr id off, x => id < n ∧ x = .pointer (some ⟨(ρ id).1, (ρ id).2 + off, none⟩)
  | .sl id off len cap sz, x => id < n ∧ ∃ o cp, x = .slice (some ⟨(ρ id).1, o, none⟩) len cp ∧ (cp ≠ 0 → o = (ρ id).2 + off) ∧ len ≤ cp ∧
      (∀ c, cap = some c → cp = c) ∧ (∀ j, j < cp * sz → (w.cell? ⟨(ρ id).1, o + j, none⟩).isSome = true)
  | .clo f caps, x => ∃ vs : List Value, x = .func (.func f) #[] vs.toArray ∧ CRels ρ n w caps vs
def CRels (ρ : Loc) (n : Nat) (w : World) : List Cell → List Value → Prop
  | [], vs => vs = []
  | c :: cs, vs => ∃ v r, vs = v :: r ∧ CRel ρ n w c v ∧ CRels ρ n w cs r
end

mutual
def RRel (ρ : Loc) (n : Nat) (w : World) : Reg → Value → Prop
  | .one c, x => CRel ρ n w c x
  | .agg cs, x => ∃ vs : List Value, x = .agg vs.toArray ∧ CRels ρ n w cs vs
  | .tup rs, x => ∃ vs : List Value, x = .tuple vs.toArray ∧ RRels ρ n w rs vs
def RRels (ρ : Loc) (n : Nat) (w : World) : List Reg → List Value → Prop
  | [], vs => vs = []
  | c :: cs, vs => ∃ v r, vs = v :: r ∧ RRel ρ n w c v ∧ RRels ρ n w cs r
end

/-- What holds on: more numbers, the same places, no cell has gone. -/
structure Le (ρ : Loc) (n : Nat) (w : World) (ρ' : Loc) (n' : Nat) (w' : World) : Prop where
  le : n ≤ n'
  loc : ∀ id, id < n → ρ' id = ρ id
  live : ∀ a, (w.cell? a).isSome = true → (w'.cell? a).isSome = true

theorem Le.refl (ρ : Loc) (n : Nat) (w : World) : Le ρ n w ρ n w := ⟨Nat.le_refl _, fun _ _ => rfl, fun _ h => h⟩
theorem Le.trans {ρ ρ' ρ'' : Loc} {n n' n'' : Nat} {w w' w'' : World} (h : Le ρ n w ρ' n' w') (k : Le ρ' n' w' ρ'' n'' w'') : Le ρ n w ρ'' n'' w'' :=
  ⟨Nat.le_trans h.le k.le, fun id hi => (k.loc id (Nat.lt_of_lt_of_le hi h.le)).trans (h.loc id hi), fun a ha => k.live a (h.live a ha)⟩

section
variable {ρ ρ' : Loc} {n n' : Nat} {w w' : World}
mutual
theorem CRel.mono (L : Le ρ n w ρ' n' w') : ∀ (c : Cell) (v : Value), CRel ρ n w c v → CRel ρ' n' w' c v
  | .sc _, _, h => by simpa only [CRel] using h
  | .ptr id off, v, h => by
    simp only [CRel] at h ⊢
    rw [L.loc id h.1]
    exact ⟨Nat.lt_of_lt_of_le h.1 L.le, h.2⟩
  | .sl id off len cap sz, v, h => by
    simp only [CRel] at h ⊢
    obtain ⟨h1, o, cp, h2, h3, h4, h5, h6⟩ := h
    rw [L.loc id h1]
    exact ⟨Nat.lt_of_lt_of_le h1 L.le, o, cp, h2, h3, h4, h5, fun j hj => L.live _ (h6 j hj)⟩
  | .clo f caps, v, h => by
    simp only [CRel] at h ⊢
    obtain ⟨vs, h1, h2⟩ := h
    exact ⟨vs, h1, CRels.mono L caps vs h2⟩
theorem CRels.mono (L : Le ρ n w ρ' n' w') : ∀ (cs : List Cell) (vs : List Value), CRels ρ n w cs vs → CRels ρ' n' w' cs vs
  | [], _, h => by simpa only [CRels] using h
  | c :: cs, vs, h => by
    simp only [CRels] at h ⊢
    obtain ⟨v, r, h1, h2, h3⟩ := h
    exact ⟨v, r, h1, CRel.mono L c v h2, CRels.mono L cs r h3⟩
end
mutual
theorem RRel.mono (L : Le ρ n w ρ' n' w') : ∀ (c : Reg) (v : Value), RRel ρ n w c v → RRel ρ' n' w' c v
  | .one c, v, h => by
    simp only [RRel] at h ⊢
    exact CRel.mono L c v h
  | .agg cs, v, h => by
    simp only [RRel] at h ⊢
    obtain ⟨vs, h1, h2⟩ := h
    exact ⟨vs, h1, CRels.mono L cs vs h2⟩
  | .tup rs, v, h => by
    simp only [RRel] at h ⊢
    obtain ⟨vs, h1, h2⟩ := h
    exact ⟨vs, h1, RRels.mono L rs vs h2⟩
theorem RRels.mono (L : Le ρ n w ρ' n' w') : ∀ (cs : List Reg) (vs : List Value), RRels ρ n w cs vs → RRels ρ' n' w' cs vs
  | [], _, h => by simpa only [RRels] using h
  | c :: cs, vs, h => by
    simp only [RRels] at h ⊢
    obtain ⟨v, r, h1, h2, h3⟩ := h
    exact ⟨v, r, h1, RRel.mono L c v h2, RRels.mono L cs r h3⟩
end

theorem CRel.one : ∀ (c : Cell) (v : Value), CRel ρ n w c v → v.oneCell' = true
  | .sc _, _, h => by simp only [CRel] at h; rw [h.1]; exact h.2
  | .ptr _ _, _, h => by simp only [CRel] at h; rw [h.2]; rfl
  | .sl .., _, h => by simp only [CRel] at h; obtain ⟨_, _, _, rfl, _⟩ := h; rfl
  | .clo .., _, h => by simp only [CRel] at h; obtain ⟨_, rfl, _⟩ := h; rfl

theorem CRels.length : ∀ (cs : List Cell) (vs : List Value), CRels ρ n w cs vs → vs.length = cs.length
  | [], vs, h => by simp only [CRels] at h; subst h; rfl
  | c :: cs, vs, h => by simp only [CRels] at h; obtain ⟨v, r, rfl, _, h3⟩ := h; simp [CRels.length cs r h3]

theorem CRels.get : ∀ (cs : List Cell) (vs : List Value), CRels ρ n w cs vs → ∀ (i : Nat) (c : Cell), cs[i]? = some c → ∃ v, vs[i]? = some v ∧ CRel ρ n w c v
  | [], _, _, i, c, hc => by simp at hc
  | x :: cs, vs, h, i, c, hc => by
    simp only [CRels] at h
    obtain ⟨v, r, rfl, h2, h3⟩ := h
    cases i with
    | zero => simp only [List.getElem?_cons_zero, Option.some.injEq] at hc; subst hc; exact ⟨v, rfl, h2⟩
    | succ i => simpa using CRels.get cs r h3 i c (by simpa using hc)

theorem CRels.of_get : ∀ (cs : List Cell) (vs : List Value), vs.length = cs.length → (∀ (i : Nat) (c : Cell) (v : Value), cs[i]? = some c → vs[i]? = some v → CRel ρ n w c v) → CRels ρ n w cs vs
  | [], vs, hl, _ => by simp only [CRels]; exact List.length_eq_zero_iff.1 hl
  | c :: cs, [], hl, _ => by simp at hl
  | c :: cs, v :: r, hl, h => by
    simp only [CRels]
    exact ⟨v, r, rfl, h 0 c v rfl rfl, CRels.of_get cs r (by simpa using hl) (fun i c' v' h1 h2 => h (i + 1) c' v' (by simpa using h1) (by simpa using h2))⟩

theorem CRels.all_one (cs : List Cell) (vs : List Value) (h : CRels ρ n w cs vs) : ∀ v ∈ vs, v.oneCell' = true := by
  intro v hv
  obtain ⟨i, hi⟩ := List.mem_iff_getElem?.1 hv
  have hl := CRels.length cs vs h
  have hlt : i < cs.length := by rw [← hl]; exact (List.getElem?_eq_some_iff.1 hi).1
  obtain ⟨v', h1, h2⟩ := CRels.get cs vs h i cs[i] (List.getElem?_eq_getElem hlt)
  rw [hi] at h1
  cases h1
  exact CRel.one _ _ h2

theorem CRels.append {cs cs' : List Cell} {vs vs' : List Value} (h : CRels ρ n w cs vs) (h' : CRels ρ n w cs' vs') : CRels ρ n w (cs ++ cs') (vs ++ vs') := by
  induction cs generalizing vs with
  | nil => simp only [CRels] at h; subst h; simpa using h'
  | cons c cs ih =>
    simp only [CRels] at h
    obtain ⟨v, r, rfl, h2, h3⟩ := h
    simp only [List.cons_append, CRels]
    exact ⟨v, r ++ vs', rfl, h2, ih h3⟩

theorem CRels.take {cs : List Cell} {vs : List Value} (h : CRels ρ n w cs vs) (k : Nat) : CRels ρ n w (cs.take k) (vs.take k) := by
  induction cs generalizing vs k with
  | nil => simp only [CRels] at h; subst h; simp [CRels]
  | cons c cs ih =>
    simp only [CRels] at h
    obtain ⟨v, r, rfl, h2, h3⟩ := h
    cases k with
    | zero => simp [CRels]
    | succ k => simp only [List.take_succ_cons, CRels]; exact ⟨v, r.take k, rfl, h2, ih h3 k⟩

theorem CRels.drop {cs : List Cell} {vs : List Value} (h : CRels ρ n w cs vs) (k : Nat) : CRels ρ n w (cs.drop k) (vs.drop k) := by
  induction cs generalizing vs k with
  | nil => simp only [CRels] at h; subst h; simp [CRels]
  | cons c cs ih =>
    simp only [CRels] at h
    obtain ⟨v, r, rfl, h2, h3⟩ := h
    cases k with
    | zero => simp only [List.drop_zero, CRels]; exact ⟨v, r, rfl, h2, h3⟩
    | succ k => simpa using ih h3 k

theorem RRels.get : ∀ (cs : List Reg) (vs : List Value), RRels ρ n w cs vs → ∀ (i : Nat) (c : Reg), cs[i]? = some c → ∃ v, vs[i]? = some v ∧ RRel ρ n w c v
  | [], _, _, i, c, hc => by simp at hc
  | x :: cs, vs, h, i, c, hc => by
    simp only [RRels] at h
    obtain ⟨v, r, rfl, h2, h3⟩ := h
    cases i with
    | zero => simp only [List.getElem?_cons_zero, Option.some.injEq] at hc; subst hc; exact ⟨v, rfl, h2⟩
    | succ i => simpa using RRels.get cs r h3 i c (by simpa using hc)

theorem RRels.length : ∀ (cs : List Reg) (vs : List Value), RRels ρ n w cs vs → vs.length = cs.length
  | [], vs, h => by simp only [RRels] at h; subst h; rfl
  | c :: cs, vs, h => by simp only [RRels] at h; obtain ⟨v, r, rfl, _, h3⟩ := h; simp [RRels.length cs r h3]
end

/-- The memory's blocks lie in the machine's; what is owned shares no block with another number, and is not frozen. -/
structure MRel (ρ : Loc) (n : Nat) (w : World) (m : Mem) : Prop where
  lt : ∀ id b, m id = some b → id < n
  blk : ∀ id b, m id = some b → (ρ id).1 < w.heap.size
  cells : ∀ id b, m id = some b → ∀ (i : Nat) (c : Cell), b.cells[i]? = some c → ∃ v, w.cell? ⟨(ρ id).1, (ρ id).2 + i, none⟩ = some v ∧ CRel ρ n w c v
  soft : ∀ id b, m id = some b → b.own = true → ∀ o, w.frozen? ⟨(ρ id).1, o, none⟩ = false
  apart : ∀ id b, m id = some b → b.own = true → ∀ id' b', m id' = some b' → id' ≠ id → (ρ id').1 ≠ (ρ id).1

def Own (ρ : Loc) (m : Mem) (k : Nat) : Prop := ∃ id b, m id = some b ∧ b.own = true ∧ (ρ id).1 = k

/-- What of the world has not turned: all blocks that are not owned. -/
structure Fr (own : Nat → Prop) (w w' : World) : Prop where
  os : w'.os = w.os
  tape : w'.tape = w.tape
  output : w'.output = w.output
  size : w.heap.size ≤ w'.heap.size
  block : ∀ k, k < w.heap.size → ¬ own k → w'.heap[k]? = w.heap[k]?

theorem Fr.refl (own : Nat → Prop) (w : World) : Fr own w w := ⟨rfl, rfl, rfl, Nat.le_refl _, fun _ _ _ => rfl⟩
theorem Fr.trans {o o' : Nat → Prop} {w w' w'' : World} (h : Fr o w w') (k : Fr o' w' w'') (ho : ∀ x, x < w.heap.size → o' x → o x) : Fr o w w'' :=
  ⟨k.os.trans h.os, k.tape.trans h.tape, k.output.trans h.output, Nat.le_trans h.size k.size,
    fun x hx hn => (k.block x (Nat.lt_of_lt_of_le hx h.size) (fun h' => hn (ho x hx h'))).trans (h.block x hx hn)⟩
theorem Fr.mono {o o' : Nat → Prop} {w w' : World} (h : Fr o w w') (ho : ∀ x, o x → o' x) : Fr o' w w' :=
  ⟨h.os, h.tape, h.output, h.size, fun x hx hn => h.block x hx (fun h' => hn (ho x h'))⟩
theorem Fr.below {o : Nat → Prop} {w w' : World} (h : Fr o w w') (ho : ∀ x, ¬ o x) : Go.RowKit.Below w.heap.size w w' :=
  ⟨h.os, h.tape, h.output, h.size, fun k hk => h.block k hk (ho k)⟩

/-- One step, or many: from one state to the next. -/
structure Step (ρ : Loc) (n : Nat) (w : World) (m : Mem) (ρ' : Loc) (n' : Nat) (w' : World) (m' : Mem) : Prop where
  le : Le ρ n w ρ' n' w'
  rel : MRel ρ' n' w' m'
  fr : Fr (Own ρ m) w w'
  dom : ∀ id b, id < n → m' id = some b → ∃ b0, m id = some b0 ∧ (b.own = true → b0.own = true)
  fresh : ∀ id b, n ≤ id → m' id = some b → w.heap.size ≤ (ρ' id).1 ∨ Own ρ m (ρ' id).1

theorem Step.refl {ρ : Loc} {n : Nat} {w : World} {m : Mem} (h : MRel ρ n w m) : Step ρ n w m ρ n w m :=
  ⟨Le.refl _ _ _, h, Fr.refl _ _, fun id b _ hb => ⟨b, hb, fun h => h⟩, fun id b h1 h2 => absurd (h.lt id b h2) (Nat.not_lt.2 h1)⟩

theorem Step.own {ρ ρ' : Loc} {n n' : Nat} {w w' : World} {m m' : Mem} (h : Step ρ n w m ρ' n' w' m') (k : Nat) (hk : k < w.heap.size) (ho : Own ρ' m' k) : Own ρ m k := by
  obtain ⟨id, b, h1, h2, h3⟩ := ho
  rcases Nat.lt_or_ge id n with hl | hl
  · obtain ⟨b0, h4, h5⟩ := h.dom id b hl h1
    exact ⟨id, b0, h4, h5 h2, by rw [← h.le.loc id hl]; exact h3⟩
  · rcases h.fresh id b hl h1 with h4 | h4
    · omega
    · rw [h3] at h4; exact h4

theorem Step.trans {ρ ρ' ρ'' : Loc} {n n' n'' : Nat} {w w' w'' : World} {m m' m'' : Mem} (h : Step ρ n w m ρ' n' w' m') (k : Step ρ' n' w' m' ρ'' n'' w'' m'') : Step ρ n w m ρ'' n'' w'' m'' where
  le := h.le.trans k.le
  rel := k.rel
  fr := h.fr.trans k.fr h.own
  dom := fun id b hi hb => by
    obtain ⟨b1, h1, h2⟩ := k.dom id b (Nat.lt_of_lt_of_le hi h.le.le) hb
    obtain ⟨b0, h3, h4⟩ := h.dom id b1 hi h1
    exact ⟨b0, h3, fun x => h4 (h2 x)⟩
  fresh := fun id b hi hb => by
    rcases Nat.lt_or_ge id n' with hl | hl
    · obtain ⟨b1, h1, h2⟩ := k.dom id b hl hb
      have h3 := h.fresh id b1 hi h1
      rw [k.le.loc id hl]
      exact h3
    · rcases k.fresh id b hl hb with h1 | h1
      · exact Or.inl (Nat.le_trans h.fr.size h1)
      · rcases Nat.lt_or_ge (ρ'' id).1 w.heap.size with h2 | h2
        · exact Or.inr (h.own _ h2 h1)
        · exact Or.inl h2

/-- Less memory. -/
theorem MRel.sub {ρ : Loc} {n : Nat} {w : World} {m m' : Mem} (h : MRel ρ n w m) (hs : ∀ id b, m' id = some b → ∃ b0, m id = some b0 ∧ b0.cells = b.cells ∧ (b.own = true → b0.own = true)) : MRel ρ n w m' where
  lt := fun id b hb => by obtain ⟨b0, h1, _⟩ := hs id b hb; exact h.lt id b0 h1
  blk := fun id b hb => by obtain ⟨b0, h1, _⟩ := hs id b hb; exact h.blk id b0 h1
  cells := fun id b hb i c hc => by obtain ⟨b0, h1, h2, _⟩ := hs id b hb; exact h.cells id b0 h1 i c (by rw [h2]; exact hc)
  soft := fun id b hb ho => by obtain ⟨b0, h1, _, h3⟩ := hs id b hb; exact h.soft id b0 h1 (h3 ho)
  apart := fun id b hb ho id' b' hb' hne => by
    obtain ⟨b0, h1, _, h3⟩ := hs id b hb
    obtain ⟨b1, h4, _⟩ := hs id' b' hb'
    exact h.apart id b0 h1 (h3 ho) id' b1 h4 hne

def upd {α : Type} (f : Nat → α) (k : Nat) (x : α) : Nat → α := fun i => if i = k then x else f i
theorem upd_same {α : Type} (f : Nat → α) (k : Nat) (x : α) : upd f k x k = x := by simp [upd]
theorem upd_ne {α : Type} (f : Nat → α) {k i : Nat} (x : α) (h : i ≠ k) : upd f k x i = f i := by simp [upd, h]

theorem World.isSome_alloc (w : World) (o : Obj) (a : Addr) (h : (w.cell? a).isSome = true) : ((w.alloc o).cell? a).isSome = true := by
  rw [World.cell?_alloc_old]
  · exact h
  · intro hb
    unfold World.cell? at h
    rw [hb] at h
    simp at h

theorem World.cell_alloc_of (w : World) (o : Obj) (a : Addr) (v : Value) (h : w.cell? a = some v) : (w.alloc o).cell? a = some v := by
  rw [World.cell?_alloc_old]
  · exact h
  · intro hb
    unfold World.cell? at h
    rw [hb] at h
    simp at h

theorem frozen_alloc_lt (w : World) (o : Obj) (a : Addr) (h : a.block < w.heap.size) : (w.alloc o).frozen? a = w.frozen? a := by
  exact World.frozen?_of_block (Go.RowKit.Below.heap_alloc w o a.block h)

theorem Le.alloc (ρ : Loc) (n : Nat) (w : World) (o : Obj) (k : Nat × Nat) : Le ρ n w (upd ρ n k) (n + 1) (w.alloc o) :=
  ⟨Nat.le_succ _, fun id h => upd_ne _ _ (Nat.ne_of_lt h), fun a h => World.isSome_alloc w o a h⟩

/-- A new block, under a new number. -/
theorem Step.alloc' {ρ : Loc} {n : Nat} {w : World} {m : Mem} (h : MRel ρ n w m) (cs : List Cell) (vs rest : List Value) (t : TypeId) (hc : CRels ρ n w cs vs) :
    Step ρ n w m (upd ρ n (w.heap.size, 0)) (n + 1) (w.alloc (.cells (vs ++ rest).toArray t)) (upd m n (some ⟨cs, true⟩)) := by
  have L := Le.alloc ρ n w (.cells (vs ++ rest).toArray t) (w.heap.size, 0)
  have hm : ∀ id b, id ≠ n → upd m n (some ⟨cs, true⟩) id = some b → m id = some b := fun id b hne hb => by rwa [upd_ne _ _ hne] at hb
  refine ⟨L, ⟨?_, ?_, ?_, ?_, ?_⟩, ⟨rfl, rfl, rfl, by simp, fun k hk _ => Go.RowKit.Below.heap_alloc w _ k hk⟩, ?_, ?_⟩
  · intro id b hb
    by_cases e : id = n
    · omega
    · exact Nat.lt_succ_of_lt (h.lt id b (hm id b e hb))
  · intro id b hb
    by_cases e : id = n
    · subst e; simp [upd_same]
    · rw [upd_ne _ _ e]; have := h.blk id b (hm id b e hb); simp; omega
  · intro id b hb i c hi
    by_cases e : id = n
    · subst e
      rw [upd_same] at hb ⊢
      cases hb
      obtain ⟨v, h1, h2⟩ := CRels.get cs vs hc i c hi
      refine ⟨v, ?_, CRel.mono L c v h2⟩
      have hlt := (List.getElem?_eq_some_iff.1 h1).1
      simpa [List.getElem?_append_left hlt] using h1
    · rw [upd_ne _ _ e]
      obtain ⟨v, h1, h2⟩ := h.cells id b (hm id b e hb) i c hi
      exact ⟨v, World.cell_alloc_of _ _ _ _ h1, CRel.mono L c v h2⟩
  · intro id b hb ho o
    by_cases e : id = n
    · subst e
      rw [upd_same]
      exact World.frozen?_alloc_at _ _ _ _ rfl
    · rw [upd_ne _ _ e, frozen_alloc_lt _ _ _ (h.blk id b (hm id b e hb))]
      exact h.soft id b (hm id b e hb) ho o
  · intro id b hb ho id' b' hb' hne
    by_cases e : id = n
    · subst e
      rw [upd_same, upd_ne _ _ hne]
      have := h.blk id' b' (hm id' b' hne hb')
      simp; omega
    · by_cases e' : id' = n
      · subst e'
        rw [upd_same, upd_ne _ _ e]
        have := h.blk id b (hm id b e hb)
        simp; omega
      · rw [upd_ne _ _ e, upd_ne _ _ e']
        exact h.apart id b (hm id b e hb) ho id' b' (hm id' b' e' hb') hne
  · intro id b hi hb
    exact ⟨b, hm id b (Nat.ne_of_lt hi) hb, fun x => x⟩
  · intro id b hi hb
    by_cases e : id = n
    · subst e; exact Or.inl (by simp [upd_same])
    · exact absurd (h.lt id b (hm id b e hb)) (Nat.not_lt.2 hi)

theorem Step.alloc {ρ : Loc} {n : Nat} {w : World} {m : Mem} (h : MRel ρ n w m) (cs : List Cell) (vs : List Value) (t : TypeId) (hc : CRels ρ n w cs vs) :
    Step ρ n w m (upd ρ n (w.heap.size, 0)) (n + 1) (w.alloc (.cells vs.toArray t)) (upd m n (some ⟨cs, true⟩)) := by
  simpa using Step.alloc' h cs vs [] t hc
end Go.Proofs.Ytkdbnmohpanpfaa.Sy
