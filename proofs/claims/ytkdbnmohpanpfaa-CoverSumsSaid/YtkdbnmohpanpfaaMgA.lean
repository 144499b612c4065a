import Derived.Orders
import Derived.OrdersIn
import Derived.LoopNIn
import Derived.Below
import Derived.Laws.IdiomCopy
import Derived.Laws.NewBlocks
import Derived.Laws.AppendOwn
import Derived.Laws.Cells
import Derived.Laws.Entries
import Derived.ArgAppend
import Derived.Laws.Small
import Derived.Laws.StructEq
import Derived.Laws.Cover3
import Derived.Laws.Pointers
import Derived.Laws.Externs
import Derived.KernelRfl
/- An evaluator of a part of Go's operations over a memory of its own, part one: its values, its memory, how both stand to the machine's. Conditions: those that each theorem names. -/
namespace Go.Proofs.Ytkdbnmohpanpfaa.Sy
open Go
set_option linter.unusedVariables false

inductive Cell where
  | sc (v : Value)
  | ptr (id off : Nat)
  | sl (id off len : Nat) (cap : Option Nat) (sz : Nat)
  | clo (f : Nat) (caps : List Cell)
  deriving Inhabited

inductive Reg where
  | one (c : Cell)
  | agg (cs : List Cell)
  | tup (rs : List Reg)
  deriving Inhabited

structure Blk where
  cells : List Cell
  own : Bool

abbrev Mem := Nat → Option Blk
abbrev Loc := Nat → Nat × Nat

mutual
def CRel (ρ : Loc) (n : Nat) (w : World) : Cell → Value → Prop
  | .sc v, x => x = v ∧ v.oneCell' = true
  | .ptr id off, x => id < n ∧ x = .pointer (some ⟨(ρ id).1, (ρ id).2 + off, none⟩)
  | .sl id off len cap sz, x => id < n ∧ ∃ o cp, x = .slice (some ⟨(ρ id).1, o, none⟩) len cp ∧ (cp ≠ 0 → o = (ρ id).2 + off) ∧ len ≤ cp ∧
      (∀ c, cap = some c → cp = c) ∧ (∀ j, j < cp * sz → (w.cell? ⟨(ρ id).1, o + j, none⟩).isSome = true)
  | .clo f caps, x => ∃ vs : List Value, x = .func (.func f) #[] vs.toArray ∧ CRels ρ n w caps vs
def CRels (ρ : Loc) (n : Nat) (w : World) : List Cell → List Value → Prop
  | [], vs => vs = []
  | c :: cs, vs => ∃ v r, vs = v :: r ∧ CRel ρ n w c v ∧ CRels ρ n w cs r
end

mutual
def RRel (ρ : Loc) (n : Nat) (w : World) : Reg → Value → Prop
  | .one c, x => CRel ρ n w c x
  | .agg cs, x => ∃ vs : List Value, x = .agg vs.toArray ∧ CRels ρ n w cs vs
  | .tup rs, x => ∃ vs : List Value, x = .tuple vs.toArray ∧ RRels ρ n w rs vs
def RRels (ρ : Loc) (n : Nat) (w : World) : List Reg → List Value → Prop
  | [], vs => vs = []
  | c :: cs, vs => ∃ v r, vs = v :: r ∧ RRel ρ n w c v ∧ RRels ρ n w cs r
end

/-- What holds on: more numbers, the same places, no cell has gone. -/
structure Le (ρ : Loc) (n : Nat) (w : World) (ρ' : Loc) (n' : Nat) (w' : World) : Prop where
  le : n ≤ n'
  loc : ∀ id, id < n → ρ' id = ρ id
  live : ∀ a, (w.cell? a).isSome = true → (w'.cell? a).isSome = true

theorem Le.refl (ρ : Loc) (n : Nat) (w : World) : Le ρ n w ρ n w := ⟨Nat.le_refl _, fun _ _ => rfl, fun _ h => h⟩
theorem Le.trans {ρ ρ' ρ'' : Loc} {n n' n'' : Nat} {w w' w'' : World} (h : Le ρ n w ρ' n' w') (k : Le ρ' n' w' ρ'' n'' w'') : Le ρ n w ρ'' n'' w'' :=
  ⟨Nat.le_trans h.le k.le, fun id hi => (k.loc id (Nat.lt_of_lt_of_le hi h.le)).trans (h.loc id hi), fun a ha => k.live a (h.live a ha)⟩

section
variable {ρ ρ' : Loc} {n n' : Nat} {w w' : World}
mutual
theorem CRel.mono (L : Le ρ n w ρ' n' w') : ∀ (c : Cell) (v : Value), CRel ρ n w c v → CRel ρ' n' w' c v
  | .sc _, _, h => by simpa only [CRel] using h
  | .ptr id off, v, h => by
    simp only [CRel] at h ⊢
    rw [L.loc id h.1]
    exact ⟨Nat.lt_of_lt_of_le h.1 L.le, h.2⟩
  | .sl id off len cap sz, v, h => by
    simp only [CRel] at h ⊢
    obtain ⟨h1, o, cp, h2, h3, h4, h5, h6⟩ := h
    rw [L.loc id h1]
    exact ⟨Nat.lt_of_lt_of_le h1 L.le, o, cp, h2, h3, h4, h5, fun j hj => L.live _ (h6 j hj)⟩
  | .clo f caps, v, h => by
    simp only [CRel] at h ⊢
    obtain ⟨vs, h1, h2⟩ := h
    exact ⟨vs, h1, CRels.mono L caps vs h2⟩
theorem CRels.mono (L : Le ρ n w ρ' n' w') : ∀ (cs : List Cell) (vs : List Value), CRels ρ n w cs vs → CRels ρ' n' w' cs vs
  | [], _, h => by simpa only [CRels] using h
  | c :: cs, vs, h => by
    simp only [CRels] at h ⊢
    obtain ⟨v, r, h1, h2, h3⟩ := h
    exact ⟨v, r, h1, CRel.mono L c v h2, CRels.mono L cs r h3⟩
end
mutual
theorem RRel.mono (L : Le ρ n w ρ' n' w') : ∀ (c : Reg) (v : Value), RRel ρ n w c v → RRel ρ' n' w' c v
  | .one c, v, h => by
    simp only [RRel] at h ⊢
    exact CRel.mono L c v h
  | .agg cs, v, h => by
    simp only [RRel] at h ⊢
    obtain ⟨vs, h1, h2⟩ := h
    exact ⟨vs, h1, CRels.mono L cs vs h2⟩
  | .tup rs, v, h => by
    simp only [RRel] at h ⊢
    obtain ⟨vs, h1, h2⟩ := h
    exact ⟨vs, h1, RRels.mono L rs vs h2⟩
theorem RRels.mono (L : Le ρ n w ρ' n' w') : ∀ (cs : List Reg) (vs : List Value), RRels ρ n w cs vs → RRels ρ' n' w' cs vs
  | [], _, h => by simpa only [RRels] using h
  | c :: cs, vs, h => by
    simp only [RRels] at h ⊢
    obtain ⟨v, r, h1, h2, h3⟩ := h
    exact ⟨v, r, h1, RRel.mono L c v h2, RRels.mono L cs r h3⟩
end

theorem CRel.one : ∀ (c : Cell) (v : Value), CRel ρ n w c v → v.oneCell' = true
  | .sc _, _, h => by simp only [CRel] at h; rw [h.1]; exact h.2
  | .ptr _ _, _, h => by simp only [CRel] at h; rw [h.2]; rfl
  | .sl .., _, h => by simp only [CRel] at h; obtain ⟨_, _, _, rfl, _⟩ := h; rfl
  | .clo .., _, h => by simp only [CRel] at h; obtain ⟨_, rfl, _⟩ := h; rfl

theorem CRels.length : ∀ (cs : List Cell) (vs : List Value), CRels ρ n w cs vs → vs.length = cs.length
  | [], vs, h => by simp only [CRels] at h; subst h; rfl
  | c :: cs, vs, h => by simp only [CRels] at h; obtain ⟨v, r, rfl, _, h3⟩ := h; simp [CRels.length cs r h3]

theorem CRels.get : ∀ (cs : List Cell) (vs : List Value), CRels ρ n w cs vs → ∀ (i : Nat) (c : Cell), cs[i]? = some c → ∃ v, vs[i]? = some v ∧ CRel ρ n w c v
  | [], _, _, i, c, hc => by simp at hc
  | x :: cs, vs, h, i, c, hc => by
    simp only [CRels] at h
    obtain ⟨v, r, rfl, h2, h3⟩ := h
    cases i with
    | zero => simp only [List.getElem?_cons_zero, Option.some.injEq] at hc; subst hc; exact ⟨v, rfl, h2⟩
    | succ i => simpa using CRels.get cs r h3 i c (by simpa using hc)

theorem CRels.of_get : ∀ (cs : List Cell) (vs : List Value), vs.length = cs.length → (∀ (i : Nat) (c : Cell) (v : Value), cs[i]? = some c → vs[i]? = some v → CRel ρ n w c v) → CRels ρ n w cs vs
  | [], vs, hl, _ => by simp only [CRels]; exact List.length_eq_zero_iff.1 hl
  | c :: cs, [], hl, _ => by simp at hl
  | c :: cs, v :: r, hl, h => by
    simp only [CRels]
    exact ⟨v, r, rfl, h 0 c v rfl rfl, CRels.of_get cs r (by simpa using hl) (fun i c' v' h1 h2 => h (i + 1) c' v' (by simpa using h1) (by simpa using h2))⟩

theorem CRels.all_one (cs : List Cell) (vs : List Value) (h : CRels ρ n w cs vs) : ∀ v ∈ vs, v.oneCell' = true := by
  intro v hv
  obtain ⟨i, hi⟩ := List.mem_iff_getElem?.1 hv
  have hl := CRels.length cs vs h
  have hlt : i < cs.length := by rw [← hl]; exact (List.getElem?_eq_some_iff.1 hi).1
  obtain ⟨v', h1, h2⟩ := CRels.get cs vs h i cs[i] (List.getElem?_eq_getElem hlt)
  rw [hi] at h1
  cases h1
  exact CRel.one _ _ h2

theorem CRels.append {cs cs' : List Cell} {vs vs' : List Value} (h : CRels ρ n w cs vs) (h' : CRels ρ n w cs' vs') : CRels ρ n w (cs ++ cs') (vs ++ vs') := by
  induction cs generalizing vs with
  | nil => simp only [CRels] at h; subst h; simpa using h'
  | cons c cs ih =>
    simp only [CRels] at h
    obtain ⟨v, r, rfl, h2, h3⟩ := h
    simp only [List.cons_append, CRels]
    exact ⟨v, r ++ vs', rfl, h2, ih h3⟩

theorem CRels.take {cs : List Cell} {vs : List Value} (h : CRels ρ n w cs vs) (k : Nat) : CRels ρ n w (cs.take k) (vs.take k) := by
  induction cs generalizing vs k with
  | nil => simp only [CRels] at h; subst h; simp [CRels]
  | cons c cs ih =>
    simp only [CRels] at h
    obtain ⟨v, r, rfl, h2, h3⟩ := h
    cases k with
    | zero => simp [CRels]
    | succ k => simp only [List.take_succ_cons, CRels]; exact ⟨v, r.take k, rfl, h2, ih h3 k⟩

theorem CRels.drop {cs : List Cell} {vs : List Value} (h : CRels ρ n w cs vs) (k : Nat) : CRels ρ n w (cs.drop k) (vs.drop k) := by
  induction cs generalizing vs k with
  | nil => simp only [CRels] at h; subst h; simp [CRels]
  | cons c cs ih =>
    simp only [CRels] at h
    obtain ⟨v, r, rfl, h2, h3⟩ := h
    cases k with
    | zero => simp only [List.drop_zero, CRels]; exact ⟨v, r, rfl, h2, h3⟩
    | succ k => simpa using ih h3 k

theorem RRels.get : ∀ (cs : List Reg) (vs : List Value), RRels ρ n w cs vs → ∀ (i : Nat) (c : Reg), cs[i]? = some c → ∃ v, vs[i]? = some v ∧ RRel ρ n w c v
  | [], _, _, i, c, hc => by simp at hc
  | x :: cs, vs, h, i, c, hc => by
    simp only [RRels] at h
    obtain ⟨v, r, rfl, h2, h3⟩ := h
    cases i with
    | zero => simp only [List.getElem?_cons_zero, Option.some.injEq] at hc; subst hc; exact ⟨v, rfl, h2⟩
    | succ i => simpa using RRels.get cs r h3 i c (by simpa using hc)

theorem RRels.length : ∀ (cs : List Reg) (vs : List Value), RRels ρ n w cs vs → vs.length = cs.length
  | [], vs, h => by simp only [RRels] at h; subst h; rfl
  | c :: cs, vs, h => by simp only [RRels] at h; obtain ⟨v, r, rfl, _, h3⟩ := h; simp [RRels.length cs r h3]
end

/-- The memory's blocks lie in the machine's; what is owned shares no block with another number, and is not frozen. -/
structure MRel (ρ : Loc) (n : Nat) (w : World) (m : Mem) : Prop where
  lt : ∀ id b, m id = some b → id < n
  blk : ∀ id b, m id = some b → (ρ id).1 < w.heap.size
  cells : ∀ id b, m id = some b → ∀ (i : Nat) (c : Cell), b.cells[i]? = some c → ∃ v, w.cell? ⟨(ρ id).1, (ρ id).2 + i, none⟩ = some v ∧ CRel ρ n w c v
  soft : ∀ id b, m id = some b → b.own = true → ∀ o, w.frozen? ⟨(ρ id).1, o, none⟩ = false
  apart : ∀ id b, m id = some b → b.own = true → ∀ id' b', m id' = some b' → id' ≠ id → (ρ id').1 ≠ (ρ id).1

def Own (ρ : Loc) (m : Mem) (k : Nat) : Prop := ∃ id b, m id = some b ∧ b.own = true ∧ (ρ id).1 = k

/-- What of the world has not turned: all blocks that are not owned. -/
structure Fr (own : Nat → Prop) (w w' : World) : Prop where
  os : w'.os = w.os
  tape : w'.tape = w.tape
  output : w'.output = w.output
  size : w.heap.size ≤ w'.heap.size
  block : ∀ k, k < w.heap.size → ¬ own k → w'.heap[k]? = w.heap[k]?

theorem Fr.refl (own : Nat → Prop) (w : World) : Fr own w w := ⟨rfl, rfl, rfl, Nat.le_refl _, fun _ _ _ => rfl⟩
theorem Fr.trans {o o' : Nat → Prop} {w w' w'' : World} (h : Fr o w w') (k : Fr o' w' w'') (ho : ∀ x, x < w.heap.size → o' x → o x) : Fr o w w'' :=
  ⟨k.os.trans h.os, k.tape.trans h.tape, k.output.trans h.output, Nat.le_trans h.size k.size,
    fun x hx hn => (k.block x (Nat.lt_of_lt_of_le hx h.size) (fun h' => hn (ho x hx h'))).trans (h.block x hx hn)⟩
theorem Fr.mono {o o' : Nat → Prop} {w w' : World} (h : Fr o w w') (ho : ∀ x, o x → o' x) : Fr o' w w' :=
  ⟨h.os, h.tape, h.output, h.size, fun x hx hn => h.block x hx (fun h' => hn (ho x h'))⟩
theorem Fr.below {o : Nat → Prop} {w w' : World} (h : Fr o w w') (ho : ∀ x, ¬ o x) : Go.RowKit.Below w.heap.size w w' :=
  ⟨h.os, h.tape, h.output, h.size, fun k hk => h.block k hk (ho k)⟩

/-- One step, or many: from one state to the next. -/
structure Step (ρ : Loc) (n : Nat) (w : World) (m : Mem) (ρ' : Loc) (n' : Nat) (w' : World) (m' : Mem) : Prop where
  le : Le ρ n w ρ' n' w'
  rel : MRel ρ' n' w' m'
  fr : Fr (Own ρ m) w w'
  dom : ∀ id b, id < n → m' id = some b → ∃ b0, m id = some b0 ∧ (b.own = true → b0.own = true)
  fresh : ∀ id b, n ≤ id → m' id = some b → w.heap.size ≤ (ρ' id).1 ∨ Own ρ m (ρ' id).1

theorem Step.refl {ρ : Loc} {n : Nat} {w : World} {m : Mem} (h : MRel ρ n w m) : Step ρ n w m ρ n w m :=
  ⟨Le.refl _ _ _, h, Fr.refl _ _, fun id b _ hb => ⟨b, hb, fun h => h⟩, fun id b h1 h2 => absurd (h.lt id b h2) (Nat.not_lt.2 h1)⟩

theorem Step.own {ρ ρ' : Loc} {n n' : Nat} {w w' : World} {m m' : Mem} (h : Step ρ n w m ρ' n' w' m') (k : Nat) (hk : k < w.heap.size) (ho : Own ρ' m' k) : Own ρ m k := by
  obtain ⟨id, b, h1, h2, h3⟩ := ho
  rcases Nat.lt_or_ge id n with hl | hl
  · obtain ⟨b0, h4, h5⟩ := h.dom id b hl h1
    exact ⟨id, b0, h4, h5 h2, by rw [← h.le.loc id hl]; exact h3⟩
  · rcases h.fresh id b hl h1 with h4 | h4
    · omega
    · rw [h3] at h4; exact h4

theorem Step.trans {ρ ρ' ρ'' : Loc} {n n' n'' : Nat} {w w' w'' : World} {m m' m'' : Mem} (h : Step ρ n w m ρ' n' w' m') (k : Step ρ' n' w' m' ρ'' n'' w'' m'') : Step ρ n w m ρ'' n'' w'' m'' where
  le := h.le.trans k.le
  rel := k.rel
  fr := h.fr.trans k.fr h.own
  dom := fun id b hi hb => by
    obtain ⟨b1, h1, h2⟩ := k.dom id b (Nat.lt_of_lt_of_le hi h.le.le) hb
    obtain ⟨b0, h3, h4⟩ := h.dom id b1 hi h1
    exact ⟨b0, h3, fun x => h4 (h2 x)⟩
  fresh := fun id b hi hb => by
    rcases Nat.lt_or_ge id n' with hl | hl
    · obtain ⟨b1, h1, h2⟩ := k.dom id b hl hb
      have h3 := h.fresh id b1 hi h1
      rw [k.le.loc id hl]
      exact h3
    · rcases k.fresh id b hl hb with h1 | h1
      · exact Or.inl (Nat.le_trans h.fr.size h1)
      · rcases Nat.lt_or_ge (ρ'' id).1 w.heap.size with h2 | h2
        · exact Or.inr (h.own _ h2 h1)
        · exact Or.inl h2

/-- Less memory. -/
theorem MRel.sub {ρ : Loc} {n : Nat} {w : World} {m m' : Mem} (h : MRel ρ n w m) (hs : ∀ id b, m' id = some b → ∃ b0, m id = some b0 ∧ b0.cells = b.cells ∧ (b.own = true → b0.own = true)) : MRel ρ n w m' where
  lt := fun id b hb => by obtain ⟨b0, h1, _⟩ := hs id b hb; exact h.lt id b0 h1
  blk := fun id b hb => by obtain ⟨b0, h1, _⟩ := hs id b hb; exact h.blk id b0 h1
  cells := fun id b hb i c hc => by obtain ⟨b0, h1, h2, _⟩ := hs id b hb; exact h.cells id b0 h1 i c (by rw [h2]; exact hc)
  soft := fun id b hb ho => by obtain ⟨b0, h1, _, h3⟩ := hs id b hb; exact h.soft id b0 h1 (h3 ho)
  apart := fun id b hb ho id' b' hb' hne => by
    obtain ⟨b0, h1, _, h3⟩ := hs id b hb
    obtain ⟨b1, h4, _⟩ := hs id' b' hb'
    exact h.apart id b0 h1 (h3 ho) id' b1 h4 hne

def upd {α : Type} (f : Nat → α) (k : Nat) (x : α) : Nat → α := fun i => if i = k then x else f i
theorem upd_same {α : Type} (f : Nat → α) (k : Nat) (x : α) : upd f k x k = x := by simp [upd]
theorem upd_ne {α : Type} (f : Nat → α) {k i : Nat} (x : α) (h : i ≠ k) : upd f k x i = f i := by simp [upd, h]

theorem World.isSome_alloc (w : World) (o : Obj) (a : Addr) (h : (w.cell? a).isSome = true) : ((w.alloc o).cell? a).isSome = true := by
  rw [World.cell?_alloc_old]
  · exact h
  · intro hb
    unfold World.cell? at h
    rw [hb] at h
    simp at h

theorem World.cell_alloc_of (w : World) (o : Obj) (a : Addr) (v : Value) (h : w.cell? a = some v) : (w.alloc o).cell? a = some v := by
  rw [World.cell?_alloc_old]
  · exact h
  · intro hb
    unfold World.cell? at h
    rw [hb] at h
    simp at h

theorem frozen_alloc_lt (w : World) (o : Obj) (a : Addr) (h : a.block < w.heap.size) : (w.alloc o).frozen? a = w.frozen? a := by
  exact World.frozen?_of_block (Go.RowKit.Below.heap_alloc w o a.block h)

theorem Le.alloc (ρ : Loc) (n : Nat) (w : World) (o : Obj) (k : Nat × Nat) : Le ρ n w (upd ρ n k) (n + 1) (w.alloc o) :=
  ⟨Nat.le_succ _, fun id h => upd_ne _ _ (Nat.ne_of_lt h), fun a h => World.isSome_alloc w o a h⟩

/-- A new block, under a new number. -/
theorem Step.alloc' {ρ : Loc} {n : Nat} {w : World} {m : Mem} (h : MRel ρ n w m) (cs : List Cell) (vs rest : List Value) (t : TypeId) (hc : CRels ρ n w cs vs) :
    Step ρ n w m (upd ρ n (w.heap.size, 0)) (n + 1) (w.alloc (.cells (vs ++ rest).toArray t)) (upd m n (some ⟨cs, true⟩)) := by
  have L := Le.alloc ρ n w (.cells (vs ++ rest).toArray t) (w.heap.size, 0)
  have hm : ∀ id b, id ≠ n → upd m n (some ⟨cs, true⟩) id = some b → m id = some b := fun id b hne hb => by rwa [upd_ne _ _ hne] at hb
  refine ⟨L, ⟨?_, ?_, ?_, ?_, ?_⟩, ⟨rfl, rfl, rfl, by simp, fun k hk _ => Go.RowKit.Below.heap_alloc w _ k hk⟩, ?_, ?_⟩
  · intro id b hb
    by_cases e : id = n
    · omega
    · exact Nat.lt_succ_of_lt (h.lt id b (hm id b e hb))
  · intro id b hb
    by_cases e : id = n
    · subst e; simp [upd_same]
    · rw [upd_ne _ _ e]; have := h.blk id b (hm id b e hb); simp; omega
  · intro id b hb i c hi
    by_cases e : id = n
    · subst e
      rw [upd_same] at hb ⊢
      cases hb
      obtain ⟨v, h1, h2⟩ := CRels.get cs vs hc i c hi
      refine ⟨v, ?_, CRel.mono L c v h2⟩
      have hlt := (List.getElem?_eq_some_iff.1 h1).1
      simpa [List.getElem?_append_left hlt] using h1
    · rw [upd_ne _ _ e]
      obtain ⟨v, h1, h2⟩ := h.cells id b (hm id b e hb) i c hi
      exact ⟨v, World.cell_alloc_of _ _ _ _ h1, CRel.mono L c v h2⟩
  · intro id b hb ho o
    by_cases e : id = n
    · subst e
      rw [upd_same]
      exact World.frozen?_alloc_at _ _ _ _ rfl
    · rw [upd_ne _ _ e, frozen_alloc_lt _ _ _ (h.blk id b (hm id b e hb))]
      exact h.soft id b (hm id b e hb) ho o
  · intro id b hb ho id' b' hb' hne
    by_cases e : id = n
    · subst e
      rw [upd_same, upd_ne _ _ hne]
      have := h.blk id' b' (hm id' b' hne hb')
      simp; omega
    · by_cases e' : id' = n
      · subst e'
        rw [upd_same, upd_ne _ _ e]
        have := h.blk id b (hm id b e hb)
        simp; omega
      · rw [upd_ne _ _ e, upd_ne _ _ e']
        exact h.apart id b (hm id b e hb) ho id' b' (hm id' b' e' hb') hne
  · intro id b hi hb
    exact ⟨b, hm id b (Nat.ne_of_lt hi) hb, fun x => x⟩
  · intro id b hi hb
    by_cases e : id = n
    · subst e; exact Or.inl (by simp [upd_same])
    · exact absurd (h.lt id b (hm id b e hb)) (Nat.not_lt.2 hi)

theorem Step.alloc {ρ : Loc} {n : Nat} {w : World} {m : Mem} (h : MRel ρ n w m) (cs : List Cell) (vs : List Value) (t : TypeId) (hc : CRels ρ n w cs vs) :
    Step ρ n w m (upd ρ n (w.heap.size, 0)) (n + 1) (w.alloc (.cells vs.toArray t)) (upd m n (some ⟨cs, true⟩)) := by
  simpa using Step.alloc' h cs vs [] t hc
end Go.Proofs.Ytkdbnmohpanpfaa.Sy

/- An evaluator of a part of Go's operations over a memory of its own, part two: the operations, slimmed down; what each does. Conditions: those that each theorem names. -/
namespace Go.Proofs.Ytkdbnmohpanpfaa.Sy
open Go
set_option linter.unusedVariables false

/-- An operand. -/
inductive O where
  | t (k : Nat)
  | c (r : Reg)
  | g (k : Nat)
  | f (k : Nat)
  deriving Inhabited

inductive Mode where
  | q | k | w | t
  | z (g : Nat)
  deriving DecidableEq

/-- Kinds of scalars in a row: what a comparison goes through. -/
inductive Sk where
  | i | b
  deriving DecidableEq

/-- An operation, with all that its types say. -/
inductive SOp where
  | mv (x : O)
  | pick (c a b : O)
  | alloc (zero : List Cell)
  | box (x : O)
  | build (zero : List Cell) (parts : List (Nat × Nat × O))
  | bslice (zero : List Cell) (len sz : Nat) (parts : List (Nat × Nat × O))
  | load1 (x : O)
  | loadA (n : Nat) (x : O)
  | store (n : Nat) (x v : O)
  | nilchk (x : O)
  | bin (op : BinOp) (x y : O)
  | beq (neg : Bool) (x y : O)
  | eqv (ks : List Sk) (neg : Bool) (x y : O)
  | eqnil (k : Nat) (neg : Bool) (x : O)
  | un (op : UnOp) (x : O)
  | conv (k : IntKind) (x : O)
  | mkfn (f : Nat) (caps : List O)
  | mkslice (zero : List Cell) (bytes sz : Nat) (len cap : O)
  | slS (sz : Nat) (x : O) (lo hi mx : Option O)
  | slA (len sz : Nat) (x : O) (lo hi mx : Option O)
  | fadr (off : Nat) (x : O)
  | fld (off size : Nat) (ag : Bool) (x : O)
  | iadrA (len sz : Nat) (x i : O)
  | iadrS (sz : Nat) (x i : O)
  | idxA (len sz : Nat) (ag : Bool) (x i : O)
  | istr (l : List Nat) (i : O)
  | ext (x : O) (i : Nat)
  | len (x : O)
  | lenC (n : Nat)
  | cap (x : O)
  | app (sz bytes : Nat) (s x : O)
  | appz (zero : List Cell) (bytes sz : Nat) (s x : O)
  | cpy (sz : Nat) (d s : O)
  | mn (xs : List O)
  | mx (xs : List O)
  | stuck
  | pre (r : Reg) (xs : List O)
  | carry (sub : Bool) (xs : List O)
  | clr (z : List Cell) (sz : Nat) (x : O)
  | call (m : Mode) (f : Nat) (args : List O)
  | callv (m : Mode) (x : O) (args : List O)

/-! ### slimming -/
def constReg : Value → Option Reg
  | .agg cs => if cs.toList.all Value.oneCell' then some (.agg (cs.toList.map .sc)) else none
  | .tuple _ => none
  | .bool b => some (.one (.sc (.bool b)))
  | .int k n => some (.one (.sc (.int k n)))
  | .string s => some (.one (.sc (.string s)))
  | .slice none 0 0 => some (.one (.sc (.slice none 0 0)))
  | .pointer none => some (.one (.sc (.pointer none)))
  | .nilFunc => some (.one (.sc .nilFunc))
  | .nilIface => some (.one (.sc .nilIface))
  | _ => none

def slimO (ng : Nat) : Operand → Option O
  | .tmp t => some (.t t)
  | .const v => (constReg v).map .c
  | .global g => if g < ng then some (.g g) else none
  | .func f => some (.f f)

def slimOs (ng : Nat) : List Operand → Option (List O)
  | [] => some []
  | x :: xs => match slimO ng x, slimOs ng xs with
    | some y, some ys => some (y :: ys)
    | _, _ => none

def slimOo (ng : Nat) : Option Operand → Option (Option O)
  | none => some none
  | some x => (slimO ng x).map some

def tsz (P : Program) (t : TypeId) : Option Nat := (P.info? t).map (·.size)
def tby (P : Program) (t : TypeId) : Option Nat := (P.info? t).map (·.bytes)
def tagg (P : Program) (t : TypeId) : Option Bool :=
  match P.underlying t with
  | some (.struct _) | some (.array _ _) => some true
  | some _ => some false
  | none => none
/-- The zero value's cells. -/
def tzero (P : Program) (t : TypeId) : Option (List Value) :=
  match (P.info? t).bind (·.zero) with
  | some z => if z.cells.toList.all Value.oneCell' then some z.cells.toList else none
  | none => none

def slimParts (ng : Nat) (place : Nat → Option (Nat × Nat)) : List (Nat × Operand) → Option (List (Nat × Nat × O))
  | [] => some []
  | (i, x) :: xs => match place i, slimO ng x, slimParts ng place xs with
    | some (off, size), some y, some ys => some ((off, size, y) :: ys)
    | _, _, _ => none

def placeOf (P : Program) (fs : Array Field) (i : Nat) : Option (Nat × Nat) :=
  match fs[i]? with
  | some f => (tsz P f.type).map fun s => (f.offset, s)
  | none => none

mutual
def flatK (P : Program) : Nat → TypeId → Option (List Sk)
  | 0, _ => none
  | d + 1, t =>
    match P.underlying t with
    | some (.int _) => some [.i]
    | some .bool => some [.b]
    | some (.array len e) => match flatK P d e, tsz P e with
      | some ks, some s => if ks.length = s then some (List.replicate len ks).flatten else none
      | _, _ => none
    | some (.struct fs) => if P.stoodInHeld t then none else flatKs P d fs.toList 0
    | _ => none
def flatKs (P : Program) : Nat → List Field → Nat → Option (List Sk)
  | 0, _, _ => none
  | _, [], _ => some []
  | d + 1, f :: fs, o =>
    if f.name = "_" ∨ f.offset ≠ o then none else
    match flatK P d f.type, tsz P f.type with
    | some ks, some s => if ks.length = s then (flatKs P d fs (o + s)).map (ks ++ ·) else none
    | _, _ => none
end

def zOk (ng : Nat) : Mode → Bool
  | .z g => g == ng
  | .t => ng == 1
  | _ => true

def isEmptyTup : Reg → Bool
  | .tup [] => true
  | _ => false

def slimOp (P : Program) (ng : Nat) (md : Nat → Mode) : Op → Option SOp
  | .move x | .assign x => (slimO ng x).map .mv
  | .pick c a b => match slimO ng c, slimO ng a, slimO ng b with
    | some c, some a, some b => some (.pick c a b)
    | _, _, _ => none
  | .alloc e => (tzero P e).map fun z => .alloc (z.map .sc)
  | .box _ x => (slimO ng x).map .box
  | .build t ps =>
    match tzero P t, P.underlying t with
    | some z, some (.struct fs) => if (fs.all fun f => (P.info? f.type).isSome) then (slimParts ng (placeOf P fs) ps.toList).map (.build (z.map .sc)) else none
    | some z, some (.array _ e) => match tsz P e with
      | some s => (slimParts ng (fun i => some (i * s, s)) ps.toList).map (.build (z.map .sc))
      | none => none
    | _, _ => none
  | .buildSlice t len ps =>
    match P.underlying t with
    | some (.slice e) => match tsz P e, tzero P e with
      | some s, some z => if z.length = s ∧ 0 < s ∧ len * s ≤ 16777216 then (slimParts ng (fun i => some (i * s, s)) ps.toList).map (.bslice ((List.replicate len z).flatten.map .sc) len s) else none
      | _, _ => none
    | _ => none
  | .load t x => match slimO ng x, tagg P t, tsz P t with
    | some x, some true, some s => some (.loadA s x)
    | some x, some false, some _ => some (.load1 x)
    | _, _, _ => none
  | .store t x v => match slimO ng x, slimO ng v, tsz P t with
    | some x, some v, some s => some (.store s x v)
    | _, _, _ => none
  | .nilCheck x => (slimO ng x).map .nilchk
  | .binOp op t x y _ =>
    match slimO ng x, slimO ng y with
    | some x', some y' =>
      match P.underlying t with
      | some (.int _) => some (.bin op x' y')
      | some .bool => if op = .eql ∨ op = .neq then some (.beq (op == .neq) x' y') else none
      | some (.struct _) | some (.array _ _) =>
        if op = .eql ∨ op = .neq then
          (match flatK P 100 t with
           | some ks => if P.eqGuardType P.depth t = false then some (.eqv ks (op == .neq) x' y') else none
           | none => none)
        else none
      | some (.slice _) =>
        (match y with
         | .const (.slice none 0 0) => if op = .eql ∨ op = .neq then some (.eqnil 0 (op == .neq) x') else none
         | _ => none)
      | some (.func ..) =>
        (match y with
         | .const .nilFunc => if op = .eql ∨ op = .neq then some (.eqnil 1 (op == .neq) x') else none
         | _ => none)
      | some (.pointer _) =>
        (match y with
         | .const (.pointer none) => if op = .eql ∨ op = .neq then some (.eqnil 2 (op == .neq) x') else none
         | _ => none)
      | _ => none
    | _, _ => none
  | .unOp op _ x => (slimO ng x).map (.un op)
  | .convert src dst x => match slimO ng x, P.underlying src, P.underlying dst with
    | some x, some (.int _), some (.int k) => some (.conv k x)
    | _, _, _ => none
  | .makeFunc (.func f) first caps => if first.size = 0 then (slimOs ng caps.toList).map (.mkfn f) else none
  | .makeSlice t l c =>
    match P.underlying t, slimO ng l, slimO ng c with
    | some (.slice e), some l, some c => match tsz P e, tby P e, tzero P e with
      | some s, some b, some z => if z.length = s ∧ 0 < s ∧ b ≤ 4096 then some (.mkslice (z.map .sc) b s l c) else none
      | _, _, _ => none
    | _, _, _ => none
  | .slice t x lo hi mx =>
    match slimO ng x, slimOo ng lo, slimOo ng hi, slimOo ng mx, P.underlying t with
    | some x, some lo, some hi, some mx, some (.slice e) => (tsz P e).map fun s => .slS s x lo hi mx
    | some x, some lo, some hi, some mx, some (.array n e) => (tsz P e).map fun s => .slA n s x lo hi mx
    | _, _, _, _, _ => none
  | .fieldAddr t x i =>
    match slimO ng x, P.underlying t with
    | some x, some (.struct fs) => match fs[i]? with
      | some f => match tsz P f.type with
        | some (_ + 1) => some (.fadr f.offset x)
        | _ => none
      | none => none
    | _, _ => none
  | .field t x i =>
    match slimO ng x, P.underlying t with
    | some x, some (.struct fs) => match fs[i]? with
      | some f => match tsz P f.type, tagg P f.type with
        | some s, some ag => some (.fld f.offset s ag x)
        | _, _ => none
      | none => none
    | _, _ => none
  | .indexAddr t x i =>
    match slimO ng x, slimO ng i, P.underlying t with
    | some x, some i, some (.slice e) => (tsz P e).map fun s => .iadrS s x i
    | some x, some i, some (.array n e) => (tsz P e).map fun s => .iadrA n s x i
    | _, _, _ => none
  | .index t x i =>
    match slimO ng x, slimO ng i, P.underlying t with
    | some x, some i, some (.array n e) => match tsz P e, tagg P e with
      | some s, some ag => some (.idxA n s ag x i)
      | _, _ => none
    | some (.c (.one (.sc (.string s)))), some i, some .string => some (.istr (s.data.toList.map UInt8.toNat) i)
    | _, _, _ => none
  | .extract x i => (slimO ng x).map (.ext · i)
  | .call c =>
    match c.callee, slimOs ng c.args.toList with
    | .value (.func f), some args =>
      match P.funcs[f]? with
      | some fn => if fn.body.isSome ∧ (fn.name == "runtime.NumGoroutine") = false ∧ zOk ng (md f) = true then some (.call (md f) f args)
        else if fn.body.isNone ∧ fn.name = "math/bits.Add64" ∧ fn.origin = "" then some (.carry false args)
        else if fn.body.isNone ∧ fn.name = "math/bits.Sub64" ∧ fn.origin = "" then some (.carry true args)
        else none
      | none => none
    | .value x, some args => (slimO ng x).map fun x => .callv .q x args
    | .builtin .len, some [x] =>
      match c.argTypes.toList with
      | [t] => match P.underlying t with
        | some (.slice _) => some (.len x)
        | some (.array n _) => some (.lenC n)
        | _ => none
      | _ => none
    | .builtin .cap, some [x] =>
      match c.argTypes.toList with
      | [t] => match P.underlying t with
        | some (.slice _) => some (.cap x)
        | _ => none
      | _ => none
    | .builtin .append, some [s, x] =>
      match c.argTypes.toList with
      | [t, u] => match P.underlying t, P.underlying u with
        | some (.slice e), some (.slice _) => match tsz P e, tby P e, tzero P e with
          | some s', some b, some z => if z.length = s' ∧ 0 < s' ∧ b ≤ 4096 ∧ 0 < b then some (.app s' b s x) else none
          | _, _, _ => none
        | some (.slice e), some (.int _) => match tsz P e, tby P e, tzero P e with
          | some s', some b, some z => if z.length = s' ∧ 0 < s' ∧ b ≤ 4096 ∧ 0 < b then some (.appz (z.map .sc) b s' s x) else none
          | _, _, _ => none
        | _, _ => none
      | _ => none
    | .builtin .copy, some [s, x] =>
      match c.argTypes.toList with
      | [t, u] => match P.underlying t, P.underlying u with
        | some (.slice e), some (.slice _) => (tsz P e).map fun s' => .cpy s' s x
        | _, _ => none
      | _ => none
    | .builtin .clear, some [x] =>
      match c.argTypes.toList with
      | [t] => match P.underlying t with
        | some (.slice e) => match tsz P e, tzero P e with
          | some s', some z => if z.length = s' ∧ 0 < s' then some (.clr (z.map .sc) s' x) else none
          | _, _ => none
        | _ => none
      | _ => none
    | .builtin .min, some xs => some (.mn xs)
    | .builtin .max, some xs => some (.mx xs)
    | _, _ => none
  | _ => none

/-! ### what each does -/
def evO (env : Nat → Reg) : O → Reg
  | .t k => env k
  | .c r => r
  | .g k => .one (.ptr k 0)
  | .f k => .one (.clo k [])

def evOs (env : Nat → Reg) : List O → List Reg
  | [] => []
  | x :: xs => evO env x :: evOs env xs

def Reg.cs? : Reg → Option (List Cell)
  | .one c => some [c]
  | .agg cs => some cs
  | .tup _ => none

mutual
/-- A register that leads nowhere. -/
def Cell.flat : Cell → Bool
  | .sc _ => true
  | _ => false
def Reg.flat : Reg → Bool
  | .one c => c.flat
  | .agg cs => cs.all Cell.flat
  | .tup rs => flats rs
def flats : List Reg → Bool
  | [] => true
  | r :: rs => r.flat && flats rs
end

def binV (op : BinOp) : Value → Value → Option Value
  | .int k a, .int k' b =>
    match op with
    | .shl => if b < 0 then none else some (.int k (k.wrap (a * 2 ^ min b.toNat k.bits)))
    | .shr => if b < 0 then none else some (.int k (a.fdiv (2 ^ min b.toNat k.bits)))
    | .add => if k = k' then some (.int k (k.wrap (a + b))) else none
    | .sub => if k = k' then some (.int k (k.wrap (a - b))) else none
    | .mul => if k = k' then some (.int k (k.wrap (a * b))) else none
    | .quo => if k = k' then (if b = 0 then none else some (.int k (k.wrap (a.tdiv b)))) else none
    | .rem => if k = k' then (if b = 0 then none else some (.int k (a.tmod b))) else none
    | .and => if k = k' then some (.int k (k.wrap (BitVec.ofInt k.bits a &&& BitVec.ofInt k.bits b).toNat)) else none
    | .or => if k = k' then some (.int k (k.wrap (BitVec.ofInt k.bits a ||| BitVec.ofInt k.bits b).toNat)) else none
    | .xor => if k = k' then some (.int k (k.wrap (BitVec.ofInt k.bits a ^^^ BitVec.ofInt k.bits b).toNat)) else none
    | .andNot => none
    | .eql => if k = k' then some (.bool (a == b)) else none
    | .neq => if k = k' then some (.bool (a != b)) else none
    | .lss => if k = k' then some (.bool (decide (a < b))) else none
    | .leq => if k = k' then some (.bool (decide (a ≤ b))) else none
    | .gtr => if k = k' then some (.bool (decide (a > b))) else none
    | .geq => if k = k' then some (.bool (decide (a ≥ b))) else none
  | _, _ => none

def unV (op : UnOp) : Value → Option Value
  | .int k a =>
    match op with
    | .neg => some (.int k (k.wrap (0 - a)))
    | _ => none
  | .bool b =>
    match op with
    | .not => some (.bool !b)
    | _ => none
  | _ => none

/-- Cells that are compared: ints of one kind, Bools. -/
def eqCells : List Sk → List Cell → List Cell → Option Bool
  | [], [], [] => some true
  | .i :: ks, .sc (.int k a) :: xs, .sc (.int k' b) :: ys => if k = k' then (eqCells ks xs ys).map ((a == b) && ·) else none
  | .b :: ks, .sc (.bool a) :: xs, .sc (.bool b) :: ys => (eqCells ks xs ys).map ((a == b) && ·)
  | _, _, _ => none

def setL (l : List Cell) (o : Nat) : List Cell → List Cell
  | [] => l
  | c :: cs => setL (l.set o c) (o + 1) cs

def fillC (env : Nat → Reg) (l : List Cell) : List (Nat × Nat × O) → Option (List Cell)
  | [] => some l
  | (off, size, x) :: ps =>
    match (evO env x).cs? with
    | some cs => if cs.length = size ∧ off + size ≤ l.length then fillC env (setL l off cs) ps else none
    | none => none

def rd (m : Mem) (id off n : Nat) : Option (List Cell) :=
  match m id with
  | some b => if off + n ≤ b.cells.length then some ((b.cells.drop off).take n) else none
  | none => none

def wr (m : Mem) (id off : Nat) (cs : List Cell) : Option Mem :=
  match m id with
  | some b => if b.own = true ∧ off + cs.length ≤ b.cells.length then some (upd m id (some ⟨setL b.cells off cs, true⟩)) else none
  | none => none

def ix : Reg → Option Int
  | .one (.sc (.int _ i)) => some i
  | _ => none

def inR (r : Reg) (y : Nat) : Option Nat :=
  match ix r with
  | some i => if 0 ≤ i ∧ i ≤ y then some i.toNat else none
  | none => none

def bMax (len : Nat) (cap : Option Nat) : Option Reg → Option (Option Nat)
  | none => some cap
  | some r => (inR r (cap.getD len)).map some

def bHigh (len : Nat) (m : Option Nat) (mx : Option Reg) : Option Reg → Option Nat
  | none => if mx.isSome then none else some len
  | some r => inR r (m.getD len)

def bLow (h : Nat) : Option Reg → Option Nat
  | none => some 0
  | some r => inR r h

/-- The bounds of a slice: low, high, and what is left above low (none: at least what was asked for). -/
def bnds (len : Nat) (cap : Option Nat) (lo hi mx : Option Reg) : Option (Nat × Nat × Option Nat) :=
  match bMax len cap mx with
  | none => none
  | some m =>
    match bHigh len m mx hi with
    | none => none
    | some h =>
      match bLow h lo with
      | none => none
      | some l => some (l, h, m.map (· - l))

/-- The sum or the difference of two numbers of 64 bits, and what is carried. -/
def carryR (sub : Bool) : List Reg → Option Reg
  | [.one (.sc (.int .u64 x)), .one (.sc (.int .u64 y)), .one (.sc (.int .u64 c))] =>
    if 0 ≤ x ∧ x < 18446744073709551616 ∧ 0 ≤ y ∧ y < 18446744073709551616 ∧ (c = 0 ∨ c = 1) then
      (match sub with
       | false => some (.tup [.one (.sc (.int .u64 ((x + y + c) % 18446744073709551616))), .one (.sc (.int .u64 ((x + y + c) / 18446744073709551616)))])
       | true => some (.tup [.one (.sc (.int .u64 ((x - y - c) % 18446744073709551616))), .one (.sc (.int .u64 (if x < y + c then 1 else 0)))]))
    else none
  | _ => none

abbrev Callf := Nat → List Reg → Mem → Nat → Option (Reg × Mem × Nat)

def frz (m : Mem) : Mem := fun id => (m id).map fun b => ⟨b.cells, false⟩
def unfrz (m : Mem) (n : Nat) (m' : Mem) : Mem := fun id => if id < n then m id else m' id

/-- A memory that has the table alone. -/
def tabM (cs : List Cell) : Mem := upd (fun _ => none) 0 (some ⟨cs, false⟩)

def doCall (call : Callf) (md : Mode) (f : Nat) (args : List Reg) (m : Mem) (n : Nat) : Option (Reg × Mem × Nat) :=
  match md with
  | .q => match call f args (frz m) n with
    | some (r, _, _) => if r.flat then some (r, m, n) else none
    | none => none
  | .k => match call f args (frz m) n with
    | some (r, m', n') => some (r, unfrz m n m', max n n')
    | none => none
  | .w => call f args m n
  | .t => match m 0 with
    | some b => if flats args = true ∧ b.cells.all Cell.flat = true then
        match call f args (tabM b.cells) 1 with
        | some (r, _, _) => if r.flat then some (r, m, n) else none
        | none => none
      else none
    | none => none
  | .z g => if flats args then
      match call f args (fun _ => none) g with
      | some (r, _, _) => if r.flat then some (r, m, n) else none
      | none => none
    else none

def minI : Int → List Reg → Option Int
  | a, [] => some a
  | a, .one (.sc (.int _ b)) :: r => minI (if b < a then b else a) r
  | _, _ => none
def maxI : Int → List Reg → Option Int
  | a, [] => some a
  | a, .one (.sc (.int _ b)) :: r => maxI (if b > a then b else a) r
  | _, _ => none

/-- What is appended. -/
def newsOf (m : Mem) (sz : Nat) : Reg → Option (Nat × List Cell)
  | .one (.sc (.slice none 0 0)) => some (0, [])
  | .one (.sl id off len _ sz') => if sz' = sz then (rd m id off (len * sz)).map fun cs => (len, cs) else none
  | _ => none

def evApp (m : Mem) (n : Nat) (sz bytes : Nat) (s x : Reg) : Option (Reg × Mem × Nat) :=
  match newsOf m sz x with
  | none => none
  | some (k, news) =>
    match s with
    | .one (.sc (.slice none 0 0)) =>
      if k = 0 then some (.one (.sc (.slice none 0 0)), m, n)
      else if k ≤ 4294967296 then some (.one (.sl n 0 k none sz), upd m n (some ⟨news, true⟩), n + 1) else none
    | .one (.sl id off len cap sz') =>
      if sz' = sz ∧ len + k ≤ 4294967296 then
        match cap with
        | some c =>
          if len + k ≤ c then
            (if k = 0 then some (.one (.sl id off len (some c) sz), m, n)
             else (wr m id (off + len * sz) news).map fun m' => (.one (.sl id off (len + k) (some c) sz), m', n))
          else (rd m id off (len * sz)).map fun olds => (.one (.sl n 0 (len + k) none sz), upd m n (some ⟨olds ++ news, true⟩), n + 1)
        | none =>
          match m id with
          | some b => if b.own then (rd m id off (len * sz)).map fun olds => (.one (.sl n 0 (len + k) none sz), upd (upd m id none) n (some ⟨olds ++ news, true⟩), n + 1) else none
          | none => none
      else none
    | _ => none

def evalOp (call : Callf) (env : Nat → Reg) (m : Mem) (n : Nat) : SOp → Option (Reg × Mem × Nat)
  | .mv x => some (evO env x, m, n)
  | .pick c a b => match evO env c with
    | .one (.sc (.bool t)) => some (if t then evO env a else evO env b, m, n)
    | _ => none
  | .alloc z => some (.one (.ptr n 0), upd m n (some ⟨z, true⟩), n + 1)
  | .box x => match (evO env x).cs? with
    | some cs => some (.one (.ptr n 0), upd m n (some ⟨cs, true⟩), n + 1)
    | none => none
  | .build z ps => (fillC env z ps).map fun cs => (.agg cs, m, n)
  | .bslice z len sz ps => (fillC env z ps).map fun cs => (.one (.sl n 0 len (some len) sz), upd m n (some ⟨cs, true⟩), n + 1)
  | .load1 x => match evO env x with
    | .one (.ptr id off) => match m id with
      | some b => match b.cells[off]? with
        | some c => some (.one c, m, n)
        | none => none
      | none => none
    | _ => none
  | .loadA k x => match evO env x with
    | .one (.ptr id off) => (rd m id off k).map fun cs => (.agg cs, m, n)
    | _ => none
  | .store k x v => match evO env x, (evO env v).cs? with
    | .one (.ptr id off), some cs => if cs.length = k then (wr m id off cs).map fun m' => (.tup [], m', n) else none
    | _, _ => none
  | .nilchk x => match evO env x with
    | .one (.ptr id off) => some (.one (.ptr id off), m, n)
    | .one (.clo f cs) => some (.one (.clo f cs), m, n)
    | _ => none
  | .bin op x y => match evO env x, evO env y with
    | .one (.sc a), .one (.sc b) => (binV op a b).map fun v => (.one (.sc v), m, n)
    | _, _ => none
  | .beq neg x y => match evO env x, evO env y with
    | .one (.sc (.bool a)), .one (.sc (.bool b)) => some (.one (.sc (.bool ((a == b) != neg))), m, n)
    | _, _ => none
  | .eqv ks neg x y => match evO env x, evO env y with
    | .agg a, .agg b => (eqCells ks a b).map fun t => (.one (.sc (.bool (t != neg))), m, n)
    | _, _ => none
  | .eqnil 0 neg x => match evO env x with
    | .one (.sl ..) => some (.one (.sc (.bool (false != neg))), m, n)
    | .one (.sc (.slice none 0 0)) => some (.one (.sc (.bool (true != neg))), m, n)
    | _ => none
  | .eqnil 1 neg x => match evO env x with
    | .one (.clo ..) => some (.one (.sc (.bool (false != neg))), m, n)
    | _ => none
  | .eqnil 2 neg x => match evO env x with
    | .one (.ptr ..) => some (.one (.sc (.bool (false != neg))), m, n)
    | .one (.sc (.pointer none)) => some (.one (.sc (.bool (true != neg))), m, n)
    | _ => none
  | .eqnil _ _ _ => none
  | .un op x => match evO env x with
    | .one (.sc a) => (unV op a).map fun v => (.one (.sc v), m, n)
    | _ => none
  | .conv k x => match evO env x with
    | .one (.sc (.int _ a)) => some (.one (.sc (.int k (k.wrap a))), m, n)
    | _ => none
  | .mkfn f caps => match capsOf (evOs env caps) with
    | some cs => some (.one (.clo f cs), m, n)
    | none => none
  | .mkslice z bytes sz l c => match evO env l, evO env c with
    | .one (.sc (.int .i64 l)), .one (.sc (.int .i64 c)) =>
      if 0 ≤ l ∧ l ≤ c ∧ c ≤ 4294967296 then some (.one (.sl n 0 l.toNat (some c.toNat) sz), upd m n (some ⟨(List.replicate c.toNat z).flatten, true⟩), n + 1) else none
    | _, _ => none
  | .slS sz x lo hi mx => match evO env x with
    | .one (.sl id off len cap sz') =>
      if sz' = sz then (bnds len cap (lo.map (evO env)) (hi.map (evO env)) (mx.map (evO env))).map fun (l, h, c) => (.one (.sl id (off + l * sz) (h - l) c sz), m, n) else none
    | .one (.sc (.slice none 0 0)) =>
      (bnds 0 (some 0) (lo.map (evO env)) (hi.map (evO env)) (mx.map (evO env))).map fun _ => (.one (.sc (.slice none 0 0)), m, n)
    | _ => none
  | .slA len sz x lo hi mx => match evO env x with
    | .one (.ptr id off) => match m id with
      | some b => if off + len * sz ≤ b.cells.length then
          (bnds len (some len) (lo.map (evO env)) (hi.map (evO env)) (mx.map (evO env))).map fun (l, h, c) => (.one (.sl id (off + l * sz) (h - l) c sz), m, n) else none
      | none => none
    | _ => none
  | .fadr off x => match evO env x with
    | .one (.ptr id o) => some (.one (.ptr id (o + off)), m, n)
    | _ => none
  | .fld off size ag x => match evO env x with
    | .agg cs => if off + size ≤ cs.length then (if ag then some (.agg ((cs.drop off).take size), m, n) else (cs[off]?).map fun c => (.one c, m, n)) else none
    | _ => none
  | .iadrA len sz x i => match evO env x, ix (evO env i) with
    | .one (.ptr id off), some i => if 0 ≤ i ∧ i < len then some (.one (.ptr id (off + i.toNat * sz)), m, n) else none
    | _, _ => none
  | .iadrS sz x i => match evO env x, ix (evO env i) with
    | .one (.sl id off len _ sz'), some i => if sz' = sz ∧ 0 ≤ i ∧ i < len then some (.one (.ptr id (off + i.toNat * sz)), m, n) else none
    | _, _ => none
  | .idxA len sz ag x i => match evO env x, ix (evO env i) with
    | .agg cs, some i =>
      if 0 ≤ i ∧ i < len ∧ i.toNat * sz + sz ≤ cs.length then (if ag then some (.agg ((cs.drop (i.toNat * sz)).take sz), m, n) else (cs[i.toNat * sz]?).map fun c => (.one c, m, n)) else none
    | _, _ => none
  | .istr l i => match ix (evO env i) with
    | some i => if 0 ≤ i then (l[i.toNat]?).map fun (b : Nat) => (.one (.sc (.int .u8 (b : Int))), m, n) else none
    | none => none
  | .ext x i => match evO env x with
    | .tup rs => (rs[i]?).map fun r => (r, m, n)
    | _ => none
  | .len x => match evO env x with
    | .one (.sl _ _ len _ _) => some (.one (.sc (.int .i64 len)), m, n)
    | .one (.sc (.slice _ 0 0)) => some (.one (.sc (.int .i64 0)), m, n)
    | _ => none
  | .lenC k => some (.one (.sc (.int .i64 k)), m, n)
  | .cap x => match evO env x with
    | .one (.sl _ _ _ (some c) _) => some (.one (.sc (.int .i64 c)), m, n)
    | .one (.sc (.slice none 0 0)) => some (.one (.sc (.int .i64 0)), m, n)
    | _ => none
  | .app sz bytes s x => evApp m n sz bytes (evO env s) (evO env x)
  | .appz z bytes sz s x => match evO env s, evO env x with
    | .one (.sc (.slice none 0 0)), .one (.sc (.int .i64 k)) =>
      if k = 0 then some (.one (.sc (.slice none 0 0)), m, n)
      else if 0 ≤ k ∧ k ≤ 4294967296 then some (.one (.sl n 0 k.toNat none sz), upd m n (some ⟨(List.replicate k.toNat z).flatten, true⟩), n + 1) else none
    | _, _ => none
  | .cpy sz d s => match evO env d, newsOf m sz (evO env s) with
    | .one (.sl id off len _ sz'), some (k, news) =>
      if sz' = sz then
        (if Nat.min k len = 0 then some (.one (.sc (.int .i64 0)), m, n)
         else (wr m id off (news.take (Nat.min k len * sz))).map fun m' => (.one (.sc (.int .i64 (Nat.min k len))), m', n))
      else none
    | _, _ => none
  | .mn xs => match evOs env xs with
    | .one (.sc (.int kd a)) :: r => (minI a r).map fun v => (.one (.sc (.int kd v)), m, n)
    | _ => none
  | .mx xs => match evOs env xs with
    | .one (.sc (.int kd a)) :: r => (maxI a r).map fun v => (.one (.sc (.int kd v)), m, n)
    | _ => none
  | .stuck => none
  | .pre r _ => some (r, m, n)
  | .carry sub xs => (carryR sub (evOs env xs)).map fun r => (r, m, n)
  | .clr z sz x => match evO env x with
    | .one (.sc (.slice none 0 0)) => some (.tup [], m, n)
    | .one (.sl id off len _ sz') => if sz' = sz then (if len = 0 then some (.tup [], m, n) else (wr m id off (List.replicate len z).flatten).map fun m' => (.tup [], m', n)) else none
    | _ => none
  | .call md f args => doCall call md f (evOs env args) m n
  | .callv md x args => match evO env x with
    | .one (.clo f caps) => doCall call md f (evOs env args ++ caps.map .one) m n
    | _ => none
where capsOf : List Reg → Option (List Cell)
  | [] => some []
  | .one c :: r => (capsOf r).map (c :: ·)
  | _ => none

/-! ### regions -/
structure SOper where
  dst : Option Nat
  op : SOp
  guard : Option (Option Nat × Bool)

def slimOper (P : Program) (ng : Nat) (md : Nat → Mode) (ops : Array Oper) (o : Oper) : Option SOper :=
  some ⟨o.dst, (slimOp P ng md o.op).getD .stuck, o.guard.map fun g => ((ops[g.1]?).bind (·.dst), g.2)⟩

def slimOpers (P : Program) (ng : Nat) (md : Nat → Mode) (ops : Array Oper) : List Oper → Option (List SOper)
  | [] => some []
  | o :: os => match slimOper P ng md ops o, slimOpers P ng md ops os with
    | some s, some ss => some (s :: ss)
    | _, _ => none

def boolOf : Reg → Option Bool
  | .one (.sc (.bool b)) => some b
  | _ => none

def wantedS (env : Nat → Reg) (o : SOper) : Bool :=
  match o.guard with
  | none => true
  | some (none, _) => false
  | some (some t, want) => boolOf (env t) == some want

def putE (env : Nat → Reg) (dst : Option Nat) (r : Reg) : Nat → Reg :=
  match dst with
  | some d => upd env d r
  | none => env

def evalOps (call : Callf) : List SOper → (Nat → Reg) → Mem → Nat → Option ((Nat → Reg) × Mem × Nat)
  | [], env, m, n => some (env, m, n)
  | o :: os, env, m, n =>
    match wantedS env o with
    | true => match evalOp call env m n o.op with
      | some (r, m', n') => evalOps call os (putE env o.dst r) m' n'
      | none => none
    | false => evalOps call os (putE env o.dst (.tup [])) m n
end Go.Proofs.Ytkdbnmohpanpfaa.Sy

/- An evaluator of a part of Go's operations over a memory of its own, part three: the machine does what the evaluator says, for operations on values and on cells. Conditions: those that each theorem names. -/
namespace Go.Proofs.Ytkdbnmohpanpfaa.Sy
open Go
set_option linter.unusedVariables false
set_option linter.unusedSimpArgs false

def Glob (ng : Nat) (ρ : Loc) (n : Nat) : Prop := ∀ g, g < ng → g < n ∧ ρ g = (g, 0)
theorem Glob.mono {ng : Nat} {ρ ρ' : Loc} {n n' : Nat} {w w' : World} (h : Glob ng ρ n) (L : Le ρ n w ρ' n' w') : Glob ng ρ' n' :=
  fun g hg => ⟨Nat.lt_of_lt_of_le (h g hg).1 L.le, (L.loc g (h g hg).1).trans (h g hg).2⟩

def ERel (ρ : Loc) (n : Nat) (w : World) (env : Nat → Reg) (a : Act) : Prop := ∀ t, RRel ρ n w (env t) (a.tmps.getD t undef)
theorem ERel.mono {ρ ρ' : Loc} {n n' : Nat} {w w' : World} {env : Nat → Reg} {a : Act} (h : ERel ρ n w env a) (L : Le ρ n w ρ' n' w') : ERel ρ' n' w' env a :=
  fun t => RRel.mono L _ _ (h t)

section
variable {ρ : Loc} {n : Nat} {w : World}
theorem CRels.sc : ∀ (vs : List Value), (∀ v ∈ vs, v.oneCell' = true) → CRels ρ n w (vs.map .sc) vs
  | [], _ => by simp [CRels]
  | v :: vs, h => by
    simp only [List.map_cons, CRels]
    exact ⟨v, vs, rfl, by simp only [CRel]; exact ⟨trivial, h v (by simp)⟩, CRels.sc vs (fun x hx => h x (by simp [hx]))⟩

theorem constReg_rel {v : Value} {r : Reg} (h : constReg v = some r) : RRel ρ n w r v := by
  unfold constReg at h
  split at h
  · rename_i cs
    split at h
    · rename_i hall
      cases h
      simp only [RRel]
      exact ⟨cs.toList, by simp, CRels.sc _ (fun v hv => List.all_eq_true.1 hall v hv)⟩
    · cases h
  all_goals first | (cases h; done) | (cases h; simp [RRel, CRel, Value.oneCell'])

theorem evO_rel {ng : Nat} {x : Operand} {o : O} {env : Nat → Reg} {a : Act} (hs : slimO ng x = some o) (hg : Glob ng ρ n) (he : ERel ρ n w env a) : RRel ρ n w (evO env o) (a.eval x) := by
  cases x with
  | tmp t => simp only [slimO, Option.some.injEq] at hs; subst hs; exact he t
  | const v =>
    simp only [slimO, Option.map_eq_some_iff] at hs
    obtain ⟨r, h1, rfl⟩ := hs
    exact constReg_rel h1
  | global g =>
    simp only [slimO] at hs
    split at hs
    · rename_i hlt
      cases hs
      obtain ⟨h1, h2⟩ := hg g hlt
      simp [evO, RRel, CRel, h1, h2, Act.eval]
    · cases hs
  | func f =>
    simp only [slimO, Option.some.injEq] at hs
    subst hs
    simp only [evO, RRel, CRel, Act.eval]
    exact ⟨[], rfl, by simp [CRels]⟩

theorem evOs_rel {ng : Nat} {env : Nat → Reg} {a : Act} (hg : Glob ng ρ n) (he : ERel ρ n w env a) : ∀ {xs : List Operand} {os : List O}, slimOs ng xs = some os → RRels ρ n w (evOs env os) (xs.map a.eval)
  | [], os, h => by simp only [slimOs, Option.some.injEq] at h; subst h; simp [evOs, RRels]
  | x :: xs, os, h => by
    simp only [slimOs] at h
    split at h
    · rename_i y ys h1 h2
      cases h
      simp only [evOs, RRels, List.map_cons]
      exact ⟨_, _, rfl, evO_rel h1 hg he, evOs_rel hg he h2⟩
    · cases h

theorem cs_rel {r : Reg} {v : Value} {cs : List Cell} (h : RRel ρ n w r v) (hc : r.cs? = some cs) : ∃ vs : List Value, v.cells = vs.toArray ∧ CRels ρ n w cs vs := by
  cases r with
  | one c =>
    simp only [Reg.cs?, Option.some.injEq] at hc
    subst hc
    simp only [RRel] at h
    have h1 := CRel.one _ _ h
    exact ⟨[v], by cases v <;> first | rfl | (simp [Value.oneCell'] at h1), by simp only [CRels]; exact ⟨v, [], rfl, h, rfl⟩⟩
  | agg cs' =>
    simp only [Reg.cs?, Option.some.injEq] at hc
    subst hc
    simp only [RRel] at h
    obtain ⟨vs, rfl, h2⟩ := h
    exact ⟨vs, rfl, h2⟩
  | tup rs => simp [Reg.cs?] at hc
end

/-- The fences that let all in: of a function, of a round of a range over a function. -/
class Wide (F : Fence) : Prop where
  out : F = Fence.wide ∨ ∃ l, F = Fence.wide.inRound l
instance : Wide Fence.wide := ⟨Or.inl rfl⟩
instance (l : Nat) : Wide (Fence.wide.inRound l) := ⟨Or.inr ⟨l, rfl⟩⟩
theorem Wide.fn {F : Fence} [h : Wide F] (f : FuncId) : F.fn f := by
  rcases h.out with rfl | ⟨l, rfl⟩ <;> trivial
theorem Wide.depth {F : Fence} [h : Wide F] : F.depth = none := by
  rcases h.out with rfl | ⟨l, rfl⟩ <;> rfl
theorem Wide.calls {F : Fence} [h : Wide F] {n : Nat} {P : Program} {f : FuncId} {args : Array Value} {w : World} {R : Ending → World → Prop} (hc : Calls P f args w R) : CallsIn F n P f args w R := by
  rcases h.out with rfl | ⟨l, rfl⟩
  · exact callsIn_wide.2 hc
  · exact (callsIn_wide.2 hc : CallsIn Fence.wide n P f args w R)

/-- The machine does what the evaluator says. -/
def Does (P : Program) (o : Oper) (a : Act) (ρ : Loc) (n : Nat) (w : World) (m : Mem) (r : Reg) (m' : Mem) (n' : Nat) : Prop :=
  ∀ (F : Fence) (nf : Nat) [Wide F] (next : Act → World → Prop) (Q : Exit → Act → World → Prop), (∀ rd, o.semAt rd a.eval = execOp a.eval o) →
    (∀ v ρ' w', Step ρ n w m ρ' n' w' m' → RRel ρ' n' w' r v → next (a.put o.dst v) w') → o.wpIn F nf P a w next Q

section
variable {P : Program} {o : Oper} {a : Act} {ρ ρ' : Loc} {n n' : Nat} {w w' : World} {m m' : Mem} {r : Reg}

theorem does_run {v : Value} (hr : (execOp a.eval o).run P w = .ok (.value v) w') (hs : Step ρ n w m ρ' n' w' m') (hv : RRel ρ' n' w' r v) : Does P o a ρ n w m r m' n' := by
  intro F nf _ next Q hsem h
  refine ⟨fun f _ => Wide.fn f, ?_⟩
  rw [hsem, hr]
  exact h v ρ' w' hs hv

theorem does_skip (hr : (execOp a.eval o).run P w = .ok .skip w') (hs : Step ρ n w m ρ' n' w' m') : Does P o a ρ n w m (.tup []) m' n' := by
  intro F nf _ next Q hsem h
  refine ⟨fun f _ => Wide.fn f, ?_⟩
  rw [hsem, hr]
  exact h undef ρ' w' hs (by simp only [RRel, undef]; exact ⟨[], rfl, by simp [RRels]⟩)

theorem does_same {v : Value} (hr : (execOp a.eval o).run P w = .ok (.value v) w) (hm : MRel ρ n w m) (hv : RRel ρ n w r v) : Does P o a ρ n w m r m n :=
  does_run hr (Step.refl hm) hv
end

section
variable {P : Program} {ρ : Loc} {n : Nat} {w : World} {m : Mem}

theorem Addr.add0 (b o k : Nat) : (⟨b, o, none⟩ : Addr).add k = ⟨b, o + k, none⟩ := by
  unfold Addr.add
  split
  · rename_i h; simp [h]
  · rfl

theorem rd_cells {id off k : Nat} {cs : List Cell} (hm : MRel ρ n w m) (h : rd m id off k = some cs) :
    id < n ∧ cs.length = k ∧ ∃ vs : List Value, CRels ρ n w cs vs ∧ ∀ (j : Nat) (v : Value), vs[j]? = some v → w.cell? ⟨(ρ id).1, (ρ id).2 + off + j, none⟩ = some v := by
  unfold rd at h
  split at h
  · rename_i b hb
    split at h
    · rename_i hle
      cases h
      refine ⟨hm.lt id b hb, by simp; omega, ?_⟩
      have hget : ∀ j, j < k → ∃ c, b.cells[off + j]? = some c := fun j hj => ⟨b.cells[off + j], List.getElem?_eq_getElem (by omega)⟩
      have hv : ∀ j, j < k → ∃ v, w.cell? ⟨(ρ id).1, (ρ id).2 + (off + j), none⟩ = some v := fun j hj => by
        obtain ⟨c, hc⟩ := hget j hj
        obtain ⟨v, h1, _⟩ := hm.cells id b hb _ c hc
        exact ⟨v, h1⟩
      let vs : List Value := (List.range k).map fun j => (w.cell? ⟨(ρ id).1, (ρ id).2 + (off + j), none⟩).getD undef
      refine ⟨vs, ?_, ?_⟩
      · apply CRels.of_get
        · simp [vs]; omega
        · intro i c v hc hvv
          have hi : i < k := by
            have := (List.getElem?_eq_some_iff.1 hvv).1
            simpa [vs] using this
          have hc' : b.cells[off + i]? = some c := by
            rw [List.getElem?_take_of_lt hi, List.getElem?_drop] at hc
            exact hc
          obtain ⟨v', h1, h2⟩ := hm.cells id b hb _ c hc'
          have : v = v' := by
            simp [vs, List.getElem?_range hi, h1] at hvv
            exact hvv.symm
          rw [this]; exact h2
      · intro j v hj
        have hjk : j < k := by
          have := (List.getElem?_eq_some_iff.1 hj).1
          simpa [vs] using this
        obtain ⟨v', h1⟩ := hv j hjk
        have : v = v' := by
          simp [vs, List.getElem?_range hjk, h1] at hj
          exact hj.symm
        rw [this, Nat.add_assoc]; exact h1
    · cases h
  · cases h

theorem run_loadCells_rd {id off k : Nat} {cs : List Cell} (hm : MRel ρ n w m) (h : rd m id off k = some cs) :
    ∃ vs : List Value, CRels ρ n w cs vs ∧ vs.length = k ∧ (∀ (j : Nat) (v : Value), vs[j]? = some v → w.cell? ((⟨(ρ id).1, (ρ id).2 + off, none⟩ : Addr).add j) = some v) ∧ (loadCells ⟨(ρ id).1, (ρ id).2 + off, none⟩ k).run P w = .ok vs.toArray w := by
  obtain ⟨h1, h2, vs, h3, h4⟩ := rd_cells hm h
  have hl : vs.length = k := (CRels.length _ _ h3).trans h2
  have h5 : ∀ (j : Nat) (v : Value), vs[j]? = some v → w.cell? ((⟨(ρ id).1, (ρ id).2 + off, none⟩ : Addr).add j) = some v := fun j v hj => by
    rw [Addr.add0]; exact h4 j v hj
  refine ⟨vs, h3, hl, h5, ?_⟩
  have := run_loadCells_list (P := P) w ⟨(ρ id).1, (ρ id).2 + off, none⟩ vs h5
  rwa [hl] at this
end

/-! ### a store -/
theorem setL_length : ∀ (cs l : List Cell) (o : Nat), (setL l o cs).length = l.length
  | [], l, o => rfl
  | c :: cs, l, o => by rw [setL, setL_length cs]; simp

theorem setL_out : ∀ (cs l : List Cell) (o i : Nat), i < o ∨ o + cs.length ≤ i → (setL l o cs)[i]? = l[i]?
  | [], l, o, i, _ => rfl
  | c :: cs, l, o, i, h => by
    rw [setL, setL_out cs _ (o + 1) i (by simp at h; omega), List.getElem?_set_ne (by simp at h; omega)]

theorem setL_in : ∀ (cs l : List Cell) (o j : Nat), o + cs.length ≤ l.length → j < cs.length → (setL l o cs)[o + j]? = cs[j]?
  | [], l, o, j, _, hj => by simp at hj
  | c :: cs, l, o, 0, h, _ => by
    rw [setL, setL_out cs _ (o + 1) _ (Or.inl (by omega))]
    simp at h
    simp [List.getElem?_set_self (show o < l.length by omega)]
  | c :: cs, l, o, j + 1, h, hj => by
    have := setL_in cs (l.set o c) (o + 1) j (by simp at h ⊢; omega) (by simpa using hj)
    rw [setL, show o + (j + 1) = o + 1 + j by omega, this]
    simp

theorem World.heap_setCells_ne (b : Nat) : ∀ (vs : List Value) (o : Nat) (w : World) (k : Nat), k ≠ b → (w.setCells b o vs).heap[k]? = w.heap[k]?
  | [], _, _, _, _ => rfl
  | v :: r, o, w, k, h => by rw [World.setCells, World.heap_setCells_ne b r _ _ k h, Go.RowKit.Below.heap_setCell _ _ _ _ h]
theorem World.size_setCells (b : Nat) : ∀ (vs : List Value) (o : Nat) (w : World), (w.setCells b o vs).heap.size = w.heap.size
  | [], _, _ => rfl
  | v :: r, o, w => by rw [World.setCells, World.size_setCells b r]; simp
theorem World.same_setCells (b : Nat) : ∀ (vs : List Value) (o : Nat) (w : World), (w.setCells b o vs).os = w.os ∧ (w.setCells b o vs).tape = w.tape ∧ (w.setCells b o vs).output = w.output
  | [], _, _ => ⟨rfl, rfl, rfl⟩
  | v :: r, o, w => by rw [World.setCells]; exact World.same_setCells b r (o + 1) _
theorem World.live_setCells (b o : Nat) (vs : List Value) (w : World) (hl : ∀ j, j < vs.length → (w.cell? ⟨b, o + j, none⟩).isSome = true) (a : Addr) (h : (w.cell? a).isSome = true) : ((w.setCells b o vs).cell? a).isSome = true := by
  by_cases hb : a.block = b ∧ a.spot = none ∧ o ≤ a.off ∧ a.off < o + vs.length
  · obtain ⟨h1, h2, h3, h4⟩ := hb
    have := World.cell?_setCells_in b vs o w hl (a.off - o) (by omega)
    rw [show o + (a.off - o) = a.off by omega] at this
    have ha : a = ⟨b, a.off, none⟩ := by cases a; simp_all
    rw [ha, this]; rfl
  · rw [World.cell?_setCells_out b vs o w a (fun h1 h2 => by
      rcases Nat.lt_or_ge a.off o with h3 | h3
      · exact Or.inl h3
      · refine Or.inr (Nat.le_of_not_lt fun h4 => hb ⟨h1, h2, h3, h4⟩))]
    exact h

section
variable {P : Program} {ρ : Loc} {n : Nat} {w : World} {m : Mem}

theorem Step.store {m' : Mem} {id off : Nat} {cs : List Cell} {vs : List Value} (hm : MRel ρ n w m) (hw : wr m id off cs = some m') (hc : CRels ρ n w cs vs) :
    Step ρ n w m ρ n (w.setCells (ρ id).1 ((ρ id).2 + off) vs) m' ∧
      (∀ j, j < vs.length → (w.cell? ⟨(ρ id).1, (ρ id).2 + off + j, none⟩).isSome = true) ∧ (∀ j, j < vs.length → w.frozen? ⟨(ρ id).1, (ρ id).2 + off + j, none⟩ = false) := by
  unfold wr at hw
  split at hw
  case h_2 => cases hw
  rename_i b hb
  split at hw
  case isFalse => cases hw
  rename_i hh
  obtain ⟨hown, hle⟩ := hh
  cases hw
  have hlen := CRels.length _ _ hc
  have hlive : ∀ j, j < vs.length → (w.cell? ⟨(ρ id).1, (ρ id).2 + off + j, none⟩).isSome = true := fun j hj => by
    obtain ⟨v, h1, _⟩ := hm.cells id b hb (off + j) b.cells[off + j] (List.getElem?_eq_getElem (by omega))
    rw [Nat.add_assoc, h1]; rfl
  have hL : Le ρ n w ρ n (w.setCells (ρ id).1 ((ρ id).2 + off) vs) := ⟨Nat.le_refl _, fun _ _ => rfl, fun a h => World.live_setCells _ _ _ _ hlive a h⟩
  obtain ⟨ho, ht, hp⟩ := World.same_setCells (ρ id).1 vs ((ρ id).2 + off) w
  have hback : ∀ id' b', upd m id (some ⟨setL b.cells off cs, true⟩) id' = some b' → ∃ b0, m id' = some b0 ∧ (b'.own = true → b0.own = true) := fun id' b' h => by
    by_cases e : id' = id
    · subst e; exact ⟨b, hb, fun _ => hown⟩
    · rw [upd_ne _ _ e] at h; exact ⟨b', h, fun x => x⟩
  refine ⟨⟨hL, ⟨?_, ?_, ?_, ?_, ?_⟩, ⟨ho, ht, hp, by rw [World.size_setCells]; exact Nat.le_refl _, fun k hk hn => World.heap_setCells_ne _ _ _ _ _ (fun e => hn ⟨id, b, hb, hown, e.symm⟩)⟩, ?_, ?_⟩, hlive, fun j hj => hm.soft id b hb hown _⟩
  · intro id' b' h
    obtain ⟨b0, h1, _⟩ := hback id' b' h
    exact hm.lt id' b0 h1
  · intro id' b' h
    obtain ⟨b0, h1, _⟩ := hback id' b' h
    rw [World.size_setCells]; exact hm.blk id' b0 h1
  · intro id' b' h i c hi
    by_cases e : id' = id
    · subst e
      rw [upd_same] at h
      cases h
      simp only at hi
      rcases Nat.lt_or_ge i off with h1 | h1
      · rw [setL_out cs _ off i (Or.inl h1)] at hi
        obtain ⟨v, h2, h3⟩ := hm.cells id' b hb i c hi
        exact ⟨v, by rw [World.cell?_setCells_out _ _ _ _ _ (fun _ _ => Or.inl (by simp; omega))]; exact h2, CRel.mono hL _ _ h3⟩
      · rcases Nat.lt_or_ge i (off + cs.length) with h2 | h2
        · obtain ⟨j, rfl⟩ : ∃ j, i = off + j := ⟨i - off, by omega⟩
          rw [setL_in cs _ off j hle (by omega)] at hi
          obtain ⟨v, h3, h4⟩ := CRels.get _ _ hc j c hi
          have hj : j < vs.length := by omega
          have := World.cell?_setCells_in (ρ id').1 vs ((ρ id').2 + off) w hlive j hj
          refine ⟨v, ?_, CRel.mono hL _ _ h4⟩
          rw [← Nat.add_assoc, this]
          rw [List.getElem?_eq_getElem hj] at h3
          exact h3
        · rw [setL_out cs _ off i (Or.inr h2)] at hi
          obtain ⟨v, h3, h4⟩ := hm.cells id' b hb i c hi
          exact ⟨v, by rw [World.cell?_setCells_out _ _ _ _ _ (fun _ _ => Or.inr (by simp; omega))]; exact h3, CRel.mono hL _ _ h4⟩
    · rw [upd_ne _ _ e] at h
      obtain ⟨v, h2, h3⟩ := hm.cells id' b' h i c hi
      have hne := hm.apart id b hb hown id' b' h e
      exact ⟨v, by rw [World.cell?_setCells_out _ _ _ _ _ (fun h1 _ => absurd h1 hne)]; exact h2, CRel.mono hL _ _ h3⟩
  · intro id' b' h hown' o
    obtain ⟨b0, h1, h2⟩ := hback id' b' h
    rw [World.frozen?_setCells]; exact hm.soft id' b0 h1 (h2 hown') o
  · intro id' b' h hown' id'' b'' h' hne
    obtain ⟨b0, h1, h2⟩ := hback id' b' h
    obtain ⟨b1, h3, _⟩ := hback id'' b'' h'
    exact hm.apart id' b0 h1 (h2 hown') id'' b1 h3 hne
  · intro id' b' _ h
    exact hback id' b' h
  · intro id' b' hi h
    obtain ⟨b0, h1, _⟩ := hback id' b' h
    exact absurd (hm.lt id' b0 h1) (Nat.not_lt.2 hi)
end
end Go.Proofs.Ytkdbnmohpanpfaa.Sy

/- An evaluator of a part of Go's operations over a memory of its own, part four: the machine does what the evaluator says, operation by operation. Conditions: those that each theorem names. -/
namespace Go.Proofs.Ytkdbnmohpanpfaa.Sy
open Go
set_option linter.unusedVariables false
set_option linter.unusedSimpArgs false

section
variable {P : Program} {o : Oper} {a : Act} {ρ : Loc} {n : Nat} {w : World} {m : Mem} {ng : Nat} {env : Nat → Reg}

theorem d_mv {x : Operand} {x' : O} (ho : o.op = .move x ∨ o.op = .assign x) (hm : MRel ρ n w m) (hg : Glob ng ρ n) (he : ERel ρ n w env a) (hx : slimO ng x = some x') : Does P o a ρ n w m (evO env x') m n :=
  does_same (v := a.eval x) (by rcases ho with ho | ho <;> simp [execOp, ho]) hm (evO_rel hx hg he)

theorem sc_inv {v x : Value} (h : RRel ρ n w (.one (.sc v)) x) : x = v := by
  simp only [RRel, CRel] at h; exact h.1

theorem d_pick {c x y : Operand} {c' x' y' : O} {t : Bool} (ho : o.op = .pick c x y) (hm : MRel ρ n w m) (hg : Glob ng ρ n) (he : ERel ρ n w env a) (hc : slimO ng c = some c') (hx : slimO ng x = some x') (hy : slimO ng y = some y') (ht : evO env c' = .one (.sc (.bool t))) :
    Does P o a ρ n w m (if t then evO env x' else evO env y') m n := by
  have h1 := evO_rel hc hg he
  rw [ht] at h1
  have h2 := sc_inv h1
  refine does_same (v := if t then a.eval x else a.eval y) (by simp [execOp, ho, h2, asBool]) hm ?_
  cases t
  · simpa using evO_rel hy hg he
  · simpa using evO_rel hx hg he

theorem ptr_new (k : Nat × Nat) (hk : k.2 = 0) : RRel (upd ρ n k) (n + 1) w (.one (.ptr n 0)) (.pointer (some ⟨k.1, 0, none⟩)) := by
  simp only [RRel, CRel, upd_same]
  exact ⟨Nat.lt_succ_self _, by rw [hk]⟩

theorem d_alloc {e : TypeId} {z : List Value} (ho : o.op = .alloc e) (hm : MRel ρ n w m) (hz : tzero P e = some z) : Does P o a ρ n w m (.one (.ptr n 0)) (upd m n (some ⟨z.map .sc, true⟩)) (n + 1) := by
  unfold tzero at hz
  split at hz
  case h_2 => cases hz
  rename_i zv hzv
  split at hz
  case isFalse => cases hz
  rename_i hall
  cases hz
  obtain ⟨i, hi, hzi⟩ := Option.bind_eq_some_iff.1 hzv
  have hst := Step.alloc hm (zv.cells.toList.map .sc) zv.cells.toList e (CRels.sc _ (fun v hv => List.all_eq_true.1 hall v hv))
  refine does_run (v := .pointer (some ⟨w.heap.size, 0, none⟩)) ?_ hst (ptr_new _ rfl)
  simp [execOp, ho, Instr.alloc, zeroValue, typeInfo, hi, hzi, newVar, newRow]

theorem d_box {e : TypeId} {x : Operand} {x' : O} {cs : List Cell} (ho : o.op = .box e x) (hm : MRel ρ n w m) (hg : Glob ng ρ n) (he : ERel ρ n w env a) (hx : slimO ng x = some x') (hc : (evO env x').cs? = some cs) :
    Does P o a ρ n w m (.one (.ptr n 0)) (upd m n (some ⟨cs, true⟩)) (n + 1) := by
  obtain ⟨vs, h1, h2⟩ := cs_rel (evO_rel hx hg he) hc
  have hst := Step.alloc hm cs vs e h2
  refine does_run (v := .pointer (some ⟨w.heap.size, 0, none⟩)) ?_ hst (ptr_new _ rfl)
  simp [execOp, ho, Instr.box, newVar, newRow, h1]

theorem info_of_tsz {t : TypeId} {s : Nat} (h : tsz P t = some s) : ∃ i, P.info? t = some i ∧ i.size = s := by
  unfold tsz at h
  obtain ⟨i, h1, h2⟩ := Option.map_eq_some_iff.1 h
  exact ⟨i, h1, h2⟩
theorem run_sizeOf_tsz {t : TypeId} {s : Nat} (h : tsz P t = some s) (w : World) : (sizeOf t).run P w = .ok s w := by
  obtain ⟨i, h1, h2⟩ := info_of_tsz h
  simp [sizeOf, typeInfo, h1, h2]
theorem run_isAgg_tagg {t : TypeId} {b : Bool} (h : tagg P t = some b) (w : World) : (isAgg t).run P w = .ok b w := by
  unfold tagg at h
  split at h
  · rename_i fs hu; cases h; simp [isAgg, run_underlying hu]
  · rename_i l e hu; cases h; simp [isAgg, run_underlying hu]
  · rename_i d h1 h2 hu
    cases h
    cases d <;> first | (simp [isAgg, run_underlying hu]; done) | (exact absurd rfl (h1 _)) | (exact absurd rfl (h2 _ _))
  · cases h

theorem ptr_inv {id off : Nat} {x : Value} (h : RRel ρ n w (.one (.ptr id off)) x) : id < n ∧ x = .pointer (some ⟨(ρ id).1, (ρ id).2 + off, none⟩) := by
  simpa only [RRel, CRel] using h

theorem d_load1 {t : TypeId} {x : Operand} {x' : O} {s id off : Nat} {b : Blk} {c : Cell} (ho : o.op = .load t x) (hm : MRel ρ n w m) (hg : Glob ng ρ n) (he : ERel ρ n w env a) (hx : slimO ng x = some x') (hag : tagg P t = some false) (hs : tsz P t = some s)
    (hp : evO env x' = .one (.ptr id off)) (hb : m id = some b) (hc : b.cells[off]? = some c) : Does P o a ρ n w m (.one c) m n := by
  have h1 := evO_rel hx hg he
  rw [hp] at h1
  obtain ⟨_, h2⟩ := ptr_inv h1
  obtain ⟨v, h3, h4⟩ := hm.cells id b hb off c hc
  refine does_same (v := v) ?_ hm (by simpa only [RRel] using h4)
  simp [execOp, ho, h2, Instr.loadAt, Instr.sureAddr, loadVar, run_isAgg_tagg hag, h3]

theorem d_loadA {t : TypeId} {x : Operand} {x' : O} {s id off : Nat} {cs : List Cell} (ho : o.op = .load t x) (hm : MRel ρ n w m) (hg : Glob ng ρ n) (he : ERel ρ n w env a) (hx : slimO ng x = some x') (hag : tagg P t = some true) (hs : tsz P t = some s)
    (hp : evO env x' = .one (.ptr id off)) (hc : rd m id off s = some cs) : Does P o a ρ n w m (.agg cs) m n := by
  have h1 := evO_rel hx hg he
  rw [hp] at h1
  obtain ⟨_, h2⟩ := ptr_inv h1
  obtain ⟨vs, h3, h4, h5, h6⟩ := run_loadCells_rd (P := P) hm hc
  refine does_same (v := .agg vs.toArray) ?_ hm (by simp only [RRel]; exact ⟨vs, rfl, h3⟩)
  simp [execOp, ho, h2, Instr.loadAt, Instr.sureAddr, loadVar, run_isAgg_tagg hag, run_sizeOf_tsz hs, h6]

theorem d_store {t : TypeId} {x v : Operand} {x' v' : O} {s id off : Nat} {cs : List Cell} {m' : Mem} (ho : o.op = .store t x v) (hm : MRel ρ n w m) (hg : Glob ng ρ n) (he : ERel ρ n w env a) (hx : slimO ng x = some x') (hv : slimO ng v = some v') (hs : tsz P t = some s)
    (hp : evO env x' = .one (.ptr id off)) (hc : (evO env v').cs? = some cs) (hl : cs.length = s) (hw : wr m id off cs = some m') : Does P o a ρ n w m (.tup []) m' n := by
  have h1 := evO_rel hx hg he
  rw [hp] at h1
  obtain ⟨_, h2⟩ := ptr_inv h1
  obtain ⟨vs, h3, h4⟩ := cs_rel (evO_rel hv hg he) hc
  obtain ⟨h5, h6, h7⟩ := Step.store hm hw h4
  have h8 := run_storeCells_cells (P := P) (ρ id).1 ((ρ id).2 + off) vs 0 w (by simpa using h6) (by simpa using h7) (CRels.all_one _ _ h4)
  simp only [Nat.add_zero] at h8
  have hlen : vs.length = s := (CRels.length _ _ h4).trans hl
  refine does_skip ?_ h5
  simp [execOp, ho, h2, Instr.storeAt, Instr.sureAddr, storeVar, run_sizeOf_tsz hs, h3, hlen, h8]

theorem d_nilp {x : Operand} {x' : O} {id off : Nat} (ho : o.op = .nilCheck x) (hm : MRel ρ n w m) (hg : Glob ng ρ n) (he : ERel ρ n w env a) (hx : slimO ng x = some x') (hp : evO env x' = .one (.ptr id off)) :
    Does P o a ρ n w m (.one (.ptr id off)) m n := by
  have h1 := evO_rel hx hg he
  rw [hp] at h1
  obtain ⟨_, h2⟩ := ptr_inv h1
  exact does_same (v := a.eval x) (by simp [execOp, ho, h2]) hm h1

theorem d_nilf {x : Operand} {x' : O} {f : Nat} {cs : List Cell} (ho : o.op = .nilCheck x) (hm : MRel ρ n w m) (hg : Glob ng ρ n) (he : ERel ρ n w env a) (hx : slimO ng x = some x') (hp : evO env x' = .one (.clo f cs)) :
    Does P o a ρ n w m (.one (.clo f cs)) m n := by
  have h1 := evO_rel hx hg he
  rw [hp] at h1
  obtain ⟨vs, h2, _⟩ : ∃ vs : List Value, a.eval x = .func (.func f) #[] vs.toArray ∧ CRels ρ n w cs vs := by simpa only [RRel, CRel] using h1
  exact does_same (v := a.eval x) (by simp [execOp, ho, h2]) hm h1

theorem run_binV {op : BinOp} {t : TypeId} {x y v : Value} (h : binV op x y = some v) (w : World) : (binOp op t x y).run P w = .ok v w := by
  unfold binV at h
  split at h
  · rename_i k a k' b
    cases op <;> simp only at h
    case shl => split at h <;> first | (cases h; done) | (rename_i hb; cases h; simp [binOp, Op.shift, hb])
    case shr => split at h <;> first | (cases h; done) | (rename_i hb; cases h; simp [binOp, Op.shift, hb])
    case quo => split at h <;> first | (cases h; done) | (rename_i hk; split at h <;> first | (cases h; done) | (rename_i hb; cases h; simp [binOp, Op.intDiv, hk, hb]))
    case rem => split at h <;> first | (cases h; done) | (rename_i hk; split at h <;> first | (cases h; done) | (rename_i hb; cases h; simp [binOp, Op.intDiv, hk, hb]))
    case andNot => cases h
    all_goals (split at h <;> first | (cases h; done) | (rename_i hk; cases h; simp [binOp, Op.intArith, Op.intBits, Op.intCmp, hk]))
  · cases h

theorem run_eqGuard {op : BinOp} {t : TypeId} {x y : Operand} {u v z : Value} (h : binV op u v = some z) (w : World) : (eqGuard op t x y u v).run P w = .ok () w := by
  unfold eqGuard
  cases u <;> simp only [binV] at h <;> first
    | (cases h; done)
    | (cases v <;> simp only at h <;> first | (cases h; done) | (split <;> first | rfl | simp))

theorem d_bin {op : BinOp} {t t2 : TypeId} {x y : Operand} {x' y' : O} {u v z : Value} (ho : o.op = .binOp op t x y t2) (hm : MRel ρ n w m) (hg : Glob ng ρ n) (he : ERel ρ n w env a) (hx : slimO ng x = some x') (hy : slimO ng y = some y')
    (hu : evO env x' = .one (.sc u)) (hv : evO env y' = .one (.sc v)) (h : binV op u v = some z) :
    Does P o a ρ n w m (.one (.sc z)) m n := by
  have h1 := evO_rel hx hg he
  have h2 := evO_rel hy hg he
  rw [hu] at h1
  rw [hv] at h2
  have h3 := sc_inv h1
  have h4 := sc_inv h2
  refine does_same (v := z) ?_ hm ?_
  · have h5 := run_eqGuard (P := P) (t := t) (x := x) (y := y) h w
    have h6 := run_binV (P := P) (t := t) h w
    simp [execOp, ho, h3, h4, h5, h6]
  · simp only [RRel, CRel]
    refine ⟨trivial, ?_⟩
    unfold binV at h
    split at h
    · cases op <;> simp only at h <;> first | (cases h; done) | (split at h <;> first | (cases h; done) | (cases h; rfl) | (split at h <;> first | (cases h; done) | (cases h; rfl)))
    · cases h

theorem d_beq {op : BinOp} {t t2 : TypeId} {x y : Operand} {x' y' : O} {u v : Bool} (ho : o.op = .binOp op t x y t2) (hm : MRel ρ n w m) (hg : Glob ng ρ n) (he : ERel ρ n w env a) (hx : slimO ng x = some x') (hy : slimO ng y = some y')
    (hop : op = .eql ∨ op = .neq) (ht : P.underlying t = some .bool) (hu : evO env x' = .one (.sc (.bool u))) (hv : evO env y' = .one (.sc (.bool v))) :
    Does P o a ρ n w m (.one (.sc (.bool ((u == v) != (op == .neq))))) m n := by
  have h1 := evO_rel hx hg he
  have h2 := evO_rel hy hg he
  rw [hu] at h1
  rw [hv] at h2
  have h3 := sc_inv h1
  have h4 := sc_inv h2
  refine does_same (v := .bool ((u == v) != (op == .neq))) ?_ hm (by simp [RRel, CRel, Value.oneCell'])
  rcases hop with rfl | rfl
  · simp [execOp, ho, h3, h4, eqGuard, binOp, run_equal_bool w t u v ht]; cases u <;> cases v <;> rfl
  · simp [execOp, ho, h3, h4, eqGuard, binOp, run_equal_bool w t u v ht]

theorem d_un {op : UnOp} {t : TypeId} {x : Operand} {x' : O} {u z : Value} (ho : o.op = .unOp op t x) (hm : MRel ρ n w m) (hg : Glob ng ρ n) (he : ERel ρ n w env a) (hx : slimO ng x = some x') (hu : evO env x' = .one (.sc u)) (h : unV op u = some z) :
    Does P o a ρ n w m (.one (.sc z)) m n := by
  have h1 := evO_rel hx hg he
  rw [hu] at h1
  have h3 := sc_inv h1
  unfold unV at h
  split at h
  · rename_i k b
    cases op <;> simp only at h <;> first | (cases h; done) | (cases h; exact does_same (v := .int k (k.wrap (0 - b))) (by simp [execOp, ho, h3, Op.unary, Op.intArith]) hm (by simp [RRel, CRel, Value.oneCell']))
  · rename_i b
    cases op <;> simp only at h <;> first | (cases h; done) | (cases h; exact does_same (v := .bool !b) (by simp [execOp, ho, h3, Op.unary]) hm (by simp [RRel, CRel, Value.oneCell']))
  · cases h

theorem d_conv {s d : TypeId} {x : Operand} {x' : O} {k k' ks : IntKind} {u : Int} (ho : o.op = .convert s d x) (hm : MRel ρ n w m) (hg : Glob ng ρ n) (he : ERel ρ n w env a) (hx : slimO ng x = some x') (hs : P.underlying s = some (.int ks)) (hd : P.underlying d = some (.int k)) (hu : evO env x' = .one (.sc (.int k' u))) :
    Does P o a ρ n w m (.one (.sc (.int k (k.wrap u)))) m n := by
  have h1 := evO_rel hx hg he
  rw [hu] at h1
  have h3 := sc_inv h1
  exact does_same (v := .int k (k.wrap u)) (by simp [execOp, ho, h3, convert, run_underlying hs, run_underlying hd, Conv.intToInt]) hm (by simp [RRel, CRel, Value.oneCell'])

theorem capsOf_rel : ∀ {rs : List Reg} {vs : List Value} {cs : List Cell}, RRels ρ n w rs vs → evalOp.capsOf rs = some cs → CRels ρ n w cs vs
  | [], vs, cs, h, hc => by simp only [evalOp.capsOf, Option.some.injEq] at hc; subst hc; simpa only [RRels, CRels] using h
  | .one c :: rs, vs, cs, h, hc => by
    simp only [evalOp.capsOf, Option.map_eq_some_iff] at hc
    obtain ⟨cs', h1, rfl⟩ := hc
    simp only [RRels] at h
    obtain ⟨v, r, rfl, h2, h3⟩ := h
    simp only [CRels]
    exact ⟨v, r, rfl, by simpa only [RRel] using h2, capsOf_rel h3 h1⟩
  | .agg _ :: _, _, _, _, hc => by simp [evalOp.capsOf] at hc
  | .tup _ :: _, _, _, _, hc => by simp [evalOp.capsOf] at hc

theorem d_mkfn {f : Nat} {caps first : Array Operand} {os : List O} {cs : List Cell} (ho : o.op = .makeFunc (.func f) first caps) (hf : first.size = 0) (hm : MRel ρ n w m) (hg : Glob ng ρ n) (he : ERel ρ n w env a) (hx : slimOs ng caps.toList = some os) (hc : evalOp.capsOf (evOs env os) = some cs) :
    Does P o a ρ n w m (.one (.clo f cs)) m n := by
  have h1 := evOs_rel hg he hx
  have h2 := capsOf_rel h1 hc
  have hf' : first = #[] := Array.eq_empty_of_size_eq_zero hf
  refine does_same (v := .func (.func f) #[] (caps.map a.eval)) (by simp [execOp, ho, Instr.makeFunc, hf']) hm ?_
  simp only [RRel, CRel]
  exact ⟨caps.toList.map a.eval, by congr 1; apply Array.ext'; simp, h2⟩

theorem d_fadr {t : TypeId} {i : Nat} {x : Operand} {x' : O} {fs : Array Field} {f : Field} {s id off : Nat} (ho : o.op = .fieldAddr t x i) (hm : MRel ρ n w m) (hg : Glob ng ρ n) (he : ERel ρ n w env a) (hx : slimO ng x = some x')
    (hu : P.underlying t = some (.struct fs)) (hf : fs[i]? = some f) (hs : tsz P f.type = some (s + 1)) (hp : evO env x' = .one (.ptr id off)) : Does P o a ρ n w m (.one (.ptr id (off + f.offset))) m n := by
  have h1 := evO_rel hx hg he
  rw [hp] at h1
  obtain ⟨h0, h2⟩ := ptr_inv h1
  refine does_same (v := .pointer (some ⟨(ρ id).1, (ρ id).2 + (off + f.offset), none⟩)) ?_ hm (by simp only [RRel, CRel]; exact ⟨h0, trivial⟩)
  simp [execOp, ho, h2, Instr.fieldAt, run_underlying hu, hf, Instr.sureAddr, fieldPlace, run_sizeOf_tsz hs, Addr.add0, Nat.add_assoc]

theorem part_agg {t : TypeId} {vs : List Value} {cs : List Cell} {off s : Nat} (hc : CRels ρ n w cs vs) (hs : tsz P t = some s) (hag : tagg P t = some true) (hle : off + s ≤ cs.length) :
    ∃ v, (part t vs.toArray off).run P w = .ok v w ∧ RRel ρ n w (.agg ((cs.drop off).take s)) v := by
  refine ⟨.agg (vs.toArray.extract off (off + s)), by simp [part, run_isAgg_tagg hag, run_sizeOf_tsz hs], ?_⟩
  simp only [RRel]
  refine ⟨(vs.drop off).take s, ?_, (hc.drop off).take s⟩
  congr 1
  apply Array.ext'
  simp [List.extract_eq_take_drop]

theorem part_one {t : TypeId} {vs : List Value} {cs : List Cell} {off : Nat} {c : Cell} (hc : CRels ρ n w cs vs) (hag : tagg P t = some false) (hg : cs[off]? = some c) :
    ∃ v, (part t vs.toArray off).run P w = .ok v w ∧ RRel ρ n w (.one c) v := by
  obtain ⟨v, h1, h2⟩ := CRels.get _ _ hc off c hg
  refine ⟨v, by simp [part, run_isAgg_tagg hag, h1], ?_⟩
  simp only [RRel]; exact h2

theorem agg_inv {cs : List Cell} {x : Value} (h : RRel ρ n w (.agg cs) x) : ∃ vs : List Value, x = .agg vs.toArray ∧ CRels ρ n w cs vs := by
  simpa only [RRel] using h

theorem d_fld_agg {t : TypeId} {i : Nat} {x : Operand} {x' : O} {fs : Array Field} {f : Field} {s : Nat} {cs : List Cell} (ho : o.op = .field t x i) (hm : MRel ρ n w m) (hg : Glob ng ρ n) (he : ERel ρ n w env a) (hx : slimO ng x = some x')
    (hu : P.underlying t = some (.struct fs)) (hf : fs[i]? = some f) (hs : tsz P f.type = some s) (hag : tagg P f.type = some true) (hp : evO env x' = .agg cs) (hle : f.offset + s ≤ cs.length) :
    Does P o a ρ n w m (.agg ((cs.drop f.offset).take s)) m n := by
  have h1 := evO_rel hx hg he
  rw [hp] at h1
  obtain ⟨vs, h2, h3⟩ := agg_inv h1
  obtain ⟨v, h4, h5⟩ := part_agg h3 hs hag hle
  exact does_same (v := v) (by simp [execOp, ho, h2, Instr.field, run_underlying hu, hf, asAgg, h4]) hm h5

theorem d_fld_one {t : TypeId} {i : Nat} {x : Operand} {x' : O} {fs : Array Field} {f : Field} {cs : List Cell} {c : Cell} (ho : o.op = .field t x i) (hm : MRel ρ n w m) (hg : Glob ng ρ n) (he : ERel ρ n w env a) (hx : slimO ng x = some x')
    (hu : P.underlying t = some (.struct fs)) (hf : fs[i]? = some f) (hag : tagg P f.type = some false) (hp : evO env x' = .agg cs) (hc : cs[f.offset]? = some c) :
    Does P o a ρ n w m (.one c) m n := by
  have h1 := evO_rel hx hg he
  rw [hp] at h1
  obtain ⟨vs, h2, h3⟩ := agg_inv h1
  obtain ⟨v, h4, h5⟩ := part_one (P := P) h3 hag hc
  exact does_same (v := v) (by simp [execOp, ho, h2, Instr.field, run_underlying hu, hf, asAgg, h4]) hm h5

theorem ix_inv {r : Reg} {i : Int} {x : Value} (h : RRel ρ n w r x) (hi : ix r = some i) : ∃ k, x = .int k i := by
  unfold ix at hi
  split at hi
  · cases hi; exact ⟨_, sc_inv h⟩
  · cases hi

theorem d_idx_agg {t e : TypeId} {x y : Operand} {x' y' : O} {len s : Nat} {cs : List Cell} {i : Int} (ho : o.op = .index t x y) (hm : MRel ρ n w m) (hg : Glob ng ρ n) (he : ERel ρ n w env a) (hx : slimO ng x = some x') (hy : slimO ng y = some y')
    (hu : P.underlying t = some (.array len e)) (hs : tsz P e = some s) (hag : tagg P e = some true) (hp : evO env x' = .agg cs) (hi : ix (evO env y') = some i) (h0 : 0 ≤ i) (h1 : i < len) (hle : i.toNat * s + s ≤ cs.length) :
    Does P o a ρ n w m (.agg ((cs.drop (i.toNat * s)).take s)) m n := by
  have h1' := evO_rel hx hg he
  rw [hp] at h1'
  obtain ⟨vs, h2, h3⟩ := agg_inv h1'
  obtain ⟨k, h6⟩ := ix_inv (evO_rel hy hg he) hi
  obtain ⟨v, h4, h5⟩ := part_agg h3 hs hag hle
  exact does_same (v := v) (by simp [execOp, ho, h2, h6, Instr.index, run_underlying hu, asIntOf, run_sizeOf_tsz hs, h0, h1, h4]) hm h5

theorem d_idx_one {t e : TypeId} {x y : Operand} {x' y' : O} {len s : Nat} {cs : List Cell} {c : Cell} {i : Int} (ho : o.op = .index t x y) (hm : MRel ρ n w m) (hg : Glob ng ρ n) (he : ERel ρ n w env a) (hx : slimO ng x = some x') (hy : slimO ng y = some y')
    (hu : P.underlying t = some (.array len e)) (hs : tsz P e = some s) (hag : tagg P e = some false) (hp : evO env x' = .agg cs) (hi : ix (evO env y') = some i) (h0 : 0 ≤ i) (h1 : i < len) (hc : cs[i.toNat * s]? = some c) :
    Does P o a ρ n w m (.one c) m n := by
  have h1' := evO_rel hx hg he
  rw [hp] at h1'
  obtain ⟨vs, h2, h3⟩ := agg_inv h1'
  obtain ⟨k, h6⟩ := ix_inv (evO_rel hy hg he) hi
  obtain ⟨v, h4, h5⟩ := part_one (P := P) h3 hag hc
  exact does_same (v := v) (by simp [execOp, ho, h2, h6, Instr.index, run_underlying hu, asIntOf, run_sizeOf_tsz hs, h0, h1, h4]) hm h5

theorem bytes_at {s : ByteArray} {i b : Nat} (h : (s.data.toList.map UInt8.toNat)[i]? = some b) : ∃ c : UInt8, s[i]? = some c ∧ c.toNat = b := by
  rw [List.getElem?_map] at h
  obtain ⟨c, h1, h2⟩ := Option.map_eq_some_iff.1 h
  have h3 := List.getElem?_eq_some_iff.1 h1
  obtain ⟨h4, h5⟩ := h3
  have h6 : i < s.size := by simpa using h4
  refine ⟨c, ?_, h2⟩
  rw [getElem?_pos s i h6]
  congr 1
theorem d_istr {t : TypeId} {x y : Operand} {y' : O} {s : ByteArray} {i : Int} {b : Nat} (ho : o.op = .index t x y) (hx : slimO ng x = some (.c (.one (.sc (.string s))))) (hm : MRel ρ n w m) (hg : Glob ng ρ n) (he : ERel ρ n w env a) (hy : slimO ng y = some y')
    (hu : P.underlying t = some .string) (hi : ix (evO env y') = some i) (h0 : 0 ≤ i) (hc : (s.data.toList.map UInt8.toNat)[i.toNat]? = some b) :
    Does P o a ρ n w m (.one (.sc (.int .u8 b))) m n := by
  obtain ⟨k, h6⟩ := ix_inv (evO_rel hy hg he) hi
  obtain ⟨c, h7, h8⟩ := bytes_at hc
  have h9 := sc_inv (evO_rel hx hg he)
  exact does_same (v := .int .u8 b) (by simp [execOp, ho, h6, h9, Instr.index, run_underlying hu, asIntOf, h0, h7, h8]) hm (by simp only [RRel, CRel]; exact ⟨trivial, rfl⟩)

theorem sl_inv {id off len sz : Nat} {cap : Option Nat} {x : Value} (h : RRel ρ n w (.one (.sl id off len cap sz)) x) :
    id < n ∧ ∃ o cp, x = .slice (some ⟨(ρ id).1, o, none⟩) len cp ∧ (cp ≠ 0 → o = (ρ id).2 + off) ∧ len ≤ cp ∧ (∀ c, cap = some c → cp = c) ∧ (∀ j, j < cp * sz → (w.cell? ⟨(ρ id).1, o + j, none⟩).isSome = true) := by
  simpa only [RRel, CRel] using h

theorem d_iadrA {t e : TypeId} {x y : Operand} {x' y' : O} {len s id off : Nat} {i : Int} (ho : o.op = .indexAddr t x y) (hm : MRel ρ n w m) (hg : Glob ng ρ n) (he : ERel ρ n w env a) (hx : slimO ng x = some x') (hy : slimO ng y = some y')
    (hu : P.underlying t = some (.array len e)) (hs : tsz P e = some s) (hp : evO env x' = .one (.ptr id off)) (hi : ix (evO env y') = some i) (h0 : 0 ≤ i) (h1 : i < len) :
    Does P o a ρ n w m (.one (.ptr id (off + i.toNat * s))) m n := by
  have h1' := evO_rel hx hg he
  rw [hp] at h1'
  obtain ⟨h3, h2⟩ := ptr_inv h1'
  obtain ⟨k, h6⟩ := ix_inv (evO_rel hy hg he) hi
  refine does_same (v := .pointer (some ⟨(ρ id).1, (ρ id).2 + (off + i.toNat * s), none⟩)) ?_ hm (by simp only [RRel, CRel]; exact ⟨h3, trivial⟩)
  simp [execOp, ho, h2, h6, Instr.indexAt, run_underlying hu, asIntOf, Instr.sureAddr, run_sizeOf_tsz hs, h0, h1, Addr.add0, Nat.add_assoc]

theorem d_iadrS {t e : TypeId} {x y : Operand} {x' y' : O} {len s id off : Nat} {cap : Option Nat} {i : Int} (ho : o.op = .indexAddr t x y) (hm : MRel ρ n w m) (hg : Glob ng ρ n) (he : ERel ρ n w env a) (hx : slimO ng x = some x') (hy : slimO ng y = some y')
    (hu : P.underlying t = some (.slice e)) (hs : tsz P e = some s) (hp : evO env x' = .one (.sl id off len cap s)) (hi : ix (evO env y') = some i) (h0 : 0 ≤ i) (h1 : i < len) :
    Does P o a ρ n w m (.one (.ptr id (off + i.toNat * s))) m n := by
  have h1' := evO_rel hx hg he
  rw [hp] at h1'
  obtain ⟨h3, oo, cp, h2, h7, h8, _, _⟩ := sl_inv h1'
  have h9 := h7 (by omega)
  subst h9
  obtain ⟨k, h6⟩ := ix_inv (evO_rel hy hg he) hi
  refine does_same (v := .pointer (some ⟨(ρ id).1, (ρ id).2 + (off + i.toNat * s), none⟩)) ?_ hm (by simp only [RRel, CRel]; exact ⟨h3, trivial⟩)
  simp [execOp, ho, h2, h6, Instr.indexAt, run_underlying hu, asIntOf, Instr.sureAddr, run_sizeOf_tsz hs, h0, h1, Addr.add0, Nat.add_assoc]

theorem d_ext {x : Operand} {x' : O} {i : Nat} {rs : List Reg} {r : Reg} (ho : o.op = .extract x i) (hm : MRel ρ n w m) (hg : Glob ng ρ n) (he : ERel ρ n w env a) (hx : slimO ng x = some x') (hp : evO env x' = .tup rs) (hr : rs[i]? = some r) :
    Does P o a ρ n w m r m n := by
  have h1 := evO_rel hx hg he
  rw [hp] at h1
  obtain ⟨vs, h2, h3⟩ : ∃ vs : List Value, a.eval x = .tuple vs.toArray ∧ RRels ρ n w rs vs := by simpa only [RRel] using h1
  obtain ⟨v, h4, h5⟩ := RRels.get _ _ h3 i r hr
  exact does_same (v := v) (by simp [execOp, ho, h2, Instr.extract, h4]) hm h5
end
end Go.Proofs.Ytkdbnmohpanpfaa.Sy

/- An evaluator of a part of Go's operations over a memory of its own, part five: structs and arrays compared, composed. Conditions: those that each theorem names. -/
namespace Go.Proofs.Ytkdbnmohpanpfaa.Sy
open Go
set_option linter.unusedVariables false
set_option linter.unusedSimpArgs false

def eqVs : List Sk → List Value → List Value → Option Bool
  | [], [], [] => some true
  | .i :: ks, .int k a :: xs, .int k' b :: ys => if k = k' then (eqVs ks xs ys).map ((a == b) && ·) else none
  | .b :: ks, .bool a :: xs, .bool b :: ys => (eqVs ks xs ys).map ((a == b) && ·)
  | _, _, _ => none

section
variable {ρ : Loc} {n : Nat} {w : World}
theorem eqVs_of : ∀ (ks : List Sk) (cs cs' : List Cell) (vs vs' : List Value) (b : Bool), CRels ρ n w cs vs → CRels ρ n w cs' vs' → eqCells ks cs cs' = some b → eqVs ks vs vs' = some b := by
  intro ks cs cs'
  induction ks, cs, cs' using eqCells.induct with
  | case1 =>
    intro vs vs' b h h' he
    simp only [CRels] at h h'
    subst h; subst h'
    simpa only [eqCells, eqVs] using he
  | case2 ks a xs k b ys ih =>
    intro vs vs' t h h' he
    simp only [CRels, CRel] at h h'
    obtain ⟨_, r, rfl, ⟨rfl, _⟩, h3⟩ := h
    obtain ⟨_, r', rfl, ⟨rfl, _⟩, h3'⟩ := h'
    simp only [eqCells, if_true, Option.map_eq_some_iff] at he
    obtain ⟨b', h4, h5⟩ := he
    simp only [eqVs, if_true, ih r r' b' h3 h3' h4, Option.map_some, h5]
  | case3 ks k a xs k' b ys hne =>
    intro vs vs' t h h' he
    simp only [eqCells, if_neg hne] at he
    cases he
  | case4 ks a xs b ys ih =>
    intro vs vs' t h h' he
    simp only [CRels, CRel] at h h'
    obtain ⟨_, r, rfl, ⟨rfl, _⟩, h3⟩ := h
    obtain ⟨_, r', rfl, ⟨rfl, _⟩, h3'⟩ := h'
    simp only [eqCells, Option.map_eq_some_iff] at he
    obtain ⟨b', h4, h5⟩ := he
    simp only [eqVs, ih r r' b' h3 h3' h4, Option.map_some, h5]
  | case5 ks xs ys h1 h2 h3 =>
    intro vs vs' t h h' he
    rw [eqCells.eq_4 _ _ _ h1 h2 h3] at he
    cases he
end

theorem eqVs_length : ∀ (ks : List Sk) (vs vs' : List Value) (b : Bool), eqVs ks vs vs' = some b → vs.length = ks.length ∧ vs'.length = ks.length := by
  intro ks vs vs'
  induction ks, vs, vs' using eqVs.induct with
  | case1 => intro b _; exact ⟨rfl, rfl⟩
  | case2 ks a xs k b ys ih =>
    intro t he
    simp only [eqVs, if_true, Option.map_eq_some_iff] at he
    obtain ⟨b', h4, _⟩ := he
    have := ih b' h4
    simp [this]
  | case3 ks k a xs k' b ys hne => intro t he; simp only [eqVs, if_neg hne] at he; cases he
  | case4 ks a xs b ys ih =>
    intro t he
    simp only [eqVs, Option.map_eq_some_iff] at he
    obtain ⟨b', h4, _⟩ := he
    have := ih b' h4
    simp [this]
  | case5 ks xs ys h1 h2 h3 => intro t he; rw [eqVs.eq_4 _ _ _ h1 h2 h3] at he; cases he

theorem eqVs_append : ∀ (ks : List Sk) (vs vs' : List Value) (ls : List Sk) (b : Bool), eqVs (ks ++ ls) vs vs' = some b →
    ∃ b1 b2, eqVs ks (vs.take ks.length) (vs'.take ks.length) = some b1 ∧ eqVs ls (vs.drop ks.length) (vs'.drop ks.length) = some b2 ∧ b = (b1 && b2)
  | [], vs, vs', ls, b, h => ⟨true, b, by simp [eqVs], by simpa using h, by simp⟩
  | k :: ks, vs, vs', ls, b, h => by
    cases k with
    | i =>
      rcases vs with _ | ⟨v, vs⟩
      · simp [eqVs] at h
      rcases vs' with _ | ⟨v', vs'⟩
      · cases v <;> simp [eqVs] at h
      cases v <;> cases v' <;> simp only [List.cons_append, eqVs] at h <;> first | (cases h; done) | skip
      split at h
      case isFalse => cases h
      rename_i hk
      simp only [Option.map_eq_some_iff] at h
      obtain ⟨b', h1, h2⟩ := h
      obtain ⟨b1, b2, h3, h4, h5⟩ := eqVs_append ks vs vs' ls b' h1
      rename_i x _ y
      exact ⟨(x == y) && b1, b2, by simp [eqVs, hk, h3], by simpa using h4, by rw [← h2, h5, Bool.and_assoc]⟩
    | b =>
      rcases vs with _ | ⟨v, vs⟩
      · simp [eqVs] at h
      rcases vs' with _ | ⟨v', vs'⟩
      · cases v <;> simp [eqVs] at h
      cases v <;> cases v' <;> simp only [List.cons_append, eqVs] at h <;> first | (cases h; done) | skip
      simp only [Option.map_eq_some_iff] at h
      obtain ⟨b', h1, h2⟩ := h
      obtain ⟨b1, b2, h3, h4, h5⟩ := eqVs_append ks vs vs' ls b' h1
      rename_i x y
      exact ⟨(x == y) && b1, b2, by simp [eqVs, h3], by simpa using h4, by rw [← h2, h5, Bool.and_assoc]⟩

def eqEls (d : Nat) (e sz : Nat) (xs ys : Array Value) : List Nat → Sem Bool
  | [] => pure true
  | i :: is => do
    let a ← part e xs (i * sz)
    let b ← part e ys (i * sz)
    let r ← Op.equalIn d e a b
    if (!r) = true then pure false else eqEls d e sz xs ys is

section
variable {P : Program}
theorem run_equalIn_arr (w : World) (d : Nat) (t e n sz : Nat) (xs ys : Array Value) (ht : P.underlying t = some (.array n e)) (hs : ∀ W : World, (sizeOf e).run P W = .ok sz W) :
    (Op.equalIn (d + 1) t (.agg xs) (.agg ys)).run P w = (eqEls d e sz xs ys (List.range' 0 n)).run P w := by
  simp only [Op.equalIn, Sem.run_bind, run_underlying ht, Result.andThen_ok, hs]
  rw [Std.Legacy.Range.forIn_eq_forIn_range']
  have hz : (⟨0, n, 1, by decide⟩ : Std.Legacy.Range).size = n := by simp [Std.Legacy.Range.size]
  rw [hz]
  simp only []
  generalize List.range' 0 n 1 = is
  clear ht
  induction is generalizing w with
  | nil => simp [eqEls]
  | cons i is ih =>
    simp only [List.forIn_cons, eqEls, Sem.run_bind]
    generalize (part e xs (i * sz)).run P w = r1
    cases r1 with
    | ok a w1 =>
      simp only [Result.andThen_ok]
      generalize (part e ys (i * sz)).run P w1 = r2
      cases r2 with
      | ok b w2 =>
        simp only [Result.andThen_ok]
        generalize (Op.equalIn d e a b).run P w2 = r3
        cases r3 with
        | ok r w3 =>
          cases r
          · simp only [Result.andThen_ok, Bool.not_false, if_true, Sem.run_pure, Sem.run_ite]
          · simp only [Result.andThen_ok, Bool.not_true, Bool.false_eq_true, if_false, Sem.run_pure, Sem.run_ite]
            exact ih w3
        | halt x w3 => simp [Result.andThen]
      | halt x w2 => simp [Result.andThen]
    | halt x w1 => simp [Result.andThen]

/-- What a part of a row is, as_ a value. -/
def asV (ag : Bool) (vs : List Value) : Value := if ag then .agg vs.toArray else vs.headD undef

theorem run_part {t : TypeId} {s : Nat} {ag : Bool} {vs : List Value} {off : Nat} (hs : tsz P t = some s) (hag : tagg P t = some ag) (hle : off + s ≤ vs.length) (h1 : ag = false → s = 1) (w : World) :
    (part t vs.toArray off).run P w = .ok (asV ag ((vs.drop off).take s)) w := by
  cases ag
  · have := h1 rfl
    subst this
    have h2 : off < vs.length := by omega
    simp only [part, Sem.run_bind, run_isAgg_tagg hag, Result.andThen_ok, Bool.false_eq_true, if_false, asV]
    have : vs.toArray[off]? = some vs[off] := by simp [h2]
    rw [this]
    have h3 : vs.drop off = vs[off] :: vs.drop (off + 1) := List.drop_eq_getElem_cons h2
    rw [h3, List.take_succ_cons, List.take_zero, List.headD_cons]
    rfl
  · simp [part, run_isAgg_tagg hag, run_sizeOf_tsz hs, asV, List.extract_eq_take_drop]

theorem flatK_tagg {d : Nat} {t : TypeId} {ks : List Sk} (h : flatK P d t = some ks) : ∃ ag, tagg P t = some ag ∧ (ag = false → ks.length = 1) := by
  cases d with
  | zero => simp [flatK] at h
  | succ d =>
    simp only [flatK] at h
    split at h
    · rename_i k hu; cases h; exact ⟨false, by simp [tagg, hu], fun _ => rfl⟩
    · rename_i hu; cases h; exact ⟨false, by simp [tagg, hu], fun _ => rfl⟩
    · rename_i l e hu; exact ⟨true, by simp [tagg, hu], fun h => by cases h⟩
    · rename_i fs hu; exact ⟨true, by simp [tagg, hu], fun h => by cases h⟩
    · cases h

theorem eq_flat : ∀ (d : Nat),
    (∀ (t : TypeId) (ks : List Sk), flatK P d t = some ks → ∀ (D : Nat), d ≤ D → ∀ (ag : Bool), tagg P t = some ag → ∀ (vs vs' : List Value) (b : Bool) (w : World), eqVs ks vs vs' = some b → (Op.equalIn D t (asV ag vs) (asV ag vs')).run P w = .ok b w) ∧
    (∀ (fs : List Field) (o : Nat) (ks : List Sk), flatKs P d fs o = some ks → ∀ (D : Nat), d ≤ D → ∀ (vs vs' : List Value) (b : Bool) (w : World), o + ks.length = vs.length → o + ks.length = vs'.length → eqVs ks (vs.drop o) (vs'.drop o) = some b → (Op.eqFields D vs.toArray vs'.toArray fs).run P w = .ok b w) := by
  intro d
  induction d with
  | zero =>
    exact ⟨fun t ks h => by simp [flatK] at h, fun fs o ks h => by simp [flatKs] at h⟩
  | succ d ih =>
    obtain ⟨ihA, ihB⟩ := ih
    constructor
    · intro t ks h D hD ag hag vs vs' b w he
      obtain ⟨D, rfl⟩ : ∃ k, D = k + 1 := ⟨D - 1, by omega⟩
      simp only [flatK] at h
      split at h
      · rename_i k hu
        cases h
        simp only [tagg, hu, Option.some.injEq] at hag
        subst hag
        rcases vs with _ | ⟨v, vs⟩
        · simp [eqVs] at he
        rcases vs' with _ | ⟨v', vs'⟩
        · cases v <;> simp [eqVs] at he
        cases v <;> cases v' <;> simp only [eqVs] at he <;> first | (cases he; done) | skip
        split at he
        case isFalse => cases he
        rename_i hk
        subst hk
        rcases vs with _ | ⟨v, vs⟩ <;> rcases vs' with _ | ⟨v', vs'⟩ <;> simp [eqVs] at he
        subst he
        simpa [asV] using run_equalIn_int (P := P) w D t _ k _ _ hu
      · rename_i hu
        cases h
        simp only [tagg, hu, Option.some.injEq] at hag
        subst hag
        rcases vs with _ | ⟨v, vs⟩
        · simp [eqVs] at he
        rcases vs' with _ | ⟨v', vs'⟩
        · cases v <;> simp [eqVs] at he
        cases v <;> cases v' <;> simp only [eqVs] at he <;> first | (cases he; done) | skip
        rcases vs with _ | ⟨v, vs⟩ <;> rcases vs' with _ | ⟨v', vs'⟩ <;> simp [eqVs] at he
        subst he
        simpa [asV] using run_equalIn_bool (P := P) w D t _ _ hu
      · rename_i l e hu
        simp only [tagg, hu, Option.some.injEq] at hag
        subst hag
        split at h
        case h_2 => cases h
        rename_i ks' s hks hs
        split at h
        case isFalse => cases h
        rename_i hlen
        cases h
        obtain ⟨ag', hag', hone⟩ := flatK_tagg hks
        simp only [asV, if_true]
        rw [run_equalIn_arr w D t e l s vs.toArray vs'.toArray hu (fun W => run_sizeOf_tsz hs W)]
        have hlv := eqVs_length _ _ _ _ he
        have key : ∀ (k i : Nat) (b : Bool), i + k = l → eqVs (List.replicate k ks').flatten (vs.drop (i * s)) (vs'.drop (i * s)) = some b → (eqEls D e s vs.toArray vs'.toArray (List.range' i k)).run P w = .ok b w := by
          intro k
          induction k with
          | zero =>
            intro i b hi hb
            have h1 := eqVs_length _ _ _ _ hb
            simp only [List.replicate_zero, List.flatten_nil, List.length_nil] at h1 hb
            rw [List.length_eq_zero_iff.1 h1.1, List.length_eq_zero_iff.1 h1.2] at hb
            simp [eqVs] at hb
            subst hb
            simp [eqEls]
          | succ k ihk =>
            intro i b hi hb
            simp only [List.replicate_succ, List.flatten_cons] at hb
            obtain ⟨b1, b2, h1, h2, h3⟩ := eqVs_append _ _ _ _ _ hb
            rw [hlen] at h1 h2
            rw [List.drop_drop, List.drop_drop, show i * s + s = (i + 1) * s by rw [Nat.add_mul, Nat.one_mul]] at h2
            have h4 := ihk (i + 1) b2 (by omega) h2
            have hl1 := (eqVs_length _ _ _ _ h1)
            rw [hlen] at hl1
            simp only [List.length_take, List.length_drop] at hl1
            have hz : ag' = false → s = 1 := fun h => by rw [← hlen]; exact hone h
            rcases Nat.eq_zero_or_pos s with hs0 | hs0
            · have p1 := run_part (vs := vs) (off := i * s) hs hag' (by subst hs0; simp) hz w
              have p2 := run_part (vs := vs') (off := i * s) hs hag' (by subst hs0; simp) hz w
              have p3 := ihA e ks' hks D (by omega) ag' hag' _ _ b1 w h1
              simp only [List.range'_succ, eqEls, Sem.run_bind, p1, p2, p3, Result.andThen_ok]
              cases b1
              · simp [h3]
              · simpa [h3] using h4
            · have p1 := run_part (vs := vs) (off := i * s) hs hag' (by omega) hz w
              have p2 := run_part (vs := vs') (off := i * s) hs hag' (by omega) hz w
              have p3 := ihA e ks' hks D (by omega) ag' hag' _ _ b1 w h1
              simp only [List.range'_succ, eqEls, Sem.run_bind, p1, p2, p3, Result.andThen_ok]
              cases b1
              · simp [h3]
              · simpa [h3] using h4
        exact key l 0 b (by omega) (by simpa using he)
      · rename_i fs hu
        simp only [tagg, hu, Option.some.injEq] at hag
        subst hag
        split at h
        case isTrue => cases h
        rename_i hst
        simp only [asV, if_true]
        have hfo : P.fieldsOf t = fs := by simp [Program.fieldsOf, hu]
        rw [run_equalIn_struct w D t vs.toArray vs'.toArray (by rw [hfo]; exact hu) (by simpa using hst), hfo]
        have hlv := eqVs_length _ _ _ _ he
        exact ihB fs.toList 0 ks h D (by omega) vs vs' b w (by omega) (by omega) (by simpa using he)
      · cases h
    · intro fs o ks h D hD vs vs' b w hl hl' he
      cases fs with
      | nil =>
        simp only [flatKs, Option.some.injEq] at h
        subst h
        have h1 := eqVs_length _ _ _ _ he
        simp only [List.length_nil] at h1
        rw [List.length_eq_zero_iff.1 h1.1, List.length_eq_zero_iff.1 h1.2] at he
        simp [eqVs] at he
        subst he
        simp [Op.eqFields]
      | cons f fs =>
        simp only [flatKs] at h
        split at h
        case isTrue => cases h
        rename_i hnm
        split at h
        case h_2 => cases h
        rename_i ks' s hks hs
        split at h
        case isFalse => cases h
        rename_i hlen
        obtain ⟨ls, hls, rfl⟩ := Option.map_eq_some_iff.1 h
        obtain ⟨b1, b2, h1, h2, h3⟩ := eqVs_append _ _ _ _ _ he
        rw [hlen] at h1 h2
        rw [List.drop_drop, List.drop_drop] at h2
        obtain ⟨ag', hag', hone⟩ := flatK_tagg hks
        have hz : ag' = false → s = 1 := fun h => by rw [← hlen]; exact hone h
        simp only [List.length_append] at hl hl'
        have hn1 : f.name ≠ "_" := fun e => hnm (Or.inl e)
        have hn2 : f.offset = o := Classical.byContradiction fun e => hnm (Or.inr e)
        have p1 := run_part (vs := vs) (off := o) hs hag' (by omega) hz w
        have p2 := run_part (vs := vs') (off := o) hs hag' (by omega) hz w
        have p3 := ihA f.type ks' hks D (by omega) ag' hag' _ _ b1 w h1
        have p4 := ihB fs (o + s) ls hls D (by omega) vs vs' b2 w (by omega) (by omega) h2
        simp only [Op.eqFields, if_pos hn1, Sem.run_bind, hn2, p1, p2, p3, Result.andThen_ok]
        cases b1
        · simp [h3]
        · simpa [h3] using p4
end

section
variable {P : Program} {o : Oper} {a : Act} {ρ : Loc} {n : Nat} {w : World} {m : Mem} {ng : Nat} {env : Nat → Reg}

theorem d_eqv {op : BinOp} {t t2 : TypeId} {x y : Operand} {x' y' : O} {cs cs' : List Cell} {ks : List Sk} {b : Bool} (ho : o.op = .binOp op t x y t2) (hm : MRel ρ n w m) (hg : Glob ng ρ n) (he : ERel ρ n w env a) (hx : slimO ng x = some x') (hy : slimO ng y = some y')
    (hop : op = .eql ∨ op = .neq) (hag : tagg P t = some true) (hk : flatK P 100 t = some ks) (hgd : P.eqGuardType P.depth t = false) (hu : evO env x' = .agg cs) (hv : evO env y' = .agg cs') (h : eqCells ks cs cs' = some b) :
    Does P o a ρ n w m (.one (.sc (.bool (b != (op == .neq))))) m n := by
  have h1 := evO_rel hx hg he
  have h2 := evO_rel hy hg he
  rw [hu] at h1
  rw [hv] at h2
  obtain ⟨vs, h3, h4⟩ := agg_inv h1
  obtain ⟨vs', h5, h6⟩ := agg_inv h2
  have h7 := eqVs_of _ _ _ _ _ _ h4 h6 h
  have h8 := (eq_flat (P := P) 100).1 t ks hk 10000 (by decide) true hag vs vs' b w h7
  simp only [asV, if_true] at h8
  refine does_same (v := .bool (b != (op == .neq))) ?_ hm (by simp [RRel, CRel, Value.oneCell'])
  rcases hop with rfl | rfl
  · simp only [execOp, ho, h3, h5, Sem.run_bind, run_eqGuard_agg w _ t x y _ _ hgd, Result.andThen_ok, run_eql_struct, h8]
    cases b <;> simp
  · simp only [execOp, ho, h3, h5, Sem.run_bind, run_eqGuard_agg w _ t x y _ _ hgd, Result.andThen_ok, run_neq_struct, h8]
    cases b <;> simp
end
end Go.Proofs.Ytkdbnmohpanpfaa.Sy

/- An evaluator of a part of Go's operations over a memory of its own, part six: slices made of slices and arrays, rows built, lengths. Conditions: those that each theorem names. -/
namespace Go.Proofs.Ytkdbnmohpanpfaa.Sy
open Go
set_option linter.unusedVariables false
set_option linter.unusedSimpArgs false

section
variable {P : Program} {ρ : Loc} {n : Nat} {w : World} {m : Mem}

def ORel (ρ : Loc) (n : Nat) (w : World) : Option Reg → Option Value → Prop
  | none, none => True
  | some r, some v => RRel ρ n w r v
  | _, _ => False

theorem inR_run {r : Reg} {x : Value} {y z : Nat} {i : Nat} {c : BoundsCode} (h : RRel ρ n w r x) (hi : inR r y = some i) (hyz : y ≤ z) (W : World) : (Instr.sliceBound x z c).run P W = .ok i W ∧ i ≤ y := by
  unfold inR at hi
  split at hi
  case h_2 => cases hi
  rename_i k hk
  split at hi
  case isFalse => cases hi
  rename_i hh
  cases hi
  obtain ⟨kk, rfl⟩ := ix_inv h hk
  have h2 : k ≤ (z : Int) := by omega
  exact ⟨by simp [Instr.sliceBound, asIntOf, hh.1, h2], by omega⟩

theorem bnds_run {len cp l h : Nat} {cap c : Option Nat} {lo hi mx : Option Reg} {lo' hi' mx' : Option Value} (isS : Bool)
    (hb : bnds len cap lo hi mx = some (l, h, c)) (h1 : ORel ρ n w lo lo') (h2 : ORel ρ n w hi hi') (h3 : ORel ρ n w mx mx') (hlen : len ≤ cp) (hcap : ∀ c0, cap = some c0 → cp = c0) (W : World) :
    ∃ mm, (Instr.sliceBounds isS len cp lo' hi' mx').run P W = .ok (l, h, mm) W ∧ l ≤ h ∧ h ≤ mm ∧ mm ≤ cp ∧ (∀ c', c = some c' → mm - l = c') := by
  unfold bnds at hb
  split at hb
  case h_1 => cases hb
  rename_i mo hmo
  split at hb
  case h_1 => cases hb
  rename_i hh hhh
  split at hb
  case h_1 => cases hb
  rename_i ll hll
  cases hb
  -- the max
  have hcg : cap.getD len ≤ cp := by
    cases cap with
    | none => simpa using hlen
    | some c0 => simp [hcap c0 rfl]
  have hM : ∃ mm, (∀ W : World, (match mx' with | some v => Instr.sliceBound v cp (if isS then .slice3Acap else .slice3Alen) | none => pure cp).run P W = .ok mm W) ∧ mm ≤ cp ∧ mo.getD len ≤ mm ∧ (∀ c', mo = some c' → mm = c') := by
    cases mx with
    | none =>
      cases mx' with
      | some v => exact h3.elim
      | none =>
        simp only [bMax, Option.some.injEq] at hmo
        subst hmo
        exact ⟨cp, fun W => rfl, Nat.le_refl _, hcg, hcap⟩
    | some r =>
      cases mx' with
      | none => exact h3.elim
      | some v =>
        simp only [bMax, Option.map_eq_some_iff] at hmo
        obtain ⟨i, hi1, rfl⟩ := hmo
        refine ⟨i, fun W => (inR_run h3 hi1 hcg W).1, Nat.le_trans (inR_run (P := P) (c := .slice3B) h3 hi1 hcg W).2 hcg, by simp, by simp⟩
  obtain ⟨mm, hm1, hm2, hm3, hm4⟩ := hM
  have hH : (∀ W : World, (match hi', mx' with
      | some v, some _ => Instr.sliceBound v mm .slice3B
      | some v, none => Instr.sliceBound v mm (if isS then .sliceAcap else .sliceAlen)
      | none, none => pure len
      | none, some _ => stuck "Slice: max without high").run P W = .ok h W) ∧ h ≤ mm := by
    cases hi with
    | none =>
      cases hi' with
      | some v => exact h2.elim
      | none =>
        simp only [bHigh] at hhh
        split at hhh
        case isTrue => cases hhh
        rename_i hne
        cases hhh
        cases mx with
        | some r => simp at hne
        | none =>
          cases mx' with
          | some v => exact h3.elim
          | none =>
            refine ⟨fun W => rfl, ?_⟩
            simp only [bMax, Option.some.injEq] at hmo
            subst hmo
            cases cap with
            | none => simpa using hm3
            | some c0 =>
              have := hm4 c0 rfl
              have := hcap c0 rfl
              omega
    | some r =>
      cases hi' with
      | none => exact h2.elim
      | some v =>
        simp only [bHigh] at hhh
        cases mx' with
        | none => exact ⟨fun W => (inR_run h2 hhh hm3 W).1, Nat.le_trans (inR_run (P := P) (c := .slice3B) h2 hhh hm3 W).2 hm3⟩
        | some _ => exact ⟨fun W => (inR_run h2 hhh hm3 W).1, Nat.le_trans (inR_run (P := P) (c := .slice3B) h2 hhh hm3 W).2 hm3⟩
  obtain ⟨hH1, hH2⟩ := hH
  have hL : (∀ W : World, (match lo' with
      | some v => Instr.sliceBound v h (if mx'.isSome then .slice3C else .sliceB)
      | none => pure 0).run P W = .ok l W) ∧ l ≤ h := by
    cases lo with
    | none =>
      cases lo' with
      | some v => exact h1.elim
      | none => simp only [bLow, Option.some.injEq] at hll; subst hll; exact ⟨fun W => rfl, Nat.zero_le _⟩
    | some r =>
      cases lo' with
      | none => exact h1.elim
      | some v => exact ⟨fun W => (inR_run h1 hll (Nat.le_refl _) W).1, (inR_run (P := P) (c := .slice3B) h1 hll (Nat.le_refl _) W).2⟩
  obtain ⟨hL1, hL2⟩ := hL
  refine ⟨mm, ?_, hL2, hH2, hm2, ?_⟩
  · have a1 := hm1 W
    have a2 := hH1 W
    have a3 := hL1 W
    unfold Instr.sliceBounds
    cases mx' <;> cases hi' <;> cases lo' <;> simp only [Sem.run_bind, Sem.run_pure, Result.andThen_ok, Result.ok.injEq, and_true, Option.isSome_none, Option.isSome_some, Bool.false_eq_true, if_true, if_false] at a1 a2 a3 ⊢ <;> first
      | (rw [a1]; simp only [Result.andThen_ok]; rw [a2]; simp only [Result.andThen_ok]; rw [a3]; rfl)
      | (rw [a1]; simp only [Result.andThen_ok]; rw [a2]; simp [a3])
      | (subst a1; rw [a2]; simp only [Result.andThen_ok]; rw [a3]; rfl)
      | (subst a1; rw [a2]; simp [a3])
      | (subst a1; subst a2; rw [a3]; rfl)
      | (subst a1; subst a2; simp [a3])
      | (simp [stuck, Sem.run] at a2)
  · intro c' hc'
    obtain ⟨x, hx1, hx2⟩ := Option.map_eq_some_iff.1 hc'
    rw [hm4 x hx1]
    exact hx2

theorem slimOo_rel {ng : Nat} {env : Nat → Reg} {a : Act} {x : Option Operand} {y : Option O} (hg : Glob ng ρ n) (he : ERel ρ n w env a) (h : slimOo ng x = some y) : ORel ρ n w (y.map (evO env)) (x.map a.eval) := by
  cases x with
  | none => simp only [slimOo, Option.some.injEq] at h; subst h; trivial
  | some x =>
    simp only [slimOo, Option.map_eq_some_iff] at h
    obtain ⟨z, h1, rfl⟩ := h
    exact evO_rel h1 hg he

variable {o : Oper} {a : Act} {ng : Nat} {env : Nat → Reg}

theorem d_slS {t e : TypeId} {x : Operand} {x' : O} {lo hi mx : Option Operand} {lo' hi' mx' : Option O} {s id off len l h : Nat} {cap c : Option Nat} (ho : o.op = .slice t x lo hi mx) (hm : MRel ρ n w m) (hg : Glob ng ρ n) (he : ERel ρ n w env a)
    (hx : slimO ng x = some x') (h1 : slimOo ng lo = some lo') (h2 : slimOo ng hi = some hi') (h3 : slimOo ng mx = some mx') (hu : P.underlying t = some (.slice e)) (hs : tsz P e = some s)
    (hp : evO env x' = .one (.sl id off len cap s)) (hb : bnds len cap (lo'.map (evO env)) (hi'.map (evO env)) (mx'.map (evO env)) = some (l, h, c)) :
    Does P o a ρ n w m (.one (.sl id (off + l * s) (h - l) c s)) m n := by
  have h1' := evO_rel hx hg he
  rw [hp] at h1'
  obtain ⟨hid, oo, cp, hv, ho1, hlc, hcap, hcells⟩ := sl_inv h1'
  obtain ⟨mm, hr, hl, hh, hmm, hc⟩ := bnds_run (P := P) true hb (slimOo_rel hg he h1) (slimOo_rel hg he h2) (slimOo_rel hg he h3) hlc hcap w
  refine does_same (v := .slice (some ⟨(ρ id).1, if mm = l then oo else oo + l * s, none⟩) (h - l) (mm - l)) ?_ hm ?_
  · simp only [execOp, ho, hv, Instr.sliceAt, Sem.run_bind, run_underlying hu, Result.andThen_ok, Instr.slice, hr, run_sizeOf_tsz hs]
    by_cases e1 : mm = l
    · simp [e1]
    · simp [e1, Addr.add0]
  · simp only [RRel, CRel]
    refine ⟨hid, _, mm - l, rfl, ?_, by omega, fun c' h' => hc c' h', ?_⟩
    · intro hne
      have e1 : mm ≠ l := by omega
      rw [if_neg e1, ho1 (by omega)]
      omega
    · intro j hj
      have e1 : mm ≠ l := by
        intro e1; rw [e1, Nat.sub_self, Nat.zero_mul] at hj; omega
      rw [if_neg e1, Nat.add_assoc]
      refine hcells (l * s + j) ?_
      have h5 : l * s + (mm - l) * s = mm * s := by rw [← Nat.add_mul]; congr 1; omega
      have h6 : mm * s ≤ cp * s := Nat.mul_le_mul_right _ hmm
      omega

theorem nils_inv {x : Value} (h : RRel ρ n w (.one (.sc (.slice none 0 0))) x) : x = .slice none 0 0 := sc_inv h

theorem d_slN {t e : TypeId} {x : Operand} {x' : O} {lo hi mx : Option Operand} {lo' hi' mx' : Option O} {s : Nat} {q : Nat × Nat × Option Nat} (ho : o.op = .slice t x lo hi mx) (hm : MRel ρ n w m) (hg : Glob ng ρ n) (he : ERel ρ n w env a)
    (hx : slimO ng x = some x') (h1 : slimOo ng lo = some lo') (h2 : slimOo ng hi = some hi') (h3 : slimOo ng mx = some mx') (hu : P.underlying t = some (.slice e)) (hs : tsz P e = some s)
    (hp : evO env x' = .one (.sc (.slice none 0 0))) (hb : bnds 0 (some 0) (lo'.map (evO env)) (hi'.map (evO env)) (mx'.map (evO env)) = some q) :
    Does P o a ρ n w m (.one (.sc (.slice none 0 0))) m n := by
  obtain ⟨l, h, c⟩ := q
  have h1' := evO_rel hx hg he
  rw [hp] at h1'
  have hv := nils_inv h1'
  obtain ⟨mm, hr, hl, hh, hmm, hc⟩ := bnds_run (P := P) true hb (slimOo_rel hg he h1) (slimOo_rel hg he h2) (slimOo_rel hg he h3) (Nat.le_refl 0) (fun c0 h => by cases h; rfl) w
  have e1 : mm = 0 := by omega
  have e2 : h = 0 := by omega
  have e3 : l = 0 := by omega
  subst e1; subst e2; subst e3
  refine does_same (v := .slice none 0 0) ?_ hm (by simp [RRel, CRel, Value.oneCell'])
  simp only [execOp, ho, hv, Instr.sliceAt, Sem.run_bind, run_underlying hu, Result.andThen_ok, Instr.slice, hr, run_sizeOf_tsz hs]
  simp

theorem d_slA {t e : TypeId} {x : Operand} {x' : O} {lo hi mx : Option Operand} {lo' hi' mx' : Option O} {s id off len l h : Nat} {c : Option Nat} {b : Blk} (ho : o.op = .slice t x lo hi mx) (hm : MRel ρ n w m) (hg : Glob ng ρ n) (he : ERel ρ n w env a)
    (hx : slimO ng x = some x') (h1 : slimOo ng lo = some lo') (h2 : slimOo ng hi = some hi') (h3 : slimOo ng mx = some mx') (hu : P.underlying t = some (.array len e)) (hs : tsz P e = some s)
    (hp : evO env x' = .one (.ptr id off)) (hmb : m id = some b) (hle : off + len * s ≤ b.cells.length) (hb : bnds len (some len) (lo'.map (evO env)) (hi'.map (evO env)) (mx'.map (evO env)) = some (l, h, c)) :
    Does P o a ρ n w m (.one (.sl id (off + l * s) (h - l) c s)) m n := by
  have h1' := evO_rel hx hg he
  rw [hp] at h1'
  obtain ⟨hid, hv⟩ := ptr_inv h1'
  obtain ⟨mm, hr, hl, hh, hmm, hc⟩ := bnds_run (P := P) false hb (slimOo_rel hg he h1) (slimOo_rel hg he h2) (slimOo_rel hg he h3) (Nat.le_refl len) (fun c0 h => by cases h; rfl) w
  refine does_same (v := .slice (some ⟨(ρ id).1, if mm = l then (ρ id).2 + off else (ρ id).2 + off + l * s, none⟩) (h - l) (mm - l)) ?_ hm ?_
  · simp only [execOp, ho, hv, Instr.sliceAt, Instr.sureAddr, Sem.run_bind, Sem.run_pure, run_underlying hu, Result.andThen_ok, hr, run_sizeOf_tsz hs]
    by_cases e1 : mm = l
    · simp [e1]
    · simp [e1, Addr.add0]
  · simp only [RRel, CRel]
    refine ⟨hid, _, mm - l, rfl, ?_, by omega, fun c' h' => hc c' h', ?_⟩
    · intro hne
      have e1 : mm ≠ l := by omega
      rw [if_neg e1]
      omega
    · intro j hj
      have e1 : mm ≠ l := by
        intro e1; rw [e1, Nat.sub_self, Nat.zero_mul] at hj; omega
      rw [if_neg e1]
      have h5 : l * s + (mm - l) * s = mm * s := by rw [← Nat.add_mul]; congr 1; omega
      have h6 : mm * s ≤ len * s := Nat.mul_le_mul_right _ hmm
      obtain ⟨v, h7, _⟩ := hm.cells id b hmb (off + l * s + j) _ (List.getElem?_eq_getElem (by omega))
      rw [show (ρ id).2 + off + l * s + j = (ρ id).2 + (off + l * s + j) by omega, h7]
      rfl

theorem d_len {t e ty : TypeId} {c : Call} {x : Operand} {x' : O} {id off len s : Nat} {cap : Option Nat} (ho : o.op = .call c) (hca : c.callee = .builtin .len) (hargs : c.args.toList = [x]) (hat : c.argTypes.toList = [t]) (hm : MRel ρ n w m) (hg : Glob ng ρ n) (he : ERel ρ n w env a)
    (hx : slimO ng x = some x') (hu : P.underlying t = some (.slice e)) (hp : evO env x' = .one (.sl id off len cap s)) : Does P o a ρ n w m (.one (.sc (.int .i64 len))) m n := by
  have h1' := evO_rel hx hg he
  rw [hp] at h1'
  obtain ⟨hid, oo, cp, hv, _⟩ := sl_inv h1'
  have e1 : c.args = #[x] := Array.ext' (by simpa using hargs)
  have e2 : c.argTypes = #[t] := Array.ext' (by simpa using hat)
  refine does_same (v := .int .i64 len) ?_ hm (by simp [RRel, CRel, Value.oneCell'])
  simp [execOp, ho, resolve, hca, e1, e2, invoke, builtin, Builtin.len_, run_underlying hu, hv, goInt]

theorem d_lenN {t e ty : TypeId} {c : Call} {x : Operand} {x' : O} (ho : o.op = .call c) (hca : c.callee = .builtin .len) (hargs : c.args.toList = [x]) (hat : c.argTypes.toList = [t]) (hm : MRel ρ n w m) (hg : Glob ng ρ n) (he : ERel ρ n w env a)
    (hx : slimO ng x = some x') (hu : P.underlying t = some (.slice e)) {q : Option Addr} (hp : evO env x' = .one (.sc (.slice q 0 0))) : Does P o a ρ n w m (.one (.sc (.int .i64 0))) m n := by
  have h1' := evO_rel hx hg he
  rw [hp] at h1'
  have hv := sc_inv h1'
  have e1 : c.args = #[x] := Array.ext' (by simpa using hargs)
  have e2 : c.argTypes = #[t] := Array.ext' (by simpa using hat)
  refine does_same (v := .int .i64 0) ?_ hm (by simp [RRel, CRel, Value.oneCell'])
  simp [execOp, ho, resolve, hca, e1, e2, invoke, builtin, Builtin.len_, run_underlying hu, hv, goInt]

theorem d_lenC {t e ty : TypeId} {c : Call} {x : Operand} {k : Nat} (ho : o.op = .call c) (hca : c.callee = .builtin .len) (hargs : c.args.toList = [x]) (hat : c.argTypes.toList = [t]) (hm : MRel ρ n w m)
    (hu : P.underlying t = some (.array k e)) : Does P o a ρ n w m (.one (.sc (.int .i64 k))) m n := by
  have e1 : c.args = #[x] := Array.ext' (by simpa using hargs)
  have e2 : c.argTypes = #[t] := Array.ext' (by simpa using hat)
  refine does_same (v := .int .i64 k) ?_ hm (by simp [RRel, CRel, Value.oneCell'])
  simp [execOp, ho, resolve, hca, e1, e2, invoke, builtin, Builtin.len_, run_underlying hu, goInt]

theorem d_cap {t e ty : TypeId} {c : Call} {x : Operand} {x' : O} {id off len s k : Nat} (ho : o.op = .call c) (hca : c.callee = .builtin .cap) (hargs : c.args.toList = [x]) (hat : c.argTypes.toList = [t]) (hm : MRel ρ n w m) (hg : Glob ng ρ n) (he : ERel ρ n w env a)
    (hx : slimO ng x = some x') (hu : P.underlying t = some (.slice e)) (hp : evO env x' = .one (.sl id off len (some k) s)) : Does P o a ρ n w m (.one (.sc (.int .i64 k))) m n := by
  have h1' := evO_rel hx hg he
  rw [hp] at h1'
  obtain ⟨hid, oo, cp, hv, _, _, hcap, _⟩ := sl_inv h1'
  have hk := hcap k rfl
  subst hk
  have e1 : c.args = #[x] := Array.ext' (by simpa using hargs)
  have e2 : c.argTypes = #[t] := Array.ext' (by simpa using hat)
  refine does_same (v := .int .i64 cp) ?_ hm (by simp [RRel, CRel, Value.oneCell'])
  simp [execOp, ho, resolve, hca, e1, e2, invoke, builtin, Builtin.cap_, run_underlying hu, hv, goInt]

theorem d_capN {t e ty : TypeId} {c : Call} {x : Operand} {x' : O} (ho : o.op = .call c) (hca : c.callee = .builtin .cap) (hargs : c.args.toList = [x]) (hat : c.argTypes.toList = [t]) (hm : MRel ρ n w m) (hg : Glob ng ρ n) (he : ERel ρ n w env a)
    (hx : slimO ng x = some x') (hu : P.underlying t = some (.slice e)) (hp : evO env x' = .one (.sc (.slice none 0 0))) : Does P o a ρ n w m (.one (.sc (.int .i64 0))) m n := by
  have h1' := evO_rel hx hg he
  rw [hp] at h1'
  have hv := nils_inv h1'
  have e1 : c.args = #[x] := Array.ext' (by simpa using hargs)
  have e2 : c.argTypes = #[t] := Array.ext' (by simpa using hat)
  refine does_same (v := .int .i64 0) ?_ hm (by simp [RRel, CRel, Value.oneCell'])
  simp [execOp, ho, resolve, hca, e1, e2, invoke, builtin, Builtin.cap_, run_underlying hu, hv, goInt]

/-! ### rows that are built -/
def setV (l : List Value) (o : Nat) : List Value → List Value
  | [] => l
  | c :: cs => setV (l.set o c) (o + 1) cs

theorem CRels.set {cs : List Cell} {vs : List Value} {c : Cell} {v : Value} (h : CRels ρ n w cs vs) (hc : CRel ρ n w c v) (k : Nat) : CRels ρ n w (cs.set k c) (vs.set k v) := by
  induction cs generalizing vs k with
  | nil => simp only [CRels] at h; subst h; simp [CRels]
  | cons x xs ih =>
    simp only [CRels] at h
    obtain ⟨u, r, rfl, h2, h3⟩ := h
    cases k with
    | zero => simp only [List.set_cons_zero, CRels]; exact ⟨v, r, rfl, hc, h3⟩
    | succ k => simp only [List.set_cons_succ, CRels]; exact ⟨u, r.set k v, rfl, h2, ih h3 k⟩

theorem CRels.setL : ∀ {ds : List Cell} {us : List Value} {cs : List Cell} {vs : List Value} (k : Nat), CRels ρ n w cs vs → CRels ρ n w ds us → CRels ρ n w (Sy.setL cs k ds) (setV vs k us)
  | [], us, cs, vs, k, h, hd => by simp only [CRels] at hd; subst hd; exact h
  | d :: ds, us, cs, vs, k, h, hd => by
    simp only [CRels] at hd
    obtain ⟨u, r, rfl, h2, h3⟩ := hd
    exact CRels.setL (k + 1) (h.set h2 k) h3

theorem foldl_setV (off : Nat) : ∀ (us : List Value) (k : Nat) (arr : Array Value), (us.zipIdx k).foldl (fun cs (x : Value × Nat) => cs.setIfInBounds (off + x.2) x.1) arr = (setV arr.toList (off + k) us).toArray
  | [], k, arr => by simp [setV]
  | u :: us, k, arr => by
    rw [List.zipIdx_cons, List.foldl_cons, foldl_setV off us (k + 1)]
    simp [setV, Nat.add_assoc]

theorem setV_length : ∀ (cs l : List Value) (o : Nat), (setV l o cs).length = l.length
  | [], l, o => rfl
  | c :: cs, l, o => by rw [setV, setV_length cs]; simp

theorem fill_rel (hg : Glob ng ρ n) (he : ERel ρ n w env a) {place : Nat → Option (Nat × Nat)} : ∀ {ps : List (Nat × Operand)} {qs : List (Nat × Nat × O)} {cs : List Cell} {vs : List Value} {cs' : List Cell},
    slimParts ng place ps = some qs → CRels ρ n w cs vs → fillC env cs qs = some cs' → ∃ vs' : List Value, Instr.fill place vs.toArray (ps.map fun (i, x) => (i, a.eval x)) = some vs'.toArray ∧ CRels ρ n w cs' vs'
  | [], qs, cs, vs, cs', hp, hc, hf => by
    simp only [slimParts, Option.some.injEq] at hp
    subst hp
    simp only [fillC, Option.some.injEq] at hf
    subst hf
    exact ⟨vs, rfl, hc⟩
  | (i, x) :: ps, qs, cs, vs, cs', hp, hc, hf => by
    simp only [slimParts] at hp
    split at hp
    case h_2 => cases hp
    rename_i off size y ys h1 h2 h3
    cases hp
    simp only [fillC] at hf
    split at hf
    case h_2 => cases hf
    rename_i ds hds
    split at hf
    case isFalse => cases hf
    rename_i hh
    obtain ⟨us, hu1, hu2⟩ := cs_rel (evO_rel h2 hg he) hds
    obtain ⟨vs', h4, h5⟩ := fill_rel hg he h3 (CRels.setL off hc hu2) hf
    refine ⟨vs', ?_, h5⟩
    have hl1 := CRels.length _ _ hc
    have hl2 := CRels.length _ _ hu2
    have e1 : ¬ (us.toArray.size ≠ size || off + us.toArray.size > vs.toArray.size) = true := by
      simp only [List.size_toArray, ne_eq, decide_not, Bool.or_eq_true, Bool.not_eq_true', decide_eq_false_iff_not, decide_eq_true_eq, not_or, Decidable.not_not]
      omega
    simp only [List.map_cons, Instr.fill, h1, hu1]
    rw [if_neg e1]
    have e2 := foldl_setV off us 0 vs.toArray
    simp only [Nat.add_zero] at e2
    rw [← h4, ← Array.foldl_toList, Array.toList_zipIdx]
    simp only [e2]

theorem tzero_inv {t : TypeId} {z : List Value} (h : tzero P t = some z) : ∃ i v, P.info? t = some i ∧ i.zero = some v ∧ v.cells = z.toArray ∧ (∀ x ∈ z, x.oneCell' = true) := by
  unfold tzero at h
  split at h
  case h_2 => cases h
  rename_i v hv
  split at h
  case isFalse => cases h
  rename_i hall
  cases h
  obtain ⟨i, h1, h2⟩ := Option.bind_eq_some_iff.1 hv
  exact ⟨i, v, h1, h2, by simp, fun x hx => List.all_eq_true.1 hall x hx⟩
theorem run_zeroValue' {t : TypeId} {i : TypeInfo} {v : Value} (h1 : P.info? t = some i) (h2 : i.zero = some v) (w : World) : (zeroValue t).run P w = .ok v w := by
  simp [zeroValue, typeInfo, h1, h2]

theorem d_build_arr {t e : TypeId} {ps : Array (Nat × Operand)} {qs : List (Nat × Nat × O)} {z : List Value} {s k : Nat} {cs : List Cell} (ho : o.op = .build t ps) (hm : MRel ρ n w m) (hg : Glob ng ρ n) (he : ERel ρ n w env a)
    (hz : tzero P t = some z) (hu : P.underlying t = some (.array k e)) (hs : tsz P e = some s) (hq : slimParts ng (fun i => some (i * s, s)) ps.toList = some qs) (hf : fillC env (z.map .sc) qs = some cs) :
    Does P o a ρ n w m (.agg cs) m n := by
  obtain ⟨i, v, h1, h2, h3, h4⟩ := tzero_inv hz
  obtain ⟨vs', h5, h6⟩ := fill_rel hg he hq (CRels.sc z h4) hf
  refine does_same (v := .agg vs'.toArray) ?_ hm (by simp only [RRel]; exact ⟨vs', rfl, h6⟩)
  simp [execOp, ho, Instr.build, run_zeroValue' h1 h2, run_underlying hu, run_sizeOf_tsz hs, h3, h5]

theorem mapM_places {fs : List Field} (h : ∀ f ∈ fs, (P.info? f.type).isSome = true) (w : World) : (fs.mapM fun f => do pure (f.offset, ← sizeOf f.type) : Sem (List (Nat × Nat))).run P w = .ok (fs.map fun f => (f.offset, (tsz P f.type).getD 0)) w := by
  induction fs with
  | nil => rfl
  | cons f fs ih =>
    obtain ⟨i, hi⟩ := Option.isSome_iff_exists.1 (h f (by simp))
    have hs : tsz P f.type = some i.size := by simp [tsz, hi]
    simp only [List.mapM_cons, Sem.run_bind, run_sizeOf_tsz hs, Result.andThen_ok, Sem.run_pure]
    rw [ih (fun g hg => h g (by simp [hg]))]
    simp [hs]

theorem d_build_str {t : TypeId} {ps : Array (Nat × Operand)} {qs : List (Nat × Nat × O)} {z : List Value} {fs : Array Field} {cs : List Cell} (ho : o.op = .build t ps) (hm : MRel ρ n w m) (hg : Glob ng ρ n) (he : ERel ρ n w env a)
    (hz : tzero P t = some z) (hu : P.underlying t = some (.struct fs)) (hall : (fs.all fun f => (P.info? f.type).isSome) = true) (hq : slimParts ng (placeOf P fs) ps.toList = some qs) (hf : fillC env (z.map .sc) qs = some cs) :
    Does P o a ρ n w m (.agg cs) m n := by
  obtain ⟨i, v, h1, h2, h3, h4⟩ := tzero_inv hz
  have hall' : ∀ f ∈ fs.toList, (P.info? f.type).isSome = true := by
    have := Array.all_eq_true_iff_forall_mem.1 hall
    intro f hf; exact this f (by simpa using hf)
  have hpl : (fun i => (fs.toList.map fun f => (f.offset, (tsz P f.type).getD 0)).toArray[i]?) = placeOf P fs := by
    funext i
    unfold placeOf
    by_cases hi : i < fs.size
    · have : (P.info? fs[i].type).isSome = true := hall' _ (by simp)
      obtain ⟨q, hq⟩ := Option.isSome_iff_exists.1 this
      simp [hi, tsz, hq]
    · simp [hi]
  obtain ⟨vs', h5, h6⟩ := fill_rel hg he hq (CRels.sc z h4) hf
  refine does_same (v := .agg vs'.toArray) ?_ hm (by simp only [RRel]; exact ⟨vs', rfl, h6⟩)
  have h7 := mapM_places hall' w
  simp only [execOp, ho, Instr.build, Sem.run_bind, run_zeroValue' h1 h2, run_underlying hu, Result.andThen_ok, h3]
  rw [Array.mapM_eq_mapM_toList]
  simp only [bind_pure_comp, map_pure] at h7 ⊢
  simp only [Sem.run_bind, Sem.run_map, Functor.map_map, h7, Result.andThen_ok, Array.toList_map, hpl, h5]
  simp [h7, hpl, h5]
end
end Go.Proofs.Ytkdbnmohpanpfaa.Sy

/- An evaluator of a part of Go's operations over a memory of its own, part seven: rows that are made, append, copy, min and max. Conditions: those that each theorem names. -/
namespace Go.Proofs.Ytkdbnmohpanpfaa.Sy
open Go
set_option linter.unusedVariables false
set_option linter.unusedSimpArgs false

section
variable {P : Program} {ρ : Loc} {n : Nat} {w : World} {m : Mem} {o : Oper} {a : Act} {ng : Nat} {env : Nat → Reg}

theorem rep_get (z : List Value) (hz : 0 < z.length) : ∀ (k i : Nat), i < k * z.length → (List.replicate k z).flatten[i]? = some (z.toArray[i % z.length]!)
  | 0, i, h => by simp at h
  | k + 1, i, h => by
    simp only [List.replicate_succ, List.flatten_cons]
    rcases Nat.lt_or_ge i z.length with h1 | h1
    · rw [List.getElem?_append_left h1, Nat.mod_eq_of_lt h1]
      simp [h1]
    · rw [List.getElem?_append_right h1, rep_get z hz k (i - z.length) (by rw [Nat.add_mul] at h; omega)]
      congr 2
      rw [Nat.mod_eq_sub_mod h1]

theorem rep_arr (z : List Value) (hz : 0 < z.length) (k : Nat) : ((Array.range (k * z.length)).map (z.toArray[· % z.toArray.size]!)) = (List.replicate k z).flatten.toArray := by
  apply Array.ext'
  apply List.ext_getElem?
  intro i
  by_cases hi : i < k * z.length
  · rw [rep_get z hz k i hi]
    simp [hi]
  · have h1 : (List.replicate k z).flatten.length = k * z.length := by simp
    rw [List.getElem?_eq_none (by simp; omega)]
    exact (List.getElem?_eq_none (by simp; omega)).symm

theorem rep_one {z : List Value} (h : ∀ x ∈ z, x.oneCell' = true) (k : Nat) : ∀ x ∈ (List.replicate k z).flatten, x.oneCell' = true := by
  intro x hx
  simp only [List.mem_flatten, List.mem_replicate] at hx
  obtain ⟨l, ⟨_, rfl⟩, h2⟩ := hx
  exact h x h2

theorem sl_new {w' : World} (t : TypeId) (vs rest : List Value) (len cap sz : Nat) (c : Option Nat) (hw : w' = w.alloc (.cells (vs ++ rest).toArray t)) (hl : len ≤ cap) (hsz : cap * sz ≤ (vs ++ rest).length) (hc : ∀ x, c = some x → cap = x) :
    RRel (upd ρ n (w.heap.size, 0)) (n + 1) w' (.one (.sl n 0 len c sz)) (.slice (some ⟨w.heap.size, 0, none⟩) len cap) := by
  subst hw
  simp only [RRel, CRel, upd_same]
  refine ⟨Nat.lt_succ_self _, 0, cap, rfl, fun _ => rfl, hl, hc, fun j hj => ?_⟩
  rw [Nat.zero_add, World.cell?_alloc_new]
  simp
  simp at hsz
  omega

theorem d_bslice {t e : TypeId} {len : Nat} {ps : Array (Nat × Operand)} {qs : List (Nat × Nat × O)} {z : List Value} {s : Nat} {cs : List Cell} (ho : o.op = .buildSlice t len ps) (hm : MRel ρ n w m) (hg : Glob ng ρ n) (he : ERel ρ n w env a)
    (hu : P.underlying t = some (.slice e)) (hs : tsz P e = some s) (hz : tzero P e = some z) (hzl : z.length = s) (hs0 : 0 < s) (hle : len * s ≤ 16777216) (hq : slimParts ng (fun i => some (i * s, s)) ps.toList = some qs)
    (hf : fillC env ((List.replicate len z).flatten.map .sc) qs = some cs) : Does P o a ρ n w m (.one (.sl n 0 len (some len) s)) (upd m n (some ⟨cs, true⟩)) (n + 1) := by
  obtain ⟨i, v, h1, h2, h3, h4⟩ := tzero_inv hz
  obtain ⟨vs', h5, h6⟩ := fill_rel hg he hq (CRels.sc _ (rep_one h4 len)) hf
  have hst := Step.alloc hm cs vs' e h6
  have hlen : vs'.length = len * s := by
    rw [CRels.length _ _ h6]
    have : ∀ (qs : List (Nat × Nat × O)) (l cs : List Cell), fillC env l qs = some cs → cs.length = l.length := by
      intro qs
      induction qs with
      | nil => intro l cs h; simp only [fillC, Option.some.injEq] at h; rw [h]
      | cons q qs ih =>
        intro l cs h
        obtain ⟨off, size, x⟩ := q
        simp only [fillC] at h
        split at h
        · split at h
          · rw [ih _ _ h, setL_length]
          · cases h
        · cases h
    rw [this _ _ _ hf]
    simp [hzl]
  refine does_run (v := .slice (some ⟨w.heap.size, 0, none⟩) len len) ?_ hst (sl_new e vs' [] len len s (some len) (by simp) (Nat.le_refl _) (by simp [hlen]) (fun x h => by cases h; rfl))
  have hbig : ¬ (2 ^ 24 < len * s) := by omega
  have h7 := rep_arr z (by omega) len
  rw [hzl] at h7
  simp only [execOp, ho, Instr.buildSlice, Sem.run_bind, run_underlying hu, Result.andThen_ok, run_sizeOf_tsz hs, gt_iff_lt, hbig, if_false]
  by_cases e0 : len * s = 0
  · have e1 : len = 0 := by
      rcases Nat.mul_eq_zero.1 e0 with h | h
      · exact h
      · omega
    subst e1
    simp only [List.replicate_zero, List.flatten_nil] at h5
    simp only [Nat.zero_mul, if_true, Sem.run_bind, Sem.run_pure, Result.andThen_ok]
    rw [show ((Array.range 0).map fun x => (#[] : Array Value)[x % (#[] : Array Value).size]!) = [].toArray from Array.eq_empty_of_size_eq_zero (by simp)]
    simp [h5, newRow]
  · simp only [e0, if_false, Sem.run_bind, run_zeroValue' h1 h2, Result.andThen_ok, Sem.run_pure, h3]
    rw [h7]
    simp [h5, newRow]

theorem d_mkslice {t e : TypeId} {x y : Operand} {x' y' : O} {z : List Value} {s by' : Nat} {l c : Int} (ho : o.op = .makeSlice t x y) (hm : MRel ρ n w m) (hg : Glob ng ρ n) (he : ERel ρ n w env a) (hx : slimO ng x = some x') (hy : slimO ng y = some y')
    (hu : P.underlying t = some (.slice e)) (hs : tsz P e = some s) (hb : tby P e = some by') (hz : tzero P e = some z) (hzl : z.length = s) (hs0 : 0 < s) (hb1 : by' ≤ 4096)
    (hl : evO env x' = .one (.sc (.int .i64 l))) (hc : evO env y' = .one (.sc (.int .i64 c))) (h0 : 0 ≤ l) (h1 : l ≤ c) (h2 : c ≤ 4294967296) :
    Does P o a ρ n w m (.one (.sl n 0 l.toNat (some c.toNat) s)) (upd m n (some ⟨(List.replicate c.toNat (z.map .sc)).flatten, true⟩)) (n + 1) := by
  obtain ⟨i, v, g1, g2, g3, g4⟩ := tzero_inv hz
  have hx1 := evO_rel hx hg he
  rw [hl] at hx1
  have hx2 := sc_inv hx1
  have hy1 := evO_rel hy hg he
  rw [hc] at hy1
  have hy2 := sc_inv hy1
  have hcs : CRels ρ n w (List.replicate c.toNat (z.map Cell.sc)).flatten (List.replicate c.toNat z).flatten := by
    have := CRels.sc (ρ := ρ) (n := n) (w := w) _ (rep_one g4 c.toNat)
    rwa [List.map_flatten, List.map_replicate] at this
  have hst := Step.alloc hm _ _ e hcs
  have hlen : (List.replicate c.toNat z).flatten.length = c.toNat * s := by simp [hzl]
  refine does_run (v := .slice (some ⟨w.heap.size, 0, none⟩) l.toNat c.toNat) ?_ hst (sl_new e (List.replicate c.toNat z).flatten [] l.toNat c.toNat s (some c.toNat) (by simp) (by omega) (by rw [List.append_nil, hlen]; exact Nat.le_refl _) (fun x h => by cases h; rfl))
  have hby : i.bytes = by' := by unfold tby at hb; rw [g1] at hb; simpa using hb
  have hwl : IntKind.i64.wrap l = l := by simp [IntKind.wrap, IntKind.bits, IntKind.signed]; omega
  have hwc : IntKind.i64.wrap c = c := by simp [IntKind.wrap, IntKind.bits, IntKind.signed]; omega
  have hbig : ¬ ((by' : Int) * c > 281474976710656) := by
    have : (by' : Int) * c ≤ 4096 * 4294967296 := Int.mul_le_mul (by omega) h2 (by omega) (by omega)
    omega
  have h7 := rep_arr z (by omega) c.toNat
  rw [hzl] at h7
  have n1 : ¬ (c < 0) := by omega
  have n2 : ¬ (l < 0) := by omega
  have n3 : ¬ (l > c) := by omega
  simp only [execOp, ho, hx2, hy2, Instr.makeSlice, Sem.run_bind, run_underlying hu, Result.andThen_ok, asInt, asIntOf, Sem.run_pure, typeInfo, run_program, g1, hby, hwl, hwc]
  have hcond : ((decide (c < 0) || decide ((by' : Int) * c > 2 ^ 48)) || decide (l < 0) || decide (l > c)) = false := by
    simp [n1, n2, n3]; omega
  simp only [hcond, Bool.false_eq_true, if_false]
  have hroom : ∀ k W, (askRoom k).run P W = .ok () W := by
    intro k W
    unfold askRoom
    split <;> rfl
  simp only [Sem.run_bind, hroom, Result.andThen_ok, run_sizeOf_tsz hs]
  by_cases e0 : c.toNat * s = 0
  · have e1 : c.toNat = 0 := by
      rcases Nat.mul_eq_zero.1 e0 with h | h
      · exact h
      · omega
    simp only [e1, Nat.zero_mul, if_true, Sem.run_bind, Sem.run_pure, Result.andThen_ok]
    rw [show ((Array.range 0).map fun x => (#[] : Array Value)[x % (#[] : Array Value).size]!) = [].toArray from Array.eq_empty_of_size_eq_zero (by simp)]
    simp [newRow]
  · simp only [e0, if_false, Sem.run_bind, run_zeroValue' g1 g2, Result.andThen_ok, Sem.run_pure, g3]
    rw [h7]
    simp [newRow]

theorem newsOf_rel {s k : Nat} {r : Reg} {x : Value} {cs : List Cell} (hm : MRel ρ n w m) (hr : RRel ρ n w r x) (h : newsOf m s r = some (k, cs)) :
    ∃ vs : List Value, CRels ρ n w cs vs ∧ vs.length = k * s ∧ cs.length = k * s ∧ (∀ W, (Builtin.lenOf x).run P W = .ok k W) ∧ (∀ W : World, (∀ y, W.cell? y = w.cell? y) → ∀ j, j ≤ k → (Builtin.firstCells s j x).run P W = .ok (vs.take (j * s)).toArray W) := by
  unfold newsOf at h
  split at h
  · cases h
    have := nils_inv hr
    subst this
    exact ⟨[], by simp [CRels], by simp, by simp, fun W => rfl, fun W _ j hj => by
      have : j = 0 := by omega
      subst this; simp [Builtin.firstCells]⟩
  · rename_i id off len cp sz'
    split at h
    case isFalse => cases h
    rename_i hsz
    subst hsz
    obtain ⟨cs', h1, h2⟩ := Option.map_eq_some_iff.1 h
    cases h2
    obtain ⟨hid, oo, cpp, rfl, ho1, hlc, _, _⟩ := sl_inv hr
    obtain ⟨_, hl, vs, h3, h4⟩ := rd_cells hm h1
    have hlv := CRels.length _ _ h3
    refine ⟨vs, h3, by omega, hl, fun W => rfl, fun W hW j hj => ?_⟩
    rcases Nat.eq_zero_or_pos (j * sz') with hj0 | hj0
    · simp [Builtin.firstCells, hj0, loadCells, loadCellsFrom]
    · have : cpp ≠ 0 := by
        intro e
        have : j = 0 := by omega
        subst this
        omega
      have := ho1 this
      subst this
      have hjl : (vs.take (j * sz')).length = j * sz' := by
        rw [List.length_take, hlv, hl]
        have := Nat.mul_le_mul_right sz' hj
        omega
      have := run_loadCells_list (P := P) W ⟨(ρ id).1, (ρ id).2 + off, none⟩ (vs.take (j * sz')) (fun i v hi => by
        rw [Addr.add0, hW]
        exact h4 i v (by
          have hlt := (List.getElem?_eq_some_iff.1 hi).1
          rw [hjl] at hlt
          rwa [List.getElem?_take_of_lt hlt] at hi))
      rw [hjl] at this
      simpa [Builtin.firstCells] using this
  · cases h

end
end Go.Proofs.Ytkdbnmohpanpfaa.Sy

/- An evaluator of a part of Go's operations over a memory of its own, part eight: append, copy. Conditions: those that each theorem names. -/
namespace Go.Proofs.Ytkdbnmohpanpfaa.Sy
open Go
set_option linter.unusedVariables false
set_option linter.unusedSimpArgs false

section
variable {P : Program} {ρ : Loc} {n : Nat} {w : World} {m : Mem} {o : Oper} {a : Act} {ng : Nat} {env : Nat → Reg}

/-! ### append -/
theorem MRel.drew (h : MRel ρ n w m) : MRel ρ n w.drew m := by
  have L : Le ρ n w ρ n w.drew := ⟨Nat.le_refl _, fun _ _ => rfl, fun _ h => h⟩
  exact ⟨h.lt, h.blk, fun id b hb i c hc => by obtain ⟨v, h1, h2⟩ := h.cells id b hb i c hc; exact ⟨v, h1, CRel.mono L _ _ h2⟩, h.soft, h.apart⟩

theorem Step.drew (h : MRel ρ n w m) : Step ρ n w m ρ n w.drew m :=
  ⟨⟨Nat.le_refl _, fun _ _ => rfl, fun _ h => h⟩, h.drew, ⟨rfl, rfl, rfl, Nat.le_refl _, fun _ _ _ => rfl⟩, fun id b _ hb => ⟨b, hb, fun h => h⟩, fun id b h1 h2 => absurd (h.lt id b h2) (Nat.not_lt.2 h1)⟩

/-- Less memory behind a step. -/
theorem Step.less {ρ' : Loc} {n' : Nat} {w' : World} {m' m'' : Mem} (h : Step ρ n w m ρ' n' w' m') (hs : ∀ id b, m'' id = some b → m' id = some b) : Step ρ n w m ρ' n' w' m'' :=
  ⟨h.le, h.rel.sub (fun id b hb => ⟨b, hs id b hb, rfl, fun x => x⟩), h.fr, fun id b hi hb => h.dom id b hi (hs id b hb), fun id b hi hb => h.fresh id b hi (hs id b hb)⟩

/-- The part of append that grows. -/
theorem run_grow {t u ty e d' : TypeId} {i : TypeInfo} {z : Value} {base : Option Addr} {sLen sCap k : Nat} {olds news : List Value} {x : Value} (hu : P.underlying t = some (.slice e)) (hd : P.underlying u = some (.slice d'))
    (hi : P.info? e = some i) (hz : i.zero = some z) (hlen : ∀ W, (Builtin.lenOf x).run P W = .ok k W)
    (ho : ∀ W : World, (∀ y, W.cell? y = w.cell? y) → (Builtin.firstCells i.size sLen (.slice base sLen sCap)).run P W = .ok olds.toArray W)
    (hn : ∀ W : World, (∀ y, W.cell? y = w.cell? y) → (Builtin.firstCells i.size k x).run P W = .ok news.toArray W)
    (hg : sCap < sLen + k) (h1 : sLen + k ≤ 4294967296) (h2 : i.bytes ≤ 4096) (h3 : 0 < i.bytes) :
    (Builtin.append_ #[t, u] ty #[.slice base sLen sCap, x]).run P w =
      .ok (.slice (some ⟨w.heap.size, 0, none⟩) (sLen + k) (grownCap w (sLen + k) sCap e))
        (w.drew.alloc (.cells ((olds ++ news) ++ (Builtin.zeroCells z.cells (grownCap w (sLen + k) sCap e - (sLen + k))).toList).toArray e)) := by
  have hnle : ¬ (sLen + k ≤ sCap) := by omega
  have hb0 : i.bytes ≠ 0 := by omega
  have hfit : Builtin.nextslicecap (sLen + k) sCap * i.bytes ≤ 281474976710656 := growslice_fits hg (by
    have : (sLen + k) * i.bytes ≤ 4294967296 * 4096 := Nat.mul_le_mul h1 h2
    omega)
  have hfit' : ¬ (281474976710656 < Builtin.nextslicecap (sLen + k) sCap * i.bytes) := by omega
  have e1 := ho w.drew (fun _ => rfl)
  have e2 := hn w.drew (fun _ => rfl)
  have hroom : ∀ k W, (askRoom k).run P W = .ok () W := by
    intro k W
    unfold askRoom
    split <;> rfl
  simp only [Builtin.append_]
  simp [run_underlying hu, run_underlying hd, sizeOf, typeInfo, zeroValue, hi, hz, hlen, hnle, hb0, hfit', Question.forced, e1, e2, hroom, newRow, grownCap]
  congr 2
  apply Array.ext'
  simp

/-- The part of append that puts zeros into a new row. -/
theorem run_zeros {t u ty e : TypeId} {i : TypeInfo} {z : Value} {k : Nat} {kd : IntKind} (hu : P.underlying t = some (.slice e)) (hd : P.underlying u = some (.int kd))
    (hi : P.info? e = some i) (hz : i.zero = some z) (hk : 0 < k) (h1 : k ≤ 4294967296) (h2 : i.bytes ≤ 4096) (h3 : 0 < i.bytes) (h4 : 0 < i.size) :
    (Builtin.append_ #[t, u] ty #[.slice none 0 0, .int .i64 k]).run P w =
      .ok (.slice (some ⟨w.heap.size, 0, none⟩) k (grownCap w k 0 e))
        (w.drew.alloc (.cells ((Builtin.zeroCells z.cells k).toList ++ (Builtin.zeroCells z.cells (grownCap w k 0 e - k)).toList).toArray e)) := by
  have hnle : ¬ (k ≤ 0) := by omega
  have hk0 : k ≠ 0 := by omega
  have hs0 : i.size ≠ 0 := by omega
  have hb0 : i.bytes ≠ 0 := by omega
  have hfit : Builtin.nextslicecap k 0 * i.bytes ≤ 281474976710656 := by
    have := growslice_fits (need := k) (old := 0) (bytes := i.bytes) hk (by
      have : k * i.bytes ≤ 4294967296 * 4096 := Nat.mul_le_mul h1 h2
      omega)
    simpa using this
  have hfit' : ¬ (281474976710656 < Builtin.nextslicecap k 0 * i.bytes) := by omega
  have hroom : ∀ k W, (askRoom k).run P W = .ok () W := by
    intro k W
    unfold askRoom
    split <;> rfl
  have hw : IntKind.i64.wrap (k : Int) = k := by simp [IntKind.wrap, IntKind.bits, IntKind.signed]; omega
  have hbig : ¬ ((k : Int) * i.bytes > 281474976710656) := by
    have : (k : Int) * i.bytes ≤ 4294967296 * 4096 := Int.mul_le_mul (by omega) (by omega) (by omega) (by omega)
    omega
  have hmax : ¬ (9223372036854775807 < (k : Int)) := by omega
  have hks : k * i.size ≠ 0 := Nat.ne_of_gt (Nat.mul_pos hk h4)
  have hneg : ¬ ((k : Int) < 0) := by omega
  simp only [Builtin.append_]
  simp [run_underlying hu, run_underlying hd, sizeOf, typeInfo, zeroValue, hi, hz, asInt, asIntOf, hw, hneg, hbig, hmax, hks, hnle, hk0, hs0, hb0, hfit', Question.forced, hroom, newRow, grownCap, Builtin.firstCells]
  congr 2
  apply Array.ext'
  simp

/-- The part of append that has room. -/
theorem run_room {t u ty e : TypeId} {i : TypeInfo} {b off sLen sCap k : Nat} {news : List Value} {x : Value} {d' : TypeId} (hu : P.underlying t = some (.slice e)) (hd : P.underlying u = some (.slice d'))
    (hi : P.info? e = some i) (hlen : ∀ W, (Builtin.lenOf x).run P W = .ok k W)
    (hn : ∀ W : World, (∀ y, W.cell? y = w.cell? y) → (Builtin.firstCells i.size k x).run P W = .ok news.toArray W)
    (hroom : sLen + k ≤ sCap) (hc : ∀ j, j < news.length → (w.cell? ⟨b, off + sLen * i.size + j, none⟩).isSome = true) (hf : ∀ j, j < news.length → w.frozen? ⟨b, off + sLen * i.size + j, none⟩ = false) (h1 : ∀ v ∈ news, v.oneCell' = true) :
    (Builtin.append_ #[t, u] ty #[.slice (some ⟨b, off, none⟩) sLen sCap, x]).run P w = .ok (.slice (some ⟨b, off, none⟩) (sLen + k) sCap) (w.setCells b (off + sLen * i.size) news) := by
  have hst := run_storeCells_cells (P := P) b (off + sLen * i.size) news 0 w (by simpa using hc) (by simpa using hf) h1
  simp only [Nat.add_zero] at hst
  have e2 := hn w (fun _ => rfl)
  simp [Builtin.append_, run_underlying hu, run_underlying hd, sizeOf, typeInfo, hi, hlen, hroom, e2, Addr.add0, hst]

theorem run_room_nil {t u ty e : TypeId} {i : TypeInfo} {x : Value} {d' : TypeId} (hu : P.underlying t = some (.slice e)) (hd : P.underlying u = some (.slice d'))
    (hi : P.info? e = some i) (hlen : ∀ W, (Builtin.lenOf x).run P W = .ok 0 W)
    (hn : ∀ W : World, (∀ y, W.cell? y = w.cell? y) → (Builtin.firstCells i.size 0 x).run P W = .ok #[] W) :
    (Builtin.append_ #[t, u] ty #[.slice none 0 0, x]).run P w = .ok (.slice none 0 0) w := by
  have e2 := hn w (fun _ => rfl)
  simp [Builtin.append_, run_underlying hu, run_underlying hd, sizeOf, typeInfo, hi, hlen, e2]

/-- What is appended to moves: its number goes, another one comes. -/
theorem Step.move {id oo len k s cp : Nat} {b : Blk} {olds news : List Cell} {ovs nvs : List Value} (hm : MRel ρ n w m) (hb : m id = some b) (hown : b.own = true)
    (ho : CRels ρ n w olds ovs) (hol : ovs.length = len * s) (hov : ∀ (j : Nat) (v : Value), ovs[j]? = some v → w.cell? ⟨(ρ id).1, oo + j, none⟩ = some v) (hn : CRels ρ n w news nvs) (hnl : nvs.length = k * s) (hroom : len + k ≤ cp)
    (hcells : ∀ j, j < cp * s → (w.cell? ⟨(ρ id).1, oo + j, none⟩).isSome = true) :
    Step ρ n w m (upd ρ n ((ρ id).1, oo)) (n + 1) (w.setCells (ρ id).1 (oo + len * s) nvs) (upd (upd m id none) n (some ⟨olds ++ news, true⟩)) ∧
      RRel (upd ρ n ((ρ id).1, oo)) (n + 1) (w.setCells (ρ id).1 (oo + len * s) nvs) (.one (.sl n 0 (len + k) none s)) (.slice (some ⟨(ρ id).1, oo, none⟩) (len + k) cp) := by
  have hfit : len * s + k * s ≤ cp * s := by rw [← Nat.add_mul]; exact Nat.mul_le_mul_right _ hroom
  have hlive : ∀ j, j < nvs.length → (w.cell? ⟨(ρ id).1, oo + len * s + j, none⟩).isSome = true := fun j hj => by
    rw [Nat.add_assoc]; exact hcells _ (by omega)
  have hL : Le ρ n w (upd ρ n ((ρ id).1, oo)) (n + 1) (w.setCells (ρ id).1 (oo + len * s) nvs) :=
    ⟨Nat.le_succ _, fun i h => upd_ne _ _ (Nat.ne_of_lt h), fun a h => World.live_setCells _ _ _ _ hlive a h⟩
  obtain ⟨q1, q2, q3⟩ := World.same_setCells (ρ id).1 nvs (oo + len * s) w
  have hidn := hm.lt id b hb
  have hback : ∀ id' b', id' ≠ n → upd (upd m id none) n (some ⟨olds ++ news, true⟩) id' = some b' → m id' = some b' ∧ id' ≠ id := fun id' b' hne h => by
    rw [upd_ne _ _ hne] at h
    by_cases e : id' = id
    · subst e; rw [upd_same] at h; cases h
    · rw [upd_ne _ _ e] at h; exact ⟨h, e⟩
  refine ⟨⟨hL, ⟨?_, ?_, ?_, ?_, ?_⟩, ⟨q1, q2, q3, by rw [World.size_setCells]; exact Nat.le_refl _, fun k' hk hno => World.heap_setCells_ne _ _ _ _ _ (fun e => hno ⟨id, b, hb, hown, e.symm⟩)⟩, ?_, ?_⟩, ?_⟩
  · intro id' b' h
    by_cases e : id' = n
    · omega
    · exact Nat.lt_succ_of_lt (hm.lt id' b' (hback id' b' e h).1)
  · intro id' b' h
    rw [World.size_setCells]
    by_cases e : id' = n
    · subst e; rw [upd_same]; exact hm.blk id b hb
    · rw [upd_ne _ _ e]; exact hm.blk id' b' (hback id' b' e h).1
  · intro id' b' h i c hi
    by_cases e : id' = n
    · subst e
      rw [upd_same] at h ⊢
      cases h
      simp only at hi ⊢
      have hol' := CRels.length _ _ ho
      rcases Nat.lt_or_ge i olds.length with h1 | h1
      · rw [List.getElem?_append_left h1] at hi
        obtain ⟨v, h2, h3⟩ := CRels.get _ _ ho i c hi
        exact ⟨v, by rw [World.cell?_setCells_out _ _ _ _ _ (fun _ _ => Or.inl (by simp; omega))]; exact hov i v h2, CRel.mono hL _ _ h3⟩
      · rw [List.getElem?_append_right h1] at hi
        obtain ⟨v, h2, h3⟩ := CRels.get _ _ hn _ c hi
        have hlt := (List.getElem?_eq_some_iff.1 h2).1
        have := World.cell?_setCells_in (ρ id).1 nvs (oo + len * s) w hlive (i - olds.length) hlt
        refine ⟨v, ?_, CRel.mono hL _ _ h3⟩
        rw [show oo + i = oo + len * s + (i - olds.length) by omega, this]
        rw [List.getElem?_eq_getElem hlt] at h2
        exact h2
    · obtain ⟨h1, h2⟩ := hback id' b' e h
      rw [upd_ne _ _ e]
      obtain ⟨v, h3, h4⟩ := hm.cells id' b' h1 i c hi
      exact ⟨v, by rw [World.cell?_setCells_out _ _ _ _ _ (fun h5 _ => absurd h5 (hm.apart id b hb hown id' b' h1 h2))]; exact h3, CRel.mono hL _ _ h4⟩
  · intro id' b' h hown' o'
    rw [World.frozen?_setCells]
    by_cases e : id' = n
    · subst e; rw [upd_same]; exact hm.soft id b hb hown o'
    · rw [upd_ne _ _ e]; exact hm.soft id' b' (hback id' b' e h).1 hown' o'
  · intro id' b' h hown' id'' b'' h' hne
    by_cases e : id' = n
    · subst e
      obtain ⟨h1, h2⟩ := hback id'' b'' hne h'
      rw [upd_same, upd_ne _ _ hne]
      exact hm.apart id b hb hown id'' b'' h1 h2
    · obtain ⟨h1, h2⟩ := hback id' b' e h
      by_cases e' : id'' = n
      · subst e'
        rw [upd_same, upd_ne _ _ e]
        exact fun h3 => hm.apart id b hb hown id' b' h1 h2 h3.symm
      · obtain ⟨h3, h4⟩ := hback id'' b'' e' h'
        rw [upd_ne _ _ e, upd_ne _ _ e']
        exact hm.apart id' b' h1 hown' id'' b'' h3 hne
  · intro id' b' hi h
    exact ⟨b', (hback id' b' (Nat.ne_of_lt hi) h).1, fun x => x⟩
  · intro id' b' hi h
    by_cases e : id' = n
    · subst e; exact Or.inr ⟨id, b, hb, hown, by rw [upd_same]⟩
    · exact absurd (hm.lt id' b' (hback id' b' e h).1) (Nat.not_lt.2 hi)
  · simp only [RRel, CRel, upd_same]
    exact ⟨Nat.lt_succ_self _, oo, cp, rfl, fun _ => rfl, hroom, fun c h => (by cases h), fun j hj => World.live_setCells _ _ _ _ hlive _ (hcells j hj)⟩

theorem d_app {t u e d' ty : TypeId} {c : Call} {x y : Operand} {x' y' : O} {s by' : Nat} {z : List Value} {r : Reg} {m' : Mem} {n' : Nat} (ho : o.op = .call c) (hca : c.callee = .builtin .append) (hargs : c.args.toList = [x, y]) (hat : c.argTypes.toList = [t, u]) (hm : MRel ρ n w m) (hg : Glob ng ρ n) (he : ERel ρ n w env a)
    (hx : slimO ng x = some x') (hy : slimO ng y = some y') (hu : P.underlying t = some (.slice e)) (hd : P.underlying u = some (.slice d')) (hs : tsz P e = some s) (hb : tby P e = some by') (hz : tzero P e = some z) (hzl : z.length = s) (hs0 : 0 < s) (hb1 : by' ≤ 4096) (hb0 : 0 < by')
    (hev : evApp m n s by' (evO env x') (evO env y') = some (r, m', n')) : Does P o a ρ n w m r m' n' := by
  obtain ⟨i, zv, g1, g2, g3, g4⟩ := tzero_inv hz
  have hsi : i.size = s := by unfold tsz at hs; rw [g1] at hs; simpa using hs
  have hbi : i.bytes = by' := by unfold tby at hb; rw [g1] at hb; simpa using hb
  have e1 : c.args = #[x, y] := Array.ext' (by simpa using hargs)
  have e2 : c.argTypes = #[t, u] := Array.ext' (by simpa using hat)
  have hxr := evO_rel hx hg he
  have hyr := evO_rel hy hg he
  have hrun : ∀ v w', (Builtin.append_ #[t, u] o.type #[a.eval x, a.eval y]).run P w = .ok v w' → (execOp a.eval o).run P w = .ok (.value v) w' := fun v w' h => by
    simp [execOp, ho, resolve, hca, e1, e2, invoke, builtin, h]
  unfold evApp at hev
  split at hev
  case h_1 => cases hev
  rename_i k news hnews
  obtain ⟨nvs, hn1, hn2, hn2', hn3, hn4⟩ := newsOf_rel (P := P) hm hyr hnews
  have hn5 : ∀ W : World, (∀ q, W.cell? q = w.cell? q) → (Builtin.firstCells i.size k (a.eval y)).run P W = .ok nvs.toArray W := fun W hW => by
    have := hn4 W hW k (Nat.le_refl _)
    rwa [← hn2, List.take_length, ← hsi] at this
  -- what is made anew
  have hgrow : ∀ (base : Option Addr) (sLen sCap : Nat) (olds : List Cell) (ovs : List Value), a.eval x = .slice base sLen sCap → CRels ρ n w olds ovs → ovs.length = sLen * s →
      (∀ W : World, (∀ q, W.cell? q = w.cell? q) → (Builtin.firstCells s sLen (.slice base sLen sCap)).run P W = .ok ovs.toArray W) → sCap < sLen + k → sLen + k ≤ 4294967296 →
      Does P o a ρ n w m (.one (.sl n 0 (sLen + k) none s)) (upd m n (some ⟨olds ++ news, true⟩)) (n + 1) := by
    intro base sLen sCap olds ovs hxe hc hol hof hgt hle
    have hr := run_grow (P := P) (w := w) (ty := o.type) (z := zv) hu hd g1 g2 hn3 (by rw [hsi]; exact hof) hn5 hgt hle (by omega) (by omega)
    have hst := (Step.drew hm).trans (Step.alloc' hm.drew (olds ++ news) (ovs ++ nvs) (Builtin.zeroCells zv.cells (grownCap w (sLen + k) sCap e - (sLen + k))).toList e
      (CRels.append (CRels.mono (Step.drew hm).le _ _ hc) (CRels.mono (Step.drew hm).le _ _ hn1)))
    rw [← hxe] at hr
    refine does_run (hrun _ _ hr) hst (sl_new (w := w.drew) e _ _ (sLen + k) _ s none rfl (grownCap_ge w _ _ e) ?_ (fun x h => by cases h))
    have hge := grownCap_ge w (sLen + k) sCap e
    have hzs : zv.cells.size = s := by rw [g3]; simpa using hzl
    simp only [List.length_append, hol, hn2, Array.length_toList, size_zeroCells, hzs]
    rw [← Nat.add_mul, ← Nat.add_mul]
    exact Nat.mul_le_mul_right _ (by omega)
  split at hev
  · -- nil
    rename_i hxe
    rw [hxe] at hxr
    have hxv := nils_inv hxr
    split at hev
    · rename_i hk
      subst hk
      cases hev
      refine does_same (hrun (.slice none 0 0) w ?_) hm (by simp [RRel, CRel, Value.oneCell'])
      rw [hxv]
      have : nvs = [] := List.length_eq_zero_iff.1 (by omega)
      subst this
      exact run_room_nil hu hd g1 hn3 hn5
    · rename_i hk
      split at hev
      case isFalse => cases hev
      rename_i hle
      cases hev
      have := hgrow none 0 0 [] [] hxv (by simp [CRels]) (by simp) (fun W _ => by simp [Builtin.firstCells]) (by omega) (by omega)
      simpa using this
  · rename_i id off len cap sz' hxe
    rw [hxe] at hxr
    split at hev
    case isFalse => cases hev
    rename_i hh
    obtain ⟨hsz, hle⟩ := hh
    subst hsz
    obtain ⟨hid, oo, cp, hxv, ho1, hlc, hcap, hcells⟩ := sl_inv hxr
    have hroomy : ∀ (olds : List Cell), rd m id off (len * sz') = some olds → ∃ ovs, CRels ρ n w olds ovs ∧ ovs.length = len * sz' ∧ (∀ (j : Nat) (v : Value), ovs[j]? = some v → w.cell? ⟨(ρ id).1, oo + j, none⟩ = some v) ∧
        (∀ W : World, (∀ q, W.cell? q = w.cell? q) → (Builtin.firstCells sz' len (.slice (some ⟨(ρ id).1, oo, none⟩) len cp)).run P W = .ok ovs.toArray W) := by
      intro olds hrd
      obtain ⟨_, hl, vs, h3, h4⟩ := rd_cells hm hrd
      have hlv := CRels.length _ _ h3
      have h5 : ∀ (j : Nat) (v : Value), vs[j]? = some v → w.cell? ⟨(ρ id).1, oo + j, none⟩ = some v := fun j v hj => by
        have hlt := (List.getElem?_eq_some_iff.1 hj).1
        have hne : cp ≠ 0 := by
          intro e0
          have : len = 0 := by omega
          subst this
          omega
        rw [ho1 hne]
        exact h4 j v hj
      refine ⟨vs, h3, by omega, h5, fun W hW => ?_⟩
      have := run_loadCells_list (P := P) W ⟨(ρ id).1, oo, none⟩ vs (fun j v hj => by rw [Addr.add0, hW]; exact h5 j v hj)
      rw [show vs.length = len * sz' by omega] at this
      simpa [Builtin.firstCells] using this
    split at hev
    · -- a capacity that is known
      rename_i cc
      have hcp := hcap cc rfl
      subst hcp
      split at hev
      · rename_i hroom
        split at hev
        · rename_i hk
          subst hk
          cases hev
          have : nvs = [] := List.length_eq_zero_iff.1 (by omega)
          subst this
          refine does_same (hrun (.slice (some ⟨(ρ id).1, oo, none⟩) len cp) w ?_) hm ?_
          · rw [hxv]
            have := run_room (P := P) (w := w) (ty := o.type) (b := (ρ id).1) (off := oo) hu hd g1 hn3 hn5 hroom (by simp) (by simp) (by simp)
            simpa [World.setCells] using this
          · simp only [RRel, CRel]
            exact ⟨hid, oo, cp, rfl, ho1, hlc, fun c h => by cases h; rfl, hcells⟩
        · rename_i hk
          obtain ⟨m1, hw, hq⟩ := Option.map_eq_some_iff.1 hev
          cases hq
          obtain ⟨h5, h6, h7⟩ := Step.store hm hw hn1
          have hne : cp ≠ 0 := by omega
          have ho2 := ho1 hne
          subst ho2
          have hr := run_room (P := P) (w := w) (ty := o.type) (b := (ρ id).1) (off := (ρ id).2 + off) hu hd g1 hn3 hn5 hroom (by rw [hsi]; intro j hj; have := h6 j hj; rwa [← Nat.add_assoc] at this) (by rw [hsi]; intro j hj; have := h7 j hj; rwa [← Nat.add_assoc] at this) (CRels.all_one _ _ hn1)
          rw [← hxv, hsi, Nat.add_assoc] at hr
          refine does_run (hrun _ _ hr) h5 ?_
          simp only [RRel, CRel]
          exact ⟨hid, _, cp, rfl, fun _ => rfl, hroom, fun c h => by cases h; rfl, fun j hj => h5.le.live _ (hcells j hj)⟩
      · rename_i hroom
        obtain ⟨olds, hrd, hq⟩ := Option.map_eq_some_iff.1 hev
        cases hq
        obtain ⟨ovs, h3, h4, h5, h6⟩ := hroomy olds hrd
        exact hgrow _ len cp olds ovs hxv h3 h4 h6 (by omega) hle
    · -- a capacity that is not known
      split at hev
      case h_2 => cases hev
      rename_i b hmb
      split at hev
      case isFalse => cases hev
      rename_i hown
      obtain ⟨olds, hrd, hq⟩ := Option.map_eq_some_iff.1 hev
      cases hq
      obtain ⟨ovs, h3, h4, h5, h6⟩ := hroomy olds hrd
      rcases Nat.lt_or_ge cp (len + k) with hlt | hge
      · have hgr := hgrow _ len cp olds ovs hxv h3 h4 h6 hlt hle
        intro F nf _ next Q hsem hnext
        refine hgr F nf next Q hsem (fun v ρ' w' hst hv => hnext v ρ' w' (hst.less (fun id' b' hb' => ?_)) hv)
        by_cases e : id' = n
        · subst e; rwa [upd_same] at hb' ⊢
        · rw [upd_ne _ _ e] at hb' ⊢
          by_cases e' : id' = id
          · subst e'; rw [upd_same] at hb'; cases hb'
          · rwa [upd_ne _ _ e'] at hb'
      · obtain ⟨hst, hv⟩ := Step.move (cp := cp) hm hmb hown h3 h4 h5 hn1 hn2 hge hcells
        have hfit : len * sz' + k * sz' ≤ cp * sz' := by rw [← Nat.add_mul]; exact Nat.mul_le_mul_right _ hge
        have hr := run_room (P := P) (w := w) (ty := o.type) (b := (ρ id).1) (off := oo) hu hd g1 hn3 hn5 hge (by rw [hsi]; intro j hj; rw [Nat.add_assoc]; exact hcells _ (by omega)) (by intro j hj; exact hm.soft id b hmb hown _) (CRels.all_one _ _ hn1)
        rw [← hxv, hsi] at hr
        exact does_run (hrun _ _ hr) hst hv
  · cases hev

theorem d_appz {t u e ty : TypeId} {kd : IntKind} {c : Call} {x y : Operand} {x' y' : O} {s by' : Nat} {z : List Value} {r : Reg} {m' : Mem} {n' : Nat} {k : Int} (ho : o.op = .call c) (hca : c.callee = .builtin .append) (hargs : c.args.toList = [x, y]) (hat : c.argTypes.toList = [t, u]) (hm : MRel ρ n w m) (hg : Glob ng ρ n) (he : ERel ρ n w env a)
    (hx : slimO ng x = some x') (hy : slimO ng y = some y') (hu : P.underlying t = some (.slice e)) (hd : P.underlying u = some (.int kd)) (hs : tsz P e = some s) (hb : tby P e = some by') (hz : tzero P e = some z) (hzl : z.length = s) (hs0 : 0 < s) (hb1 : by' ≤ 4096) (hb0 : 0 < by')
    (hxe : evO env x' = .one (.sc (.slice none 0 0))) (hye : evO env y' = .one (.sc (.int .i64 k)))
    (hev : (if k = 0 then some (Reg.one (.sc (.slice none 0 0)), m, n)
      else if 0 ≤ k ∧ k ≤ 4294967296 then some (.one (.sl n 0 k.toNat none s), upd m n (some ⟨(List.replicate k.toNat (z.map .sc)).flatten, true⟩), n + 1) else none) = some (r, m', n')) : Does P o a ρ n w m r m' n' := by
  obtain ⟨i, zv, g1, g2, g3, g4⟩ := tzero_inv hz
  have hsi : i.size = s := by unfold tsz at hs; rw [g1] at hs; simpa using hs
  have hbi : i.bytes = by' := by unfold tby at hb; rw [g1] at hb; simpa using hb
  have e1 : c.args = #[x, y] := Array.ext' (by simpa using hargs)
  have e2 : c.argTypes = #[t, u] := Array.ext' (by simpa using hat)
  have hxr := evO_rel hx hg he
  have hyr := evO_rel hy hg he
  rw [hxe] at hxr
  rw [hye] at hyr
  have hxv := nils_inv hxr
  have hyv := sc_inv hyr
  have hrun : ∀ v w', (Builtin.append_ #[t, u] o.type #[a.eval x, a.eval y]).run P w = .ok v w' → (execOp a.eval o).run P w = .ok (.value v) w' := fun v w' h => by
    simp [execOp, ho, resolve, hca, e1, e2, invoke, builtin, h]
  split at hev
  · rename_i hk
    subst hk
    cases hev
    refine does_same (hrun (.slice none 0 0) w ?_) hm (by simp [RRel, CRel, Value.oneCell'])
    rw [hxv, hyv]
    have hw0 : IntKind.i64.wrap (0 : Int) = 0 := by decide
    simp [Builtin.append_, run_underlying hu, run_underlying hd, sizeOf, typeInfo, g1, asInt, asIntOf, hw0]
  · rename_i hk
    split at hev
    case isFalse => cases hev
    rename_i hle
    cases hev
    obtain ⟨q, rfl⟩ : ∃ q : Nat, k = q := ⟨k.toNat, by omega⟩
    simp only [Int.toNat_natCast] at *
    have hr := run_zeros (P := P) (w := w) (ty := o.type) (z := zv) (kd := kd) hu hd g1 g2 (k := q) (by omega) (by omega) (by omega) (by omega) (by omega)
    have hzc : (Builtin.zeroCells zv.cells q).toList = (List.replicate q z).flatten := by
      have := rep_arr z (by omega) q
      unfold Builtin.zeroCells
      rw [g3]
      have h2 := congrArg Array.toList this
      simpa using h2
    have hcs : CRels ρ n w (List.replicate q (z.map Cell.sc)).flatten (List.replicate q z).flatten := by
      have := CRels.sc (ρ := ρ) (n := n) (w := w) _ (rep_one g4 q)
      rwa [List.map_flatten, List.map_replicate] at this
    rw [hzc] at hr
    have hst := (Step.drew hm).trans (Step.alloc' hm.drew (List.replicate q (z.map Cell.sc)).flatten (List.replicate q z).flatten (Builtin.zeroCells zv.cells (grownCap w q 0 e - q)).toList e
      (CRels.mono (Step.drew hm).le _ _ hcs))
    rw [← hxv, ← hyv] at hr
    have hge : q ≤ grownCap w q 0 e := by have := grownCap_ge w q 0 e; omega
    refine does_run (hrun _ _ hr) hst (sl_new (w := w.drew) e _ _ q _ s none rfl hge ?_ (fun x h => by cases h))
    have hzs : zv.cells.size = s := by rw [g3]; simpa using hzl
    have hl1 : (List.replicate q z).flatten.length = q * s := by simp [hzl]
    simp only [List.length_append, hl1, Array.length_toList, size_zeroCells, hzs]
    rw [← Nat.add_mul]
    exact Nat.mul_le_mul_right _ (by omega)

theorem d_cpy {t u e d' ty : TypeId} {c : Call} {x y : Operand} {x' y' : O} {s id off len k : Nat} {cap : Option Nat} {news : List Cell} {m' : Mem} {r : Reg} {n' : Nat} (ho : o.op = .call c) (hca : c.callee = .builtin .copy) (hargs : c.args.toList = [x, y]) (hat : c.argTypes.toList = [t, u]) (hm : MRel ρ n w m) (hg : Glob ng ρ n) (he : ERel ρ n w env a)
    (hx : slimO ng x = some x') (hy : slimO ng y = some y') (hu : P.underlying t = some (.slice e)) (hs : tsz P e = some s) (hp : evO env x' = .one (.sl id off len cap s)) (hn : newsOf m s (evO env y') = some (k, news))
    (hev : (if Nat.min k len = 0 then some (.one (.sc (.int .i64 0)), m, n)
         else (wr m id off (news.take (Nat.min k len * s))).map fun m' => (Reg.one (.sc (.int .i64 (Nat.min k len))), m', n)) = some (r, m', n')) : Does P o a ρ n w m r m' n' := by
  have e1 : c.args = #[x, y] := Array.ext' (by simpa using hargs)
  have e2 : c.argTypes = #[t, u] := Array.ext' (by simpa using hat)
  have hxr := evO_rel hx hg he
  have hyr := evO_rel hy hg he
  rw [hp] at hxr
  obtain ⟨hid, oo, cp, hxv, ho1, hlc, hcap, hcells⟩ := sl_inv hxr
  obtain ⟨nvs, hn1, hn2, hn2', hn3, hn4⟩ := newsOf_rel (P := P) hm hyr hn
  have h8 := hn4 w (fun _ => rfl) (Nat.min k len) (Nat.min_le_left _ _)
  split at hev
  · rename_i h0
    cases hev
    refine does_same (v := .int .i64 0) ?_ hm (by simp [RRel, CRel, Value.oneCell'])
    rw [h0] at h8
    simp [execOp, ho, resolve, hca, e1, e2, invoke, builtin, Builtin.copy_, run_underlying hu, hxv, hn3, run_sizeOf_tsz hs, h0, h8, storeCells, goInt]
  · rename_i h0
    obtain ⟨m1, hw, hq⟩ := Option.map_eq_some_iff.1 hev
    cases hq
    have hne : cp ≠ 0 := by
      intro e0
      have : len = 0 := by omega
      subst this
      exact h0 (Nat.min_zero k)
    have ho2 := ho1 hne
    subst ho2
    obtain ⟨h5, h6, h7⟩ := Step.store hm hw (hn1.take _)
    have hst := run_storeCells_cells (P := P) (ρ id).1 ((ρ id).2 + off) (nvs.take (Nat.min k len * s)) 0 w (by simpa using h6) (by simpa using h7) (CRels.all_one _ _ (hn1.take _))
    simp only [Nat.add_zero] at hst
    refine does_run (v := .int .i64 (Nat.min k len)) ?_ h5 (by simp [RRel, CRel, Value.oneCell'])
    simp [execOp, ho, resolve, hca, e1, e2, invoke, builtin, Builtin.copy_, run_underlying hu, hxv, hn3, run_sizeOf_tsz hs, h8, hst, goInt]
end
end Go.Proofs.Ytkdbnmohpanpfaa.Sy

/- An evaluator of a part of Go's operations over a memory of its own, part nine: calls; all operations together. Conditions: those that each theorem names. -/
namespace Go.Proofs.Ytkdbnmohpanpfaa.Sy
open Go
set_option linter.unusedVariables false
set_option linter.unusedSimpArgs false

section
variable {P : Program} {ρ : Loc} {n : Nat} {w : World} {m : Mem} {o : Oper} {a : Act} {ng : Nat} {env : Nat → Reg}

theorem minI_rel {kd : IntKind} {k : Int} : ∀ {rs : List Reg} {vs : List Value} {v : Int}, RRels ρ n w rs vs → minI k rs = some v → (vs.foldlM Builtin.min2 (.int kd k) : Sem Value) = pure (.int kd v)
  | [], vs, v, h, hv => by
    simp only [RRels] at h; subst h
    simp only [minI, Option.some.injEq] at hv; subst hv; rfl
  | r :: rs, vs, v, h, hv => by
    simp only [RRels] at h
    obtain ⟨u, us, rfl, h2, h3⟩ := h
    unfold minI at hv
    split at hv
    · rename_i heq; cases heq
    · rename_i a kk b r' heq
      cases heq
      have := sc_inv h2
      subst this
      have ih := minI_rel (kd := kd) h3 hv
      simpa [List.foldlM_cons, Builtin.min2] using ih
    · cases hv

theorem maxI_rel {kd : IntKind} {k : Int} : ∀ {rs : List Reg} {vs : List Value} {v : Int}, RRels ρ n w rs vs → maxI k rs = some v → (vs.foldlM Builtin.max2 (.int kd k) : Sem Value) = pure (.int kd v)
  | [], vs, v, h, hv => by
    simp only [RRels] at h; subst h
    simp only [maxI, Option.some.injEq] at hv; subst hv; rfl
  | r :: rs, vs, v, h, hv => by
    simp only [RRels] at h
    obtain ⟨u, us, rfl, h2, h3⟩ := h
    unfold maxI at hv
    split at hv
    · rename_i heq; cases heq
    · rename_i a kk b r' heq
      cases heq
      have := sc_inv h2
      subst this
      have ih := maxI_rel (kd := kd) h3 hv
      simpa [List.foldlM_cons, Builtin.max2] using ih
    · cases hv

theorem d_mn {c : Call} {os : List O} {kd : IntKind} {k v : Int} {rs : List Reg} (ho : o.op = .call c) (hca : c.callee = .builtin .min) (hargs : slimOs ng c.args.toList = some os) (hm : MRel ρ n w m) (hg : Glob ng ρ n) (he : ERel ρ n w env a)
    (hp : evOs env os = .one (.sc (.int kd k)) :: rs) (hv : minI k rs = some v) : Does P o a ρ n w m (.one (.sc (.int kd v))) m n := by
  have h1 := evOs_rel hg he hargs
  rw [hp] at h1
  simp only [RRels] at h1
  obtain ⟨u, us, h2, h3, h4⟩ := h1
  have := sc_inv h3
  subst this
  have h5 := minI_rel (kd := kd) h4 hv
  refine does_same (v := .int kd v) ?_ hm (by simp [RRel, CRel, Value.oneCell'])
  simp [execOp, ho, resolve, hca, invoke, builtin, Builtin.min_, h2, h5]

theorem d_mx {c : Call} {os : List O} {kd : IntKind} {k v : Int} {rs : List Reg} (ho : o.op = .call c) (hca : c.callee = .builtin .max) (hargs : slimOs ng c.args.toList = some os) (hm : MRel ρ n w m) (hg : Glob ng ρ n) (he : ERel ρ n w env a)
    (hp : evOs env os = .one (.sc (.int kd k)) :: rs) (hv : maxI k rs = some v) : Does P o a ρ n w m (.one (.sc (.int kd v))) m n := by
  have h1 := evOs_rel hg he hargs
  rw [hp] at h1
  simp only [RRels] at h1
  obtain ⟨u, us, h2, h3, h4⟩ := h1
  have := sc_inv h3
  subst this
  have h5 := maxI_rel (kd := kd) h4 hv
  refine does_same (v := .int kd v) ?_ hm (by simp [RRel, CRel, Value.oneCell'])
  simp [execOp, ho, resolve, hca, invoke, builtin, Builtin.max_, h2, h5]

def nilV : Value → Option Bool
  | .slice (some _) _ _ => some false
  | .slice none _ _ => some true
  | .func _ _ _ => some false
  | .pointer (some _) => some false
  | _ => none

theorem d_eqnil {op : BinOp} {t t2 : TypeId} {x y : Operand} {b : Bool} {yv : Value} {d : TypeDesc} (ho : o.op = .binOp op t x y t2) (hm : MRel ρ n w m) (hop : op = .eql ∨ op = .neq) (hu : P.underlying t = some d)
    (hy : a.eval y = yv) (hk : (∃ e, d = .slice e ∧ yv = .slice none 0 0 ∧ ∃ ad l c, a.eval x = .slice ad l c ∧ b = ad.isNone) ∨ (∃ p r v, d = .func p r v ∧ yv = .nilFunc ∧ ∃ f1 f2 f3, a.eval x = .func f1 f2 f3 ∧ b = false) ∨ (∃ e, d = .pointer e ∧ yv = .pointer none ∧ ∃ ad, a.eval x = .pointer ad ∧ b = ad.isNone)) :
    Does P o a ρ n w m (.one (.sc (.bool (b != (op == .neq))))) m n := by
  have heq : (Op.equal t (a.eval x) yv).run P w = .ok b w ∧ (eqGuard op t x y (a.eval x) yv).run P w = .ok () w ∧ (binOp op t (a.eval x) yv).run P w = .ok (.bool (b != (op == .neq))) w := by
    have h1 : ∀ dd, (Op.equalIn (dd + 1) t (a.eval x) yv).run P w = .ok b w := by
      intro dd
      rcases hk with ⟨e, rfl, rfl, ad, l, c, hx, rfl⟩ | ⟨p, r, v, rfl, rfl, f1, f2, f3, hx, rfl⟩ | ⟨e, rfl, rfl, ad, hx, rfl⟩
      · rw [hx]; cases ad <;> simp [Op.equalIn, run_underlying hu]
      · rw [hx]; simp [Op.equalIn, run_underlying hu]
      · rw [hx]; cases ad <;> simp [Op.equalIn, run_underlying hu]
    have h2 : (Op.equal t (a.eval x) yv).run P w = .ok b w := h1 9999
    refine ⟨h2, ?_, ?_⟩
    · rcases hk with ⟨e, rfl, rfl, ad, l, c, hx, rfl⟩ | ⟨p, r, v, rfl, rfl, f1, f2, f3, hx, rfl⟩ | ⟨e, rfl, rfl, ad, hx, rfl⟩ <;> rw [hx] <;> rcases hop with rfl | rfl <;> simp [eqGuard]
    · rcases hk with ⟨e, rfl, rfl, ad, l, c, hx, rfl⟩ | ⟨p, r, v, rfl, rfl, f1, f2, f3, hx, rfl⟩ | ⟨e, rfl, rfl, ad, hx, rfl⟩ <;> rw [hx] at h2 ⊢ <;> rcases hop with rfl | rfl <;> first | (simp [binOp, h2]; done) | (simp [binOp, h2]; cases ad <;> rfl)
  refine does_same (v := .bool (b != (op == .neq))) ?_ hm (by simp [RRel, CRel, Value.oneCell'])
  simp [execOp, ho, hy, heq.2.1, heq.2.2]
end

/-! ### calls -/
def CallOK (P : Program) (ng : Nat) (call : Callf) : Prop :=
  ∀ f args m n r m' n', call f args m n = some (r, m', n') → ∀ ρ w vs, MRel ρ n w m → Glob ng ρ n → RRels ρ n w args vs →
    (∃ fn, P.funcs[f]? = some fn ∧ fn.body.isSome = true ∧ (fn.name == "runtime.NumGoroutine") = false) ∧
    Calls P f vs.toArray w (fun e w' => ∃ v ρ', e = .returned v ∧ Step ρ n w m ρ' n' w' m' ∧ RRel ρ' n' w' r v)

section
variable {ρ ρ' : Loc} {n n' : Nat} {w w' : World} {m m' : Mem}

theorem flat_cells : ∀ {cs : List Cell} {vs : List Value}, cs.all Cell.flat = true → CRels ρ n w cs vs → CRels ρ' n' w' cs vs
  | [], vs, _, h => by simpa only [CRels] using h
  | c :: cs, vs, hf, h => by
    simp only [List.all_cons, Bool.and_eq_true] at hf
    simp only [CRels] at h ⊢
    obtain ⟨v, r, h1, h2, h3⟩ := h
    refine ⟨v, r, h1, ?_, flat_cells hf.2 h3⟩
    cases c <;> first | (simpa only [CRel] using h2) | (simp [Cell.flat] at hf)

mutual
theorem flat_rel : ∀ {r : Reg} {v : Value}, r.flat = true → RRel ρ n w r v → RRel ρ' n' w' r v
  | .one c, v, hf, h => by
    simp only [RRel] at h ⊢
    cases c <;> first | (simpa only [CRel] using h) | (simp [Reg.flat, Cell.flat] at hf)
  | .agg cs, v, hf, h => by
    simp only [RRel] at h ⊢
    obtain ⟨vs, h1, h2⟩ := h
    exact ⟨vs, h1, flat_cells (by simpa only [Reg.flat] using hf) h2⟩
  | .tup rs, v, hf, h => by
    simp only [RRel] at h ⊢
    obtain ⟨vs, h1, h2⟩ := h
    exact ⟨vs, h1, flats_rel (by simpa only [Reg.flat] using hf) h2⟩
theorem flats_rel : ∀ {rs : List Reg} {vs : List Value}, flats rs = true → RRels ρ n w rs vs → RRels ρ' n' w' rs vs
  | [], vs, _, h => by simpa only [RRels] using h
  | c :: cs, vs, hf, h => by
    simp only [flats, Bool.and_eq_true] at hf
    simp only [RRels] at h ⊢
    obtain ⟨v, r, h1, h2, h3⟩ := h
    exact ⟨v, r, h1, flat_rel hf.1 h2, flats_rel hf.2 h3⟩
end

theorem frz_own {k : Nat} : ¬ Own ρ (frz m) k := by
  rintro ⟨id, b, h1, h2, _⟩
  unfold frz at h1
  obtain ⟨b0, _, rfl⟩ := Option.map_eq_some_iff.1 h1
  cases h2

theorem MRel.frz (h : MRel ρ n w m) : MRel ρ n w (frz m) := h.sub (fun id b hb => by
  unfold Sy.frz at hb
  obtain ⟨b0, h1, rfl⟩ := Option.map_eq_some_iff.1 hb
  exact ⟨b0, h1, rfl, fun h => by cases h⟩)

/-- Where no old block has turned, what was there is there. -/
theorem MRel.quiet (h : MRel ρ n w m) (hf : ∀ k, k < w.heap.size → w'.heap[k]? = w.heap[k]?) (hs : w.heap.size ≤ w'.heap.size) (L : Le ρ n w ρ n w') : MRel ρ n w' m where
  lt := h.lt
  blk := fun id b hb => Nat.lt_of_lt_of_le (h.blk id b hb) hs
  cells := fun id b hb i c hc => by
    obtain ⟨v, h1, h2⟩ := h.cells id b hb i c hc
    exact ⟨v, by rw [World.cell?_of_block (w := w) (hf _ (h.blk id b hb))]; exact h1, CRel.mono L _ _ h2⟩
  soft := fun id b hb ho o => by
    rw [World.frozen?_of_block (w := w) (hf _ (h.blk id b hb))]; exact h.soft id b hb ho o
  apart := h.apart

theorem Step.quiet (h : MRel ρ n w m) (hst : Step ρ n w (frz m) ρ' n' w' m') : Step ρ n w m ρ n w' m := by
  have hf : ∀ k, k < w.heap.size → w'.heap[k]? = w.heap[k]? := fun k hk => hst.fr.block k hk frz_own
  have L : Le ρ n w ρ n w' := ⟨Nat.le_refl _, fun _ _ => rfl, hst.le.live⟩
  exact ⟨L, h.quiet hf hst.fr.size L, hst.fr.mono (fun k hk => absurd hk frz_own), fun id b _ hb => ⟨b, hb, fun x => x⟩, fun id b h1 h2 => absurd (h.lt id b h2) (Nat.not_lt.2 h1)⟩

theorem Step.kept (h : MRel ρ n w m) (hst : Step ρ n w (frz m) ρ' n' w' m') : Step ρ n w m ρ' n' w' (unfrz m n m') := by
  have hf : ∀ k, k < w.heap.size → w'.heap[k]? = w.heap[k]? := fun k hk => hst.fr.block k hk frz_own
  have L : Le ρ n w ρ n w' := ⟨Nat.le_refl _, fun _ _ => rfl, hst.le.live⟩
  have hq := h.quiet hf hst.fr.size L
  have hcase : ∀ id b, unfrz m n m' id = some b → (id < n ∧ m id = some b) ∨ (n ≤ id ∧ m' id = some b) := fun id b hb => by
    unfold unfrz at hb
    split at hb
    · rename_i hlt; exact Or.inl ⟨hlt, hb⟩
    · rename_i hge; exact Or.inr ⟨Nat.le_of_not_lt hge, hb⟩
  have L2 : Le ρ n w' ρ' n' w' := ⟨hst.le.le, hst.le.loc, fun _ h => h⟩
  refine ⟨hst.le, ⟨?_, ?_, ?_, ?_, ?_⟩, hst.fr.mono (fun k hk => absurd hk frz_own), ?_, ?_⟩
  · intro id b hb
    rcases hcase id b hb with ⟨h1, h2⟩ | ⟨h1, h2⟩
    · exact Nat.lt_of_lt_of_le h1 hst.le.le
    · exact hst.rel.lt id b h2
  · intro id b hb
    rcases hcase id b hb with ⟨h1, h2⟩ | ⟨h1, h2⟩
    · rw [hst.le.loc id h1]; exact hq.blk id b h2
    · exact hst.rel.blk id b h2
  · intro id b hb i c hc
    rcases hcase id b hb with ⟨h1, h2⟩ | ⟨h1, h2⟩
    · rw [hst.le.loc id h1]
      obtain ⟨v, h3, h4⟩ := hq.cells id b h2 i c hc
      exact ⟨v, h3, CRel.mono L2 _ _ h4⟩
    · exact hst.rel.cells id b h2 i c hc
  · intro id b hb ho o
    rcases hcase id b hb with ⟨h1, h2⟩ | ⟨h1, h2⟩
    · rw [hst.le.loc id h1]; exact hq.soft id b h2 ho o
    · exact hst.rel.soft id b h2 ho o
  · intro id b hb ho id' b' hb' hne
    rcases hcase id b hb with ⟨h1, h2⟩ | ⟨h1, h2⟩
    · rcases hcase id' b' hb' with ⟨h3, h4⟩ | ⟨h3, h4⟩
      · rw [hst.le.loc id h1, hst.le.loc id' h3]; exact h.apart id b h2 ho id' b' h4 hne
      · rw [hst.le.loc id h1]
        have := h.blk id b h2
        rcases hst.fresh id' b' h3 h4 with h5 | h5
        · omega
        · exact absurd h5 frz_own
    · rcases hcase id' b' hb' with ⟨h3, h4⟩ | ⟨h3, h4⟩
      · rw [hst.le.loc id' h3]
        have := h.blk id' b' h4
        rcases hst.fresh id b h1 h2 with h5 | h5
        · omega
        · exact absurd h5 frz_own
      · exact hst.rel.apart id b h2 ho id' b' h4 hne
  · intro id b hi hb
    rcases hcase id b hb with ⟨h1, h2⟩ | ⟨h1, h2⟩
    · exact ⟨b, h2, fun x => x⟩
    · omega
  · intro id b hi hb
    rcases hcase id b hb with ⟨h1, h2⟩ | ⟨h1, h2⟩
    · omega
    · rcases hst.fresh id b h1 h2 with h5 | h5
      · exact Or.inl h5
      · exact absurd h5 frz_own
end

section
variable {P : Program} {ρ : Loc} {n n' : Nat} {w : World} {m m' : Mem} {o : Oper} {a : Act} {ng : Nat} {env : Nat → Reg} {call : Callf} {r : Reg}

theorem Step.max_n {ρ' : Loc} {w' : World} (h : Step ρ n w m ρ' n' w' m') : max n n' = n' := Nat.max_eq_right h.le.le

theorem doCall_ok (hcall : CallOK P ng call) {md : Mode} (hz : zOk ng md = true) {f : Nat} {args : List Reg} {vs : List Value} (h : doCall call md f args m n = some (r, m', n')) (hm : MRel ρ n w m) (hg : Glob ng ρ n) (hargs : RRels ρ n w args vs) :
    (∃ fn, P.funcs[f]? = some fn ∧ fn.body.isSome = true ∧ (fn.name == "runtime.NumGoroutine") = false) ∧
    Calls P f vs.toArray w (fun e w' => ∃ v ρ', e = .returned v ∧ Step ρ n w m ρ' n' w' m' ∧ RRel ρ' n' w' r v) := by
  unfold doCall at h
  cases md with
  | q =>
    simp only at h
    split at h
    case h_2 => cases h
    rename_i r1 m1 n1 h1
    split at h
    case isFalse => cases h
    rename_i hfl
    cases h
    obtain ⟨h2, h3⟩ := hcall f args _ n _ _ _ h1 ρ w vs hm.frz hg hargs
    refine ⟨h2, h3.mono fun e w' he => ?_⟩
    obtain ⟨v, ρ', h4, h5, h6⟩ := he
    exact ⟨v, ρ, h4, Step.quiet hm h5, flat_rel hfl h6⟩
  | k =>
    simp only at h
    split at h
    case h_2 => cases h
    rename_i r1 m1 n1 h1
    cases h
    obtain ⟨h2, h3⟩ := hcall f args _ n _ _ _ h1 ρ w vs hm.frz hg hargs
    refine ⟨h2, h3.mono fun e w' he => ?_⟩
    obtain ⟨v, ρ', h4, h5, h6⟩ := he
    rw [h5.max_n]
    exact ⟨v, ρ', h4, Step.kept hm h5, h6⟩
  | w => exact hcall f args m n _ _ _ h ρ w vs hm hg hargs
  | t =>
    simp only [zOk, beq_iff_eq] at hz
    subst hz
    simp only at h
    split at h
    case h_2 => cases h
    rename_i b hb
    split at h
    case isFalse => cases h
    rename_i hfa
    split at h
    case h_2 => cases h
    rename_i r1 m1 n1 h1
    split at h
    case isFalse => cases h
    rename_i hfl
    cases h
    have htab : ∀ id c, tabM b.cells id = some c → id = 0 ∧ c = ⟨b.cells, false⟩ := fun id c hc => by
      unfold tabM upd at hc
      split at hc
      · rename_i e; cases hc; exact ⟨e, rfl⟩
      · cases hc
    have hno : ∀ k, ¬ Own ρ (tabM b.cells) k := by
      rintro k ⟨id, c, h, h2, _⟩
      obtain ⟨_, rfl⟩ := htab id c h
      cases h2
    have hem : MRel ρ 1 w (tabM b.cells) := by
      refine ⟨fun id c hc => ?_, fun id c hc => ?_, fun id c hc i x hx => ?_, fun id c hc ho => ?_, fun id c hc ho => ?_⟩
      · obtain ⟨rfl, _⟩ := htab id c hc; omega
      · obtain ⟨rfl, _⟩ := htab id c hc; exact hm.blk 0 b hb
      · obtain ⟨rfl, rfl⟩ := htab id c hc
        obtain ⟨v, q1, q2⟩ := hm.cells 0 b hb i x hx
        have hfx := List.all_eq_true.1 hfa.2 x (List.mem_of_getElem? hx)
        refine ⟨v, q1, ?_⟩
        cases x <;> first | (simp [Cell.flat] at hfx; done) | simpa only [CRel] using q2
      · obtain ⟨rfl, rfl⟩ := htab id c hc; cases ho
      · obtain ⟨rfl, rfl⟩ := htab id c hc; cases ho
    obtain ⟨h2, h3⟩ := hcall f args _ 1 _ _ _ h1 ρ w vs hem (fun k hk => ⟨hk, (hg k hk).2⟩) (flats_rel hfa.1 hargs)
    refine ⟨h2, h3.mono fun e w' he => ?_⟩
    obtain ⟨v, ρ', h4, h5, h6⟩ := he
    have hf : ∀ k, k < w.heap.size → w'.heap[k]? = w.heap[k]? := fun k hk => h5.fr.block k hk (hno k)
    have L : Le ρ n w ρ n w' := ⟨Nat.le_refl _, fun _ _ => rfl, h5.le.live⟩
    exact ⟨v, ρ, h4, ⟨L, hm.quiet hf h5.fr.size L, h5.fr.mono (fun k hk => absurd hk (hno k)), fun id b _ hb => ⟨b, hb, fun x => x⟩, fun id b q1 q2 => absurd (hm.lt id b q2) (Nat.not_lt.2 q1)⟩, flat_rel hfl h6⟩
  | z g =>
    simp only [zOk, beq_iff_eq] at hz
    subst hz
    simp only at h
    split at h
    case isFalse => cases h
    rename_i hfa
    split at h
    case h_2 => cases h
    rename_i r1 m1 n1 h1
    split at h
    case isFalse => cases h
    rename_i hfl
    cases h
    have hem : MRel ρ g w (fun _ => none) := ⟨fun id b hb => (by cases hb), fun id b hb => (by cases hb), fun id b hb => (by cases hb), fun id b hb => (by cases hb), fun id b hb => (by cases hb)⟩
    obtain ⟨h2, h3⟩ := hcall f args _ g _ _ _ h1 ρ w vs hem (fun k hk => ⟨hk, (hg k hk).2⟩) (flats_rel hfa hargs)
    refine ⟨h2, h3.mono fun e w' he => ?_⟩
    obtain ⟨v, ρ', h4, h5, h6⟩ := he
    have hno : ∀ k, ¬ Own ρ (fun _ => none) k := by rintro k ⟨id, b, h, _⟩; cases h
    have hf : ∀ k, k < w.heap.size → w'.heap[k]? = w.heap[k]? := fun k hk => h5.fr.block k hk (hno k)
    have L : Le ρ n w ρ n w' := ⟨Nat.le_refl _, fun _ _ => rfl, h5.le.live⟩
    exact ⟨v, ρ, h4, ⟨L, hm.quiet hf h5.fr.size L, h5.fr.mono (fun k hk => absurd hk (hno k)), fun id b _ hb => ⟨b, hb, fun x => x⟩, fun id b q1 q2 => absurd (hm.lt id b q2) (Nat.not_lt.2 q1)⟩, flat_rel hfl h6⟩

theorem does_call {f : Nat} {vs : List Value} (hr : (execOp a.eval o).run P w = .ok (.enter f vs.toArray) w)
    (hc : Calls P f vs.toArray w (fun e w' => ∃ v ρ', e = .returned v ∧ Step ρ n w m ρ' n' w' m' ∧ RRel ρ' n' w' r v)) : Does P o a ρ n w m r m' n' := by
  intro F nf _ next Q hsem h
  refine ⟨fun f _ => Wide.fn f, ?_⟩
  rw [hsem, hr, Oper.uponIn_enter]
  refine ⟨fun hd => absurd hd (by rw [Wide.depth]; simp), CallsIn.mono (Wide.calls hc) fun e w' he => ?_⟩
  obtain ⟨v, ρ', rfl, h5, h6⟩ := he
  exact h v ρ' w' h5 h6

theorem run_callFunc {f : Nat} {fn : Func} {args : Array Value} (h1 : P.funcs[f]? = some fn) (h2 : fn.body.isSome = true) (h3 : (fn.name == "runtime.NumGoroutine") = false) (w : World) : (callFunc f args).run P w = .ok (.enter f args) w := by
  have h4 : fn.body.isNone = false := by cases hb : fn.body <;> simp [hb] at h2 ⊢
  have h5 : ¬ fn.name = "runtime.NumGoroutine" := by simpa using h3
  have h6 : ¬ fn.body = none := by intro h; simp [h] at h2
  simp [callFunc, h1, h5, h6]

theorem d_call (hcall : CallOK P ng call) {c : Call} {f : Nat} {os : List O} {md : Mode} (ho : o.op = .call c) (hca : c.callee = .value (.func f)) (hargs : slimOs ng c.args.toList = some os) (hm : MRel ρ n w m) (hg : Glob ng ρ n) (he : ERel ρ n w env a)
    (hz : zOk ng md = true) (h : doCall call md f (evOs env os) m n = some (r, m', n')) : Does P o a ρ n w m r m' n' := by
  obtain ⟨⟨fn, h1, h2, h3⟩, h4⟩ := doCall_ok hcall hz h hm hg (evOs_rel hg he hargs)
  refine does_call (vs := c.args.toList.map a.eval) ?_ h4
  have h5 := run_callFunc (args := (c.args.toList.map a.eval).toArray) h1 h2 h3 w
  have h6 : (c.args.toList.map a.eval).toArray = c.args.map a.eval := by apply Array.ext'; simp
  rw [h6] at h5 ⊢
  simp [execOp, ho, resolve, hca, Act.eval, Deferred.ofValue, invoke, h5]

theorem d_callv (hcall : CallOK P ng call) {c : Call} {x : Operand} {x' : O} {f : Nat} {caps : List Cell} {os : List O} {md : Mode} (ho : o.op = .call c) (hca : c.callee = .value x) (hx : slimO ng x = some x') (hp : evO env x' = .one (.clo f caps)) (hargs : slimOs ng c.args.toList = some os) (hm : MRel ρ n w m) (hg : Glob ng ρ n) (he : ERel ρ n w env a)
    (hz : zOk ng md = true) (h : doCall call md f (evOs env os ++ caps.map .one) m n = some (r, m', n')) : Does P o a ρ n w m r m' n' := by
  have h0 := evO_rel hx hg he
  rw [hp] at h0
  obtain ⟨cv, hv, hc⟩ : ∃ vs : List Value, a.eval x = .func (.func f) #[] vs.toArray ∧ CRels ρ n w caps vs := by simpa only [RRel, CRel] using h0
  have happ : ∀ {rs : List Reg} {vs : List Value}, RRels ρ n w rs vs → RRels ρ n w (rs ++ caps.map .one) (vs ++ cv) := by
    have hcr : ∀ {cs : List Cell} {us : List Value}, CRels ρ n w cs us → RRels ρ n w (cs.map .one) us := by
      intro cs
      induction cs with
      | nil => intro us h; simpa only [CRels, List.map_nil, RRels] using h
      | cons c cs ih =>
        intro us h
        simp only [CRels] at h
        obtain ⟨v, r, h1, h2, h3⟩ := h
        simp only [List.map_cons, RRels]
        exact ⟨v, r, h1, by simpa only [RRel] using h2, ih h3⟩
    intro rs
    induction rs with
    | nil => intro vs h; simp only [RRels] at h; subst h; exact hcr hc
    | cons r rs ih =>
      intro vs h
      simp only [RRels] at h
      obtain ⟨v, us, rfl, h2, h3⟩ := h
      simp only [List.cons_append, RRels]
      exact ⟨v, us ++ cv, rfl, h2, ih h3⟩
  obtain ⟨⟨fn, h1, h2, h3⟩, h4⟩ := doCall_ok hcall hz h hm hg (happ (evOs_rel hg he hargs))
  refine does_call (vs := c.args.toList.map a.eval ++ cv) ?_ h4
  have h5 := run_callFunc (args := (c.args.toList.map a.eval ++ cv).toArray) h1 h2 h3 w
  have h6 : (c.args.toList.map a.eval ++ cv).toArray = c.args.map a.eval ++ cv.toArray := by apply Array.ext'; simp
  rw [h6] at h5 ⊢
  simp [execOp, ho, resolve, hca, hv, Deferred.ofValue, invoke, h5]
/-! ### math/bits' sums with a carry -/
theorem look_add : (Extern.allNextRows.lookup "math/bits.Add64").isNone = true ∧ (Extern.allNextRows.lookup "math/bits.Sub64").isNone = true ∧ (Extern.allNextRows.lookup "").isNone = true := ⟨by kernel_rfl, by kernel_rfl, by kernel_rfl⟩
theorem look_gen : ((Extern.allGenericRows.lookup "math/bits.Add64").isNone = true ∧ (Extern.allTypedRows.lookup "math/bits.Add64").isNone = true) ∧ (Extern.allGenericRows.lookup "math/bits.Sub64").isNone = true ∧ (Extern.allTypedRows.lookup "math/bits.Sub64").isNone = true := ⟨⟨by kernel_rfl, by kernel_rfl⟩, by kernel_rfl, by kernel_rfl⟩
def addE : Array Value → Sem Value := fun args => do
  let (x, y, c) ← Extern.MathBitsCarry.three "Add64" args
  pure (Extern.MathBitsCarry.pair ((x + y + c) % Extern.MathBitsCarry.m64) ((x + y + c) / Extern.MathBitsCarry.m64))
def subE : Array Value → Sem Value := fun args => do
  let (x, y, b) ← Extern.MathBitsCarry.three "Sub64" args
  pure (Extern.MathBitsCarry.pair ((x + Extern.MathBitsCarry.m64 - y - b) % Extern.MathBitsCarry.m64) (if x < y + b then 1 else 0))
theorem look_addE : Extern.allRows.lookup "math/bits.Add64" = some addE := by kernel_rfl
theorem look_subE : Extern.allRows.lookup "math/bits.Sub64" = some subE := by kernel_rfl
theorem run_addE (x y c : Nat) (hc : c ≤ 1) (w : World) : (addE #[.int .u64 x, .int .u64 y, .int .u64 c]).run P w = .ok (.tuple #[.int .u64 (((x + y + c) % 18446744073709551616 : Nat) : Int), .int .u64 (((x + y + c) / 18446744073709551616 : Nat) : Int)]) w := by
  have : c = 0 ∨ c = 1 := by omega
  rcases this with rfl | rfl <;> rfl
theorem run_subE (x y b : Nat) (hb : b ≤ 1) (w : World) : (subE #[.int .u64 x, .int .u64 y, .int .u64 b]).run P w = .ok (.tuple #[.int .u64 (((x + 18446744073709551616 - y - b) % 18446744073709551616 : Nat) : Int), .int .u64 ((if x < y + b then 1 else 0 : Nat) : Int)]) w := by
  have : b = 0 ∨ b = 1 := by omega
  rcases this with rfl | rfl <;> rfl

def carryV (x y c : Nat) : Bool → Reg
  | false => .tup [.one (.sc (.int .u64 (((x + y + c) % 18446744073709551616 : Nat) : Int))), .one (.sc (.int .u64 (((x + y + c) / 18446744073709551616 : Nat) : Int)))]
  | true => .tup [.one (.sc (.int .u64 (((x + 18446744073709551616 - y - c) % 18446744073709551616 : Nat) : Int))), .one (.sc (.int .u64 ((if x < y + c then 1 else 0 : Nat) : Int)))]
theorem carryR_inv {sub : Bool} {rs : List Reg} {r : Reg} (h : carryR sub rs = some r) : ∃ x y c : Nat, rs = [.one (.sc (.int .u64 x)), .one (.sc (.int .u64 y)), .one (.sc (.int .u64 c))] ∧ x < 18446744073709551616 ∧ y < 18446744073709551616 ∧ c ≤ 1 ∧
    r = carryV x y c sub := by
  unfold carryR at h
  split at h
  case h_2 => cases h
  rename_i x y c
  by_cases hh : 0 ≤ x ∧ x < 18446744073709551616 ∧ 0 ≤ y ∧ y < 18446744073709551616 ∧ (c = 0 ∨ c = 1)
  case neg => rw [if_neg hh] at h; cases h
  rw [if_pos hh] at h
  obtain ⟨h1, h2, h3, h4, h5⟩ := hh
  obtain ⟨x, rfl⟩ := Int.eq_ofNat_of_zero_le h1
  obtain ⟨y, rfl⟩ := Int.eq_ofNat_of_zero_le h3
  obtain ⟨c, rfl⟩ := Int.eq_ofNat_of_zero_le (show 0 ≤ c by omega)
  refine ⟨x, y, c, rfl, by omega, by omega, by omega, ?_⟩
  cases sub
  · simp only [Option.some.injEq] at h
    exact h.symm
  · simp only [Option.some.injEq] at h
    rw [← h]
    have e1 : ((x : Int) - (y : Int) - (c : Int)) % 18446744073709551616 = (((x + 18446744073709551616 - y - c) % 18446744073709551616 : Nat) : Int) := by omega
    have e2 : (if (x : Int) < (y : Int) + (c : Int) then (1 : Int) else 0) = ((if x < y + c then 1 else 0 : Nat) : Int) := by split <;> split <;> first | rfl | (exfalso; omega)
    rw [e1, e2]
    rfl

def carryN : Bool → String
  | false => "math/bits.Add64"
  | true => "math/bits.Sub64"
def carryE : Bool → Array Value → Sem Value
  | false => addE
  | true => subE
theorem d_carry {c : Call} {f : Nat} {fn : Func} {os : List O} {sub : Bool} (ho : o.op = .call c) (hca : c.callee = .value (.func f)) (hargs : slimOs ng c.args.toList = some os) (hf : P.funcs[f]? = some fn) (hb : fn.body.isNone = true)
    (hn : fn.name = carryN sub) (horg : fn.origin = "") (hm : MRel ρ n w m) (hg : Glob ng ρ n) (he : ERel ρ n w env a) (h : carryR sub (evOs env os) = some r) : Does P o a ρ n w m r m n := by
  obtain ⟨x, y, k, hrs, h1, h2, h3, rfl⟩ := carryR_inv h
  have hrel := evOs_rel hg he hargs
  rw [hrs] at hrel
  simp only [RRels, RRel, CRel] at hrel
  obtain ⟨_, _, hv, ⟨rfl, _⟩, _, _, rfl, ⟨rfl, _⟩, _, _, rfl, ⟨rfl, _⟩, rfl⟩ := hrel
  have hv2 : c.args.map a.eval = #[.int .u64 x, .int .u64 y, .int .u64 k] := by apply Array.ext'; simpa using hv
  have h4 : (fn.name == "runtime.NumGoroutine") = false := by rw [hn]; cases sub <;> rfl
  have h5 : Extern.findNext fn = none := by
    unfold Extern.findNext
    have e0 := Option.isNone_iff_eq_none.1 look_add.2.2
    have e1 := Option.isNone_iff_eq_none.1 look_add.1
    have e2 := Option.isNone_iff_eq_none.1 look_add.2.1
    rw [hn, horg]
    cases sub
    · simp only [carryN, e0, e1, Option.map_none]; rfl
    · simp only [carryN, e0, e2, Option.map_none]; rfl
  have h6 : Extern.find fn = some (carryE sub) := by
    unfold Extern.find
    have e1 := Option.isNone_iff_eq_none.1 look_gen.1.1
    have e2 := Option.isNone_iff_eq_none.1 look_gen.1.2
    have e3 := Option.isNone_iff_eq_none.1 look_gen.2.1
    have e4 := Option.isNone_iff_eq_none.1 look_gen.2.2
    rw [hn]
    cases sub
    · simp only [carryN, e1, e2, look_addE, Option.map_none]; rfl
    · simp only [carryN, e3, e4, look_subE, Option.map_none]; rfl
  have h7 := run_callFunc_extern hf h4 hb h5 h6 (c.args.map a.eval) w
  rw [hv2] at h7
  cases sub
  · simp only [carryE] at h7
    rw [run_addE (P := P) x y k h3 w] at h7
    refine does_same (v := .tuple #[.int .u64 (((x + y + k) % 18446744073709551616 : Nat) : Int), .int .u64 (((x + y + k) / 18446744073709551616 : Nat) : Int)]) ?_ hm ?_
    · simp only [Result.andThen] at h7
      simp [execOp, ho, resolve, hca, Act.eval, Deferred.ofValue, invoke, hv2, h7]
    · simp only [carryV, RRel, RRels, CRel]
      exact ⟨_, rfl, _, _, rfl, ⟨rfl, rfl⟩, _, _, rfl, ⟨rfl, rfl⟩, rfl⟩
  · simp only [carryE] at h7
    rw [run_subE (P := P) x y k h3 w] at h7
    refine does_same (v := .tuple #[.int .u64 (((x + 18446744073709551616 - y - k) % 18446744073709551616 : Nat) : Int), .int .u64 ((if x < y + k then 1 else 0 : Nat) : Int)]) ?_ hm ?_
    · simp only [Result.andThen] at h7
      simp [execOp, ho, resolve, hca, Act.eval, Deferred.ofValue, invoke, hv2, h7]
    · simp only [carryV, RRel, RRels, CRel]
      exact ⟨_, rfl, _, _, rfl, ⟨rfl, rfl⟩, _, _, rfl, ⟨rfl, rfl⟩, rfl⟩

/-! ### clear -/
theorem d_clr {t e : TypeId} {c : Call} {x : Operand} {x' : O} {s : Nat} {z : List Value} {r : Reg} {m' : Mem} {n' : Nat} (ho : o.op = .call c) (hca : c.callee = .builtin .clear) (hargs : c.args.toList = [x]) (hat : c.argTypes.toList = [t]) (hm : MRel ρ n w m) (hg : Glob ng ρ n) (he : ERel ρ n w env a)
    (hx : slimO ng x = some x') (hu : P.underlying t = some (.slice e)) (hs : tsz P e = some s) (hz : tzero P e = some z) (hzl : z.length = s) (hs0 : 0 < s)
    (hev : (match evO env x' with
      | .one (.sc (.slice none 0 0)) => some (Reg.tup [], m, n)
      | .one (.sl id off len _ sz') => if sz' = s then (if len = 0 then some (.tup [], m, n) else (wr m id off (List.replicate len (z.map Cell.sc)).flatten).map fun m' => (.tup [], m', n)) else none
      | _ => none) = some (r, m', n')) : Does P o a ρ n w m r m' n' := by
  have e1 : c.args = #[x] := Array.ext' (by simpa using hargs)
  have e2 : c.argTypes = #[t] := Array.ext' (by simpa using hat)
  have hxr := evO_rel hx hg he
  obtain ⟨i, v, hi1, hi2, hi3, hi4⟩ := tzero_inv hz
  split at hev
  · rename_i hp
    rw [hp] at hxr
    cases hev
    have hxv := nils_inv hxr
    refine does_same (v := .tuple #[]) ?_ hm (by simp only [RRel, RRels]; exact ⟨[], rfl, rfl⟩)
    simp [execOp, ho, resolve, hca, e1, e2, invoke, builtin, Builtin.clear_, run_underlying hu, hxv]
  · rename_i id off len cap sz' hp
    split at hev
    case isFalse => cases hev
    rename_i hsz
    subst hsz
    rw [hp] at hxr
    obtain ⟨hid, oo, cp, hxv, ho1, hlc, hcap, hcells⟩ := sl_inv hxr
    split at hev
    · rename_i h0
      cases hev
      subst h0
      refine does_same (v := .tuple #[]) ?_ hm (by simp only [RRel, RRels]; exact ⟨[], rfl, rfl⟩)
      simp [execOp, ho, resolve, hca, e1, e2, invoke, builtin, Builtin.clear_, run_underlying hu, hxv]
    · rename_i h0
      obtain ⟨m1, hw, hq⟩ := Option.map_eq_some_iff.1 hev
      cases hq
      have hne : cp ≠ 0 := by omega
      have ho2 := ho1 hne
      subst ho2
      have hfl : (List.replicate len (z.map Cell.sc)).flatten = (List.replicate len z).flatten.map Cell.sc := by
        clear hw h0 hev hlc hcells hcap hxv
        induction len with
        | zero => rfl
        | succ k ih => simp [List.replicate_succ, ih]
      rw [hfl] at hw
      have hrel : CRels ρ n w ((List.replicate len z).flatten.map Cell.sc) (List.replicate len z).flatten := CRels.sc _ (rep_one hi4 len)
      obtain ⟨h5, h6, h7⟩ := Step.store hm hw hrel
      have hst := run_storeCells_cells (P := P) (ρ id).1 ((ρ id).2 + off) (List.replicate len z).flatten 0 w (by simpa using h6) (by simpa using h7) (CRels.all_one _ _ hrel)
      simp only [Nat.add_zero] at hst
      have hzc : (Builtin.zeroCells v.cells len).toList = (List.replicate len z).flatten := by
        rw [hi3]
        unfold Builtin.zeroCells
        have := rep_arr z (by omega) len
        simpa using congrArg Array.toList this
      refine does_run (v := .tuple #[]) ?_ h5 (by simp only [RRel, RRels]; exact ⟨[], rfl, rfl⟩)
      have hzv := run_zeroValue' (P := P) hi1 hi2 w
      have hst2 : (storeCells ⟨(ρ id).1, (ρ id).2 + off, none⟩ (Builtin.zeroCells v.cells len).toList).run P w = .ok () (w.setCells (ρ id).1 ((ρ id).2 + off) (List.replicate len z).flatten) := by rw [hzc]; exact hst
      generalize w.setCells (ρ id).1 ((ρ id).2 + off) (List.replicate len z).flatten = W2 at *
      cases len with
      | zero => exact absurd rfl h0
      | succ l => simp [execOp, ho, resolve, hca, e1, e2, invoke, builtin, Builtin.clear_, run_underlying hu, hxv, hzv, hst2]
  · cases hev
end
end Go.Proofs.Ytkdbnmohpanpfaa.Sy
