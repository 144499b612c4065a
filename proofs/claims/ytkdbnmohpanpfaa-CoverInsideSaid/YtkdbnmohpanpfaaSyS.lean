/- An evaluator of a part of Go's operations over a memory of its own: blocks of the heap that are no cells (the record of a range over a function). Conditions: those that each theorem names. -/
import Derived.Test.YtkdbnmohpanpfaaSyU
import Derived.RangeFuncRecord
namespace Go.Proofs.Ytkdbnmohpanpfaa.Sy
open Go
set_option linter.unusedVariables false
set_option linter.unusedSimpArgs false

def isC : Obj → Bool
  | .cells .. => true
  | _ => false

section
variable {ρ ρ' : Loc} {n n' l : Nat} {w w' : World} {m m' : Mem} {o o' : Obj}

theorem cell_put (hl : w.heap[l]? = some o) (ho : isC o = false) (ho' : isC o' = false) (a : Addr) : (w.putObj l o').cell? a = w.cell? a := by
  unfold World.cell?
  by_cases e : a.block = l
  · rw [e, hl, World.putObj_heap_same (Array.getElem?_eq_some_iff.1 hl).1]
    cases o <;> cases o' <;> simp_all [isC]
  · rw [World.putObj_heap_other e]
theorem frozen_put (hl : w.heap[l]? = some o) (ho : isC o = false) (ho' : isC o' = false) (a : Addr) : (w.putObj l o').frozen? a = w.frozen? a := by
  unfold World.frozen?
  by_cases e : a.block = l
  · rw [e, hl, World.putObj_heap_same (Array.getElem?_eq_some_iff.1 hl).1]
    cases o <;> cases o' <;> simp_all [isC]
  · rw [World.putObj_heap_other e]
theorem Le.put (hl : w.heap[l]? = some o) (ho : isC o = false) (ho' : isC o' = false) : Le ρ n w ρ n (w.putObj l o') :=
  ⟨Nat.le_refl _, fun _ _ => rfl, fun a h => by rw [cell_put hl ho ho']; exact h⟩
theorem MRel.put (h : MRel ρ n w m) (hl : w.heap[l]? = some o) (ho : isC o = false) (ho' : isC o' = false) : MRel ρ n (w.putObj l o') m where
  lt := h.lt
  blk := fun id b hb => by rw [World.putObj_size]; exact h.blk id b hb
  cells := fun id b hb i c hc => by
    obtain ⟨v, h1, h2⟩ := h.cells id b hb i c hc
    exact ⟨v, by rw [cell_put hl ho ho']; exact h1, CRel.mono (Le.put hl ho ho') _ _ h2⟩
  soft := fun id b hb hown k => by rw [frozen_put hl ho ho']; exact h.soft id b hb hown k
  apart := h.apart

/-- A block that is no cells is laid: no number for it. -/
theorem Step.lay (h : MRel ρ n w m) (o : Obj) : Step ρ n w m ρ n (w.alloc o) m := by
  have L : Le ρ n w ρ n (w.alloc o) := ⟨Nat.le_refl _, fun _ _ => rfl, fun a ha => World.isSome_alloc w o a ha⟩
  refine ⟨L, ⟨h.lt, fun id b hb => by have := h.blk id b hb; simp; omega, fun id b hb i c hc => ?_, fun id b hb hown k => ?_, h.apart⟩, ⟨rfl, rfl, rfl, by simp, fun k hk _ => Go.RowKit.Below.heap_alloc w o k hk⟩, fun id b _ hb => ⟨b, hb, fun x => x⟩, fun id b h1 h2 => absurd (h.lt id b h2) (Nat.not_lt.2 h1)⟩
  · obtain ⟨v, h1, h2⟩ := h.cells id b hb i c hc
    exact ⟨v, World.cell_alloc_of w o _ v h1, CRel.mono L _ _ h2⟩
  · rw [frozen_alloc_lt w o _ (h.blk id b hb)]; exact h.soft id b hb hown k
/-- What lies above the world of the beginning turns. -/
theorem Step.put (h : Step ρ n w m ρ' n' w' m') (hB : w.heap.size ≤ l) (hl : w'.heap[l]? = some o) (ho : isC o = false) (ho' : isC o' = false) : Step ρ n w m ρ' n' (w'.putObj l o') m' where
  le := h.le.trans (Le.put hl ho ho')
  rel := h.rel.put hl ho ho'
  fr := ⟨h.fr.os, h.fr.tape, h.fr.output, by rw [World.putObj_size]; exact h.fr.size, fun k hk hno => by rw [World.putObj_heap_other (by omega)]; exact h.fr.block k hk hno⟩
  dom := h.dom
  fresh := h.fresh
/-- A round: the record is busy, and is ready again. -/
theorem Step.round {w2 w3 : World} (hm : MRel ρ n w m) (hl : w.heap[l]? = some o) (ho : isC o = false) (ho' : isC o' = false) (hno : ¬ Own ρ m l) (h : Step ρ n (w.putObj l o') m ρ' n' w3 m') : Step ρ n w m ρ' n' (w3.putObj l o) m' := by
  have hlt := (Array.getElem?_eq_some_iff.1 hl).1
  have h3 : w3.heap[l]? = some o' := by
    rw [h.fr.block l (by rw [World.putObj_size]; exact hlt) hno]
    exact World.putObj_heap_same hlt
  refine ⟨(Le.put hl ho ho').trans (h.le.trans (Le.put h3 ho' ho)), h.rel.put h3 ho' ho, ⟨h.fr.os, h.fr.tape, h.fr.output, by have := h.fr.size; simpa using this, fun k hk hn => ?_⟩, h.dom, fun id b h1 h2 => by have := h.fresh id b h1 h2; simpa using this⟩
  by_cases e : k = l
  · subst e
    rw [World.putObj_heap_same (Array.getElem?_eq_some_iff.1 h3).1, hl]
  · rw [World.putObj_heap_other e, h.fr.block k (by rw [World.putObj_size]; exact hk) hn, World.putObj_heap_other e]

/-- The marks of loops that have gone by: their blocks lie, and are nobody's. -/
def DOk (B : Nat) (ds : List Deferred) (ρ : Loc) (w : World) (m : Mem) : Prop :=
  B ≤ w.heap.size ∧ ds.Nodup ∧ ∀ d ∈ ds, ∃ D, d = { target := .collected D, args := #[] } ∧ B ≤ D ∧ w.heap[D]? = some (.deferred (some [])) ∧ ¬ Own ρ m D
theorem DOk.nil {B : Nat} (h : B ≤ w.heap.size) : DOk B [] ρ w m := ⟨h, List.nodup_nil, fun d hd => by cases hd⟩
theorem DOk.step {B : Nat} {ds : List Deferred} (h : DOk B ds ρ w m) (hs : Step ρ n w m ρ' n' w' m') : DOk B ds ρ' w' m' := by
  refine ⟨Nat.le_trans h.1 hs.fr.size, h.2.1, fun d hd => ?_⟩
  obtain ⟨D, h1, h2, h3, h4⟩ := h.2.2 d hd
  have hlt := (Array.getElem?_eq_some_iff.1 h3).1
  exact ⟨D, h1, h2, by rw [hs.fr.block D hlt h4]; exact h3, fun ho => h4 (hs.own D hlt ho)⟩
theorem DOk.put {B : Nat} {ds : List Deferred} {r : Loop} (h : DOk B ds ρ w m) (hl : w.heap[l]? = some (.loop r)) (o' : Obj) : DOk B ds ρ (w.putObj l o') m := by
  refine ⟨by rw [World.putObj_size]; exact h.1, h.2.1, fun d hd => ?_⟩
  obtain ⟨D, h1, h2, h3, h4⟩ := h.2.2 d hd
  refine ⟨D, h1, h2, ?_, h4⟩
  rw [World.putObj_heap_other (fun e => by rw [e, hl] at h3; cases h3)]
  exact h3
end
end Go.Proofs.Ytkdbnmohpanpfaa.Sy
