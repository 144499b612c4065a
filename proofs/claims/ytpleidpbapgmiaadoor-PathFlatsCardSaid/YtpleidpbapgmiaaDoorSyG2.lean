/- A package variable that holds a table of ints, opened for the evaluator. Conditions: those that each theorem names. -/
import Derived.Test.YtpleidpbapgmiaaDoorSyQ
import Derived.LaidMore
import Derived.Stop.Joined
namespace Go.Proofs.YtpleidpbapgmiaaDoor.Sy
open Go.RowKit Go.ChangeShapes Go.WideShapes Go.Deep
set_option linter.unusedVariables false

/-- Its cells. -/
theorem tab_cells {P : Program} {W : World} {name : String} {g t e k : Nat} {vals : List Int} (hg : P.globalNamed name = some g) (ht : (P.globals[g]?).map (·.type) = some t) (hu : P.underlying t = some (.array k e)) (hi : P.underlying e = some (.int .i64))
    (hc : P.cellsOf e = 1) (h : laidMet P [(name, .agg (vals.map fun v => .lit (.int .i64 v)))] W) : g < W.heap.size ∧ ∀ j v, vals[j]? = some v → W.cell? ⟨g, j, none⟩ = some (.int .i64 v) := by
  obtain ⟨ps, ⟨g0, t0, cs0, f0, p0, q0, hg0, ht0, hv0, hd0, hr⟩, _, _⟩ := h
  obtain rfl := Option.some.inj (hg.symm.trans hg0)
  obtain rfl := Option.some.inj (ht.symm.trans ht0)
  have hcell := World.var?_cell hg0 hv0
  obtain ⟨xs, m1, rfl, hx1, hlen, hn3, hel⟩ := DataW.trod_array hu hd0
  simp only [Prod.mk.injEq, DataW.agg.injEq] at hx1
  have hmap := hx1.1
  have key : ∀ j v, vals[j]? = some v → W.cell? ⟨g, j, none⟩ = some (.int .i64 v) := by
    intro j v hj
    have h1 : (xs.map (·.1))[j]? = some (.lit (.int .i64 v)) := by
      rw [← hmap, List.getElem?_map, hj]; rfl
    rw [List.getElem?_map] at h1
    obtain ⟨x, hxj, hx2⟩ := Option.map_eq_some_iff.1 h1
    have hjk : j < k := by rw [← hn3]; exact (List.getElem?_eq_some_iff.1 hxj).1
    have h2 := hel j hjk
    rw [hc, hxj] at h2
    obtain ⟨z, e1, e2, _⟩ := DataW.trod_int hi h2
    rw [e2] at hx2
    simp only [DataW.lit.injEq, Lit.int.injEq, true_and] at hx2
    subst hx2
    rw [hcell]
    have h3 : ((cs0.toList.drop (j * 1)).take 1)[0]? = some (.int .i64 z) := by rw [e1]; rfl
    rw [List.getElem?_take_of_lt (by decide), List.getElem?_drop] at h3
    simpa using h3
  refine ⟨?_, key⟩
  simp only [World.var?, hg0, Option.bind_some] at hv0
  split at hv0
  · rename_i hb
    exact (Array.getElem?_eq_some_iff.1 hb).1
  · cases hv0
theorem tab_mem {W : World} {vals : List Int} (hb : 0 < W.heap.size) (hc : ∀ j v, vals[j]? = some v → W.cell? ⟨0, j, none⟩ = some (.int .i64 v)) : MRel (fun _ => (0, 0)) 1 W (tabM (vals.map I)) := by
  have h0 : ∀ id b, tabM (vals.map I) id = some b → id = 0 ∧ b = ⟨vals.map I, false⟩ := by
    intro id b h
    unfold tabM upd at h
    split at h
    · rename_i e
      cases h
      exact ⟨e, rfl⟩
    · cases h
  refine ⟨fun id b h => ?_, fun id b h => ?_, fun id b h i c hi => ?_, fun id b h ho => ?_, fun id b h ho => ?_⟩
  · obtain ⟨rfl, _⟩ := h0 id b h; omega
  · exact hb
  · obtain ⟨rfl, rfl⟩ := h0 id b h
    simp only [List.getElem?_map] at hi
    obtain ⟨v, h1, h2⟩ := Option.map_eq_some_iff.1 hi
    subst h2
    refine ⟨.int .i64 v, ?_, ?_⟩
    · have := hc i v h1
      simpa using this
    · simp [CRel, Value.oneCell']
  · obtain ⟨_, rfl⟩ := h0 id b h; cases ho
  · obtain ⟨_, rfl⟩ := h0 id b h; cases ho
theorem tab_held {cs : List Cell} : Held (tabM cs) := by
  intro id b h
  unfold tabM upd at h
  split at h
  · cases h; rfl
  · cases h
theorem tab_glob : Glob 1 (fun _ => (0, 0)) 1 := fun g hg => ⟨hg, by simp; omega⟩
end Go.Proofs.YtpleidpbapgmiaaDoor.Sy
