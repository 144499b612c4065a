/- A region that draws its order: an operation that leaves the world as it was (a variable is given what it holds) may be taken first, as one that reads. Conditions: those that each theorem names. -/
import Derived.OrdersHeld
import Derived.Test.YtidpeongblkcbaaWLast
namespace Go.Proofs.Ytidpeongblkcbaa.XKeep
open Go Go.Proofs.YtidpeongblkcbaaW.PrintLast

theorem setCell_self {w : World} {p : Addr} {v : Value} (h : w.cell? p = some v) : w.setCell p v = w := by
  have key : w.heap.modify p.block (fun
      | .cells c elem frozen => .cells (if p.spot.isSome then c else c.setIfInBounds p.off v) elem frozen
      | o => o) = w.heap := by
    refine Array.ext (by simp) fun i h1 h2 => ?_
    rw [Array.getElem_modify]
    split
    · rename_i e
      subst e
      unfold World.cell? at h
      rw [Array.getElem?_eq_getElem h2] at h
      generalize w.heap[p.block] = o at h ⊢
      cases o with
      | cells c t fr =>
        simp only at h ⊢
        split at h
        · cases h
        · rename_i hs
          rw [if_neg hs]
          congr 1
          obtain ⟨hlt, hv⟩ := Array.getElem?_eq_some_iff.1 h
          refine Array.ext (by simp) fun j j1 j2 => ?_
          rw [Array.getElem_setIfInBounds j2]
          split
          · rename_i e2
            subst e2
            exact hv.symm
          · rfl
      | _ => rfl
    · rfl
  exact congrArg (fun hh => ({ w with heap := hh } : World)) key

section
variable {P : Program} {ops : Array Oper} {Q : Exit → Act → World → Prop} {md : Region.Mode} {S : World → Prop} {ds : List Nat}
/-- In every world that meets S it is carried out, and leaves the world as it was; or it is not wanted. -/
def KeepsIf (P : Program) (ops : Array Oper) (S : World → Prop) (o : Oper) (a : Act) : Prop :=
  (Region.wanted o (yielded ops a.tmps) = true ∧ ∀ w, S w → (execOp a.eval o).run P w = .ok .skip w) ∨ Region.wanted o (yielded ops a.tmps) = false
theorem KeepsIf.wpOp {i : Nat} {o : Oper} {a : Act} (hi : ops[i]? = some o) (hy : KeepsIf P ops S o a)
    {K : Act → World → Prop} {w : World} (hS : S w) (h : K (a.put o.dst undef) w) : wpOp P ops Q i K a w := by
  unfold Go.wpOp
  simp only [hi]
  rcases hy with ⟨hw, hv⟩ | hw
  · simp only [hw, if_true, Oper.wp, hv w hS, Oper.upon]; exact .inl h
  · simp only [hw, Bool.false_eq_true, if_false]; exact h
theorem KeepsIf.of_same {o : Oper} {a a' : Act} (hy : KeepsIf P ops S o a) (he : execOp a'.eval o = execOp a.eval o)
    (hw : Region.wanted o (yielded ops a'.tmps) = Region.wanted o (yielded ops a.tmps)) : KeepsIf P ops S o a' := by
  unfold KeepsIf at *
  rw [he, hw]
  exact hy
theorem wpOp_putK {j : Nat} {oi oj : Oper} (hj : ops[j]? = some oj) (hap : oi.apart ops oj = true)
    (hsi : ∀ cs b, oi.op ≠ .select cs b) (hsj : ∀ cs b, oj.op ≠ .select cs b)
    (hQ : ∀ c a w, Q (.panic c) (a.put oi.dst undef) w → Q (.panic c) a w) {K : Act → World → Prop} {a : Act} {w : World}
    (hy : KeepsIf P ops S oi a) (h : wpOp P ops Q j K (a.put oi.dst undef) w) :
    wpOp P ops Q j (fun a' w' => KeepsIf P ops S oi a' ∧ K (a'.put oi.dst undef) w') a w := by
  obtain ⟨h1, h2, h3⟩ := Oper.apart_spec hap
  have keep : ∀ (a : Act), KeepsIf P ops S oi a → ∀ u, KeepsIf P ops S oi (a.put oj.dst u) := fun a hy u =>
    hy.of_same (execOp_put oi hsi a oj.dst u h3) (wanted_put oi a oj.dst u h3)
  have keepD : ∀ d, KeepsIf P ops S oi { a with defers := d :: a.defers } := fun d => hy.of_same rfl rfl
  unfold wpOp at *
  simp only [hj] at *
  rw [wanted_put oj a oi.dst undef h1] at h
  split
  · rename_i hw
    simp only [hw, if_true] at h
    rcases h with h | ⟨hasks, hlets⟩
    case inr => exact .inr ⟨by unfold Oper.asks at *; rw [execOp_put oj hsj a oi.dst undef h1] at hasks; exact hasks, hlets⟩
    refine .inl ?_
    unfold Oper.wp at *
    rw [execOp_put oj hsj a oi.dst undef h1] at h
    generalize (execOp a.eval oj).run P w = r at *
    cases r with
    | ok n w' =>
      cases n <;> simp only [Oper.upon] at h ⊢
      case value u => exact ⟨keep a hy u, by rw [← Act.put_comm a undef u h2]; exact h⟩
      case skip => exact ⟨keep a hy _, by rw [← Act.put_comm a undef undef h2]; exact h⟩
      case defer d =>
        refine ⟨keep _ (keepD d) _, ?_⟩
        rw [← Act.put_comm _ undef undef h2, ← Act.put_defers]
        exact h
      case enter f args =>
        refine Calls.mono h fun e w'' he => ?_
        cases e with
        | returned u => exact ⟨keep a hy u, by rw [← Act.put_comm a undef u h2]; exact he⟩
        | panicked c => exact hQ _ _ _ he
        | outgrown => exact he
      case row row args => exact Rows.mono h fun u w'' he => ⟨keep a hy u, by rw [← Act.put_comm a undef u h2]; exact he⟩
    | halt x w' =>
      cases x <;> simp only [Oper.upon] at h ⊢
      case panic u => exact hQ _ _ _ h
  · rename_i hw
    simp only [hw] at h
    exact ⟨keep a hy _, by rw [← Act.put_comm a undef undef h2]; exact h⟩

theorem wpAnyLast_keep {i : Nat} {oi : Oper} (hi : ops[i]? = some oi) (hsel : ∀ (j : Nat) (o : Oper) cs b, ops[j]? = some o → o.op ≠ .select cs b)
    (hQ : ∀ c a w, Q (.panic c) (a.put oi.dst undef) w → Q (.panic c) a w) (n : Nat) :
    ∀ (fuel : Nat) (listed : Array Bool) (a : Act) (w : World),
      (∀ j oj, ops[j]? = some oj → j ≠ i → listed.getD j true = false → (∀ e ∈ oj.after, Region.binds md e = true → e.on ≠ i) → oi.apart ops oj = true) →
      ListedClosed md ops listed → (∀ d ∈ ds, listed.getD d true = false → Region.reachB md ops i n d = true) →
      i ∈ Region.ready md ops listed → KeepsIf P ops S oi a → S w →
      wpAnyLast P md ops Q S ds fuel (listed.setIfInBounds i true) (a.put oi.dst undef) w → wpAnyLast P md ops Q S ds (fuel + 1) listed a w := by
  intro fuel
  induction fuel with
  | zero =>
    intro listed a w _ _ _ hr hy hS H
    refine ⟨fun h => (by rw [h] at hr; cases hr), fun j hj => ?_⟩
    by_cases hji : j = i
    · subst hji; exact hy.wpOp hi hS ⟨fun _ h => h, H⟩
    · have := ready_mono hj hji
      rw [H.1] at this
      cases this
  | succ fuel ih =>
    intro listed a w hfree hc hd hr hy hS H
    refine ⟨fun h => (by rw [h] at hr; cases hr), fun j hj => ?_⟩
    by_cases hji : j = i
    · subst hji; exact hy.wpOp hi hS ⟨fun _ h => h, H⟩
    · have h1 := H.2 j (ready_mono hj hji)
      obtain ⟨hjun, oj, hoj, hall⟩ := mem_ready.1 hj
      have hiun := (mem_ready.1 hr).1
      have hnot : ∀ e ∈ oj.after, Region.binds md e = true → e.on ≠ i := fun e he hb heq => by
        have h1 := hall e he hb
        rw [heq] at h1
        rcases Nat.lt_or_ge i listed.size with h' | h'
        · simp [h'] at hiun h1; rw [hiun] at h1; cases h1
        · simp [Array.getElem?_eq_none h'] at h1
      have hjd : j ∉ ds := fun hm => Region.reach_not_ready hc (hd j hm hjun) hiun hj
      have h2 := wpOp_putK hoj (hfree j oj hoj hji hjun hnot) (fun cs b => hsel i oi cs b hi) (fun cs b => hsel j oj cs b hoj) hQ hy h1
      have hfree' : ∀ k ok, ops[k]? = some ok → k ≠ i → (listed.setIfInBounds j true).getD k true = false →
          (∀ e ∈ ok.after, Region.binds md e = true → e.on ≠ i) → oi.apart ops ok = true := fun k ok hk hki hun hno => by
        refine hfree k ok hk hki ?_ hno
        by_cases hjk : j = k
        · subst hjk; exact hjun
        · rw [getD_set_ne true hjk] at hun; exact hun
      have hd' : ∀ d ∈ ds, (listed.setIfInBounds j true).getD d true = false → Region.reachB md ops i n d = true := fun d hm hun => by
        refine hd d hm ?_
        by_cases hjk : j = d
        · subst hjk; exact hjun
        · rw [getD_set_ne true hjk] at hun; exact hun
      refine wpOp_mono (fun a' w' h3 => ⟨h3.2.1, ih (listed.setIfInBounds j true) a' w' hfree' (hc.set hj) hd' (ready_mono hr (Ne.symm hji)) h3.1 (h3.2.1 hjd hS) ?_⟩) h2
      rw [Array.setIfInBounds_comm _ _ hji]
      exact h3.2.2

theorem keep_ {i : Nat} {oi : Oper} {fuel : Nat} {l : Array Bool} {a : Act} {w : World} (l' : Array Bool) (hi : ops[i]? = some oi) (hN : oi.dst = none) (hc : takeB md ops ds l l' i = true)
    (hy : KeepsIf P ops S oi a) (hS : S w) (h : wpAnyLast P md ops Q S ds fuel l' a w) : wpAnyLast P md ops Q S ds (fuel + 1) l a w := by
  simp only [takeB, Bool.and_eq_true, beq_iff_eq] at hc
  obtain ⟨⟨⟨⟨⟨h1, h2⟩, h3⟩, h4⟩, h5⟩, h6⟩ := hc
  subst h6
  have e : ∀ b : Act, b.put oi.dst undef = b := fun b => by rw [hN]; rfl
  exact wpAnyLast_keep hi (Region.noSelect_spec h1) (fun _ _ _ h => by rw [e] at h; exact h) ops.size fuel l a w (Region.free_spec hi h2) (Region.closedB_spec h4)
    (fun d hm hun => by have := List.all_eq_true.1 h5 d hm; rw [hun] at this; simpa using this) (by simpa using h3) hy hS (by rw [e]; exact h)
end
end Go.Proofs.Ytidpeongblkcbaa.XKeep
