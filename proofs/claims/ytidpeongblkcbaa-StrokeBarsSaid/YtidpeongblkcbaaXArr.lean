/- Arrays as values: '==' of two of them as one Bool. Conditions: none beyond those that each theorem names. -/
import Derived.Laws.StructEq
import Derived.WalkKit
import Derived.KernelRfl
import Derived.Test.YtidpeongblkcbaaWWords
namespace Go.Proofs.Ytidpeongblkcbaa.XArr
open Go.RowKit

def eqEls (d : Nat) (e sz : Nat) (xs ys : Array Value) : List Nat → Sem Bool
  | [] => pure true
  | i :: is => do
    let a ← part e xs (i * sz)
    let b ← part e ys (i * sz)
    let r ← Op.equalIn d e a b
    if (!r) = true then pure false else eqEls d e sz xs ys is

section
variable {P : Program} (w : World)
theorem run_equalIn_arr (d : Nat) (t e n sz : Nat) (xs ys : Array Value) (ht : P.underlying t = some (.array n e)) (hs : ∀ W : World, (sizeOf e).run P W = .ok sz W) :
    (Op.equalIn (d + 1) t (.agg xs) (.agg ys)).run P w = (eqEls d e sz xs ys (List.range' 0 n)).run P w := by
  simp only [Op.equalIn, Sem.run_bind, run_underlying ht, Result.andThen_ok, hs]
  rw [Std.Legacy.Range.forIn_eq_forIn_range']
  have hz : (⟨0, n, 1, by decide⟩ : Std.Legacy.Range).size = n := by simp [Std.Legacy.Range.size]
  rw [hz]
  simp only []
  generalize List.range' 0 n 1 = is
  clear ht
  induction is generalizing w with
  | nil => simp [eqEls]
  | cons i is ih =>
    simp only [List.forIn_cons, eqEls, Sem.run_bind]
    generalize (part e xs (i * sz)).run P w = r1
    cases r1 with
    | ok a w1 =>
      simp only [Result.andThen_ok]
      generalize (part e ys (i * sz)).run P w1 = r2
      cases r2 with
      | ok b w2 =>
        simp only [Result.andThen_ok]
        generalize (Op.equalIn d e a b).run P w2 = r3
        cases r3 with
        | ok r w3 =>
          cases r
          · simp only [Result.andThen_ok, Bool.not_false, if_true, Sem.run_pure, Sem.run_ite]
          · simp only [Result.andThen_ok, Bool.not_true, Bool.false_eq_true, if_false, Sem.run_pure, Sem.run_ite]
            exact ih w3
        | halt x w3 => simp [Result.andThen]
      | halt x w2 => simp [Result.andThen]
    | halt x w1 => simp [Result.andThen]
end
section
variable {P : Program} {d e sz i : Nat} {is : List Nat} {xs ys : Array Value} {a b : Value} {r s : Bool} {w : World}
theorem eqe_last (ha : (part e xs (i * sz)).run P w = .ok a w) (hb : (part e ys (i * sz)).run P w = .ok b w) (he : (Op.equalIn d e a b).run P w = .ok r w) : (eqEls d e sz xs ys [i]).run P w = .ok r w := by
  simp only [eqEls, Sem.run_bind, ha, hb, he, Result.andThen_ok]
  cases r <;> simp
theorem eqe_cons (ha : (part e xs (i * sz)).run P w = .ok a w) (hb : (part e ys (i * sz)).run P w = .ok b w) (he : (Op.equalIn d e a b).run P w = .ok r w) (hr : (eqEls d e sz xs ys is).run P w = .ok s w) : (eqEls d e sz xs ys (i :: is)).run P w = .ok (r && s) w := by
  rw [eqEls]
  simp only [Sem.run_bind, ha, hb, he, Result.andThen_ok]
  cases r
  · simp
  · simpa using hr
theorem eqArr_of {t n : Nat} (hu : P.underlying t = some (.array n e)) (hs : ∀ W : World, (sizeOf e).run P W = .ok sz W) (h : (eqEls d e sz xs ys (List.range' 0 n)).run P w = .ok r w) : (Op.equalIn (d + 1) t (.agg xs) (.agg ys)).run P w = .ok r w := by
  rw [run_equalIn_arr w d t e n sz xs ys hu hs]
  exact h
/-- What the walk spells at '==' of an array: as the structs' own. -/
@[go_sem] theorem run_equalIn_aggA (d : Nat) (t e n sz : Nat) (xs ys : Array Value) (ht : P.underlying t = some (.array n e)) (hs : ∀ W : World, (sizeOf e).run P W = .ok sz W) :
    (Op.equalIn (d + 1) t (.agg xs) (.agg ys)).run P w = (eqEls d e sz xs ys (List.range' 0 n)).run P w := run_equalIn_arr w d t e n sz xs ys ht hs
end
/-- An element at a number that is no literal. -/
theorem get_int {k : IntKind} (xs : List Int) {j : Int} (h0 : 0 ≤ j) {n : Int} (h1 : j < n) (hn : n = xs.length := by rfl) : ((xs.map (Value.int k)).toArray)[j.toNat]? = some (.int k (Go.Proofs.YtidpeongblkcbaaW.PrintWords.rd xs j)) := by
  subst hn
  have h2 : j.toNat < xs.length := by omega
  unfold Go.Proofs.YtidpeongblkcbaaW.PrintWords.rd
  rw [List.getElem?_toArray, List.getElem?_map, List.getD_eq_getElem?_getD, List.getElem?_eq_getElem h2]
  rfl
end Go.Proofs.Ytidpeongblkcbaa.XArr
