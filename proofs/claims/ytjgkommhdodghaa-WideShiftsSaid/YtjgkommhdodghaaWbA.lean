/- Rows of 128 bits. Conditions: those that each theorem names. -/
import Derived.Test.YtjgkommhdodghaaWdN
namespace Go.Proofs.Ytjgkommhdodghaa.Sy
open Go Go.Proofs
set_option linter.unusedSimpArgs false
set_option linter.unusedVariables false

abbrev Bc (b : Bool) : Cell := .sc (.bool b)
def arr (k : Nat) (f : Nat → Bool) : List Cell := (List.range k).map fun i => Bc (f i)
theorem arr_len (k : Nat) (f : Nat → Bool) : (arr k f).length = k := by simp [arr]
theorem arr_get {k i : Nat} {f : Nat → Bool} (h : i < k) : (arr k f)[i]? = some (Bc (f i)) := by simp [arr, h]
def putB (f : Nat → Bool) (i : Nat) (b : Bool) : Nat → Bool := fun j => if j = i then b else f j
theorem arr_set {k i : Nat} {f : Nat → Bool} {b : Bool} : (arr k f).set i (Bc b) = arr k (putB f i b) := by
  apply List.ext_getElem?
  intro j
  rw [List.getElem?_set]
  unfold arr putB
  by_cases hj : j < k
  · by_cases e : i = j
    · subst e; simp [hj]
    · have : ¬ j = i := fun h => e h.symm
      simp [hj, e, this]
  · by_cases e : i = j
    · subst e; simp [hj]
    · simp [hj, e]
theorem arr_take {k : Nat} {f : Nat → Bool} : (arr k f).take k = arr k f := List.take_of_length_le (by rw [arr_len]; exact Nat.le_refl _)
theorem arr_flat {k : Nat} {f : Nat → Bool} : (arr k f).all Cell.flat = true := by simp [arr, Cell.flat]
theorem setL_all : ∀ (cs l : List Cell), cs.length = l.length → setL l 0 cs = cs := by
  intro cs l h
  apply List.ext_getElem?
  intro j
  by_cases hj : j < cs.length
  · have := setL_in cs l 0 j (by omega) hj
    rwa [Nat.zero_add] at this
  · rw [setL_out cs l 0 j (Or.inr (by omega)), List.getElem?_eq_none (by omega), List.getElem?_eq_none (by omega)]
theorem arr_setL {k : Nat} {f g : Nat → Bool} : setL (arr k f) 0 (arr k g) = arr k g := setL_all _ _ (by rw [arr_len, arr_len])
theorem eqCells_same : ∀ (l : List Bool), eqCells (List.replicate l.length .b) (l.map Bc) (l.map Bc) = some true
  | [] => rfl
  | b :: l => by
    show (eqCells (List.replicate l.length .b) (l.map Bc) (l.map Bc)).map ((b == b) && ·) = some true
    rw [eqCells_same l]
    simp
theorem arr_eq {f : Nat → Bool} : eqCells (List.replicate 128 .b) (arr 128 f) (arr 128 f) = some true := by
  have := eqCells_same ((List.range 128).map f)
  simpa [arr, List.map_map, Function.comp_def] using this
theorem arr_zero : List.replicate 128 (Cell.sc (.bool false)) = arr 128 (fun _ => false) := by rfl
theorem arr_congr {k : Nat} {f g : Nat → Bool} (h : ∀ i, i < k → f i = g i) : arr k f = arr k g := by
  unfold arr
  apply List.map_congr_left
  intro i hi
  rw [h i (List.mem_range.1 hi)]

/-- The bit i of a number of any size. -/
def bit (V : Int) (i : Nat) : Bool := decide (V / 2 ^ i % 2 = 1)
theorem pow_pos2 (i : Nat) : (0 : Int) < 2 ^ i := Int.pow_pos (by decide)
theorem half (V : Int) (i : Nat) : V / 2 ^ (i + 1) = V / 2 ^ i / 2 := by
  rw [Int.pow_succ, Int.ediv_ediv_of_nonneg (Int.le_of_lt (pow_pos2 i))]
theorem pow_split {i j : Nat} (h : i ≤ j) : (2 : Int) ^ j = 2 ^ i * 2 ^ (j - i) := by rw [← Int.pow_add]; congr 1; omega
/-- Numbers that are one modulo 2^128 have the same 128 bits. -/
theorem bit_mod {A B : Int} (h : (A - B) % 340282366920938463463374607431768211456 = 0) {i : Nat} (hi : i < 128) : bit A i = bit B i := by
  obtain ⟨q, hq⟩ := Int.dvd_of_emod_eq_zero h
  have e : A = B + 2 ^ (i + 1) * (2 ^ (128 - (i + 1)) * q) := by
    rw [← Int.mul_assoc, ← pow_split (show i + 1 ≤ 128 by omega)]
    have : (2 : Int) ^ 128 = 340282366920938463463374607431768211456 := by decide
    rw [this]; omega
  have e2 : A / 2 ^ i = B / 2 ^ i + 2 * (2 ^ (128 - (i + 1)) * q) := by
    rw [e, Int.pow_succ, Int.mul_assoc, Int.add_mul_ediv_left _ _ (by have := pow_pos2 i; omega)]
  unfold bit
  rw [e2]
  congr 1
  apply propext
  omega
abbrev bitsOf (V : Int) : List Cell := arr 128 (bit V)
theorem bitsOf_mod {A B : Int} (h : (A - B) % 340282366920938463463374607431768211456 = 0) : bitsOf A = bitsOf B := arr_congr fun i hi => bit_mod h hi
end Go.Proofs.Ytjgkommhdodghaa.Sy
