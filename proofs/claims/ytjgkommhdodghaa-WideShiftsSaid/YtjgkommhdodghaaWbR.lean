/- The rows of the laws over numbers of 128 bits. Conditions: those that each theorem names. -/
import Derived.Test.YtjgkommhdodghaaWbH
import Derived.Test.YtjgkommhdodghaaSyQ
namespace Go.Proofs.Ytjgkommhdodghaa.Sy
open Go Go.Proofs
set_option linter.unusedVariables false

theorem rowL3 (hmix : Try.prog.follows .mixedOrders = true) (W : World) (l0 : List Value) (k0 : CksOk [.int .i64, .int .u64] l0) (l1 : List Value) (k1 : CksOk [.int .i64, .int .u64] l1) :
    Calls Try.prog 3 #[.agg l0.toArray, .agg l1.toArray] W (fun e w' => e = .returned (.bool true) ∧ Go.RowKit.Below W.heap.size W w') := by
  have r0 := k0.rel (ρ := fun _ => (0, 0)) (n := 0) (w := W)
  have r1 := k1.rel (ρ := fun _ => (0, 0)) (n := 0) (w := W)
  obtain ⟨h, _, rfl, a0, l, _, rfl, a1, rfl⟩ := k0
  obtain ⟨h', _, rfl, a2, l', _, rfl, a3, rfl⟩ := k1
  simp only [IntKind.min, IntKind.max, IntKind.signed, IntKind.bits] at a0 a1 a2 a3
  exact law_calls (ng := 0) (ρ := fun _ => (0, 0)) hmix TA_ok (law3 h l h' l' a1.1 (by have := a1.2; simp at this; omega) a3.1 (by have := a3.2; simp at this; omega) _ 0) (noMem _ _ _) (fun _ h => by omega) ⟨_, _, rfl, ⟨_, rfl, r0⟩, _, _, rfl, ⟨_, rfl, r1⟩, rfl⟩ held_none
theorem rowL7 (hmix : Try.prog.follows .mixedOrders = true) (W : World) (l0 : List Value) (k0 : CksOk [.int .i64, .int .u64] l0) (l1 : List Value) (k1 : CksOk [.int .i64, .int .u64] l1) :
    Calls Try.prog 7 #[.agg l0.toArray, .agg l1.toArray] W (fun e w' => e = .returned (.bool true) ∧ Go.RowKit.Below W.heap.size W w') := by
  have r0 := k0.rel (ρ := fun _ => (0, 0)) (n := 0) (w := W)
  have r1 := k1.rel (ρ := fun _ => (0, 0)) (n := 0) (w := W)
  obtain ⟨h, _, rfl, a0, l, _, rfl, a1, rfl⟩ := k0
  obtain ⟨h', _, rfl, a2, l', _, rfl, a3, rfl⟩ := k1
  simp only [IntKind.min, IntKind.max, IntKind.signed, IntKind.bits] at a0 a1 a2 a3
  exact law_calls (ng := 0) (ρ := fun _ => (0, 0)) hmix TA_ok (law7 h l h' l' (by simp at a0; omega) (by simp at a2; omega) a1.1 (by have := a1.2; simp at this; omega) a3.1 (by have := a3.2; simp at this; omega) _ 0) (noMem _ _ _) (fun _ h => by omega) ⟨_, _, rfl, ⟨_, rfl, r0⟩, _, _, rfl, ⟨_, rfl, r1⟩, rfl⟩ held_none
theorem rowL4 (hmix : Try.prog.follows .mixedOrders = true) (W : World) (a : Int) (ha : IntKind.i64.min ≤ a ∧ a ≤ IntKind.i64.max) (b : Int) (hb : IntKind.i64.min ≤ b ∧ b ≤ IntKind.i64.max) :
    Calls Try.prog 4 #[.int .i64 a, .int .i64 b] W (fun e w' => e = .returned (.bool true) ∧ Go.RowKit.Below W.heap.size W w') := by
  simp only [IntKind.min, IntKind.max, IntKind.signed, IntKind.bits] at ha hb
  simp at ha hb
  exact law_calls (ng := 0) (ρ := fun _ => (0, 0)) hmix TA_ok (law4 a b ha.1 (by omega) hb.1 (by omega) _ 0) (noMem _ _ _) (fun _ h => by omega) ⟨_, _, rfl, ⟨rfl, rfl⟩, _, _, rfl, ⟨rfl, rfl⟩, rfl⟩ held_none
theorem rowL9 (hmix : Try.prog.follows .mixedOrders = true) (W : World) (l0 : List Value) (k0 : CksOk [.int .i64, .int .u64] l0) (k : Int) (hk : IntKind.i64.min ≤ k ∧ k ≤ IntKind.i64.max) :
    Calls Try.prog 9 #[.agg l0.toArray, .int .i64 k] W (fun e w' => e = .returned (.bool true) ∧ Go.RowKit.Below W.heap.size W w') := by
  have r0 := k0.rel (ρ := fun _ => (0, 0)) (n := 0) (w := W)
  obtain ⟨h, _, rfl, a0, l, _, rfl, a1, rfl⟩ := k0
  simp only [IntKind.min, IntKind.max, IntKind.signed, IntKind.bits] at hk a0 a1
  simp at hk
  exact law_calls (ng := 0) (ρ := fun _ => (0, 0)) hmix TA_ok (law9 h l (by simp at a0; omega) a1.1 (by have := a1.2; simp at this; omega) k hk.1 (by omega) _ 0) (noMem _ _ _) (fun _ h => by omega) ⟨_, _, rfl, ⟨_, rfl, r0⟩, _, _, rfl, ⟨rfl, rfl⟩, rfl⟩ held_none
end Go.Proofs.Ytjgkommhdodghaa.Sy
