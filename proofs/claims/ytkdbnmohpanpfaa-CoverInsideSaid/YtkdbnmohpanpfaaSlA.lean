/- Rows of records in memory: read, made, appended. Conditions: those that each theorem names. -/
import Derived.Test.YtkdbnmohpanpfaaSyV
namespace Go.Proofs.Ytkdbnmohpanpfaa.Sy
open Go Go.Proofs
set_option linter.unusedSimpArgs false
set_option linter.unusedVariables false

theorem callF_ex {T : Nat → Option SFun} {f : Nat} {a : List Reg} {m : Mem} {n : Nat} {P : Reg → Prop} (h : Fn T f a m n (fun r _ _ => P r)) : ∃ r, callF T f a m n = some r ∧ P r := by
  obtain ⟨k, r, m', n', h1, h2⟩ := h
  exact ⟨r, by unfold callF; rw [callR_of h1]; rfl, h2⟩
/-- The number of the block that a slice lies in. -/
def sid : Reg → Option Nat
  | .one (.sl id _ _ _ _) => some id
  | _ => none

section
variable {α : Type} {enc : α → List Cell} {sz : Nat}
/-- The register reads as these records. -/
def RL (enc : α → List Cell) (sz : Nat) (m : Mem) (n : Nat) (r : Reg) (l : List α) : Prop :=
  (r = rnil ∧ l = []) ∨ ∃ id off cap, r = .one (.sl id off l.length cap sz) ∧ id < n ∧ rd m id off (l.length * sz) = some (l.flatMap enc)
/-- The register is a slice of the call's own, made behind base. -/
def OL (enc : α → List Cell) (sz base : Nat) (m : Mem) (n : Nat) (r : Reg) (l : List α) : Prop :=
  (r = rnil ∧ l = []) ∨ ∃ id, r = .one (.sl id 0 l.length none sz) ∧ base ≤ id ∧ id < n ∧ m id = some ⟨l.flatMap enc, true⟩

theorem OL.nil {base : Nat} {m : Mem} {n : Nat} : OL enc sz base m n rnil [] := Or.inl ⟨rfl, rfl⟩
theorem RL.nil {m : Mem} {n : Nat} : RL enc sz m n rnil [] := Or.inl ⟨rfl, rfl⟩
theorem OL.rl (hsz : ∀ x, (enc x).length = sz) {base : Nat} {m : Mem} {n : Nat} {r : Reg} {l : List α} (h : OL enc sz base m n r l) : RL enc sz m n r l := by
  rcases h with h | ⟨id, h1, h2, h3, h4⟩
  · exact Or.inl h
  · refine Or.inr ⟨id, 0, none, h1, h3, ?_⟩
    have hl := flatMap_len enc sz hsz l
    rw [rd_of h4]
    unfold rdB
    rw [if_pos (by rw [hl]; omega), List.drop_zero, ← hl, List.take_length]
theorem OL.keep {base : Nat} {m m' : Mem} {n n' : Nat} {r : Reg} {l : List α} (h : OL enc sz base m n r l) (hn : n ≤ n') (hm : ∀ id, base ≤ id → id < n → m' id = m id) : OL enc sz base m' n' r l := by
  rcases h with h | ⟨id, h1, h2, h3, h4⟩
  · exact Or.inl h
  · exact Or.inr ⟨id, h1, h2, by omega, by rw [hm id h2 h3]; exact h4⟩
theorem OL.base {b b' : Nat} {m : Mem} {n : Nat} {r : Reg} {l : List α} (h : OL enc sz b m n r l) (hb : b' ≤ b) : OL enc sz b' m n r l := by
  rcases h with h | ⟨id, h1, h2, h3, h4⟩
  · exact Or.inl h
  · exact Or.inr ⟨id, h1, by omega, h3, h4⟩
theorem RL.keep {m m' : Mem} {n n' : Nat} {r : Reg} {l : List α} (h : RL enc sz m n r l) (hn : n ≤ n') (hm : ∀ id, id < n → m' id = m id) : RL enc sz m' n' r l := by
  rcases h with h | ⟨id, off, cap, h1, h2, h3⟩
  · exact Or.inl h
  · refine Or.inr ⟨id, off, cap, h1, by omega, ?_⟩
    have : rd m' id off (l.length * sz) = rd m id off (l.length * sz) := by unfold rd; rw [hm id h2]
    rw [this]; exact h3
theorem RL.keep' {m m' : Mem} {n n' : Nat} {r : Reg} {l : List α} (h : RL enc sz m n r l) (hn : n ≤ n') (hm : ∀ id, sid r = some id → m' id = m id) : RL enc sz m' n' r l := by
  rcases h with h | ⟨id, off, cap, h1, h2, h3⟩
  · exact Or.inl h
  · refine Or.inr ⟨id, off, cap, h1, by omega, ?_⟩
    have : rd m' id off (l.length * sz) = rd m id off (l.length * sz) := by unfold rd; rw [hm id (by rw [h1]; rfl)]
    rw [this]; exact h3
theorem RL.frz {m : Mem} {n : Nat} {r : Reg} {l : List α} (h : RL enc sz m n r l) : RL enc sz (frz m) n r l := by
  rcases h with h | ⟨id, off, cap, h1, h2, h3⟩
  · exact Or.inl h
  · exact Or.inr ⟨id, off, cap, h1, h2, by rw [rd_frz]; exact h3⟩
theorem RL.lt {m : Mem} {n : Nat} {r : Reg} {l : List α} (h : RL enc sz m n r l) {i : Nat} (hi : sid r = some i) : i < n := by
  rcases h with ⟨rfl, _⟩ | ⟨id, off, cap, rfl, h2, h3⟩
  · cases hi
  · simp only [sid, Option.some.injEq] at hi; omega
theorem RL.len {m : Mem} {n : Nat} {r : Reg} {l : List α} (h : RL enc sz m n r l) : lenO r = some (l.length : Int) := by
  rcases h with ⟨rfl, rfl⟩ | ⟨id, off, cap, rfl, h2, h3⟩ <;> rfl
/-- The record i of a slice that is read. -/
theorem RL.at (hsz : ∀ x, (enc x).length = sz) {m : Mem} {n : Nat} {r : Reg} {l : List α} {i : Nat} {x : α} (h : RL enc sz m n r l) (hi : l[i]? = some x) :
    ∃ id off cap, r = .one (.sl id off l.length cap sz) ∧ id < n ∧ rd m id (off + i * sz) sz = some (enc x) := by
  rcases h with ⟨rfl, rfl⟩ | ⟨id, off, cap, h1, h2, h3⟩
  · simp at hi
  · exact ⟨id, off, cap, h1, h2, rd_at hsz h3 hi⟩

/-- One record more. -/
theorem K_push {T : Nat → Option SFun} (hsz : ∀ x, (enc x).length = sz) (hpos : 0 < sz) {base n0 n : Nat} {m0 m : Mem} {r0 : Reg} {l : List α} {p : α} {j by' : Nat} {o : Bool} {d : Option Nat} {os : List SOper} {e : Nat → Reg} {k : Kt}
    (ho : OL enc sz base m0 n0 r0 l) (hn : n0 ≤ n) (hm : ∀ id, base ≤ id → id < n0 → m id = m0 id) (hj : m j = some ⟨enc p, o⟩) (hsm : l.length + 1 ≤ 4294967296) (hbase : base ≤ n)
    (next : ∀ r m', OL enc sz base m' (n + 1) r (l ++ [p]) → (∀ id, id < base → m' id = m id) → (∀ id, id < n → sid r0 ≠ some id → m' id = m id) → RK T os (putE e d r) m' (n + 1) k) :
    ThenK T d os e k (evApp m n sz by' r0 (.one (.sl j 0 1 (some 1) sz))) := by
  have hx : newsOf m sz (.one (.sl j 0 1 (some 1) sz)) = some (1, enc p) := by
    simp only [newsOf, if_true]
    rw [rd_of hj]
    simp [rdB, hsz]
    exact List.take_of_length_le (by rw [hsz]; exact Nat.le_refl _)
  rcases ho with ⟨rfl, rfl⟩ | ⟨id, rfl, h2, h3, h4⟩
  · simp only [evApp, hx]
    rw [if_neg (by omega), if_pos (by omega)]
    refine next _ _ (Or.inr ⟨n, rfl, hbase, by omega, ?_⟩) (fun id hid => upd_ne _ _ (by omega)) (fun id hid _ => upd_ne _ _ (by omega))
    rw [upd_same]
    simp
  · have h5 : m id = some ⟨l.flatMap enc, true⟩ := by rw [hm id h2 h3]; exact h4
    have hl := flatMap_len enc sz hsz l
    have h6 : rd m id 0 (l.length * sz) = some (l.flatMap enc) := by
      rw [rd_of h5]
      unfold rdB
      rw [if_pos (by rw [hl]; omega), List.drop_zero, ← hl, List.take_length]
    simp only [evApp, hx, if_true, h5, h6, Option.map_some, true_and, if_pos hsm]
    refine next _ _ (Or.inr ⟨n, by simp, hbase, by omega, ?_⟩) (fun i hi => ?_) (fun i hi hs => ?_)
    · rw [upd_same]; simp
    · rw [upd_ne _ _ (by omega), upd_ne _ _ (by omega)]
    · rw [upd_ne _ _ (by omega), upd_ne _ _ (fun e => hs (by rw [e]; rfl))]
end
end Go.Proofs.Ytkdbnmohpanpfaa.Sy
