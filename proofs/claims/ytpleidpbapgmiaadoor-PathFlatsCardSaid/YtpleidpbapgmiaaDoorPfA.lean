/- The subpaths of a path, segment by segment. Conditions: those that each theorem names. -/
import Derived.Test.YtpleidpbapgmiaaDoorPaJ
import Derived.Test.YtpleidpbapgmiaaDoorCuE
namespace Go.Proofs.YtpleidpbapgmiaaDoor.Sy
open Go Go.Proofs
set_option linter.unusedSimpArgs false
set_option linter.unusedVariables false

structure Sb where
  L : List Pt
  c : Bool
def modL (f : Sb → Sb) : List Sb → List Sb
  | [] => []
  | [x] => [f x]
  | x :: y :: l => x :: modL f (y :: l)
theorem modL_snoc (f : Sb → Sb) (a : List Sb) (x : Sb) : modL f (a ++ [x]) = a ++ [f x] := by
  induction a with
  | nil => rfl
  | cons b a ih =>
    cases a with
    | nil => rfl
    | cons b' a' =>
      show b :: modL f (b' :: (a' ++ [x])) = _
      rw [show b' :: (a' ++ [x]) = (b' :: a') ++ [x] from rfl, ih]
      rfl
theorem snoc_of {α : Type} {o : List α} (h : o ≠ []) : ∃ a x, o = a ++ [x] := ⟨o.dropLast, o.getLast h, (List.dropLast_concat_getLast h).symm⟩
def cvOf (fr : Pt) (s : Sg) : Cu.Cv := if s.k = 3 then .quad fr s.a s.b else .cub fr s.a s.b s.c
def subF (d : Nat) (fr : Pt) (s : Sg) (x : Sb) : Sb := if s.k = 5 then ⟨x.L, true⟩ else if s.k = 2 then ⟨x.L ++ [s.a], x.c⟩ else ⟨x.L ++ Cu.flat d (cvOf fr s), x.c⟩
def stepF (d : Nat) (fr : Pt) (s : Sg) (o : List Sb) : List Sb := if s.k = 1 then o ++ [⟨[s.a], false⟩] else modL (subF d fr s) o
def nxtP (fr : Pt) (s : Sg) : Pt := if need s.k = 0 then fr else ptJ s ((need s.k).toNat - 1)
def stF (d : Nat) (st : Pt × List Sb) (s : Sg) : Pt × List Sb := (nxtP st.1 s, stepF d st.1 s st.2)
def stI (d : Nat) (l : List Sg) (i : Nat) : Pt × List Sb := (l.take i).foldl (stF d) (⟨0, 0⟩, [])
theorem stI_succ {d : Nat} {l : List Sg} {i : Nat} {s : Sg} (h : l[i]? = some s) : stI d l (i + 1) = stF d (stI d l i) s := by
  unfold stI
  rw [take_snoc h, List.foldl_append]
  rfl
theorem chkS_zero {op : Bool} {s : Sg} (h : chkS op s = 0) : badK op s = false ∧ badU s = false ∧ badR s = false := by
  unfold chkS at h
  split at h
  · cases h
  · rename_i h1
    split at h
    · cases h
    · rename_i h2
      split at h
      · cases h
      · rename_i h3
        exact ⟨by simpa using h1, by simpa using h2, by simpa using h3⟩
theorem badK_false {op : Bool} {s : Sg} (h : badK op s = false) : 1 ≤ s.k ∧ s.k ≤ 5 ∧ (op = true ∨ s.k = 1) := by
  simp only [badK, Bool.or_eq_false_iff, decide_eq_false_iff_not, Bool.and_eq_false_iff, Bool.not_eq_false', decide_eq_true_eq] at h
  obtain ⟨⟨h1, h2⟩, h3⟩ := h
  exact ⟨by omega, by omega, h3⟩
theorem need_pos {k : Int} (h1 : 1 ≤ k) (h5 : k < 5) : 1 ≤ need k := by
  have : k = 1 ∨ k = 2 ∨ k = 3 ∨ k = 4 := by omega
  rcases this with rfl | rfl | rfl | rfl <;> decide
def Open (d : Nat) (l : List Sg) (i : Nat) : Prop := (stI d l i).2 ≠ [] ∧ ∃ q, 0 < i ∧ l[i - 1]? = some q ∧ 1 ≤ need q.k ∧ (stI d l i).1 = ptJ q ((need q.k).toNat - 1) ∧ inP (stI d l i).1 = true
theorem run_op {d : Nat} {l : List Sg} (hk : chkL false l = 0) : ∀ i, i ≤ l.length → ∃ op, chkL op (l.drop i) = 0 ∧ (op = true → Open d l i)
  | 0, _ => ⟨false, by rw [List.drop_zero]; exact hk, fun h => by cases h⟩
  | i + 1, hi => by
    obtain ⟨op, h1, h2⟩ := run_op (d := d) hk i (by omega)
    have hs : l[i]? = some (l[i]'(by omega)) := List.getElem?_eq_getElem (by omega)
    rw [chkL_at hs] at h1
    have hsu := stI_succ (d := d) hs
    generalize l[i] = s at *
    have h0 : chkS op s = 0 := by
      split at h1
      · assumption
      · exact h1
    rw [if_pos h0] at h1
    obtain ⟨hK, _, hR⟩ := chkS_zero h0
    obtain ⟨k1, k5, k6⟩ := badK_false hK
    refine ⟨_, h1, fun hop => ?_⟩
    have hne5 : s.k ≠ 5 := by simpa using hop
    have hn := need_pos k1 (by omega)
    unfold Open
    rw [hsu]
    have hfr : (stF d (stI d l i) s).1 = ptJ s ((need s.k).toNat - 1) := by
      simp only [stF, nxtP]
      rw [if_neg (by omega)]
    refine ⟨?_, s, by omega, by rw [Nat.add_sub_cancel]; exact hs, hn, hfr, ?_⟩
    · simp only [stF, stepF]
      split
      · simp
      · rename_i h
        obtain ⟨a, x, e⟩ := snoc_of (h2 (k6.resolve_right h)).1
        rw [e, modL_snoc]
        simp
    · rw [hfr]
      have hm := mem_pts (s := s) (j := (need s.k).toNat - 1) (by omega)
      have e6 : (s.pts.take (need s.k).toNat).all inP = true := by simpa [badR] using hR
      exact List.all_eq_true.1 e6 _ hm
theorem ahead {d : Nat} {l : List Sg} (hk : chkP l = 0) {i : Nat} {s : Sg} (hs : l[i]? = some s) : 1 ≤ s.k ∧ s.k ≤ 5 ∧ (s.pts.take (need s.k).toNat).all inP = true ∧ (s.k ≠ 1 → Open d l i) := by
  have hk' : chkL false l = 0 := by
    unfold chkP at hk
    split at hk
    · cases hk
    · exact hk
  have hi : i < l.length := (List.getElem?_eq_some_iff.1 hs).1
  obtain ⟨op, h1, h2⟩ := run_op (d := d) hk' i (by omega)
  rw [chkL_at hs] at h1
  have h0 : chkS op s = 0 := by
    split at h1
    · assumption
    · exact h1
  obtain ⟨hK, _, hR⟩ := chkS_zero h0
  obtain ⟨k1, k5, k6⟩ := badK_false hK
  exact ⟨k1, k5, by simpa [badR] using hR, fun h => h2 (k6.resolve_right h)⟩
theorem modL_mem {f : Sb → Sb} {o : List Sb} {y : Sb} (h : y ∈ modL f o) : y ∈ o ∨ ∃ x, x ∈ o ∧ y = f x := by
  by_cases he : o = []
  · subst he; simp [modL] at h
  · obtain ⟨a, x, rfl⟩ := snoc_of he
    rw [modL_snoc, List.mem_append, List.mem_singleton] at h
    rcases h with h | h
    · exact Or.inl (by simp [h])
    · exact Or.inr ⟨x, by simp, h⟩
theorem stI_len {d : Nat} (hd : d ≤ 6) {l : List Sg} : ∀ i, i ≤ l.length → (stI d l i).2.length ≤ i ∧ ∀ x ∈ (stI d l i).2, x.L.length ≤ i * 64
  | 0, _ => ⟨by simp [stI], fun x hx => by simp [stI] at hx⟩
  | i + 1, hi => by
    obtain ⟨h1, h2⟩ := stI_len (l := l) hd i (by omega)
    have hs : l[i]? = some (l[i]'(by omega)) := List.getElem?_eq_getElem (by omega)
    have hsu := stI_succ (d := d) hs
    generalize l[i]'(by omega) = s at *
    rw [hsu]
    simp only [stF, stepF]
    have hpw : (2 : Nat) ^ d ≤ 64 := by
      have : (2 : Nat) ^ d ≤ 2 ^ 6 := Nat.pow_le_pow_right (by omega) hd
      omega
    split
    · refine ⟨?_, fun x hx => ?_⟩
      · rw [List.length_append]
        simp only [List.length_cons, List.length_nil]
        omega
      rw [List.mem_append, List.mem_singleton] at hx
      rcases hx with hx | rfl
      · have := h2 x hx; omega
      · simp; omega
    · refine ⟨?_, fun x hx => ?_⟩
      · by_cases he : (stI d l i).2 = []
        · rw [he]; simp [modL]
        · obtain ⟨a, y, e⟩ := snoc_of he
          rw [e, modL_snoc]
          rw [e] at h1
          simp at h1 ⊢
          omega
      · rcases modL_mem hx with hx | ⟨y, hy, rfl⟩
        · have := h2 x hx; omega
        · have := h2 y hy
          unfold subF
          split
          · simp only; omega
          · split
            · simp only [List.length_append, List.length_cons, List.length_nil]; omega
            · simp only [List.length_append, Cu.flat_length]; omega
end Go.Proofs.YtpleidpbapgmiaaDoor.Sy
