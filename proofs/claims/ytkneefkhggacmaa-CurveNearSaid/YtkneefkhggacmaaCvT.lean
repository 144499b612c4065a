/- Curves: how near a flat curve lies: the plain law. Conditions: those that each theorem names. -/
import Derived.Test.YtkneefkhggacmaaCvS
namespace Go.Proofs.Ytkneefkhggacmaa.Sy
open Go Go.Proofs
set_option linter.unusedSimpArgs false
set_option linter.unusedVariables false

def qv (p q a b c : Int) : Int := p * p * a + (p * q + q * p) * b + q * q * c
def kv (p q a b c d : Int) : Int := p * p * p * a + (p * p * q + (p * q + q * p) * p) * b + ((p * q + q * p) * q + q * q * p) * c + q * q * q * d
theorem qv_fst (p q a b c : Int) : qv (2 * p + q) q a b c = qv p q (4 * a) (2 * a + 2 * b) (a + 2 * b + c) := by unfold qv; grind
theorem qv_snd (p q a b c : Int) : qv p (p + 2 * q) a b c = qv p q (a + 2 * b + c) (2 * b + 2 * c) (4 * c) := by unfold qv; grind
theorem kv_fst (p q a b c d : Int) : kv (2 * p + q) q a b c d = kv p q (8 * a) (4 * a + 4 * b) (2 * a + 4 * b + 2 * c) (a + 3 * b + 3 * c + d) := by unfold kv; grind
theorem kv_snd (p q a b c d : Int) : kv p (p + 2 * q) a b c d = kv p q (a + 3 * b + 3 * c + d) (2 * b + 4 * c + 2 * d) (4 * c + 4 * d) (8 * d) := by unfold kv; grind
theorem qv_sub (p q a b c x y z k : Int) : qv p q a b c - k * qv p q x y z = qv p q (a - k * x) (b - k * y) (c - k * z) := by unfold qv; grind
theorem kv_sub (p q a b c d x y z u k : Int) : kv p q a b c d - k * kv p q x y z u = kv p q (a - k * x) (b - k * y) (c - k * z) (d - k * u) := by unfold kv; grind

theorem mul_bd {w e K : Int} (hw : 0 ≤ w) (h0 : 0 ≤ e) (h1 : e ≤ K) : 0 ≤ w * e ∧ w * e ≤ w * K := ⟨Int.mul_nonneg hw h0, Int.mul_le_mul_of_nonneg_left h1 hw⟩
theorem qv_bd {p q a b c K : Int} (hp : 0 ≤ p) (hq : 0 ≤ q) (ha : 0 ≤ a ∧ a ≤ K) (hb : 0 ≤ b ∧ b ≤ K) (hc : 0 ≤ c ∧ c ≤ K) : 0 ≤ qv p q a b c ∧ qv p q a b c ≤ K * ((p + q) * (p + q)) := by
  have hpq := Int.mul_nonneg hp hq
  have hqp := Int.mul_nonneg hq hp
  have h1 := mul_bd (Int.mul_nonneg hp hp) ha.1 ha.2
  have h2 := mul_bd (show 0 ≤ p * q + q * p by omega) hb.1 hb.2
  have h3 := mul_bd (Int.mul_nonneg hq hq) hc.1 hc.2
  have e : K * ((p + q) * (p + q)) = p * p * K + (p * q + q * p) * K + q * q * K := by grind
  rw [e]
  unfold qv
  omega
theorem kv_bd {p q a b c d K : Int} (hp : 0 ≤ p) (hq : 0 ≤ q) (ha : 0 ≤ a ∧ a ≤ K) (hb : 0 ≤ b ∧ b ≤ K) (hc : 0 ≤ c ∧ c ≤ K) (hd : 0 ≤ d ∧ d ≤ K) : 0 ≤ kv p q a b c d ∧ kv p q a b c d ≤ K * ((p + q) * (p + q) * (p + q)) := by
  have hpq := Int.mul_nonneg hp hq
  have hqp := Int.mul_nonneg hq hp
  have hpp := Int.mul_nonneg hp hp
  have hqq := Int.mul_nonneg hq hq
  have hm : 0 ≤ p * q + q * p := by omega
  have w1 := Int.mul_nonneg hpp hq
  have w2 := Int.mul_nonneg hm hp
  have w3 := Int.mul_nonneg hm hq
  have w4 := Int.mul_nonneg hqq hp
  have h1 := mul_bd (Int.mul_nonneg hpp hp) ha.1 ha.2
  have h2 := mul_bd (show 0 ≤ p * p * q + (p * q + q * p) * p by omega) hb.1 hb.2
  have h3 := mul_bd (show 0 ≤ (p * q + q * p) * q + q * q * p by omega) hc.1 hc.2
  have h4 := mul_bd (Int.mul_nonneg hqq hq) hd.1 hd.2
  have e : K * ((p + q) * (p + q) * (p + q)) = p * p * p * K + (p * p * q + (p * q + q * p) * p) * K + ((p * q + q * p) * q + q * q * p) * K + q * q * q * K := by grind
  rw [e]
  unfold kv
  omega

/-- The very curve at a place, times the scale. -/
def val (p q : Int) (g : Pt → Int) : Cv → Int
  | .quad a b c => qv p q (g a) (g b) (g c)
  | .cub a b c d => kv p q (g a) (g b) (g c) (g d)
/-- The scale. -/
def scl (D : Int) : Cv → Int
  | .quad .. => D * D
  | .cub .. => D * D * D
theorem scl_fst (D : Int) (v : Cv) : scl D v.fst = scl D v := by cases v <;> rfl
theorem scl_snd (D : Int) (v : Cv) : scl D v.snd = scl D v := by cases v <;> rfl

theorem arith {V W E P d k e : Int} (h : 0 ≤ W - E * P ∧ W - E * P ≤ 2 * d * E) (he : 0 ≤ V - k * W ∧ V - k * W ≤ e * E) (hk : 0 ≤ k) (hE : 0 ≤ E) (hek : e ≤ 2 * k) : 0 ≤ V - k * E * P ∧ V - k * E * P ≤ 2 * (d + 1) * (k * E) := by
  have h1 := Int.mul_nonneg hk h.1
  have h2 := Int.mul_le_mul_of_nonneg_left h.2 hk
  have h3 := Int.mul_le_mul_of_nonneg_right hek hE
  have e1 : k * (W - E * P) = k * W - k * E * P := by grind
  have e2 : k * (2 * d * E) = 2 * (d * (k * E)) := by grind
  have e3 : 2 * (d + 1) * (k * E) = 2 * (d * (k * E)) + 2 * k * E := by grind
  omega

theorem near (g : Pt → Int) (hg : ∀ a b, g (mid a b) = (g a + g b) / 2) : ∀ (d : Nat) (v : Cv) (i : Nat) (P : Pt), (flat d v)[i]? = some P →
    0 ≤ val ((2 : Int) ^ d - (i + 1)) (i + 1) g v - scl ((2 : Int) ^ d) v * g P ∧ val ((2 : Int) ^ d - (i + 1)) (i + 1) g v - scl ((2 : Int) ^ d) v * g P ≤ 2 * d * scl ((2 : Int) ^ d) v
  | 0, v, i, P, h => by
    have h0 : i = 0 ∧ P = v.last := by
      cases i with
      | zero => exact ⟨rfl, by simpa [flat] using h.symm⟩
      | succ i => simp [flat] at h
    obtain ⟨rfl, rfl⟩ := h0
    cases v with
    | quad a b c => simp [val, scl, Cv.last, qv]
    | cub a b c d => simp [val, scl, Cv.last, kv]
  | d + 1, v, i, P, h => by
    have hlf := flat_length d v.fst
    have hls := flat_length d v.snd
    have hil : i < (flat (d + 1) v).length := (List.getElem?_eq_some_iff.1 h).1
    rw [flat_length, Nat.pow_succ] at hil
    have hD : ((2 ^ d : Nat) : Int) = (2 : Int) ^ d := by norm_cast
    have hD2 : (2 : Int) ^ (d + 1) = 2 * (2 : Int) ^ d := by rw [Int.pow_succ, Int.mul_comm]
    rw [flat] at h
    obtain ⟨D, hDD⟩ : ∃ D : Nat, D = 2 ^ d := ⟨_, rfl⟩
    rw [← hDD] at hD hil hlf hls
    have hsc : scl (2 * (D : Int)) v = (match v with | .quad .. => 4 | .cub .. => 8) * scl (D : Int) v := by
      cases v
      · simp only [scl]; grind
      · simp only [scl]; grind
    have hE : 0 ≤ scl (D : Int) v := by
      have h1 : (0 : Int) ≤ D := by omega
      cases v
      · exact Int.mul_nonneg h1 h1
      · exact Int.mul_nonneg (Int.mul_nonneg h1 h1) h1
    rw [hD2, ← hD]
    rcases Nat.lt_or_ge i D with hi | hi
    · rw [List.getElem?_append_left (by omega)] at h
      have ih := near g hg d v.fst i P h
      rw [← hD, scl_fst] at ih
      obtain ⟨p, hp⟩ : ∃ p : Int, p = (D : Int) - (i + 1) := ⟨_, rfl⟩
      obtain ⟨q, hq⟩ : ∃ q : Int, q = (i : Int) + 1 := ⟨_, rfl⟩
      have e1 : 2 * (D : Int) - (i + 1) = 2 * p + q := by omega
      have hp0 : 0 ≤ p := by omega
      have hq0 : 0 ≤ q := by omega
      have hpq : p + q = D := by omega
      rw [e1, hsc]
      rw [← hp] at ih
      rw [← hq] at ih ⊢
      cases v with
      | quad a b c =>
        simp only [val, Cv.fst, hg] at ih ⊢
        refine arith ih (e := 4) ?_ (by omega) hE (by omega)
        rw [qv_fst, qv_sub]
        have := qv_bd (K := 4) hp0 hq0 (a := 4 * g a - 4 * g a) (b := 2 * g a + 2 * g b - 4 * ((g a + g b) / 2)) (c := g a + 2 * g b + g c - 4 * (((g a + g b) / 2 + (g b + g c) / 2) / 2)) (by omega) (by omega) (by omega)
        rwa [hpq] at this
      | cub a b c e =>
        simp only [val, Cv.fst, hg] at ih ⊢
        refine arith ih (e := 12) ?_ (by omega) hE (by omega)
        rw [kv_fst, kv_sub]
        have := kv_bd (K := 12) hp0 hq0 (a := 8 * g a - 8 * g a) (b := 4 * g a + 4 * g b - 8 * ((g a + g b) / 2)) (c := 2 * g a + 4 * g b + 2 * g c - 8 * (((g a + g b) / 2 + (g b + g c) / 2) / 2))
          (d := g a + 3 * g b + 3 * g c + g e - 8 * ((((g a + g b) / 2 + (g b + g c) / 2) / 2 + ((g b + g c) / 2 + (g c + g e) / 2) / 2) / 2)) (by omega) (by omega) (by omega) (by omega)
        rwa [hpq] at this
    · rw [List.getElem?_append_right (by omega), hlf] at h
      have ih := near g hg d v.snd (i - D) P h
      rw [← hD, scl_snd] at ih
      obtain ⟨p, hp⟩ : ∃ p : Int, p = (D : Int) - (((i - D : Nat) : Int) + 1) := ⟨_, rfl⟩
      obtain ⟨q, hq⟩ : ∃ q : Int, q = ((i - D : Nat) : Int) + 1 := ⟨_, rfl⟩
      have e1 : 2 * (D : Int) - (i + 1) = p := by omega
      have e2 : (i : Int) + 1 = p + 2 * q := by omega
      have hp0 : 0 ≤ p := by omega
      have hq0 : 0 ≤ q := by omega
      have hpq : p + q = D := by omega
      rw [e1, e2, hsc]
      rw [← hp, ← hq] at ih
      cases v with
      | quad a b c =>
        simp only [val, Cv.snd, hg] at ih ⊢
        refine arith ih (e := 4) ?_ (by omega) hE (by omega)
        rw [qv_snd, qv_sub]
        have := qv_bd (K := 4) hp0 hq0 (a := g a + 2 * g b + g c - 4 * (((g a + g b) / 2 + (g b + g c) / 2) / 2)) (b := 2 * g b + 2 * g c - 4 * ((g b + g c) / 2)) (c := 4 * g c - 4 * g c) (by omega) (by omega) (by omega)
        rwa [hpq] at this
      | cub a b c e =>
        simp only [val, Cv.snd, hg] at ih ⊢
        refine arith ih (e := 12) ?_ (by omega) hE (by omega)
        rw [kv_snd, kv_sub]
        have := kv_bd (K := 12) hp0 hq0 (a := g a + 3 * g b + 3 * g c + g e - 8 * ((((g a + g b) / 2 + (g b + g c) / 2) / 2 + ((g b + g c) / 2 + (g c + g e) / 2) / 2) / 2))
          (b := 2 * g b + 4 * g c + 2 * g e - 8 * (((g b + g c) / 2 + (g c + g e) / 2) / 2)) (c := 4 * g c + 4 * g e - 8 * ((g c + g e) / 2)) (d := 8 * g e - 8 * g e) (by omega) (by omega) (by omega) (by omega)
        rwa [hpq] at this
end Go.Proofs.Ytkneefkhggacmaa.Sy
