/- What math/bits.Div64 and wide.MulDiv come to. Conditions: those that each theorem names. -/
import Derived.Test.YtjgkommhdodghaaXx4
import Derived.Test.YtjgkommhdodghaaXx5
import Derived.Test.YtjgkommhdodghaaPNum
import Derived.Test.YtjgkommhdodghaaPMul
import Derived.Test.YtjgkommhdodghaaPShift
namespace Go.Proofs.Ytjgkommhdodghaa.PDiv
open Go.RowKit Go.Proofs.YtjgkommhdodghaaW.PrintWords Go.Proofs.Ytjgkommhdodghaa.X Go.Proofs.Ytjgkommhdodghaa.PNum Go.Proofs.Ytjgkommhdodghaa.PMul Go.Proofs.Ytjgkommhdodghaa.PShift

/-- The number of digits, told by its bounds. -/
def Pl (x : Int) (r : Nat) : Prop := x < 2 ^ r ∧ 2 ^ r ≤ 2 * x
theorem Pl.shift {x : Int} {r c : Nat} (h : Pl (x / 2 ^ c) r) : Pl x (r + c) := by
  obtain ⟨h1, h2⟩ := h
  have hc : (0 : Int) < 2 ^ c := Int.pow_pos (by decide)
  unfold Pl
  rw [Int.pow_add]
  obtain ⟨C, eC⟩ : ∃ C : Int, C = 2 ^ c := ⟨_, rfl⟩
  obtain ⟨R, eR⟩ : ∃ R : Int, R = 2 ^ r := ⟨_, rfl⟩
  rw [← eC] at h1 h2 hc ⊢
  rw [← eR] at h1 h2 ⊢
  have d1 := Int.mul_ediv_add_emod x C
  have d2 := Int.emod_nonneg x (show C ≠ 0 by omega)
  have d3 := Int.emod_lt_of_pos x hc
  have m1 : C * (x / C) ≤ C * (R - 1) := Int.mul_le_mul_of_nonneg_left (by omega) (by omega)
  rw [Int.mul_sub, Int.mul_one] at m1
  have m2 : C * R ≤ C * (2 * (x / C)) := Int.mul_le_mul_of_nonneg_left (by omega) (by omega)
  rw [Int.mul_left_comm] at m2
  rw [Int.mul_comm R C]
  omega
def tab8 : ByteArray := ⟨#[0, 1, 2, 2, 3, 3, 3, 3, 4, 4, 4, 4, 4, 4, 4, 4, 5, 5, 5, 5, 5, 5, 5, 5, 5, 5, 5, 5, 5, 5, 5, 5, 6, 6, 6, 6, 6, 6, 6, 6, 6, 6, 6, 6, 6, 6, 6, 6, 6, 6, 6, 6, 6, 6, 6, 6, 6, 6, 6, 6, 6, 6, 6, 6, 7, 7, 7, 7, 7, 7, 7, 7, 7, 7, 7, 7, 7, 7, 7, 7, 7, 7, 7, 7, 7, 7, 7, 7, 7, 7, 7, 7, 7, 7, 7, 7, 7, 7, 7, 7, 7, 7, 7, 7, 7, 7, 7, 7, 7, 7, 7, 7, 7, 7, 7, 7, 7, 7, 7, 7, 7, 7, 7, 7, 7, 7, 7, 7, 8, 8, 8, 8, 8, 8, 8, 8, 8, 8, 8, 8, 8, 8, 8, 8, 8, 8, 8, 8, 8, 8, 8, 8, 8, 8, 8, 8, 8, 8, 8, 8, 8, 8, 8, 8, 8, 8, 8, 8, 8, 8, 8, 8, 8, 8, 8, 8, 8, 8, 8, 8, 8, 8, 8, 8, 8, 8, 8, 8, 8, 8, 8, 8, 8, 8, 8, 8, 8, 8, 8, 8, 8, 8, 8, 8, 8, 8, 8, 8, 8, 8, 8, 8, 8, 8, 8, 8, 8, 8, 8, 8, 8, 8, 8, 8, 8, 8, 8, 8, 8, 8, 8, 8, 8, 8, 8, 8, 8, 8, 8, 8, 8, 8, 8, 8, 8, 8, 8, 8, 8, 8, 8, 8, 8, 8, 8, 8]⟩
theorem tab8_all : ∀ i : Fin 256, 0 < i.val → i.val < 2 ^ (bt tab8 (i.val : Int)).toNat ∧ 2 ^ (bt tab8 (i.val : Int)).toNat ≤ 2 * i.val ∧ 0 ≤ bt tab8 (i.val : Int) ∧ bt tab8 (i.val : Int) ≤ 8 := by decide +kernel
theorem tab8_len {i : Int} (h0 : 0 < i) (h1 : i < 256) : ∃ r : Nat, bt tab8 i = r ∧ r ≤ 8 ∧ Pl i r := by
  obtain ⟨n, rfl⟩ := Int.eq_ofNat_of_zero_le (show 0 ≤ i by omega)
  obtain ⟨a1, a2, a3, a4⟩ : n < 2 ^ (bt tab8 (n : Int)).toNat ∧ 2 ^ (bt tab8 (n : Int)).toNat ≤ 2 * n ∧ 0 ≤ bt tab8 (n : Int) ∧ bt tab8 (n : Int) ≤ 8 := tab8_all ⟨n, by omega⟩ (by show 0 < n; omega)
  refine ⟨(bt tab8 (n : Int)).toNat, by omega, by omega, ?_, ?_⟩
  · exact_mod_cast a1
  · exact_mod_cast a2
theorem lenj {x c : Int} (h0 : 0 < x) (h1 : x < 4294967296) (hc : 0 ≤ c) (hc2 : c ≤ 32) : ∃ r : Nat, r ≤ 32 ∧ Pl x r ∧ Ev (fun k => bits_Len64.j0 k x c) (c + r) := by
  have w : ∀ n : Int, 0 ≤ n → n ≤ 64 → wrap64 n = n := by intro n h1 h2; unfold wrap64; omega
  have fold : ∀ i : Int, bt (⟨#[0, 1, 2, 2, 3, 3, 3, 3, 4, 4, 4, 4, 4, 4, 4, 4, 5, 5, 5, 5, 5, 5, 5, 5, 5, 5, 5, 5, 5, 5, 5, 5, 6, 6, 6, 6, 6, 6, 6, 6, 6, 6, 6, 6, 6, 6, 6, 6, 6, 6, 6, 6, 6, 6, 6, 6, 6, 6, 6, 6, 6, 6, 6, 6, 7, 7, 7, 7, 7, 7, 7, 7, 7, 7, 7, 7, 7, 7, 7, 7, 7, 7, 7, 7, 7, 7, 7, 7, 7, 7, 7, 7, 7, 7, 7, 7, 7, 7, 7, 7, 7, 7, 7, 7, 7, 7, 7, 7, 7, 7, 7, 7, 7, 7, 7, 7, 7, 7, 7, 7, 7, 7, 7, 7, 7, 7, 7, 7, 8, 8, 8, 8, 8, 8, 8, 8, 8, 8, 8, 8, 8, 8, 8, 8, 8, 8, 8, 8, 8, 8, 8, 8, 8, 8, 8, 8, 8, 8, 8, 8, 8, 8, 8, 8, 8, 8, 8, 8, 8, 8, 8, 8, 8, 8, 8, 8, 8, 8, 8, 8, 8, 8, 8, 8, 8, 8, 8, 8, 8, 8, 8, 8, 8, 8, 8, 8, 8, 8, 8, 8, 8, 8, 8, 8, 8, 8, 8, 8, 8, 8, 8, 8, 8, 8, 8, 8, 8, 8, 8, 8, 8, 8, 8, 8, 8, 8, 8, 8, 8, 8, 8, 8, 8, 8, 8, 8, 8, 8, 8, 8, 8, 8, 8, 8, 8, 8, 8, 8, 8, 8, 8, 8, 8, 8, 8, 8]⟩ : ByteArray) i = bt tab8 i := fun _ => rfl
  by_cases c1 : x ≥ 65536
  · by_cases c2 : x / 65536 ≥ 256
    · have e : x / 65536 / 256 % 256 = x / 65536 / 256 := by omega
      obtain ⟨r, e1, e2, e3⟩ := tab8_len (i := x / 65536 / 256) (by omega) (by omega)
      refine ⟨r + 8 + 16, by omega, Pl.shift (c := 16) (Pl.shift (c := 8) e3), Ev.step (fun _ => bits_Len64.j0.eq_2 ..) (evPos c1 (evPos c2 (evPos (by omega) (evPos (by omega) (evEq (Ev.now _) ?_)))))⟩
      rw [fold, e, e1, w (r : Int) (by omega) (by omega), w (c + 16) (by omega) (by omega), w (c + 16 + 8) (by omega) (by omega), w _ (by omega) (by omega)]
      omega
    · have e : x / 65536 % 256 = x / 65536 := by omega
      obtain ⟨r, e1, e2, e3⟩ := tab8_len (i := x / 65536) (by omega) (by omega)
      refine ⟨r + 16, by omega, Pl.shift (c := 16) e3, Ev.step (fun _ => bits_Len64.j0.eq_2 ..) (evPos c1 (evNeg c2 (evPos (by omega) (evPos (by omega) (evEq (Ev.now _) ?_)))))⟩
      rw [fold, e, e1, w (r : Int) (by omega) (by omega), w (c + 16) (by omega) (by omega), w _ (by omega) (by omega)]
      omega
  · by_cases c2 : x ≥ 256
    · have e : x / 256 % 256 = x / 256 := by omega
      obtain ⟨r, e1, e2, e3⟩ := tab8_len (i := x / 256) (by omega) (by omega)
      refine ⟨r + 8, by omega, Pl.shift (c := 8) e3, Ev.step (fun _ => bits_Len64.j0.eq_2 ..) (evNeg c1 (evPos c2 (evPos (by omega) (evPos (by omega) (evEq (Ev.now _) ?_)))))⟩
      rw [fold, e, e1, w (r : Int) (by omega) (by omega), w (c + 8) (by omega) (by omega), w _ (by omega) (by omega)]
      omega
    · have e : x % 256 = x := by omega
      obtain ⟨r, e1, e2, e3⟩ := tab8_len (i := x) (by omega) (by omega)
      refine ⟨r, by omega, e3, Ev.step (fun _ => bits_Len64.j0.eq_2 ..) (evNeg c1 (evNeg c2 (evPos (by omega) (evPos (by omega) (evEq (Ev.now _) ?_)))))⟩
      rw [fold, e, e1, w (r : Int) (by omega) (by omega), w _ (by omega) (by omega)]
theorem lenEv {x : Int} (h0 : 0 < x) (h1 : x < 18446744073709551616) : ∃ r : Nat, r ≤ 64 ∧ Pl x r ∧ Ev (fun k => bits_Len64.f k x) (r : Int) := by
  by_cases c1 : x ≥ 4294967296
  · obtain ⟨r, e1, e2, e3⟩ := lenj (x := x / 4294967296) (c := 32) (by omega) (by omega) (by decide) (by decide)
    refine ⟨r + 32, by omega, Pl.shift (c := 32) e2, ?_⟩
    unfold bits_Len64.f
    exact evPos c1 (evEq e3 (by omega))
  · obtain ⟨r, e1, e2, e3⟩ := lenj (x := x) (c := 0) (by omega) (by omega) (by decide) (by decide)
    refine ⟨r, by omega, e2, ?_⟩
    unfold bits_Len64.f
    exact evNeg c1 (evEq e3 (by omega))
/-- The shift that brings the highest digit to the top. -/
theorem lzEv {x : Int} (h0 : 0 < x) (h1 : x < 18446744073709551616) :
    ∃ s : Nat, s ≤ 63 ∧ 9223372036854775808 ≤ x * 2 ^ s ∧ x * 2 ^ s < 18446744073709551616 ∧ Ev (fun k => bits_LeadingZeros64.f k x) (s : Int) := by
  obtain ⟨r, e1, ⟨e2, e2'⟩, e3⟩ := lenEv h0 h1
  have hr : r ≠ 0 := by intro h; subst h; simp at e2; omega
  have pw : (2 : Int) ^ r * 2 ^ (64 - r) = 18446744073709551616 := by rw [← Int.pow_add, show r + (64 - r) = 64 by omega]; decide
  have hp : (0 : Int) < 2 ^ (64 - r) := Int.pow_pos (by decide)
  have m1 := Int.mul_lt_mul_of_pos_right e2 hp
  have m2 := Int.mul_le_mul_of_nonneg_right e2' (Int.le_of_lt hp)
  rw [pw] at m1 m2
  rw [Int.mul_assoc] at m2
  refine ⟨64 - r, by omega, by omega, m1, ?_⟩
  unfold bits_LeadingZeros64.f
  exact Ev.bind e3 (evEq (Ev.now _) (by unfold wrap64; omega))

section
variable {U u Y y1 y0 q r : Int}
/-- A digit that is too great. -/
theorem digit_less (hY : Y = y1 * 4294967296 + y0) (hYp : 0 < Y) (hu0 : 0 ≤ u) (hu1 : u < 4294967296) (hU : U < Y) (hq : q * y1 + r = U)
    (h : q ≥ 4294967296 ∨ q * y0 > 4294967296 * r + u) : (U * 4294967296 + u) / Y ≤ q - 1 := by
  have : (U * 4294967296 + u) / Y < q := by
    rcases h with h | h
    · have : (U * 4294967296 + u) / Y < 4294967296 := Int.ediv_lt_of_lt_mul hYp (by omega)
      omega
    · refine Int.ediv_lt_of_lt_mul hYp ?_
      have e : q * Y = (q * y1) * 4294967296 + q * y0 := by rw [hY, Int.mul_add, Int.mul_assoc]
      rw [e]
      omega
  omega
/-- A digit that is small enough. -/
theorem digit_enough (hY : Y = y1 * 4294967296 + y0) (hYp : 0 < Y) (hq : q * y1 + r = U) (h : q * y0 ≤ 4294967296 * r + u) : q ≤ (U * 4294967296 + u) / Y := by
  refine Int.le_ediv_of_mul_le hYp ?_
  have e : q * Y = (q * y1) * 4294967296 + q * y0 := by rw [hY, Int.mul_add, Int.mul_assoc]
  rw [e]
  omega
end
theorem l1Ev {Y y1 y0 u U q1 : Int} {s : Nat} (hs : s ≤ 63) (hY : Y = y1 * 4294967296 + y0) (h1 : 2147483648 ≤ y1) (h1' : y1 < 4294967296) (h0 : 0 ≤ y0) (h0' : y0 < 4294967296)
    (hu0 : 0 ≤ u) (hu1 : u < 4294967296) (hU0 : 0 ≤ U) (hU : U < Y) (hq10 : 0 ≤ q1) (hq11 : q1 < 4294967296) :
    ∀ (n : Nat) (q r : Int), q * y1 + r = U → 0 ≤ r → r < 4294967296 → 4294967296 - r ≤ n * 2147483648 → 0 ≤ q → q ≤ 4294967297 → (U * 4294967296 + u) / Y ≤ q →
      Ev (fun k => bits_Div64.l1 k Y s y1 y0 u q1 r U q) (q1 * 4294967296 + (U * 4294967296 + u) / Y, (U * 4294967296 + u) % Y / 2 ^ s) := by
  have hYp : 0 < Y := by omega
  have hD := Int.mul_ediv_add_emod (U * 4294967296 + u) Y
  have hM0 := Int.emod_nonneg (U * 4294967296 + u) (show Y ≠ 0 by omega)
  have hM1 := Int.emod_lt_of_pos (U * 4294967296 + u) hYp
  have hQ0 : 0 ≤ (U * 4294967296 + u) / Y := Int.ediv_nonneg (by omega) (by omega)
  have hQ1 : (U * 4294967296 + u) / Y < 4294967296 := Int.ediv_lt_of_lt_mul hYp (by omega)
  have last : ∀ q : Int, q = (U * 4294967296 + u) / Y → (IntKind.u64.wrap ((IntKind.u64.wrap (q1 * 4294967296)) + q), shr .u64 (IntKind.u64.wrap ((IntKind.u64.wrap ((IntKind.u64.wrap (U * 4294967296)) + u)) - (IntKind.u64.wrap (q * Y)))) (s : Int)) =
      (q1 * 4294967296 + (U * 4294967296 + u) / Y, (U * 4294967296 + u) % Y / 2 ^ s) := by
    intro q hq
    rw [shr_eq .u64 _ s (by show s ≤ 64; omega), hq]
    rw [Int.mul_comm Y] at hD
    simp only [wu64]
    generalize (U * 4294967296 + u) / Y * Y = P at *
    congr 1
    · omega
    · congr 1
      omega
  intro n
  induction n with
  | zero => intro q r _ _ h2 h3; omega
  | succ n ih =>
    intro q r hq hr0 hr1 hn hq0 hqb hqt
    have p0 : 0 ≤ q * y0 := Int.mul_nonneg hq0 h0
    have p1 : q * y0 ≤ 4294967297 * 4294967295 := Int.mul_le_mul hqb (by omega) h0 (by decide)
    have wq : IntKind.u64.wrap (q * y0) = q * y0 := by rw [wu64]; omega
    have wr : IntKind.u64.wrap ((IntKind.u64.wrap (4294967296 * r)) + u) = 4294967296 * r + u := by rw [wu64, wu64]; omega
    have more : (q ≥ 4294967296 ∨ q * y0 > 4294967296 * r + u) → Ev (fun k => bits_Div64.j4 k Y s y1 y0 u q1 r U q true) (q1 * 4294967296 + (U * 4294967296 + u) / Y, (U * 4294967296 + u) % Y / 2 ^ s) := by
      intro hc
      have hless := digit_less hY hYp hu0 hu1 hU hq hc
      have w1 : IntKind.u64.wrap (r + y1) = r + y1 := by rw [wu64]; omega
      have w2 : IntKind.u64.wrap (q - 1) = q - 1 := by rw [wu64]; omega
      have e1 : (q - 1) * y1 + (r + y1) = U := by rw [Int.sub_mul, Int.one_mul]; omega
      refine Ev.step (fun _ => bits_Div64.j4.eq_2 ..) (evPos rfl ?_)
      rw [w1, w2]
      by_cases c : r + y1 ≥ 4294967296
      · have p2 : (q - 1) * y0 ≤ 4294967296 * 4294967295 := Int.mul_le_mul (by omega) (by omega) h0 (by decide)
        have hge := digit_enough hY hYp e1 (u := u) (by omega)
        refine evPos c (evPos (by omega) (evEq (Ev.now _) (last (q - 1) (by omega))))
      · exact evNeg c (ih (q - 1) (r + y1) e1 (by omega) (by omega) (by omega) (by omega) (by omega) hless)
    refine Ev.step (fun _ => bits_Div64.l1.eq_2 ..) ?_
    by_cases c1 : q ≥ 4294967296
    · exact evPos c1 (more (.inl c1))
    · refine evNeg c1 ?_
      rw [wq, wr]
      by_cases c2 : q * y0 > 4294967296 * r + u
      · rw [decide_eq_true c2]
        exact more (.inr c2)
      · rw [decide_eq_false c2]
        have hge := digit_enough hY hYp hq (u := u) (by omega)
        exact Ev.step (fun _ => bits_Div64.j4.eq_2 ..) (evNeg (by simp) (evPos (by omega) (evEq (Ev.now _) (last q (by omega)))))
theorem first_digit {Y y1 y0 U : Int} (hY : Y = y1 * 4294967296 + y0) (h1 : 2147483648 ≤ y1) (h0 : 0 ≤ y0) (h0' : y0 < 4294967296) (hU0 : 0 ≤ U) (hU : U < Y) (u : Int) (hu0 : 0 ≤ u) (hu1 : u < 4294967296) :
    0 ≤ U / y1 ∧ U / y1 ≤ 4294967297 ∧ (U * 4294967296 + u) / Y ≤ U / y1 := by
  have hYp : 0 < Y := by omega
  have a1 := Int.mul_ediv_add_emod U y1
  have a2 := Int.emod_nonneg U (show y1 ≠ 0 by omega)
  have a3 := Int.emod_lt_of_pos U (show 0 < y1 by omega)
  refine ⟨Int.ediv_nonneg hU0 (by omega), ?_, ?_⟩
  · have : U / y1 < 4294967298 := Int.ediv_lt_of_lt_mul (by omega) (by omega)
    omega
  · have : (U * 4294967296 + u) / Y < U / y1 + 1 := by
      refine Int.ediv_lt_of_lt_mul hYp ?_
      have e : (U / y1 + 1) * Y = (y1 * (U / y1)) * 4294967296 + y1 * 4294967296 + (U / y1 + 1) * y0 := by rw [hY]; grind
      have : 0 ≤ (U / y1 + 1) * y0 := Int.mul_nonneg (by have := Int.ediv_nonneg hU0 (show 0 ≤ y1 by omega); omega) h0
      rw [e]
      omega
    omega
theorem j2Ev {Y y1 y0 u1 u U q1 : Int} {s : Nat} (hs : s ≤ 63) (hY : Y = y1 * 4294967296 + y0) (hYb : Y < 18446744073709551616) (h1 : 2147483648 ≤ y1) (h1' : y1 < 4294967296) (h0 : 0 ≤ y0) (h0' : y0 < 4294967296)
    (hv0 : 0 ≤ u1) (hv1 : u1 < 4294967296) (hu0 : 0 ≤ u) (hu1 : u < 4294967296) (hU0 : 0 ≤ U) (hU : U < Y) (hq : q1 = (U * 4294967296 + u1) / Y) :
    Ev (fun k => bits_Div64.j2 k Y s y1 y0 U u1 u q1) ((U * 18446744073709551616 + u1 * 4294967296 + u) / Y, (U * 18446744073709551616 + u1 * 4294967296 + u) % Y / 2 ^ s) := by
  have hYp : 0 < Y := by omega
  have hD := Int.mul_ediv_add_emod (U * 4294967296 + u1) Y
  have hM0 := Int.emod_nonneg (U * 4294967296 + u1) (show Y ≠ 0 by omega)
  have hM1 := Int.emod_lt_of_pos (U * 4294967296 + u1) hYp
  have hQ0 : 0 ≤ (U * 4294967296 + u1) / Y := Int.ediv_nonneg (by omega) (by omega)
  have hQ1 : (U * 4294967296 + u1) / Y < 4294967296 := Int.ediv_lt_of_lt_mul hYp (by omega)
  rw [← hq] at hD hQ0 hQ1
  obtain ⟨R, eR⟩ : ∃ R : Int, R = (U * 4294967296 + u1) % Y := ⟨_, rfl⟩
  rw [← eR] at hD hM0 hM1
  have w21 : IntKind.u64.wrap ((IntKind.u64.wrap ((IntKind.u64.wrap (U * 4294967296)) + u1)) - (IntKind.u64.wrap (q1 * Y))) = R := by
    simp only [wu64]
    rw [Int.mul_comm Y] at hD
    generalize q1 * Y = P at *
    omega
  obtain ⟨f1, f2, f3⟩ := first_digit hY h1 h0 h0' hM0 hM1 u hu0 hu1
  have a1 := Int.mul_ediv_add_emod R y1
  have a2 := Int.emod_nonneg R (show y1 ≠ 0 by omega)
  have a3 := Int.emod_lt_of_pos R (show 0 < y1 by omega)
  have wq : IntKind.u64.wrap (Int.tdiv R y1) = R / y1 := by rw [Int.tdiv_eq_ediv_of_nonneg hM0, wu64]; omega
  have wr : IntKind.u64.wrap (R - IntKind.u64.wrap (R / y1 * y1)) = R % y1 := by
    simp only [wu64]
    rw [Int.mul_comm y1] at a1
    generalize R / y1 * y1 = P at *
    omega
  refine Ev.step (fun _ => bits_Div64.j2.eq_2 ..) (evNeg (by omega) ?_)
  rw [w21, wq, wr]
  refine evEq (l1Ev hs hY h1 h1' h0 h0' hu0 hu1 hM0 hM1 hQ0 hQ1 3 (R / y1) (R % y1) (by rw [Int.mul_comm]; exact a1) a2 (by omega) (by omega) f1 f2 f3) ?_
  have key : U * 18446744073709551616 + u1 * 4294967296 + u = R * 4294967296 + u + Y * (q1 * 4294967296) := by
    have : Y * (q1 * 4294967296) = (Y * q1) * 4294967296 := by rw [Int.mul_assoc]
    omega
  rw [key, Int.add_mul_ediv_left _ _ (by omega), Int.add_mul_emod_self_left, Int.add_comm]
theorem l0Ev {Y y1 y0 u1 u U : Int} {s : Nat} (hs : s ≤ 63) (hY : Y = y1 * 4294967296 + y0) (hYb : Y < 18446744073709551616) (h1 : 2147483648 ≤ y1) (h1' : y1 < 4294967296) (h0 : 0 ≤ y0) (h0' : y0 < 4294967296)
    (hv0 : 0 ≤ u1) (hv1 : u1 < 4294967296) (hu0 : 0 ≤ u) (hu1 : u < 4294967296) (hU0 : 0 ≤ U) (hU : U < Y) :
    ∀ (n : Nat) (q r : Int), q * y1 + r = U → 0 ≤ r → r < 4294967296 → 4294967296 - r ≤ n * 2147483648 → 0 ≤ q → q ≤ 4294967297 → (U * 4294967296 + u1) / Y ≤ q →
      Ev (fun k => bits_Div64.l0 k Y s y1 y0 U u1 u q r) ((U * 18446744073709551616 + u1 * 4294967296 + u) / Y, (U * 18446744073709551616 + u1 * 4294967296 + u) % Y / 2 ^ s) := by
  have hYp : 0 < Y := by omega
  have hQ0 : 0 ≤ (U * 4294967296 + u1) / Y := Int.ediv_nonneg (by omega) (by omega)
  intro n
  induction n with
  | zero => intro q r _ _ h2 h3; omega
  | succ n ih =>
    intro q r hq hr0 hr1 hn hq0 hqb hqt
    have p0 : 0 ≤ q * y0 := Int.mul_nonneg hq0 h0
    have p1 : q * y0 ≤ 4294967297 * 4294967295 := Int.mul_le_mul hqb (by omega) h0 (by decide)
    have wq : IntKind.u64.wrap (q * y0) = q * y0 := by rw [wu64]; omega
    have wr : IntKind.u64.wrap ((IntKind.u64.wrap (4294967296 * r)) + u1) = 4294967296 * r + u1 := by rw [wu64, wu64]; omega
    have more : (q ≥ 4294967296 ∨ q * y0 > 4294967296 * r + u1) → Ev (fun k => bits_Div64.j1 k Y s y1 y0 U u1 u q r true) ((U * 18446744073709551616 + u1 * 4294967296 + u) / Y, (U * 18446744073709551616 + u1 * 4294967296 + u) % Y / 2 ^ s) := by
      intro hc
      have hless := digit_less hY hYp hv0 hv1 hU hq hc
      have w1 : IntKind.u64.wrap (r + y1) = r + y1 := by rw [wu64]; omega
      have w2 : IntKind.u64.wrap (q - 1) = q - 1 := by rw [wu64]; omega
      have e1 : (q - 1) * y1 + (r + y1) = U := by rw [Int.sub_mul, Int.one_mul]; omega
      refine Ev.step (fun _ => bits_Div64.j1.eq_2 ..) (evPos rfl ?_)
      rw [w1, w2]
      by_cases c : r + y1 ≥ 4294967296
      · have p2 : (q - 1) * y0 ≤ 4294967296 * 4294967295 := Int.mul_le_mul (by omega) (by omega) h0 (by decide)
        have hge := digit_enough hY hYp e1 (u := u1) (by omega)
        exact evPos c (j2Ev hs hY hYb h1 h1' h0 h0' hv0 hv1 hu0 hu1 hU0 hU (by omega))
      · exact evNeg c (ih (q - 1) (r + y1) e1 (by omega) (by omega) (by omega) (by omega) (by omega) hless)
    refine Ev.step (fun _ => bits_Div64.l0.eq_2 ..) ?_
    by_cases c1 : q ≥ 4294967296
    · exact evPos c1 (more (.inl c1))
    · refine evNeg c1 ?_
      rw [wq, wr]
      by_cases c2 : q * y0 > 4294967296 * r + u1
      · rw [decide_eq_true c2]
        exact more (.inr c2)
      · rw [decide_eq_false c2]
        have hge := digit_enough hY hYp hq (u := u1) (by omega)
        exact Ev.step (fun _ => bits_Div64.j1.eq_2 ..) (evNeg (by simp) (j2Ev hs hY hYb h1 h1' h0 h0' hv0 hv1 hu0 hu1 hU0 hU (by omega)))
/-- Two words divided by one. -/
theorem div64Ev {h l y : Int} (hh : 0 ≤ h) (hy : h < y) (hyb : y < 18446744073709551616) (hl0 : 0 ≤ l) (hl1 : l < 18446744073709551616) :
    Ev (fun k => bits_Div64.f k h l y) ((h * 18446744073709551616 + l) / y, (h * 18446744073709551616 + l) % y) := by
  unfold bits_Div64.f
  refine evNeg (by omega) (evNeg (by omega) ?_)
  by_cases c : h = 0
  · subst c
    refine evPos rfl (evEq (Ev.now _) ?_)
    rw [Int.tdiv_eq_ediv_of_nonneg hl0, Int.tmod_eq_emod_of_nonneg hl0, wu64, Int.zero_mul, Int.zero_add]
    have a1 : 0 ≤ l / y := Int.ediv_nonneg hl0 (by omega)
    have a2 : l / y ≤ l := Int.ediv_le_self _ hl0
    rw [Int.emod_eq_of_lt a1 (by omega)]
  refine evNeg c ?_
  obtain ⟨s, s1, s2, s3, s4⟩ := lzEv (x := y) (by omega) hyb
  have ws : IntKind.u64.wrap (s : Int) = s := by rw [wu64]; omega
  have ws2 : IntKind.u64.wrap (64 - (s : Int)) = ((64 - s : Nat) : Int) := by rw [wu64]; omega
  refine Ev.bind s4 ?_
  rw [ws, ws2]
  refine evPos (by omega) (evPos (by omega) ?_)
  have pS : (0 : Int) < 2 ^ s := Int.pow_pos (by decide)
  have pT : (0 : Int) < 2 ^ (64 - s) := Int.pow_pos (by decide)
  have pw : (2 : Int) ^ s * 2 ^ (64 - s) = 18446744073709551616 := by rw [← Int.pow_add, show s + (64 - s) = 64 by omega]; decide
  -- the parts of what is divided, moved to the top
  have eY : shl .u64 y (s : Int) = y * 2 ^ s := by rw [shl_eq .u64 _ s (by show s ≤ 64; omega), wu64]; exact Int.emod_eq_of_lt (by omega) s3
  have eU : Go.bits .or .u64 (shl .u64 h (s : Int)) (shr .u64 l ((64 - s : Nat) : Int)) = h * 2 ^ s + l / 2 ^ (64 - s) := by
    have b1 : h * 2 ^ s < 18446744073709551616 := Int.lt_trans (Int.mul_lt_mul_of_pos_right hy pS) s3
    have b0 : 0 ≤ h * 2 ^ s := Int.mul_nonneg hh (by omega)
    rw [shl_eq .u64 _ s (by show s ≤ 64; omega), shr_eq .u64 _ (64 - s) (by show 64 - s ≤ 64; omega), wu64, Int.emod_eq_of_lt b0 b1]
    have pw2 : (2 : Int) ^ 64 = 18446744073709551616 := by decide
    have l1 : l / 2 ^ (64 - s) < 2 ^ s := Int.ediv_lt_of_lt_mul pT (by rw [pw]; exact hl1)
    have l0 : 0 ≤ l / 2 ^ (64 - s) := Int.ediv_nonneg hl0 (by omega)
    have l2 : (2 : Int) ^ s ≤ 18446744073709551616 := by
      have := Int.mul_le_mul_of_nonneg_left (show (1 : Int) ≤ 2 ^ (64 - s) by omega) (show (0 : Int) ≤ 2 ^ s by omega)
      rw [pw] at this
      omega
    exact bits_join .u64 64 (by decide) wraps_u64 s _ _ b0 (Int.mul_emod_left _ _) (by omega) l0 l1 (by omega)
  have eL : shl .u64 l (s : Int) = l * 2 ^ s % 18446744073709551616 := by rw [shl_eq .u64 _ s (by show s ≤ 64; omega), wu64]
  have and32 : ∀ z : Int, 0 ≤ z → z < 18446744073709551616 → Go.bits .and .u64 z 4294967295 = z % 4294967296 := and_low32
  obtain ⟨Y, dY⟩ : ∃ Y : Int, Y = y * 2 ^ s := ⟨_, rfl⟩
  obtain ⟨U, dU⟩ : ∃ U : Int, U = h * 2 ^ s + l / 2 ^ (64 - s) := ⟨_, rfl⟩
  obtain ⟨L, dL⟩ : ∃ L : Int, L = l * 2 ^ s % 18446744073709551616 := ⟨_, rfl⟩
  rw [eY, eU, eL, ← dY, ← dU, ← dL]
  rw [← dY] at s2 s3
  have hL0 : 0 ≤ L := by omega
  have hL1 : L < 18446744073709551616 := by omega
  rw [and32 Y (by omega) (by omega), and32 L hL0 hL1]
  -- what the parts come to
  have eN : U * 18446744073709551616 + L = (h * 18446744073709551616 + l) * 2 ^ s := by
    have d1 := Int.mul_ediv_add_emod l (2 ^ (64 - s))
    have d2 : l * 2 ^ s = 18446744073709551616 * (l / 2 ^ (64 - s)) + l % 2 ^ (64 - s) * 2 ^ s := by
      have : l * 2 ^ s = (2 ^ (64 - s) * (l / 2 ^ (64 - s)) + l % 2 ^ (64 - s)) * 2 ^ s := by rw [d1]
      rw [this, ← pw]; grind
    have d3 : l % 2 ^ (64 - s) * 2 ^ s < 18446744073709551616 := by
      rw [← pw, Int.mul_comm (2 ^ s)]
      exact Int.mul_lt_mul_of_pos_right (Int.emod_lt_of_pos _ pT) pS
    have d4 : 0 ≤ l % 2 ^ (64 - s) * 2 ^ s := Int.mul_nonneg (Int.emod_nonneg _ (by omega)) (by omega)
    have e3 : (h * 18446744073709551616 + l) * 2 ^ s = 18446744073709551616 * (h * 2 ^ s) + l * 2 ^ s := by grind
    rw [dU, dL, e3]
    omega
  have hU0 : 0 ≤ U := by rw [dU]; exact Int.add_nonneg (Int.mul_nonneg hh (by omega)) (Int.ediv_nonneg hl0 (by omega))
  have hU1 : U < Y := by
    have : (h * 18446744073709551616 + l) * 2 ^ s < (y * 18446744073709551616) * 2 ^ s := Int.mul_lt_mul_of_pos_right (by omega) pS
    rw [← eN, Int.mul_right_comm, ← dY] at this
    omega
  have hy1 : Y / 4294967296 ≥ 2147483648 := by omega
  have wq : IntKind.u64.wrap (Int.tdiv U (Y / 4294967296)) = U / (Y / 4294967296) := by
    have a1 : 0 ≤ U / (Y / 4294967296) := Int.ediv_nonneg hU0 (by omega)
    have a2 : U / (Y / 4294967296) ≤ U := Int.ediv_le_self _ hU0
    rw [Int.tdiv_eq_ediv_of_nonneg hU0, wu64]
    omega
  have a1 := Int.mul_ediv_add_emod U (Y / 4294967296)
  have a2 := Int.emod_nonneg U (show Y / 4294967296 ≠ 0 by omega)
  have a3 := Int.emod_lt_of_pos U (show 0 < Y / 4294967296 by omega)
  have wr : IntKind.u64.wrap (U - IntKind.u64.wrap (U / (Y / 4294967296) * (Y / 4294967296))) = U % (Y / 4294967296) := by
    simp only [wu64]
    rw [Int.mul_comm (Y / 4294967296)] at a1
    generalize U / (Y / 4294967296) * (Y / 4294967296) = P at *
    omega
  rw [wq, wr]
  obtain ⟨f1, f2, f3⟩ := first_digit (Y := Y) (y1 := Y / 4294967296) (y0 := Y % 4294967296) (by omega) hy1 (by omega) (by omega) hU0 hU1 (L / 4294967296) (by omega) (by omega)
  refine evNeg (by omega) (evEq (l0Ev s1 (Y := Y) (y1 := Y / 4294967296) (y0 := Y % 4294967296) (by omega) s3 hy1 (by omega) (by omega) (by omega) (by omega) (by omega) (by omega) (by omega) hU0 hU1 3 _ _ (by rw [Int.mul_comm]; exact a1) a2 (by omega) (by omega) f1 f2 f3) ?_)
  have e5 : U * 18446744073709551616 + L / 4294967296 * 4294967296 + L % 4294967296 = (h * 18446744073709551616 + l) * 2 ^ s := by omega
  rw [e5, dY, Int.mul_ediv_mul_of_pos_left _ _ pS, Int.mul_comm _ (2 ^ s), Int.mul_comm y (2 ^ s), Int.mul_emod_mul_of_pos _ _ pS, Int.mul_ediv_cancel_left _ (by omega)]
end Go.Proofs.Ytjgkommhdodghaa.PDiv
