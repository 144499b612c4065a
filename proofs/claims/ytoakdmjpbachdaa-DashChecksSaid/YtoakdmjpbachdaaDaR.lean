/- Rows of the laws over patterns (chapter 09). Conditions: those that each theorem names. -/
import Derived.Test.YtoakdmjpbachdaaDaB
import Derived.Test.YtoakdmjpbachdaaSyX
namespace Go.Proofs.Ytoakdmjpbachdaa.Sy
open Go Go.Proofs Go.RowKit Go.ChangeShapes Go.WideShapes Go.Deep
set_option linter.unusedVariables false

theorem ints_of {cap : Nat} {vs : List Value} (h : RowsOk [.int .i64] cap vs) : ∃ l : List Int, l.length = cap ∧ vs.map .sc = l.flatMap encI ∧ ∀ x ∈ l, -9223372036854775808 ≤ x ∧ x ≤ 9223372036854775807 := by
  unfold RowsOk at h
  induction cap generalizing vs with
  | zero => simp only [List.replicate_zero, List.flatten_nil, CksOk] at h; subst h; exact ⟨[], rfl, rfl, by simp⟩
  | succ k ih =>
    rw [List.replicate_succ, List.flatten_cons] at h
    simp only [List.cons_append, List.nil_append, CksOk] at h
    obtain ⟨n, r, rfl, h1, h2⟩ := h
    obtain ⟨l, e1, e2, e3⟩ := ih h2
    simp only [IntKind.min, IntKind.max, IntKind.signed, IntKind.bits] at h1
    refine ⟨n :: l, by simp [e1], by simp [e2], fun x hx => ?_⟩
    rcases List.mem_cons.1 hx with rfl | hx
    · simp at h1; omega
    · exact e3 x hx
/-- A slice of ints, laid: it is read. -/
theorem ints_rl {m : Mem} {n : Nat} {c : Cell} {v : Value} (h : (c = .sc (.slice none 0 0) ∧ v = .slice none 0 0) ∨ ∃ len cap vs, c = .sl n 0 len none [CK.int .i64].length ∧ len ≤ cap ∧ cap ≤ maxLen ∧ RowsOk [.int .i64] cap vs ∧ m n = some ⟨vs.map .sc, false⟩) :
    ∃ l : List Int, RIn m (n + 1) (.one c) l ∧ ∀ x ∈ l, -9223372036854775808 ≤ x ∧ x ≤ 9223372036854775807 := by
  rcases h with ⟨rfl, _⟩ | ⟨len, cap, vs, rfl, h1, _, h2, h3⟩
  · exact ⟨[], Or.inl ⟨rfl, rfl⟩, by simp⟩
  · obtain ⟨l, e1, e2, e3⟩ := ints_of h2
    have hlen : (l.take len).length = len := by rw [List.length_take]; omega
    refine ⟨l.take len, Or.inr ⟨n, 0, none, by rw [hlen]; rfl, by omega, ?_⟩, fun x hx => e3 x (List.mem_of_mem_take hx)⟩
    rw [rd_of h3, hlen, e2]
    have e4 : (l.flatMap encI).length = cap := by rw [flatMap_len encI 1 ci1, e1, Nat.mul_one]
    unfold rdB
    rw [if_pos (by rw [e4]; omega), List.drop_zero, Nat.mul_one]
    congr 1
    have : ∀ (l : List Int) (k : Nat), (l.flatMap encI).take k = (l.take k).flatMap encI := by
      intro l
      induction l with
      | nil => intro k; simp
      | cons x l ih =>
        intro k
        cases k with
        | zero => simp
        | succ k => simp [ih k]
    exact this l len
set_option maxRecDepth 100000 in
theorem open24 {H : Type} {enc : TypeId × Value → H} {w : World} {base base' : Nat} {held : Bool} {v : Value} {d : DataW H} {ps : List MemPlace} (hv : Value.okWide Try.prog w .any base' 24 v) (h : DataW.Trod enc Try.prog w base (fun _ => true) held 24 v d ps) :
    ∃ c ph, v = .agg #[c, .int .i64 ph] ∧ (-9223372036854775808 ≤ ph ∧ ph ≤ 9223372036854775807) ∧ SlOk w [.int .i64] c := by
  obtain ⟨cs, rfl, hl, hf⟩ := arg_mix (ts := [22, 3]) Try.underlying24 (by kernel_rfl) hv h
  rw [show Try.prog.cellsOf 24 = 2 by kernel_rfl] at hl
  match cs, hl with
  | [c, p], _ =>
    have h0 := hf 0 _ c rfl (by kernel_rfl) (fun u hu => (Option.some.inj hu).symm) rfl
    have h1 := hf 1 _ p rfl (by kernel_rfl) (fun u hu => (Option.some.inj hu).symm) rfl
    obtain ⟨ph, rfl, h2, h3⟩ := mix_int Try.underlying3 h1
    refine ⟨c, ph, rfl, ?_, mix_slice (k := 8) Try.underlying22 (by kernel_rfl) (by kernel_rfl) (by decide) h0⟩
    simp only [IntKind.min, IntKind.max, IntKind.signed, IntKind.bits] at h2 h3
    simp at h2 h3
    omega
theorem rowL3 (hmix : Try.prog.follows .mixedOrders = true) (W : World) (v : Value) (h : ∃ c ph, v = .agg #[c, .int .i64 ph] ∧ (-9223372036854775808 ≤ ph ∧ ph ≤ 9223372036854775807) ∧ SlOk W [.int .i64] c) :
    Calls Try.prog 3 #[v] W (fun e w' => e = .returned (.bool true) ∧ Go.RowKit.Below W.heap.size W w') := by
  obtain ⟨c, ph, rfl, hp, hs⟩ := h
  obtain ⟨ρ, n, m, k, hm, hh, hle, hc, _, rfl, hk⟩ := mix_lay (noMem (fun _ => (0, 0)) 0 W) held_none hs
  obtain ⟨l, hr, hb⟩ := ints_rl hk
  exact law_calls (ng := 0) (ρ := ρ) (n := 0 + 1) hmix TA_ok (law3 k l ph m (0 + 1) hr) hm (fun _ h => by omega) ⟨_, _, rfl, ⟨_, rfl, _, _, rfl, hc, _, _, rfl, ⟨rfl, rfl⟩, rfl⟩, rfl⟩ hh
end Go.Proofs.Ytoakdmjpbachdaa.Sy
