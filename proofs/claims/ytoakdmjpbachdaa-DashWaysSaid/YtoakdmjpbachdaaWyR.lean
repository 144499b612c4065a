/- Subpaths as arguments; the row DashWays. Conditions: those that each theorem names. -/
import Derived.Test.YtoakdmjpbachdaaWyH
import Derived.Test.YtoakdmjpbachdaaSyX
namespace Go.Proofs.Ytoakdmjpbachdaa.Sy
open Go.RowKit Go.ChangeShapes Go.WideShapes Go.Deep
set_option linter.unusedVariables false

theorem pts_of {cap : Nat} {vs : List Value} (h : RowsOk [.int .i64, .int .i64] cap vs) : ∃ l : List Pt, l.length = cap ∧ vs.map .sc = l.flatMap Pt.cs := by
  unfold RowsOk at h
  induction cap generalizing vs with
  | zero => simp only [List.replicate_zero, List.flatten_nil, CksOk] at h; subst h; exact ⟨[], rfl, rfl⟩
  | succ k ih =>
    rw [List.replicate_succ, List.flatten_cons] at h
    simp only [List.cons_append, List.nil_append, CksOk] at h
    obtain ⟨x, r, rfl, h1, y, r', rfl, h2, h3⟩ := h
    obtain ⟨l, e1, e2⟩ := ih h3
    exact ⟨⟨x, y⟩ :: l, by simp [e1], by simp [e2, Pt.cs]⟩
/-- A slice of points, laid: it is read. -/
theorem pts_rl {m : Mem} {n : Nat} {c : Cell} {v : Value} (h : (c = .sc (.slice none 0 0) ∧ v = .slice none 0 0) ∨ ∃ len cap vs, c = .sl n 0 len none [CK.int .i64, CK.int .i64].length ∧ len ≤ cap ∧ cap ≤ maxLen ∧ RowsOk [.int .i64, .int .i64] cap vs ∧ m n = some ⟨vs.map .sc, false⟩) :
    ∃ l : List Pt, RPt m (n + 1) (.one c) l := by
  rcases h with ⟨rfl, _⟩ | ⟨len, cap, vs, rfl, h1, _, h2, h3⟩
  · exact ⟨[], Or.inl ⟨rfl, rfl⟩⟩
  · obtain ⟨l, e1, e2⟩ := pts_of h2
    have hlen : (l.take len).length = len := by rw [List.length_take]; omega
    refine ⟨l.take len, Or.inr ⟨n, 0, none, by rw [hlen]; rfl, by omega, ?_⟩⟩
    rw [rd_of h3, hlen, e2]
    have e4 : (l.flatMap Pt.cs).length = cap * 2 := by rw [flatMap_len Pt.cs 2 cs2, e1]
    unfold rdB
    rw [if_pos (by show 0 + len * 2 ≤ (l.flatMap Pt.cs).length; rw [e4]; omega), List.drop_zero]
    congr 1
    have : ∀ (l : List Pt) (k : Nat), (l.flatMap Pt.cs).take (k * 2) = (l.take k).flatMap Pt.cs := by
      intro l
      induction l with
      | nil => intro k; simp
      | cons x l ih =>
        intro k
        cases k with
        | zero => simp
        | succ k =>
          rw [show (k + 1) * 2 = k * 2 + 1 + 1 by omega]
          simp [ih k]
    exact this l len
set_option maxRecDepth 100000 in
theorem open33 {H : Type} {enc : TypeId × Value → H} {w : World} {base base' : Nat} {held : Bool} {v : Value} {d : DataW H} {ps : List MemPlace} (hv : Value.okWide Try.prog w .any base' 33 v) (h : DataW.Trod enc Try.prog w base (fun _ => true) held 33 v d ps) :
    ∃ c b, v = .agg #[c, .bool b] ∧ SlOk w [.int .i64, .int .i64] c := by
  obtain ⟨cs, rfl, hl, hf⟩ := arg_mix (ts := [31, 4]) Try.underlying33 (by kernel_rfl) hv h
  rw [show Try.prog.cellsOf 33 = 2 by kernel_rfl] at hl
  match cs, hl with
  | [c, p], _ =>
    have h0 := hf 0 _ c rfl (by kernel_rfl) (fun u hu => (Option.some.inj hu).symm) rfl
    have h1 := hf 1 _ p rfl (by kernel_rfl) (fun u hu => (Option.some.inj hu).symm) rfl
    obtain ⟨b, rfl⟩ := mix_bool Try.underlying4 h1
    exact ⟨c, b, rfl, mix_slice (k := 8) Try.underlying31 (by kernel_rfl) (by kernel_rfl) (by decide) h0⟩
theorem rowL4 (hmix : Try.prog.follows .mixedOrders = true) (W : World) (v : Value) (h : ∃ c b, v = .agg #[c, .bool b] ∧ SlOk W [.int .i64, .int .i64] c) :
    Calls Try.prog 4 #[v] W (fun e w' => e = .returned (.bool true) ∧ Go.RowKit.Below W.heap.size W w') := by
  obtain ⟨c, b, rfl, hs⟩ := h
  obtain ⟨ρ, n, m, k, hm, hh, hle, hc, _, rfl, hk⟩ := mix_lay (noMem (fun _ => (0, 0)) 0 W) held_none hs
  obtain ⟨l, hr⟩ := pts_rl hk
  exact law_calls (ng := 0) (ρ := ρ) (n := 0 + 1) hmix TA_ok (law4 k l b m (0 + 1) hr) hm (fun _ h => by omega) ⟨_, _, rfl, ⟨_, rfl, _, _, rfl, hc, _, _, rfl, ⟨rfl, rfl⟩, rfl⟩, rfl⟩ hh
end Go.Proofs.Ytoakdmjpbachdaa.Sy
