/- Edits as arguments. Conditions: those that each theorem names. -/
import Derived.Test.YtpleidpbapgmiaaDoorPaO
import Derived.Test.YtpleidpbapgmiaaDoorPaF
namespace Go.Proofs.YtpleidpbapgmiaaDoor.Sy
open Go Go.Proofs
open Go.RowKit Go.ChangeShapes Go.WideShapes Go.Deep
set_option linter.unusedVariables false

/-- A struct, by its cells and by its fields. -/
theorem arg_fields {P : Program} {T : TypeId} {fs : Array Field} {ts : List TypeId} (ht : P.underlying T = some (.struct fs)) (hts : P.cellTypes P.depth T = some ts) {H : Type} {enc : TypeId × Value → H} {w : World} {base base' : Nat} {held : Bool} {v : Value} {d : DataW H} {ps : List MemPlace}
    (hv : Value.okWide P w .any base' T v) (h : DataW.Trod enc P w base (fun _ => true) held T v d ps) :
    ∃ cs : List Value, v = .agg cs.toArray ∧ cs.length = P.cellsOf T ∧ (∀ (i : Nat) (c : Value), cs[i]? = some c → ∃ u, ts[i % ts.length]? = some u ∧ Cell.okWide P w .any base' u c) ∧
      ∀ (j : Nat) (f : Field) (z : Nat) (l : List Value), fs[j]? = some f → P.cellsOf f.type = z → (cs.drop f.offset).take z = l → ∃ x n, DataW.trod enc P w base (fun _ => true) held n f.type l = some x := by
  simp only [Value.okWide, ht] at hv
  obtain ⟨cs, rfl, hsz, ts', h1, h2, h3⟩ := hv
  obtain rfl := Option.some.inj (hts.symm.trans h1)
  obtain ⟨fuel, hf⟩ := h
  have hf' : DataW.trod enc P w base (fun _ => true) held fuel T cs.toList = some (d, ps) := hf
  obtain ⟨xs, n, _, _, hl, hxs, hg⟩ := DataW.trod_struct ht hf'
  refine ⟨cs.toList, by simp, by simpa using hsz, fun i c hc => h3 i c (by simpa using hc), fun j f z l hj hz hl2 => ?_⟩
  subst hz
  subst hl2
  have h4 := hg j f hj
  have hjn : j < xs.length := by
    have := (Array.getElem?_eq_some_iff.1 hj).1
    omega
  rw [List.getElem?_eq_getElem hjn] at h4
  exact ⟨_, n, h4⟩
set_option maxRecDepth 100000 in
theorem open72 {H : Type} {enc : TypeId × Value → H} {w : World} {base base' : Nat} {held : Bool} {v : Value} {d : DataW H} {ps : List MemPlace} (hv : Value.okWide Tryd.prog w .any base' 72 v) (h : DataW.Trod enc Tryd.prog w base (fun _ => true) held 72 v d ps) :
    ∃ (c : Value) (i k q0 q1 q2 q3 q4 q5 q6 x y : Int), v = .agg #[c, .int .i64 i, .int .i64 k, .int .i64 q0, .int .i64 q1, .int .i64 q2, .int .i64 q3, .int .i64 q4, .int .i64 q5, .int .i64 q6, .int .i64 x, .int .i64 y] ∧ SlOk w sgK c := by
  obtain ⟨cs, rfl, hl, hc, hf⟩ := arg_fields (ts := [22, 3, 3, 3, 3, 3, 3, 3, 3, 3, 3, 3]) Tryd.underlying72 (by kernel_rfl) hv h
  rw [show Tryd.prog.cellsOf 72 = 12 by kernel_rfl] at hl
  match cs, hl with
  | [a0, a1, a2, a3, a4, a5, a6, a7, a8, a9, a10, a11], _ =>
    obtain ⟨f0, n0, g0⟩ := hf 0 _ 1 [a0] rfl (by kernel_rfl) rfl
    obtain ⟨f1, n1, g1⟩ := hf 1 _ 1 [a1] rfl (by kernel_rfl) rfl
    obtain ⟨f2, n2, g2⟩ := hf 2 _ 1 [a2] rfl (by kernel_rfl) rfl
    obtain ⟨f3, n3, g3⟩ := hf 3 _ 7 [a3, a4, a5, a6, a7, a8, a9] rfl (by kernel_rfl) rfl
    obtain ⟨f4, n4, g4⟩ := hf 4 _ 2 [a10, a11] rfl (by kernel_rfl) rfl
    obtain ⟨v0, hv0, hw0⟩ := hc 0 a0 rfl
    obtain rfl : (22 : Nat) = v0 := Option.some.inj hv0
    have sl : SlOk w sgK a0 := mix_slice (k := 8) Tryd.underlying22 (by kernel_rfl) (by kernel_rfl) (by decide) ⟨hw0, f0, n0, g0⟩
    have int : ∀ (a : Value) (x : DataW H × List MemPlace) (k : Nat), DataW.trod enc Tryd.prog w base (fun _ => true) held k 3 [a] = some x → ∃ z, a = .int .i64 z := fun a x k hk => by
      obtain ⟨z, e, _, _⟩ := DataW.trod_int Tryd.underlying3 hk
      exact ⟨z, (List.cons.inj e).1⟩
    obtain ⟨i, rfl⟩ := int _ _ _ g1
    obtain ⟨k, rfl⟩ := int _ _ _ g2
    obtain ⟨q0, _, e3, _, q1, _, rfl, _, q2, _, rfl, _, q3, _, rfl, _, q4, _, rfl, _, q5, _, rfl, _, q6, _, rfl, _, rfl⟩ := kindsK_ok (P := Tryd.prog) (k := 8) (T := 50) (ks := sgK) (by kernel_rfl) H enc w base _ held _ _ _ g3
    obtain ⟨x, _, e4, _, y, _, rfl, _, rfl⟩ := kindsK_ok (P := Tryd.prog) (k := 8) (T := 40) (ks := [.int .i64, .int .i64]) (by kernel_rfl) H enc w base _ held _ _ _ g4
    simp only [List.cons.injEq, and_true] at e3 e4
    obtain ⟨rfl, rfl, rfl, rfl, rfl, rfl, rfl⟩ := e3
    obtain ⟨rfl, rfl⟩ := e4
    exact ⟨a0, i, k, q0, q1, q2, q3, q4, q5, q6, x, y, rfl, sl⟩
theorem segs_cap {m : Mem} {n : Nat} {c : Cell} {v : Value} (h : (c = .sc (.slice none 0 0) ∧ v = .slice none 0 0) ∨ ∃ len cap vs, c = .sl n 0 len none sgK.length ∧ len ≤ cap ∧ cap ≤ maxLen ∧ RowsOk sgK cap vs ∧ m n = some ⟨vs.map .sc, false⟩) : capN (.one c) := by
  rcases h with ⟨rfl, _⟩ | ⟨len, cap, vs, rfl, _⟩ <;> trivial
/-- A law over an edit, over the laid table. -/
theorem row_edit {f : Nat} (hlaw : ∀ (c : Cell) (l : List Sg) (i k : Int) (s : Sg) (p : Pt) (m : Mem) (n : Nat), RSg m n (.one c) l → capN (.one c) → 0 < n → ∀ (o : Bool), m 0 = some ⟨needC, o⟩ → Fn TA f [.agg (zC c i k s p)] m n (fun r _ _ => r = RB true))
    (hmix : Tryd.prog.follows .mixedOrders = true) (W : World) (ht : 0 < W.heap.size ∧ ∀ j v, needV[j]? = some v → W.cell? ⟨0, j, none⟩ = some (.int .i64 v)) (v : Value)
    (hv : ∃ (c : Value) (i k q0 q1 q2 q3 q4 q5 q6 x y : Int), v = .agg #[c, .int .i64 i, .int .i64 k, .int .i64 q0, .int .i64 q1, .int .i64 q2, .int .i64 q3, .int .i64 q4, .int .i64 q5, .int .i64 q6, .int .i64 x, .int .i64 y] ∧ SlOk W sgK c) :
    Calls Tryd.prog f #[v] W (fun e w' => e = .returned (.bool true) ∧ Go.RowKit.Below W.heap.size W w') := by
  obtain ⟨c, i, k, q0, q1, q2, q3, q4, q5, q6, x, y, rfl, hs⟩ := hv
  obtain ⟨ρ, n, m, c0, hm, hh, hle, hc, hold, rfl, hk0⟩ := mix_lay (tab_mem (vals := needV) ht.1 ht.2) tab_held hs
  obtain ⟨l, hr⟩ := segs_rl hk0
  have hg : Glob 1 ρ (1 + 1) := tab_glob.mono hle
  exact law_callsW (ng := 1) (ρ := ρ) (n := 1 + 1) hWA hmix TA_ok (hlaw c0 l i k ⟨q0, ⟨q1, q2⟩, ⟨q3, q4⟩, ⟨q5, q6⟩⟩ ⟨x, y⟩ m (1 + 1) hr (segs_cap hk0) (by omega) false (by rw [hold 0 (by omega)]; exact upd_same _ _ _)) hm hg
    ⟨_, _, rfl, ⟨_, rfl, _, _, rfl, hc, _, _, rfl, ⟨rfl, rfl⟩, _, _, rfl, ⟨rfl, rfl⟩, _, _, rfl, ⟨rfl, rfl⟩, _, _, rfl, ⟨rfl, rfl⟩, _, _, rfl, ⟨rfl, rfl⟩, _, _, rfl, ⟨rfl, rfl⟩, _, _, rfl, ⟨rfl, rfl⟩, _, _, rfl, ⟨rfl, rfl⟩, _, _, rfl, ⟨rfl, rfl⟩, _, _, rfl, ⟨rfl, rfl⟩, _, _, rfl, ⟨rfl, rfl⟩, rfl⟩, rfl⟩ hh
end Go.Proofs.YtpleidpbapgmiaaDoor.Sy
