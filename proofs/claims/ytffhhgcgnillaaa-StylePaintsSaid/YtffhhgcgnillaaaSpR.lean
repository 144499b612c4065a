/- Paints as arguments; the row StylePaints. Conditions: those that each theorem names. -/
import Derived.Test.YtffhhgcgnillaaaSpI
import Derived.Test.YtffhhgcgnillaaaSeR
namespace Go.Proofs.Ytffhhgcgnillaaa.Sy
open Go Go.Proofs
open Go.RowKit Go.ChangeShapes Go.WideShapes Go.Deep
set_option linter.unusedVariables false

def isPai (w : World) (v : Value) : Prop := ∃ (p : Pai) (vs : Value), v = .agg #[.int .i64 p.k, .int .u8 p.c0, .int .u8 p.c1, .int .u8 p.c2, .int .u8 p.c3, .int .i64 p.fx, .int .i64 p.fy, .int .i64 p.tx, .int .i64 p.ty, vs] ∧ p.by ∧ SlOk w stK vs
set_option maxRecDepth 100000 in
theorem open28 {H : Type} {enc : TypeId × Value → H} {w : World} {base base' : Nat} {held : Bool} {v : Value} {d : DataW H} {ps : List MemPlace} (hv : Value.okWide Try.prog w .any base' 28 v) (h : DataW.Trod enc Try.prog w base (fun _ => true) held 28 v d ps) : isPai w v := by
  obtain ⟨cs, rfl, hl, hc, hf⟩ := arg_fields (ts := [3, 5, 5, 5, 5, 3, 3, 3, 3, 26]) Try.underlying28 (by kernel_rfl) hv h
  rw [show Try.prog.cellsOf 28 = 10 by kernel_rfl] at hl
  match cs, hl with
  | [a0, a1, a2, a3, a4, a5, a6, a7, a8, a9], _ =>
    obtain ⟨u0, k0, t0⟩ := hf 0 _ 1 [a0] rfl (by kernel_rfl) rfl
    obtain ⟨u1, k1, t1⟩ := hf 1 _ 4 [a1, a2, a3, a4] rfl (by kernel_rfl) rfl
    obtain ⟨u2, k2, t2⟩ := hf 2 _ 2 [a5, a6] rfl (by kernel_rfl) rfl
    obtain ⟨u3, k3, t3⟩ := hf 3 _ 2 [a7, a8] rfl (by kernel_rfl) rfl
    obtain ⟨u4, k4, t4⟩ := hf 4 _ 1 [a9] rfl (by kernel_rfl) rfl
    have c0 := kindsK_ok (P := Try.prog) (k := 8) (ks := [.int .i64]) (by kernel_rfl) _ _ _ _ _ _ _ _ _ t0
    have c1 := kindsK_ok (P := Try.prog) (k := 8) (ks := [.int .u8, .int .u8, .int .u8, .int .u8]) (by kernel_rfl) _ _ _ _ _ _ _ _ _ t1
    have c2 := kindsK_ok (P := Try.prog) (k := 8) (ks := [.int .i64, .int .i64]) (by kernel_rfl) _ _ _ _ _ _ _ _ _ t2
    have c3 := kindsK_ok (P := Try.prog) (k := 8) (ks := [.int .i64, .int .i64]) (by kernel_rfl) _ _ _ _ _ _ _ _ _ t3
    simp only [CksOk] at c0 c1 c2 c3
    obtain ⟨q0, _, e0, _, _⟩ := c0
    obtain ⟨q1, _, e1, b1, q2, _, rfl, b2, q3, _, rfl, b3, q4, _, rfl, b4, rfl⟩ := c1
    obtain ⟨q5, _, e5, _, q6, _, rfl, _, rfl⟩ := c2
    obtain ⟨q7, _, e7, _, q8, _, rfl, _, rfl⟩ := c3
    simp only [List.cons.injEq, and_true] at e0 e1 e5 e7
    simp only [IntKind.min, IntKind.max, IntKind.signed, IntKind.bits] at b1 b2 b3 b4
    simp at b1 b2 b3 b4
    obtain ⟨v0, hv0, hw0⟩ := hc 9 a9 rfl
    obtain rfl : (26 : Nat) = v0 := Option.some.inj hv0
    have sf : SlOk w stK a9 := mix_slice (k := 8) Try.underlying26 (by kernel_rfl) (by kernel_rfl) (by decide) ⟨hw0, u4, k4, t4⟩
    obtain ⟨rfl, _⟩ := e0
    obtain ⟨rfl, rfl, rfl, rfl⟩ := e1
    obtain ⟨rfl, rfl⟩ := e5
    obtain ⟨rfl, rfl⟩ := e7
    refine ⟨⟨q0, q1, q2, q3, q4, q5, q6, q7, q8, .sc (.slice none 0 0)⟩, a9, rfl, ?_, sf⟩
    unfold Pai.by byteB
    simp only
    omega
/-- A paint, laid. -/
theorem pai_lay {W : World} {v : Value} (h : isPai W v) : ∃ (p : Pai) (l : List Stp) (ρ : Loc) (m : Mem), MRel ρ 1 W m ∧ Held m ∧ RSt m 1 (.one p.st) l ∧ p.by ∧ (∀ x ∈ l, x.by) ∧ RRel ρ 1 W (.agg p.cs) v := by
  obtain ⟨p, vs, rfl, hp, sf⟩ := h
  obtain ⟨ρ1, n1, m1, cf, hm1, hh1, le1, hc1, old1, rfl, k1⟩ := mix_lay (noMem (fun _ => (0, 0)) 0 W) held_none sf
  obtain ⟨lf, r1, b1⟩ := stops_rl k1
  have hp' : (Pai.mk p.k p.c0 p.c1 p.c2 p.c3 p.fx p.fy p.tx p.ty cf).by := hp
  refine ⟨⟨p.k, p.c0, p.c1, p.c2, p.c3, p.fx, p.fy, p.tx, p.ty, cf⟩, lf, ρ1, m1, hm1, hh1, r1, hp', b1, _, rfl, ?_⟩
  exact ⟨_, _, rfl, ⟨rfl, rfl⟩, _, _, rfl, ⟨rfl, rfl⟩, _, _, rfl, ⟨rfl, rfl⟩, _, _, rfl, ⟨rfl, rfl⟩, _, _, rfl, ⟨rfl, rfl⟩, _, _, rfl, ⟨rfl, rfl⟩, _, _, rfl, ⟨rfl, rfl⟩, _, _, rfl, ⟨rfl, rfl⟩, _, _, rfl, ⟨rfl, rfl⟩, _, _, rfl, hc1, rfl⟩
theorem rowL4 (hmix : Try.prog.follows .mixedOrders = true) (W : World) (v : Value) (h : isPai W v) (l0 : List Value) (h0 : CksOk [.int .i64, .int .i64] l0) :
    Calls Try.prog 4 #[v, .agg l0.toArray] W (fun e w' => e = .returned (.bool true) ∧ Go.RowKit.Below W.heap.size W w') := by
  obtain ⟨p, l, ρ, m, hm, hh, hr, hp, hb, hrel⟩ := pai_lay h
  simp only [CksOk] at h0
  obtain ⟨x, _, rfl, _, y, _, rfl, _, rfl⟩ := h0
  exact law_calls (ng := 0) (ρ := ρ) (n := 1) hmix TA_ok (law4 (x := x) (y := y) hr hp hb) hm (fun _ h => by omega) ⟨_, _, rfl, hrel, _, _, rfl, ⟨_, rfl, _, _, rfl, ⟨rfl, rfl⟩, _, _, rfl, ⟨rfl, rfl⟩, rfl⟩, rfl⟩ hh
end Go.Proofs.Ytffhhgcgnillaaa.Sy
