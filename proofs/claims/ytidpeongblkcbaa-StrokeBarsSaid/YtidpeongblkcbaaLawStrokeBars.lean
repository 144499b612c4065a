/- The row of the law StrokeBars, out of its pure statement and the walk: for every input the law returns true. Conditions: none. -/
import Derived.Test.YtidpeongblkcbaaRows
import Derived.Test.YtidpeongblkcbaaXx12
import Derived.Test.YtidpeongblkcbaaPureStrokeBars
import Derived.Test.YtidpeongblkcbaaXOpen
import Derived.WalkKit
import Derived.ProofKit
import Derived.OpenShut
import Derived.ShutString
import Derived.ChangeOld
import Derived.Below
import Derived.SizedLaws
namespace Go.Proofs.Ytidpeongblkcbaa.strokeBars
open Go.ChangeShapes Go.WideShapes Go.ChangeAt Go.RowKit
open Go.ChangeMaps (open_string shut_string)
open Go.Proofs.YtidpeongblkcbaaW.PrintWords
set_option linter.unusedVariables false
theorem own : ownKnob Try.prog.godebug = none := by kernel_rfl
theorem laidOut : laidOutB Try.prog = true := by kernel_rfl
theorem opens23 : XOpen.Opens Try.prog 23 Go.Proofs.Ytidpeongblkcbaa.X.k23 (fun x_ : Go.Proofs.Ytidpeongblkcbaa.X.S23 => ((-9223372036854775808 ≤ x_.f0 ∧ x_.f0 ≤ 9223372036854775807) ∧ (-9223372036854775808 ≤ x_.f1 ∧ x_.f1 ≤ 9223372036854775807))) := (XOpen.opens_struct (g := (fun x : Go.Proofs.Ytidpeongblkcbaa.X.S23 => (x.f0, x.f1))) (fun p => (⟨p.1, p.2⟩ : Go.Proofs.Ytidpeongblkcbaa.X.S23)) (fun _ => rfl) Try.underlying23 (by kernel_rfl) (XOpen.opensF_cons rfl (by kernel_rfl) (XOpen.opens_i64 Try.underlying3) (XOpen.opensF_one rfl (by kernel_rfl) (XOpen.opens_i64 Try.underlying3))))
set_option maxRecDepth 100000 in
theorem lifted (os : Os) (started : os.Started) (H : Type) (enc : TypeId × Value → H) :
    ReturnsInHanded {} Try.checked os 3 .any (Rows.strokeBarsSpec.pre6 enc Try.prog Try.f3 Rows.strokeBarsRow.domain false) (Rows.strokeBarsSpec.post enc Try.prog Try.f3 false true false false) := by
  refine returnsInHanded_of_change_sized (C := Try.checked) own started (by kernel_rfl) Try.func3
    (ChangeSpec.witness6 (enc := enc) (C := Try.checked) false ⟨#[], #[.agg #[.int .i64 0, .int .i64 0], .agg #[.int .i64 0, .int .i64 0], .int .i64 0], []⟩ 8 (by kernel_rfl) (by kernel_rfl) (by kernel_rfl) (by kernel_rfl)) ?_
  intro W base args ds gs before hval0 hW hcnd hsz0 _
  have hval : ∀ (j : Nat) t v, Try.f3.params[j]? = some t → args[j]? = some v → Value.okWide Try.prog W .any base t v := hval0
  have hW' := hW
  obtain ⟨p, q, hA0, hV, rfl, hfz, hnd⟩ := hW
  have hA : DataW.TrodAll enc Try.prog W 0 (fun _ => true) true Try.f3.params.toList args.toList ds p := hA0
  rw [Try.params3] at hA hval
  obtain ⟨v0, vs0, d0, ds0, p0, q0, hargs, rfl, rfl, h0, r0⟩ := trodAll_cons hA
  obtain ⟨v1, vs1, d1, ds1, p1, q1, rfl, rfl, rfl, h1, r1⟩ := trodAll_cons r0
  obtain ⟨v2, vs2, d2, ds2, p2, q2, rfl, rfl, rfl, h2, r2⟩ := trodAll_cons r1
  obtain ⟨rfl, rfl, rfl⟩ := trodAll_nil r2
  obtain rfl : args = #[v0, v1, v2] := by cases args; simp_all
  obtain ⟨rfl, rfl⟩ := trodVars_none hV
  obtain ⟨cs0, rfl, hz0⟩ := okWide_struct Try.underlying23 (hval 0 23 v0 rfl rfl)
  have k0 := h0
  have lt0 : ∀ x ∈ p0, x.block < W.heap.size := by obtain ⟨m, hm⟩ := k0; exact DataW.trod_lt m _ _ _ hm
  obtain ⟨fuel0, hf0⟩ := h0
  obtain ⟨x0, hK0, y0⟩ := opens23 H enc W 0 (fun _ => true) true fuel0 cs0.toList _ hf0
  have e0 := Go.Proofs.Ytidpeongblkcbaa.X.k23_open hK0
  obtain rfl := XOpen.toArray_of e0
  obtain ⟨cs1, rfl, hz1⟩ := okWide_struct Try.underlying23 (hval 1 23 v1 rfl rfl)
  have k1 := h1
  have lt1 : ∀ x ∈ p1, x.block < W.heap.size := by obtain ⟨m, hm⟩ := k1; exact DataW.trod_lt m _ _ _ hm
  obtain ⟨fuel1, hf1⟩ := h1
  obtain ⟨x1, hK1, y1⟩ := opens23 H enc W 0 (fun _ => true) true fuel1 cs1.toList _ hf1
  have e1 := Go.Proofs.Ytidpeongblkcbaa.X.k23_open hK1
  obtain rfl := XOpen.toArray_of e1
  obtain ⟨a2, rfl, rfl, rfl, w2⟩ := open_int Try.underlying3 (hval 2 3 v2 rfl rfl) h2
  have y2 := bounds_i64 w2
  clear hA0 hval0 hsz0
  refine (X.limnerlaw07_StrokeBars.walk Pure.StrokeBars x0.f0 x0.f1 x1.f0 x1.f1 a2 W  y0 y1 y2).mono fun e W' ⟨he, bel⟩ => ?_
  subst he
  exact ⟨_, rfl, _, _, _, [], _, [], hW', trodAll_mk1 (shut_bool Try.underlying4 _), (trodAll_cons_mk (Below.trod laidOut (by kernel_rfl) (of_decide_eq_true (by kernel_rfl)) k0 bel lt0) (trodAll_cons_mk (Below.trod laidOut (by kernel_rfl) (of_decide_eq_true (by kernel_rfl)) k1 bel lt1) (trodAll_cons_mk (shut_int Try.underlying3 w2) trodAll_mk0))), rfl, bel.frame _, fun h => by cases h⟩
theorem over : Rows.strokeBarsRow.holds Try.pinned (OpenSpec.ofChange Rows.strokeBarsSpec) :=
  OpenClaim.holds_of_wide 3 Try.f3 rfl rfl rfl rfl rfl rfl rfl ⟨rfl, rfl, rfl, rfl, rfl⟩ rfl rfl rfl rfl rfl (by kernel_rfl) Try.func3 (by kernel_rfl)
    (of_decide_eq_true (by kernel_rfl)) (by unfold Func.isWrapper; first | (rw [if_pos (by decide +kernel)]; kernel_rfl) | (rw [if_neg (by decide +kernel)]; exact ⟨rfl, rfl⟩))
    (fun os started H enc _ => lifted os started H enc)
theorem proved : Rows.StrokeBarsSaid := over
#print axioms proved
end Go.Proofs.Ytidpeongblkcbaa.strokeBars
namespace Go.Proofs.Ytidpeongblkcbaa
/-- The row, under a short name, for the claim. -/
theorem strokeBars_holds : Rows.StrokeBarsSaid := strokeBars.proved
end Go.Proofs.Ytidpeongblkcbaa
