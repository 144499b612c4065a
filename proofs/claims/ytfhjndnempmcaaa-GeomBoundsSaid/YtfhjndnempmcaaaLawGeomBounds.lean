/- The row of the law GeomBounds, out of its pure statement and the walk: for every input the law returns true. Conditions: none. -/
import Derived.Test.YtfhjndnempmcaaaRows
import Derived.Test.YtfhjndnempmcaaaXx15
import Derived.Test.YtfhjndnempmcaaaPureGeomBounds
import Derived.Test.YtfhjndnempmcaaaXOpen
import Derived.WalkKit
import Derived.ProofKit
import Derived.OpenShut
import Derived.ShutString
import Derived.ChangeOld
import Derived.Below
import Derived.SizedLaws
namespace Go.Proofs.Ytfhjndnempmcaaa.geomBounds
open Go.ChangeShapes Go.WideShapes Go.ChangeAt Go.RowKit
open Go.ChangeMaps (open_string shut_string)
open Go.Proofs.YtfhjndnempmcaaaW.PrintWords
set_option linter.unusedVariables false
theorem own : ownKnob Try.prog.godebug = none := by kernel_rfl
theorem laidOut : laidOutB Try.prog = true := by kernel_rfl
theorem opens22 : XOpen.Opens Try.prog 22 (Kd.slice 24 Go.Proofs.Ytfhjndnempmcaaa.X.k24) (fun x_ : List (Go.Proofs.Ytfhjndnempmcaaa.X.S24) => (x_.length ≤ maxLen ∧ ∀ x__ : Go.Proofs.Ytfhjndnempmcaaa.X.S24, x__ ∈ x_ → ((-9223372036854775808 ≤ x__.f0 ∧ x__.f0 ≤ 9223372036854775807) ∧ (-9223372036854775808 ≤ x__.f1 ∧ x__.f1 ≤ 9223372036854775807)))) := (XOpen.opens_slice Try.underlying22 (by kernel_rfl) (XOpen.opens_struct (g := (fun x : Go.Proofs.Ytfhjndnempmcaaa.X.S24 => (x.f0, x.f1))) (fun p => (⟨p.1, p.2⟩ : Go.Proofs.Ytfhjndnempmcaaa.X.S24)) (fun _ => rfl) Try.underlying24 (by kernel_rfl) (XOpen.opensF_cons rfl (by kernel_rfl) (XOpen.opens_i64 Try.underlying3) (XOpen.opensF_one rfl (by kernel_rfl) (XOpen.opens_i64 Try.underlying3)))))
set_option maxRecDepth 100000 in
theorem lifted (os : Os) (started : os.Started) (H : Type) (enc : TypeId × Value → H) :
    ReturnsInHanded {} Try.checked os 5 .any (Rows.geomBoundsSpec.pre6 enc Try.prog Try.f5 Rows.geomBoundsRow.domain false) (Rows.geomBoundsSpec.post enc Try.prog Try.f5 false true false false) := by
  refine returnsInHanded_of_change_sized (C := Try.checked) own started (by kernel_rfl) Try.func5
    (ChangeSpec.witness6 (enc := enc) (C := Try.checked) false ⟨#[], #[.slice none 0 0], []⟩ 8 (by kernel_rfl) (by kernel_rfl) (by kernel_rfl) (by kernel_rfl)) ?_
  intro W base args ds gs before hval0 hW hcnd hsz0 _
  have hval : ∀ (j : Nat) t v, Try.f5.params[j]? = some t → args[j]? = some v → Value.okWide Try.prog W .any base t v := hval0
  have hW' := hW
  obtain ⟨p, q, hA0, hV, rfl, hfz, hnd⟩ := hW
  have hA : DataW.TrodAll enc Try.prog W 0 (fun _ => true) true Try.f5.params.toList args.toList ds p := hA0
  rw [Try.params5] at hA hval
  obtain ⟨v0, vs0, d0, ds0, p0, q0, hargs, rfl, rfl, h0, r0⟩ := trodAll_cons hA
  obtain ⟨rfl, rfl, rfl⟩ := trodAll_nil r0
  obtain rfl : args = #[v0] := by cases args; simp_all
  obtain ⟨rfl, rfl⟩ := trodVars_none hV
  obtain ⟨a0, len0, cap0, rfl⟩ := okWide_slice Try.underlying22 (hval 0 22 v0 rfl rfl)
  have k0 := h0
  have lt0 : ∀ x ∈ p0, x.block < W.heap.size := by obtain ⟨m, hm⟩ := k0; exact DataW.trod_lt m _ _ _ hm
  obtain ⟨fuel0, hf0⟩ := h0
  obtain ⟨x0, ⟨A0, c0, e0, hc0, hr0⟩, y0⟩ := opens22 H enc W 0 (fun _ => true) true fuel0 [.slice a0 len0 cap0] _ hf0
  obtain ⟨rfl, rfl, rfl⟩ := Value.slice.inj (List.cons.inj e0).1
  clear hA0 hval0 hsz0
  refine (X.limnerlaw03_GeomBounds.walk Pure.GeomBounds a0 cap0 x0 W hr0 hc0 y0).mono fun e W' ⟨he, bel⟩ => ?_
  subst he
  exact ⟨_, rfl, _, _, _, [], _, [], hW', trodAll_mk1 (shut_bool Try.underlying4 _), (trodAll_cons_mk (Below.trod laidOut (by kernel_rfl) (of_decide_eq_true (by kernel_rfl)) k0 bel lt0) trodAll_mk0), rfl, bel.frame _, fun h => by cases h⟩
theorem over : Rows.geomBoundsRow.holds Try.pinned (OpenSpec.ofChange Rows.geomBoundsSpec) :=
  OpenClaim.holds_of_wide 5 Try.f5 rfl rfl rfl rfl rfl rfl rfl ⟨rfl, rfl, rfl, rfl, rfl⟩ rfl rfl rfl rfl rfl (by kernel_rfl) Try.func5 (by kernel_rfl)
    (of_decide_eq_true (by kernel_rfl)) (by unfold Func.isWrapper; first | (rw [if_pos (by decide +kernel)]; kernel_rfl) | (rw [if_neg (by decide +kernel)]; exact ⟨rfl, rfl⟩))
    (fun os started H enc _ => lifted os started H enc)
theorem proved : Rows.GeomBoundsSaid := over
#print axioms proved
end Go.Proofs.Ytfhjndnempmcaaa.geomBounds
namespace Go.Proofs.Ytfhjndnempmcaaa
/-- The row, under a short name, for the claim. -/
theorem geomBounds_holds : Rows.GeomBoundsSaid := geomBounds.proved
end Go.Proofs.Ytfhjndnempmcaaa
