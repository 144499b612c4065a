/- The row of the law GeomTurns, out of its pure statement and the walk: for every input the law returns true. Conditions: none. -/
import Derived.Test.YtfhjndnempmcaaaRows
import Derived.Test.YtfhjndnempmcaaaXx13
import Derived.Test.YtfhjndnempmcaaaPureGeomTurns
import Derived.Test.YtfhjndnempmcaaaXOpen
import Derived.WalkKit
import Derived.ProofKit
import Derived.OpenShut
import Derived.ShutString
import Derived.ChangeOld
import Derived.Below
import Derived.SizedLaws
namespace Go.Proofs.Ytfhjndnempmcaaa.geomTurns
open Go.ChangeShapes Go.WideShapes Go.ChangeAt Go.RowKit
open Go.ChangeMaps (open_string shut_string)
open Go.Proofs.YtfhjndnempmcaaaW.PrintWords
set_option linter.unusedVariables false
theorem own : ownKnob Try.prog.godebug = none := by kernel_rfl
theorem laidOut : laidOutB Try.prog = true := by kernel_rfl
theorem opens22 : XOpen.Opens Try.prog 22 (Kd.slice 24 Go.Proofs.Ytfhjndnempmcaaa.X.k24) (fun x_ : List (Go.Proofs.Ytfhjndnempmcaaa.X.S24) => (x_.length ≤ maxLen ∧ ∀ x__ : Go.Proofs.Ytfhjndnempmcaaa.X.S24, x__ ∈ x_ → ((-9223372036854775808 ≤ x__.f0 ∧ x__.f0 ≤ 9223372036854775807) ∧ (-9223372036854775808 ≤ x__.f1 ∧ x__.f1 ≤ 9223372036854775807)))) := (XOpen.opens_slice Try.underlying22 (by kernel_rfl) (XOpen.opens_struct (g := (fun x : Go.Proofs.Ytfhjndnempmcaaa.X.S24 => (x.f0, x.f1))) (fun p => (⟨p.1, p.2⟩ : Go.Proofs.Ytfhjndnempmcaaa.X.S24)) (fun _ => rfl) Try.underlying24 (by kernel_rfl) (XOpen.opensF_cons rfl (by kernel_rfl) (XOpen.opens_i64 Try.underlying3) (XOpen.opensF_one rfl (by kernel_rfl) (XOpen.opens_i64 Try.underlying3)))))
theorem opens24 : XOpen.Opens Try.prog 24 Go.Proofs.Ytfhjndnempmcaaa.X.k24 (fun x_ : Go.Proofs.Ytfhjndnempmcaaa.X.S24 => ((-9223372036854775808 ≤ x_.f0 ∧ x_.f0 ≤ 9223372036854775807) ∧ (-9223372036854775808 ≤ x_.f1 ∧ x_.f1 ≤ 9223372036854775807))) := (XOpen.opens_struct (g := (fun x : Go.Proofs.Ytfhjndnempmcaaa.X.S24 => (x.f0, x.f1))) (fun p => (⟨p.1, p.2⟩ : Go.Proofs.Ytfhjndnempmcaaa.X.S24)) (fun _ => rfl) Try.underlying24 (by kernel_rfl) (XOpen.opensF_cons rfl (by kernel_rfl) (XOpen.opens_i64 Try.underlying3) (XOpen.opensF_one rfl (by kernel_rfl) (XOpen.opens_i64 Try.underlying3))))
set_option maxRecDepth 100000 in
theorem lifted (os : Os) (started : os.Started) (H : Type) (enc : TypeId × Value → H) :
    ReturnsInHanded {} Try.checked os 4 .any (Rows.geomTurnsSpec.pre6 enc Try.prog Try.f4 Rows.geomTurnsRow.domain false) (Rows.geomTurnsSpec.post enc Try.prog Try.f4 false true false false) := by
  refine returnsInHanded_of_change_sized (C := Try.checked) own started (by kernel_rfl) Try.func4
    (ChangeSpec.witness6 (enc := enc) (C := Try.checked) false ⟨#[], #[.slice none 0 0, .agg #[.int .i64 0, .int .i64 0], .int .i64 0], []⟩ 8 (by kernel_rfl) (by kernel_rfl) (by kernel_rfl) (by kernel_rfl)) ?_
  intro W base args ds gs before hval0 hW hcnd hsz0 _
  have hval : ∀ (j : Nat) t v, Try.f4.params[j]? = some t → args[j]? = some v → Value.okWide Try.prog W .any base t v := hval0
  have hW' := hW
  obtain ⟨p, q, hA0, hV, rfl, hfz, hnd⟩ := hW
  have hA : DataW.TrodAll enc Try.prog W 0 (fun _ => true) true Try.f4.params.toList args.toList ds p := hA0
  rw [Try.params4] at hA hval
  obtain ⟨v0, vs0, d0, ds0, p0, q0, hargs, rfl, rfl, h0, r0⟩ := trodAll_cons hA
  obtain ⟨v1, vs1, d1, ds1, p1, q1, rfl, rfl, rfl, h1, r1⟩ := trodAll_cons r0
  obtain ⟨v2, vs2, d2, ds2, p2, q2, rfl, rfl, rfl, h2, r2⟩ := trodAll_cons r1
  obtain ⟨rfl, rfl, rfl⟩ := trodAll_nil r2
  obtain rfl : args = #[v0, v1, v2] := by cases args; simp_all
  obtain ⟨rfl, rfl⟩ := trodVars_none hV
  obtain ⟨a0, len0, cap0, rfl⟩ := okWide_slice Try.underlying22 (hval 0 22 v0 rfl rfl)
  have k0 := h0
  have lt0 : ∀ x ∈ p0, x.block < W.heap.size := by obtain ⟨m, hm⟩ := k0; exact DataW.trod_lt m _ _ _ hm
  obtain ⟨fuel0, hf0⟩ := h0
  obtain ⟨x0, ⟨A0, c0, e0, hc0, hr0⟩, y0⟩ := opens22 H enc W 0 (fun _ => true) true fuel0 [.slice a0 len0 cap0] _ hf0
  obtain ⟨rfl, rfl, rfl⟩ := Value.slice.inj (List.cons.inj e0).1
  obtain ⟨cs1, rfl, hz1⟩ := okWide_struct Try.underlying24 (hval 1 24 v1 rfl rfl)
  have k1 := h1
  have lt1 : ∀ x ∈ p1, x.block < W.heap.size := by obtain ⟨m, hm⟩ := k1; exact DataW.trod_lt m _ _ _ hm
  obtain ⟨fuel1, hf1⟩ := h1
  obtain ⟨x1, hK1, y1⟩ := opens24 H enc W 0 (fun _ => true) true fuel1 cs1.toList _ hf1
  have e1 := Go.Proofs.Ytfhjndnempmcaaa.X.k24_open hK1
  obtain rfl := XOpen.toArray_of e1
  obtain ⟨a2, rfl, rfl, rfl, w2⟩ := open_int Try.underlying3 (hval 2 3 v2 rfl rfl) h2
  have y2 := bounds_i64 w2
  clear hA0 hval0 hsz0
  refine (X.limnerlaw03_GeomTurns.walk Pure.GeomTurns a0 cap0 x0 x1.f0 x1.f1 a2 W hr0 hc0 y0 y1 y2).mono fun e W' ⟨he, bel⟩ => ?_
  subst he
  exact ⟨_, rfl, _, _, _, [], _, [], hW', trodAll_mk1 (shut_bool Try.underlying4 _), (trodAll_cons_mk (Below.trod laidOut (by kernel_rfl) (of_decide_eq_true (by kernel_rfl)) k0 bel lt0) (trodAll_cons_mk (Below.trod laidOut (by kernel_rfl) (of_decide_eq_true (by kernel_rfl)) k1 bel lt1) (trodAll_cons_mk (shut_int Try.underlying3 w2) trodAll_mk0))), rfl, bel.frame _, fun h => by cases h⟩
theorem over : Rows.geomTurnsRow.holds Try.pinned (OpenSpec.ofChange Rows.geomTurnsSpec) :=
  OpenClaim.holds_of_wide 4 Try.f4 rfl rfl rfl rfl rfl rfl rfl ⟨rfl, rfl, rfl, rfl, rfl⟩ rfl rfl rfl rfl rfl (by kernel_rfl) Try.func4 (by kernel_rfl)
    (of_decide_eq_true (by kernel_rfl)) (by unfold Func.isWrapper; first | (rw [if_pos (by decide +kernel)]; kernel_rfl) | (rw [if_neg (by decide +kernel)]; exact ⟨rfl, rfl⟩))
    (fun os started H enc _ => lifted os started H enc)
theorem proved : Rows.GeomTurnsSaid := over
#print axioms proved
end Go.Proofs.Ytfhjndnempmcaaa.geomTurns
namespace Go.Proofs.Ytfhjndnempmcaaa
/-- The row, under a short name, for the claim. -/
theorem geomTurns_holds : Rows.GeomTurnsSaid := geomTurns.proved
end Go.Proofs.Ytfhjndnempmcaaa
