/- An evaluator of a part of Go's operations over a memory of its own, part seven: rows that are made, append, copy, min and max. Conditions: those that each theorem names. -/
import Derived.Test.YtkdbnmohpanpfaaSyF
namespace Go.Proofs.Ytkdbnmohpanpfaa.Sy
open Go
set_option linter.unusedVariables false
set_option linter.unusedSimpArgs false

section
variable {P : Program} {ρ : Loc} {n : Nat} {w : World} {m : Mem} {o : Oper} {a : Act} {ng : Nat} {env : Nat → Reg}

theorem rep_get (z : List Value) (hz : 0 < z.length) : ∀ (k i : Nat), i < k * z.length → (List.replicate k z).flatten[i]? = some (z.toArray[i % z.length]!)
  | 0, i, h => by simp at h
  | k + 1, i, h => by
    simp only [List.replicate_succ, List.flatten_cons]
    rcases Nat.lt_or_ge i z.length with h1 | h1
    · rw [List.getElem?_append_left h1, Nat.mod_eq_of_lt h1]
      simp [h1]
    · rw [List.getElem?_append_right h1, rep_get z hz k (i - z.length) (by rw [Nat.add_mul] at h; omega)]
      congr 2
      rw [Nat.mod_eq_sub_mod h1]

theorem rep_arr (z : List Value) (hz : 0 < z.length) (k : Nat) : ((Array.range (k * z.length)).map (z.toArray[· % z.toArray.size]!)) = (List.replicate k z).flatten.toArray := by
  apply Array.ext'
  apply List.ext_getElem?
  intro i
  by_cases hi : i < k * z.length
  · rw [rep_get z hz k i hi]
    simp [hi]
  · have h1 : (List.replicate k z).flatten.length = k * z.length := by simp
    rw [List.getElem?_eq_none (by simp; omega)]
    exact (List.getElem?_eq_none (by simp; omega)).symm

theorem rep_one {z : List Value} (h : ∀ x ∈ z, x.oneCell' = true) (k : Nat) : ∀ x ∈ (List.replicate k z).flatten, x.oneCell' = true := by
  intro x hx
  simp only [List.mem_flatten, List.mem_replicate] at hx
  obtain ⟨l, ⟨_, rfl⟩, h2⟩ := hx
  exact h x h2

theorem sl_new {w' : World} (t : TypeId) (vs rest : List Value) (len cap sz : Nat) (c : Option Nat) (hw : w' = w.alloc (.cells (vs ++ rest).toArray t)) (hl : len ≤ cap) (hsz : cap * sz ≤ (vs ++ rest).length) (hc : ∀ x, c = some x → cap = x) :
    RRel (upd ρ n (w.heap.size, 0)) (n + 1) w' (.one (.sl n 0 len c sz)) (.slice (some ⟨w.heap.size, 0, none⟩) len cap) := by
  subst hw
  simp only [RRel, CRel, upd_same]
  refine ⟨Nat.lt_succ_self _, 0, cap, rfl, fun _ => rfl, hl, hc, fun j hj => ?_⟩
  rw [Nat.zero_add, World.cell?_alloc_new]
  simp
  simp at hsz
  omega

theorem d_bslice {t e : TypeId} {len : Nat} {ps : Array (Nat × Operand)} {qs : List (Nat × Nat × O)} {z : List Value} {s : Nat} {cs : List Cell} (ho : o.op = .buildSlice t len ps) (hm : MRel ρ n w m) (hg : Glob ng ρ n) (he : ERel ρ n w env a)
    (hu : P.underlying t = some (.slice e)) (hs : tsz P e = some s) (hz : tzero P e = some z) (hzl : z.length = s) (hs0 : 0 < s) (hle : len * s ≤ 16777216) (hq : slimParts ng (fun i => some (i * s, s)) ps.toList = some qs)
    (hf : fillC env ((List.replicate len z).flatten.map .sc) qs = some cs) : Does P o a ρ n w m (.one (.sl n 0 len (some len) s)) (upd m n (some ⟨cs, true⟩)) (n + 1) := by
  obtain ⟨i, v, h1, h2, h3, h4⟩ := tzero_inv hz
  obtain ⟨vs', h5, h6⟩ := fill_rel hg he hq (CRels.sc _ (rep_one h4 len)) hf
  have hst := Step.alloc hm cs vs' e h6
  have hlen : vs'.length = len * s := by
    rw [CRels.length _ _ h6]
    have : ∀ (qs : List (Nat × Nat × O)) (l cs : List Cell), fillC env l qs = some cs → cs.length = l.length := by
      intro qs
      induction qs with
      | nil => intro l cs h; simp only [fillC, Option.some.injEq] at h; rw [h]
      | cons q qs ih =>
        intro l cs h
        obtain ⟨off, size, x⟩ := q
        simp only [fillC] at h
        split at h
        · split at h
          · rw [ih _ _ h, setL_length]
          · cases h
        · cases h
    rw [this _ _ _ hf]
    simp [hzl]
  refine does_run (v := .slice (some ⟨w.heap.size, 0, none⟩) len len) ?_ hst (sl_new e vs' [] len len s (some len) (by simp) (Nat.le_refl _) (by simp [hlen]) (fun x h => by cases h; rfl))
  have hbig : ¬ (2 ^ 24 < len * s) := by omega
  have h7 := rep_arr z (by omega) len
  rw [hzl] at h7
  simp only [execOp, ho, Instr.buildSlice, Sem.run_bind, run_underlying hu, Result.andThen_ok, run_sizeOf_tsz hs, gt_iff_lt, hbig, if_false]
  by_cases e0 : len * s = 0
  · have e1 : len = 0 := by
      rcases Nat.mul_eq_zero.1 e0 with h | h
      · exact h
      · omega
    subst e1
    simp only [List.replicate_zero, List.flatten_nil] at h5
    simp only [Nat.zero_mul, if_true, Sem.run_bind, Sem.run_pure, Result.andThen_ok]
    rw [show ((Array.range 0).map fun x => (#[] : Array Value)[x % (#[] : Array Value).size]!) = [].toArray from Array.eq_empty_of_size_eq_zero (by simp)]
    simp [h5, newRow]
  · simp only [e0, if_false, Sem.run_bind, run_zeroValue' h1 h2, Result.andThen_ok, Sem.run_pure, h3]
    rw [h7]
    simp [h5, newRow]

theorem d_mkslice {t e : TypeId} {x y : Operand} {x' y' : O} {z : List Value} {s by' : Nat} {l c : Int} (ho : o.op = .makeSlice t x y) (hm : MRel ρ n w m) (hg : Glob ng ρ n) (he : ERel ρ n w env a) (hx : slimO ng x = some x') (hy : slimO ng y = some y')
    (hu : P.underlying t = some (.slice e)) (hs : tsz P e = some s) (hb : tby P e = some by') (hz : tzero P e = some z) (hzl : z.length = s) (hs0 : 0 < s) (hb1 : by' ≤ 4096)
    (hl : evO env x' = .one (.sc (.int .i64 l))) (hc : evO env y' = .one (.sc (.int .i64 c))) (h0 : 0 ≤ l) (h1 : l ≤ c) (h2 : c ≤ 4294967296) :
    Does P o a ρ n w m (.one (.sl n 0 l.toNat (some c.toNat) s)) (upd m n (some ⟨(List.replicate c.toNat (z.map .sc)).flatten, true⟩)) (n + 1) := by
  obtain ⟨i, v, g1, g2, g3, g4⟩ := tzero_inv hz
  have hx1 := evO_rel hx hg he
  rw [hl] at hx1
  have hx2 := sc_inv hx1
  have hy1 := evO_rel hy hg he
  rw [hc] at hy1
  have hy2 := sc_inv hy1
  have hcs : CRels ρ n w (List.replicate c.toNat (z.map Cell.sc)).flatten (List.replicate c.toNat z).flatten := by
    have := CRels.sc (ρ := ρ) (n := n) (w := w) _ (rep_one g4 c.toNat)
    rwa [List.map_flatten, List.map_replicate] at this
  have hst := Step.alloc hm _ _ e hcs
  have hlen : (List.replicate c.toNat z).flatten.length = c.toNat * s := by simp [hzl]
  refine does_run (v := .slice (some ⟨w.heap.size, 0, none⟩) l.toNat c.toNat) ?_ hst (sl_new e (List.replicate c.toNat z).flatten [] l.toNat c.toNat s (some c.toNat) (by simp) (by omega) (by rw [List.append_nil, hlen]; exact Nat.le_refl _) (fun x h => by cases h; rfl))
  have hby : i.bytes = by' := by unfold tby at hb; rw [g1] at hb; simpa using hb
  have hwl : IntKind.i64.wrap l = l := by simp [IntKind.wrap, IntKind.bits, IntKind.signed]; omega
  have hwc : IntKind.i64.wrap c = c := by simp [IntKind.wrap, IntKind.bits, IntKind.signed]; omega
  have hbig : ¬ ((by' : Int) * c > 281474976710656) := by
    have : (by' : Int) * c ≤ 4096 * 4294967296 := Int.mul_le_mul (by omega) h2 (by omega) (by omega)
    omega
  have h7 := rep_arr z (by omega) c.toNat
  rw [hzl] at h7
  have n1 : ¬ (c < 0) := by omega
  have n2 : ¬ (l < 0) := by omega
  have n3 : ¬ (l > c) := by omega
  simp only [execOp, ho, hx2, hy2, Instr.makeSlice, Sem.run_bind, run_underlying hu, Result.andThen_ok, asInt, asIntOf, Sem.run_pure, typeInfo, run_program, g1, hby, hwl, hwc]
  have hcond : ((decide (c < 0) || decide ((by' : Int) * c > 2 ^ 48)) || decide (l < 0) || decide (l > c)) = false := by
    simp [n1, n2, n3]; omega
  simp only [hcond, Bool.false_eq_true, if_false]
  have hroom : ∀ k W, (askRoom k).run P W = .ok () W := by
    intro k W
    unfold askRoom
    split <;> rfl
  simp only [Sem.run_bind, hroom, Result.andThen_ok, run_sizeOf_tsz hs]
  by_cases e0 : c.toNat * s = 0
  · have e1 : c.toNat = 0 := by
      rcases Nat.mul_eq_zero.1 e0 with h | h
      · exact h
      · omega
    simp only [e1, Nat.zero_mul, if_true, Sem.run_bind, Sem.run_pure, Result.andThen_ok]
    rw [show ((Array.range 0).map fun x => (#[] : Array Value)[x % (#[] : Array Value).size]!) = [].toArray from Array.eq_empty_of_size_eq_zero (by simp)]
    simp [newRow]
  · simp only [e0, if_false, Sem.run_bind, run_zeroValue' g1 g2, Result.andThen_ok, Sem.run_pure, g3]
    rw [h7]
    simp [newRow]

theorem newsOf_rel {s k : Nat} {r : Reg} {x : Value} {cs : List Cell} (hm : MRel ρ n w m) (hr : RRel ρ n w r x) (h : newsOf m s r = some (k, cs)) :
    ∃ vs : List Value, CRels ρ n w cs vs ∧ vs.length = k * s ∧ cs.length = k * s ∧ (∀ W, (Builtin.lenOf x).run P W = .ok k W) ∧ (∀ W : World, (∀ y, W.cell? y = w.cell? y) → ∀ j, j ≤ k → (Builtin.firstCells s j x).run P W = .ok (vs.take (j * s)).toArray W) := by
  unfold newsOf at h
  split at h
  · cases h
    have := nils_inv hr
    subst this
    exact ⟨[], by simp [CRels], by simp, by simp, fun W => rfl, fun W _ j hj => by
      have : j = 0 := by omega
      subst this; simp [Builtin.firstCells]⟩
  · rename_i id off len cp sz'
    split at h
    case isFalse => cases h
    rename_i hsz
    subst hsz
    obtain ⟨cs', h1, h2⟩ := Option.map_eq_some_iff.1 h
    cases h2
    obtain ⟨hid, oo, cpp, rfl, ho1, hlc, _, _⟩ := sl_inv hr
    obtain ⟨_, hl, vs, h3, h4⟩ := rd_cells hm h1
    have hlv := CRels.length _ _ h3
    refine ⟨vs, h3, by omega, hl, fun W => rfl, fun W hW j hj => ?_⟩
    rcases Nat.eq_zero_or_pos (j * sz') with hj0 | hj0
    · simp [Builtin.firstCells, hj0, loadCells, loadCellsFrom]
    · have : cpp ≠ 0 := by
        intro e
        have : j = 0 := by omega
        subst this
        omega
      have := ho1 this
      subst this
      have hjl : (vs.take (j * sz')).length = j * sz' := by
        rw [List.length_take, hlv, hl]
        have := Nat.mul_le_mul_right sz' hj
        omega
      have := run_loadCells_list (P := P) W ⟨(ρ id).1, (ρ id).2 + off, none⟩ (vs.take (j * sz')) (fun i v hi => by
        rw [Addr.add0, hW]
        exact h4 i v (by
          have hlt := (List.getElem?_eq_some_iff.1 hi).1
          rw [hjl] at hlt
          rwa [List.getElem?_take_of_lt hlt] at hi))
      rw [hjl] at this
      simpa [Builtin.firstCells] using this
  · cases h

end
end Go.Proofs.Ytkdbnmohpanpfaa.Sy
