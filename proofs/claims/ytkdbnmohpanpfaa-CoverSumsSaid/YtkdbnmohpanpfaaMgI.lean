import Derived.Test.YtkdbnmohpanpfaaMgH
/- The library's sort at crossings: it does what is told. Conditions: none. -/
namespace Go.Proofs.Ytkdbnmohpanpfaa.Sy
open Go Go.Proofs Go.Shelf Go.RowKit Go.Lib Go.Sort
set_option linter.unusedVariables false

def encV (x : XC) : List Value := [.int .i64 x.1, .int .i64 x.2]
def cfX (x y : XC) : Int := Lib.compareInt x.1 y.1
theorem ltOf_X : ltOf cfX = ltX := by
  funext x y
  unfold ltOf cfX Lib.compareInt ltX
  by_cases h1 : x.1 < y.1
  · simp [h1]
  · by_cases h2 : y.1 < x.1 <;> simp [h1, h2]

set_option maxHeartbeats 1000000 in
theorem closureX (x y : XC) (W : World) : Calls Try.prog 44 #[.agg #[.int .i64 x.1, .int .i64 x.2], .agg #[.int .i64 y.1, .int .i64 y.2]] W fun e w' => e = .returned (.int .i64 (Lib.compareInt x.1 y.1)) ∧ ∃ q os', w' = grow (W.drewN q) os' := by
  have hcon := fun W' => AnyG.cmp_Compare_int Try.cmpX x.1 y.1 W'
  change ∀ W', Calls Try.prog 45 _ _ _ at hcon
  generalize Lib.compareInt x.1 y.1 = r at hcon ⊢
  go_enter Try.func44, Try.ntmps44
  go_wp2_with (go_at_call 45; refine (hcon _).mono ?_; rintro e w' ⟨rfl, rfl⟩)
  go_ret
  exact ⟨rfl, 0, _, by rw [alloc_eq_grow, alloc_eq_grow, grow_grow]; rfl⟩

theorem flat_get : ∀ (l : List XC) (t : Nat), t < 2 * l.length → (l.flatMap encX)[t]? = some (.sc ((encV l.toArray[t / 2]!)[t % 2]!))
  | [], t, h => by simp at h
  | x :: l, 0, _ => rfl
  | x :: l, 1, _ => rfl
  | x :: l, t + 2, h => by
    have ih := flat_get l t (by simp at h; omega)
    have e1 : (t + 2) / 2 = t / 2 + 1 := by omega
    have e2 : (t + 2) % 2 = t % 2 := by omega
    have e3 : (x :: l).toArray[t / 2 + 1]! = l.toArray[t / 2]! := by
      simp at h
      rw [getElem!_pos _ _ (by simp; omega), getElem!_pos _ _ (by simp; omega)]
      simp
    rw [e1, e2, e3, ← ih]
    rfl
theorem flat_len (l : List XC) : (l.flatMap encX).length = 2 * l.length := by
  induction l with
  | nil => rfl
  | cons x l ih => rw [List.flatMap_cons, List.length_append, ih]; simp [encX]; omega

/-- The world behind a sort, seen by the evaluator. -/
theorem sort_step {ρ : Loc} {n : Nat} {w : World} {m : Mem} {id : Nat} {l l' : List XC} {q : Nat} {os : Array Obj} (hm : MRel ρ n w m) (hb : m id = some ⟨l.flatMap encX, true⟩) (hl : l'.length = l.length)
    (hH : HoldsK encV 2 w (ρ id).1 (ρ id).2 l.toArray) : Step ρ n w m ρ n (sortWorldK encV 2 w (ρ id).1 (ρ id).2 q l'.toArray os) (upd m id (some ⟨l'.flatMap encX, true⟩)) := by
  obtain ⟨w', hw'⟩ : ∃ w', w' = sortWorldK encV 2 w (ρ id).1 (ρ id).2 q l'.toArray os := ⟨_, rfl⟩
  have hblk := hm.blk id _ hb
  have hnew := holdsK_sortWorldK_c encV 2 w (ρ id).1 (ρ id).2 l.toArray l'.toArray q os hH hblk (by simpa using hl)
  have hoth : ∀ a : Addr, a.block < w.heap.size → (a.block ≠ (ρ id).1 ∨ a.off < (ρ id).2 ∨ (ρ id).2 + 2 * l.length ≤ a.off) → w'.cell? a = w.cell? a := fun a ha h => by
    rw [hw']
    unfold sortWorldK putRowK
    rw [cell?_grow _ _ _ (by simpa using ha), cell?_putRow_other]
    · rfl
    · rw [size_flatK]; simp only [List.size_toArray]; omega
  have hfz : ∀ a : Addr, a.block < w.heap.size → w'.frozen? a = w.frozen? a := fun a ha => by
    rw [hw']
    unfold sortWorldK putRowK
    rw [frozen?_grow _ _ _ (by simpa using ha), frozen?_putRow]
    rfl
  rw [← hw'] at hnew ⊢
  have hin : ∀ t, t < 2 * l.length → w'.cell? ⟨(ρ id).1, (ρ id).2 + t, none⟩ = some ((encV l'.toArray[t / 2]!)[t % 2]!) := fun t ht => by
    have h := (hnew t (by rw [size_flatK]; simp only [List.size_toArray]; omega)).1
    rw [get_flatK _ _ _ _ (by simp only [List.size_toArray]; omega)] at h
    exact h
  have hsz : w.heap.size ≤ w'.heap.size := by rw [hw']; exact size_sortWorldK_c encV 2 w _ _ q _ os
  have live : ∀ a : Addr, (w.cell? a).isSome = true → (w'.cell? a).isSome = true := fun a ha => by
    have hlt : a.block < w.heap.size := by
      rcases Nat.lt_or_ge a.block w.heap.size with h | h
      · exact h
      · unfold World.cell? at ha
        rw [Array.getElem?_eq_none h] at ha
        cases ha
    by_cases hc : a.block ≠ (ρ id).1 ∨ a.off < (ρ id).2 ∨ (ρ id).2 + 2 * l.length ≤ a.off
    · rw [hoth a hlt hc]; exact ha
    · have hs : a.spot = none := by
        unfold World.cell? at ha
        split at ha
        · split at ha
          · cases ha
          · rename_i h; simpa using h
        · cases ha
      have ea : a = ⟨(ρ id).1, (ρ id).2 + (a.off - (ρ id).2), none⟩ := by
        obtain ⟨ab, ao, asp⟩ := a
        simp only at hs hc ⊢
        subst hs
        have h1 : ab = (ρ id).1 := by omega
        have h2 : (ρ id).2 + (ao - (ρ id).2) = ao := by omega
        rw [h1, h2]
      rw [ea, hin _ (by omega)]
      rfl
  have hle : Le ρ n w ρ n w' := ⟨Nat.le_refl _, fun _ _ => rfl, live⟩
  refine ⟨hle, ⟨fun i b hb' => ?_, fun i b hb' => ?_, fun i b hb' k c hk => ?_, fun i b hb' ho o => ?_, fun i b hb' ho i' b' hb'' hne => ?_⟩, ?_, fun i b hi hb' => ?_, fun i b hi hb' => ?_⟩
  · by_cases hi : i = id
    · subst hi; exact hm.lt _ _ hb
    · rw [upd_ne _ _ hi] at hb'; exact hm.lt i b hb'
  · by_cases hi : i = id
    · subst hi; exact Nat.lt_of_lt_of_le hblk hsz
    · rw [upd_ne _ _ hi] at hb'; exact Nat.lt_of_lt_of_le (hm.blk i b hb') hsz
  · by_cases hi : i = id
    · subst hi
      rw [upd_same] at hb'
      cases hb'
      simp only at hk
      have hkl : k < 2 * l'.length := by
        have := (List.getElem?_eq_some_iff.1 hk).1
        rw [flat_len] at this
        exact this
      rw [flat_get l' k hkl] at hk
      cases hk
      refine ⟨_, hin k (by omega), ?_⟩
      simp only [CRel]
      refine ⟨trivial, ?_⟩
      have : k % 2 = 0 ∨ k % 2 = 1 := by omega
      rcases this with h | h <;> rw [h] <;> rfl
    · rw [upd_ne _ _ hi] at hb'
      obtain ⟨v, h1, h2⟩ := hm.cells i b hb' k c hk
      refine ⟨v, ?_, CRel.mono hle c v h2⟩
      rw [hoth _ (hm.blk i b hb') (Or.inl (hm.apart id _ hb rfl i b hb' hi))]
      exact h1
  · by_cases hi : i = id
    · subst hi
      rw [hfz _ hblk]
      exact hm.soft _ _ hb rfl o
    · rw [upd_ne _ _ hi] at hb'
      rw [hfz _ (hm.blk i b hb')]
      exact hm.soft i b hb' ho o
  · have h1 : ∃ b1, m i = some b1 ∧ b1.own = true := by
      by_cases hi : i = id
      · subst hi; exact ⟨_, hb, rfl⟩
      · rw [upd_ne _ _ hi] at hb'; exact ⟨b, hb', ho⟩
    have h2 : ∃ b1, m i' = some b1 := by
      by_cases hi : i' = id
      · subst hi; exact ⟨_, hb⟩
      · rw [upd_ne _ _ hi] at hb''; exact ⟨b', hb''⟩
    obtain ⟨b1, h3, h4⟩ := h1
    obtain ⟨b2, h5⟩ := h2
    exact hm.apart i b1 h3 h4 i' b2 h5 hne
  · refine ⟨by rw [hw']; rfl, by rw [hw']; rfl, by rw [hw']; rfl, hsz, fun k hk hno => ?_⟩
    have hne : (ρ id).1 ≠ k := fun e => hno ⟨id, _, hb, rfl, e⟩
    rw [hw']
    unfold sortWorldK putRowK putRow mapBlock grow
    simp only [Array.getElem?_append, Array.size_modify, Sort.heap_ahead, Array.getElem?_modify, if_neg hne]
    rw [if_pos hk]
  · by_cases h : i = id
    · subst h
      rw [upd_same] at hb'
      cases hb'
      exact ⟨_, hb, fun _ => rfl⟩
    · rw [upd_ne _ _ h] at hb'
      exact ⟨b, hb', fun x => x⟩
  · have := (show i < n from by
      by_cases h : i = id
      · subst h; exact hm.lt _ _ hb
      · rw [upd_ne _ _ h] at hb'; exact hm.lt i b hb')
    omega

theorem sort_ok : NatOK Try.prog 0 43 (sortNat 44) := by
  intro args m n r m' n' h ρ w vs hm hg hargs
  refine ⟨⟨Try.f43, Try.func43, by kernel_rfl, by kernel_rfl⟩, ?_⟩
  unfold sortNat at h
  split at h
  case h_3 => cases h
  · rename_i g'
    split at h
    case isFalse => cases h
    rename_i hg'
    subst hg'
    cases h
    simp only [RRels, RRel, CRel, CRels] at hargs
    obtain ⟨_, _, rfl, ⟨rfl, _⟩, _, _, rfl, ⟨_, rfl, rfl⟩, rfl⟩ := hargs
    refine (AnyF.slices_SortFunc_none Try.sortX none 0 _ w).mono ?_
    rintro e w' ⟨rfl, rfl⟩
    exact ⟨_, ρ, rfl, Step.refl hm, by simp only [RRel]; exact ⟨[], rfl, by simp [RRels]⟩⟩
  · rename_i id len g'
    split at h
    case isFalse => cases h
    rename_i hg'
    obtain ⟨rfl, hlen⟩ := hg'
    split at h
    case h_2 => cases h
    rename_i cs hcs
    split at h
    case h_2 => cases h
    rename_i l hl
    split at h
    case isFalse => cases h
    rename_i hll
    cases h
    have hb := hcs
    rw [decX_inv hl] at hb
    simp only [RRels, RRel, CRel, CRels] at hargs
    obtain ⟨_, _, rfl, ⟨hid, o, cp, rfl, ho, hcp, _, _⟩, _, _, rfl, ⟨_, rfl, rfl⟩, rfl⟩ := hargs
    have hblk := hm.blk id _ hb
    by_cases hz : l.length = 0
    · have hl0 : l = [] := List.length_eq_zero_iff.1 hz
      subst hl0
      rw [← hll]
      refine (AnyF.slices_SortFunc_none Try.sortX (some ⟨(ρ id).1, o, none⟩) cp _ w).mono ?_
      rintro e w' ⟨rfl, rfl⟩
      have hsame : upd m id (some ⟨(sortX []).flatMap encX, true⟩) = m := by
        rw [show sortX [] = [] from List.length_eq_zero_iff.1 (sortX_len [])]
        funext i
        by_cases hi : i = id
        · subst hi; rw [upd_same, hb]
        · rw [upd_ne _ _ hi]
      rw [hsame]
      exact ⟨_, ρ, rfl, Step.refl hm, by simp only [RRel]; exact ⟨[], rfl, by simp [RRels]⟩⟩
    · have eo : o = (ρ id).2 := by have := ho (by omega); omega
      subst eo
      have hH : HoldsK encV 2 w (ρ id).1 (ρ id).2 l.toArray := fun t ht => by
        rw [size_flatK] at ht
        simp only [List.size_toArray] at ht
        obtain ⟨v, h1, h2⟩ := hm.cells id _ hb t _ (flat_get l t (by omega))
        simp only [CRel] at h2
        rw [get_flatK _ _ _ _ (by simp only [List.size_toArray]; omega)]
        rw [h2.1] at h1
        exact ⟨h1, hm.soft id _ hb rfl _⟩
      have eg : ∀ args w, (callFunc 44 args).run Try.prog w = .ok (.enter 44 args) w := enters_of Try.func44 (by kernel_rfl) rfl
      have hcon := AnyQ.slices_SortFunc_eq Try.sortX 2 Try.isAgg64 Try.sizeOf64 encV (fun _ => rfl) (fun x v hv => by simp [encV] at hv; rcases hv with rfl | rfl <;> rfl) cfX (by rw [ltOf_X]; exact swoX) 44 #[] (ρ id).1 (ρ id).2 cp l.toArray w eg
        (fun _ _ _ _ x y => closureX x y _) hH hblk (by simp only [List.size_toArray]; omega)
      rw [ltOf_X] at hcon
      simp only [List.size_toArray] at hcon
      rw [hll] at hcon
      refine hcon.mono ?_
      rintro e w' ⟨rfl, q, os, rfl⟩
      have hs := sort_step (q := q) (os := os) (l' := sortX l) hm hb (sortX_len l) hH
      have e : (sortX l).toArray = pdq ltX l.toArray 0 len (Lib.bitLen len) true true := by
        rw [sortX_eq]
        unfold pdqX
        simp only [List.size_toArray]
        rw [hll]
      rw [e] at hs
      exact ⟨_, ρ, rfl, hs, by simp only [RRel]; exact ⟨[], rfl, by simp [RRels]⟩⟩
end Go.Proofs.Ytkdbnmohpanpfaa.Sy

/- The row CoverSums. Conditions: those that each theorem names. -/
namespace Go.Proofs.Ytkdbnmohpanpfaa.Sy
open Go Go.Proofs
open Go.RowKit Go.ChangeShapes Go.WideShapes Go.Deep
set_option linter.unusedVariables false
theorem rowL5 (hmix : Try.prog.follows .mixedOrders = true) (W : World) (v0 : Value) (h0 : SlE W ptK v0) (v1 : Value) (h1 : SlE W ptK v1) :
    Calls Try.prog 5 #[v0, v1] W (fun e w' => e = .returned (.bool true) ∧ Go.RowKit.Below W.heap.size W w') := by
  obtain ⟨ρ, n, m, cs, hm, hh, _, _, hl, hcs⟩ := lay_list [v0, v1] (noMem (fun _ => (0, 0)) 0 W) held_none (by intro x hx; simp at hx; rcases hx with rfl | rfl; exact h0; exact h1)
  match cs, hl with
  | [c0, c1], _ =>
    obtain ⟨r0, l0, p0, _⟩ := hcs 0 c0 v0 rfl rfl
    obtain ⟨r1, l1, p1, _⟩ := hcs 1 c1 v1 rfl rfl
    exact law_calls (ng := 0) (ρ := ρ) (n := n) hmix (TA_ok sort_ok) (law5 c0 c1 l0 l1 m n p0 p1) hm (fun _ h => by omega) ⟨_, _, rfl, r0, _, _, rfl, r1, rfl⟩ hh
set_option maxRecDepth 100000 in
theorem open40 {H : Type} {enc : TypeId × Value → H} {w : World} {base base' : Nat} {held : Bool} {v : Value} {d : DataW H} {ps : List MemPlace} (hv : Value.okWide Try.prog w .any base' 40 v) (h : DataW.Trod enc Try.prog w base (fun _ => true) held 40 v d ps) : SlE w ptK v := by
  exact Or.inl (arg_slice (ks := ptK) (k := 8) Try.underlying40 (by kernel_rfl) (by kernel_rfl) (by decide) hv h)
end Go.Proofs.Ytkdbnmohpanpfaa.Sy
