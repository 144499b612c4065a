/- GeomBounds' pure statement: the bound of points in room has each of them, and each of its sides has one. Conditions: none. -/
import Derived.Test.YtfhjndnempmcaaaXx0
import Derived.Test.YtfhjndnempmcaaaXx14
import Derived.Test.YtfhjndnempmcaaaXx15
import Derived.Test.YtfhjndnempmcaaaPAwake3
namespace Go.Proofs.Ytfhjndnempmcaaa.Pure
open Go.RowKit Go.Proofs.YtfhjndnempmcaaaW.PrintWords Go.Proofs.Ytfhjndnempmcaaa.X Go.Proofs.Ytfhjndnempmcaaa.PNum Go.Proofs.Ytfhjndnempmcaaa.PWide Go.Proofs.Ytfhjndnempmcaaa.PGeo Go.Proofs.Ytfhjndnempmcaaa.PSide Go.Proofs.Ytfhjndnempmcaaa.PAwake3

abbrev Bx := Int × Int × Int × Int
def has (b : Bx) (p : Pt) : Prop := b.1 ≤ p.1 ∧ p.1 < b.2.2.1 ∧ b.2.1 ≤ p.2 ∧ p.2 < b.2.2.2
def full (b : Bx) : Prop := b.1 < b.2.2.1 ∧ b.2.1 < b.2.2.2
theorem jn_full {b : Bx} {p : Pt} (h : full b) : jn b (p.1, p.2, p.1 + 1, p.2 + 1) = (min b.1 p.1, min b.2.1 p.2, max b.2.2.1 (p.1 + 1), max b.2.2.2 (p.2 + 1)) := by
  unfold full at h
  unfold jn
  simp only
  rw [if_neg (by omega), if_neg (by omega), if_neg (by omega)]
theorem jn_first (p : Pt) : jn (0, 0, 0, 0) (p.1, p.2, p.1 + 1, p.2 + 1) = (p.1, p.2, p.1 + 1, p.2 + 1) := by
  unfold jn
  simp only
  rw [if_neg (by omega), if_pos (by omega)]
theorem bnd_spec : ∀ (l : List Pt) (b : Bx), full b → full (bnd b l) ∧ (∀ p, has b p → has (bnd b l) p) ∧ (∀ p ∈ l, has (bnd b l) p) ∧ ((bnd b l).1 = b.1 ∨ ∃ p ∈ l, p.1 = (bnd b l).1) ∧ ((bnd b l).2.1 = b.2.1 ∨ ∃ p ∈ l, p.2 = (bnd b l).2.1) ∧
    ((bnd b l).2.2.1 = b.2.2.1 ∨ ∃ p ∈ l, p.1 = (bnd b l).2.2.1 - 1) ∧ ((bnd b l).2.2.2 = b.2.2.2 ∨ ∃ p ∈ l, p.2 = (bnd b l).2.2.2 - 1) := by
  intro l
  induction l with
  | nil => intro b h; exact ⟨h, fun p hp => hp, fun p hp => (List.not_mem_nil hp).elim, .inl rfl, .inl rfl, .inl rfl, .inl rfl⟩
  | cons q l ih =>
    intro b h
    have hj := jn_full (p := q) h
    have hf : full (jn b (q.1, q.2, q.1 + 1, q.2 + 1)) := by rw [hj]; unfold full at *; simp only; omega
    obtain ⟨i1, i2, i3, i4, i5, i6, i7⟩ := ih _ hf
    have hq : has (jn b (q.1, q.2, q.1 + 1, q.2 + 1)) q := by rw [hj]; unfold has; simp only; omega
    show full (bnd (jn b (q.1, q.2, q.1 + 1, q.2 + 1)) l) ∧ _
    refine ⟨i1, fun p hp => i2 p ?_, fun p hp => ?_, ?_, ?_, ?_, ?_⟩
    · rw [hj]
      unfold has at *
      simp only
      omega
    · rcases List.mem_cons.1 hp with rfl | hp
      · exact i2 _ hq
      · exact i3 p hp
    · rcases i4 with i4 | ⟨p, hp, i4⟩
      · rw [hj] at i4
        simp only at i4
        show (bnd (jn b _) l).1 = b.1 ∨ _
        rw [hj]
        rcases Int.le_total b.1 q.1 with c | c
        · left; omega
        · right; exact ⟨q, by simp, by show q.1 = (bnd (jn b _) l).1; rw [hj]; omega⟩
      · exact .inr ⟨p, by simp [hp], i4⟩
    · rcases i5 with i5 | ⟨p, hp, i5⟩
      · rw [hj] at i5
        simp only at i5
        show (bnd (jn b _) l).2.1 = b.2.1 ∨ _
        rw [hj]
        rcases Int.le_total b.2.1 q.2 with c | c
        · left; omega
        · right; exact ⟨q, by simp, by show q.2 = (bnd (jn b _) l).2.1; rw [hj]; omega⟩
      · exact .inr ⟨p, by simp [hp], i5⟩
    · rcases i6 with i6 | ⟨p, hp, i6⟩
      · rw [hj] at i6
        simp only at i6
        show (bnd (jn b _) l).2.2.1 = b.2.2.1 ∨ _
        rw [hj]
        rcases Int.le_total (q.1 + 1) b.2.2.1 with c | c
        · left; omega
        · right; exact ⟨q, by simp, by show q.1 = (bnd (jn b _) l).2.2.1 - 1; rw [hj]; omega⟩
      · exact .inr ⟨p, by simp [hp], i6⟩
    · rcases i7 with i7 | ⟨p, hp, i7⟩
      · rw [hj] at i7
        simp only at i7
        show (bnd (jn b _) l).2.2.2 = b.2.2.2 ∨ _
        rw [hj]
        rcases Int.le_total (q.2 + 1) b.2.2.2 with c | c
        · left; omega
        · right; exact ⟨q, by simp, by show q.2 = (bnd (jn b _) l).2.2.2 - 1; rw [hj]; omega⟩
      · exact .inr ⟨p, by simp [hp], i7⟩
theorem boxHas (a b c d x y : Int) (h : has (a, b, c, d) (x, y)) : geom_Box_Has.f a b c d x y = some true := by
  unfold has at h
  simp only at h
  unfold geom_Box_Has.f
  rw [if_pos (by omega), if_pos (by omega), if_pos (by omega), decide_eq_true (by omega)]
theorem gbLoop (l : List S24) (r0 r1 r2 r3 : Int) (hlen : (l.length : Int) ≤ 100) (hr2 : -9223372036854775807 ≤ r2 ∧ r2 ≤ 9223372036854775807) (hr3 : -9223372036854775807 ≤ r3 ∧ r3 ≤ 9223372036854775807) (hl : ∀ p ∈ pts l, has (r0, r1, r2, r3) p) (d : Nat) : ∀ (i : Int) (f0 f1 f2 f3 : Bool), 0 ≤ i → i + d = (l.length : Int) →
    (f0 = true ∨ ∃ p ∈ (pts l).drop i.toNat, p.1 = r0) → (f1 = true ∨ ∃ p ∈ (pts l).drop i.toNat, p.2 = r1) → (f2 = true ∨ ∃ p ∈ (pts l).drop i.toNat, p.1 = r2 - 1) → (f3 = true ∨ ∃ p ∈ (pts l).drop i.toNat, p.2 = r3 - 1) →
    Ev (fun k => limnerlaw03_GeomBounds.l0 k l (l.length : Int) i r0 r1 r2 r3 f0 f1 f2 f3) true := by
  induction d with
  | zero =>
    intro i f0 f1 f2 f3 h0 h1 g0 g1 g2 g3
    rw [List.drop_eq_nil_of_le (by rw [pts_length]; omega)] at g0 g1 g2 g3
    have k0 : f0 = true := g0.elim id (fun ⟨p, hp, _⟩ => (List.not_mem_nil hp).elim)
    have k1 : f1 = true := g1.elim id (fun ⟨p, hp, _⟩ => (List.not_mem_nil hp).elim)
    have k2 : f2 = true := g2.elim id (fun ⟨p, hp, _⟩ => (List.not_mem_nil hp).elim)
    have k3 : f3 = true := g3.elim id (fun ⟨p, hp, _⟩ => (List.not_mem_nil hp).elim)
    subst k0 k1 k2 k3
    exact Ev.step (fun _ => limnerlaw03_GeomBounds.l0.eq_2 ..) (evNeg (by omega) (evPos (by decide) (Ev.bind awakeEv (Ev.now _))))
  | succ d ih =>
    intro i f0 f1 f2 f3 h0 h1 g0 g1 g2 g3
    have hi : i < (l.length : Int) := by omega
    have hlt : i.toNat < (pts l).length := by rw [pts_length]; omega
    have e4 : (i + 1).toNat = i.toNat + 1 := by omega
    have e5 : (pts l)[i.toNat] = pt24 (rd_T24 l i) := by rw [rd_eq, List.getD_eq_getElem?_getD, List.getElem?_eq_getElem hlt]; rfl
    have e : (pts l).drop i.toNat = pt24 (rd_T24 l i) :: (pts l).drop (i + 1).toNat := by
      rw [List.drop_eq_getElem_cons hlt, e5, e4]
    have hp : has (r0, r1, r2, r3) (pt24 (rd_T24 l i)) := hl _ (by rw [← e5]; exact List.getElem_mem hlt)
    rw [e] at g0 g1 g2 g3
    have up : ∀ (f : Bool) (P : Pt → Prop) (t : Bool), (f = true ∨ ∃ p ∈ pt24 (rd_T24 l i) :: (pts l).drop (i + 1).toNat, P p) → (P (pt24 (rd_T24 l i)) → t = true) → ((f || t) = true ∨ ∃ p ∈ (pts l).drop (i + 1).toNat, P p) := by
      intro f P t h ht
      rcases h with h | ⟨p, hp, h⟩
      · left; simp [h]
      · rcases List.mem_cons.1 hp with rfl | hp
        · left; simp [ht h]
        · exact .inr ⟨p, hp, h⟩
    have w2 : wrap64 (r2 - 1) = r2 - 1 := by unfold wrap64; omega
    have w3 : wrap64 (r3 - 1) = r3 - 1 := by unfold wrap64; omega
    have n0 := up f0 _ ((rd_T24 l i).f0 == r0) g0 (fun h => by simpa [pt24] using h)
    have n1 := up f1 _ ((rd_T24 l i).f1 == r1) g1 (fun h => by simpa [pt24] using h)
    have n2 := up f2 _ ((rd_T24 l i).f0 == wrap64 (r2 - 1)) g2 (fun h => by rw [w2]; simpa [pt24] using h)
    have n3 := up f3 _ ((rd_T24 l i).f1 == wrap64 (r3 - 1)) g3 (fun h => by rw [w3]; simpa [pt24] using h)
    have next := ih (i + 1) _ _ _ _ (by omega) (by omega) n0 n1 n2 n3
    refine Ev.step (fun _ => limnerlaw03_GeomBounds.l0.eq_2 ..) (evPos hi (evPos h0 (evPos hi (evSome (boxHas _ _ _ _ _ _ hp) (evPos rfl ?_)))))
    rw [w64' (n := i + 1) (by omega) (by omega)]
    cases f0 <;> cases f1 <;> cases f2 <;> cases f3 <;> simpa using next
theorem GeomBounds : limnerlaw03_GeomBounds.Pure := by
  intro l hl
  refine Ev.rounds ?_
  unfold limnerlaw03_GeomBounds.f
  have aw : ∀ b : Bool, b = true → Ev (fun k => limnerlaw03_GeomBounds.j0 k l b) true := by
    intro b hb
    exact Ev.step (fun _ => limnerlaw03_GeomBounds.j0.eq_2 ..) (evPos hb (Ev.bind awakeEv (Ev.now _)))
  by_cases c : (l.length : Int) > 100
  · exact evPos c (aw _ rfl)
  · refine evNeg c (Ev.bind (inEv l (by omega)) ?_)
    by_cases c1 : (pts l).all inR = true
    · simp only [c1]
      have hin := all_in c1
      refine Ev.step (fun _ => limnerlaw03_GeomBounds.j0.eq_2 ..) (evNeg (by simp) (Ev.bind (boundEv l hin (by omega)) ?_))
      cases hl : l with
      | nil =>
        refine evPos (by simp) (evPos ?_ (Ev.bind awakeEv (Ev.now _)))
        show ((0 : Int) == 0 && ((0 : Int) == 0 && ((0 : Int) == 0 && ((0 : Int) == 0)))) = true
        decide
      | cons p q =>
        refine evNeg (by simp; omega) ?_
        rw [← hl]
        have ep : pts l = pt24 p :: pts q := by rw [hl]; rfl
        have eb : bnd (0, 0, 0, 0) (pts l) = bnd ((pt24 p).1, (pt24 p).2, (pt24 p).1 + 1, (pt24 p).2 + 1) (pts q) := by
          rw [ep]
          show bnd (jn (0, 0, 0, 0) _) _ = _
          rw [jn_first]
        obtain ⟨i1, i2, i3, i4, i5, i6, i7⟩ := bnd_spec (pts q) ((pt24 p).1, (pt24 p).2, (pt24 p).1 + 1, (pt24 p).2 + 1) (by unfold full; simp only; omega)
        rw [← eb] at i1 i2 i3 i4 i5 i6 i7
        have hall : ∀ x ∈ pts l, has (bnd (0, 0, 0, 0) (pts l)) x := by
          intro x hx
          have hx2 := hx
          rw [ep] at hx2
          rcases List.mem_cons.1 hx2 with rfl | hx2
          · exact i2 _ (by unfold has; simp only; omega)
          · exact i3 x hx2
        have rng : ∀ x ∈ pts l, RP x := by
          intro x hx
          obtain ⟨y, hy, rfl⟩ := List.mem_map.1 hx
          exact hin y hy
        have lift : ∀ (P : Pt → Prop), ((P (pt24 p)) ∨ ∃ x ∈ pts q, P x) → ∃ x ∈ pts l, P x := by
          intro P h
          rw [ep]
          rcases h with h | ⟨x, hx, h⟩
          · exact ⟨_, by simp, h⟩
          · exact ⟨x, by simp [hx], h⟩
        have j0 := lift (fun x => x.1 = (bnd (0, 0, 0, 0) (pts l)).1) (i4.imp (fun h => h.symm) id)
        have j1 := lift (fun x => x.2 = (bnd (0, 0, 0, 0) (pts l)).2.1) (i5.imp (fun h => h.symm) id)
        have j2 := lift (fun x => x.1 = (bnd (0, 0, 0, 0) (pts l)).2.2.1 - 1) (i6.imp (fun h => by rw [h]; show _ = (pt24 p).1 + 1 - 1; omega) id)
        have j3 := lift (fun x => x.2 = (bnd (0, 0, 0, 0) (pts l)).2.2.2 - 1) (i7.imp (fun h => by rw [h]; show _ = (pt24 p).2 + 1 - 1; omega) id)
        generalize bnd (0, 0, 0, 0) (pts l) = b at *
        obtain ⟨r0, r1, r2, r3⟩ := b
        simp only at j0 j1 j2 j3
        have z2 : -9223372036854775807 ≤ r2 ∧ r2 ≤ 9223372036854775807 := by
          obtain ⟨x, hx, h⟩ := j2
          obtain ⟨⟨a1, a2⟩, _⟩ := rng x hx
          omega
        have z3 : -9223372036854775807 ≤ r3 ∧ r3 ≤ 9223372036854775807 := by
          obtain ⟨x, hx, h⟩ := j3
          obtain ⟨_, a1, a2⟩ := rng x hx
          omega
        exact gbLoop l r0 r1 r2 r3 (by omega) z2 z3 hall l.length 0 false false false false (by omega) (by omega) (.inr (by simpa using j0)) (.inr (by simpa using j1)) (.inr (by simpa using j2)) (.inr (by simpa using j3))
    · exact aw _ (by simpa using c1)
end Go.Proofs.Ytfhjndnempmcaaa.Pure
