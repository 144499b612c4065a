/- Styles as arguments; the row StyleChecks. Conditions: those that each theorem names. -/
import Derived.Test.YtffhhgcgnillaaaSeE
import Derived.Test.YtffhhgcgnillaaaSyX
namespace Go.Proofs.Ytffhhgcgnillaaa.Sy
open Go Go.Proofs
open Go.RowKit Go.ChangeShapes Go.WideShapes Go.Deep
set_option linter.unusedVariables false

/-- A struct, by its cells and by its fields. -/
theorem arg_fields {P : Program} {T : TypeId} {fs : Array Field} {ts : List TypeId} (ht : P.underlying T = some (.struct fs)) (hts : P.cellTypes P.depth T = some ts) {H : Type} {enc : TypeId × Value → H} {w : World} {base base' : Nat} {held : Bool} {v : Value} {d : DataW H} {ps : List MemPlace}
    (hv : Value.okWide P w .any base' T v) (h : DataW.Trod enc P w base (fun _ => true) held T v d ps) :
    ∃ cs : List Value, v = .agg cs.toArray ∧ cs.length = P.cellsOf T ∧ (∀ (i : Nat) (c : Value), cs[i]? = some c → ∃ u, ts[i % ts.length]? = some u ∧ Cell.okWide P w .any base' u c) ∧
      ∀ (j : Nat) (f : Field) (z : Nat) (l : List Value), fs[j]? = some f → P.cellsOf f.type = z → (cs.drop f.offset).take z = l → ∃ x n, DataW.trod enc P w base (fun _ => true) held n f.type l = some x := by
  simp only [Value.okWide, ht] at hv
  obtain ⟨cs, rfl, hsz, ts', h1, h2, h3⟩ := hv
  obtain rfl := Option.some.inj (hts.symm.trans h1)
  obtain ⟨fuel, hf⟩ := h
  have hf' : DataW.trod enc P w base (fun _ => true) held fuel T cs.toList = some (d, ps) := hf
  obtain ⟨xs, n, _, _, hl, hxs, hg⟩ := DataW.trod_struct ht hf'
  refine ⟨cs.toList, by simp, by simpa using hsz, fun i c hc => h3 i c (by simpa using hc), fun j f z l hj hz hl2 => ?_⟩
  subst hz
  subst hl2
  have h4 := hg j f hj
  have hjn : j < xs.length := by
    have := (Array.getElem?_eq_some_iff.1 hj).1
    omega
  rw [List.getElem?_eq_getElem hjn] at h4
  exact ⟨_, n, h4⟩
/-- A struct in a struct. -/
theorem sub_fields {P : Program} {T : TypeId} {fs : Array Field} (ht : P.underlying T = some (.struct fs)) {H : Type} {enc : TypeId × Value → H} {w : World} {base : Nat} {held : Bool} {cs : List Value} {n : Nat} {x : DataW H × List MemPlace}
    (h : DataW.trod enc P w base (fun _ => true) held n T cs = some x) : ∀ (j : Nat) (f : Field) (z : Nat) (l : List Value), fs[j]? = some f → P.cellsOf f.type = z → (cs.drop f.offset).take z = l → ∃ x n, DataW.trod enc P w base (fun _ => true) held n f.type l = some x := by
  obtain ⟨d, ps⟩ := x
  obtain ⟨xs, n, _, _, hl, hxs, hg⟩ := DataW.trod_struct ht h
  intro j f z l hj hz hl2
  subst hz
  subst hl2
  have h4 := hg j f hj
  have hjn : j < xs.length := by
    have := (Array.getElem?_eq_some_iff.1 hj).1
    omega
  rw [List.getElem?_eq_getElem hjn] at h4
  exact ⟨_, n, h4⟩
theorem ints_of {cap : Nat} {vs : List Value} (h : RowsOk [.int .i64] cap vs) : ∃ l : List Int, l.length = cap ∧ vs.map .sc = l.flatMap encI ∧ ∀ x ∈ l, -9223372036854775808 ≤ x ∧ x ≤ 9223372036854775807 := by
  unfold RowsOk at h
  induction cap generalizing vs with
  | zero => simp only [List.replicate_zero, List.flatten_nil, CksOk] at h; subst h; exact ⟨[], rfl, rfl, by simp⟩
  | succ k ih =>
    rw [List.replicate_succ, List.flatten_cons] at h
    simp only [List.cons_append, List.nil_append, CksOk] at h
    obtain ⟨n, r, rfl, h1, h2⟩ := h
    obtain ⟨l, e1, e2, e3⟩ := ih h2
    simp only [IntKind.min, IntKind.max, IntKind.signed, IntKind.bits] at h1
    refine ⟨n :: l, by simp [e1], by simp [e2], fun x hx => ?_⟩
    rcases List.mem_cons.1 hx with rfl | hx
    · simp at h1; omega
    · exact e3 x hx
/-- A slice of ints, laid: it is read. -/
theorem ints_rl {m : Mem} {n : Nat} {c : Cell} {v : Value} (h : (c = .sc (.slice none 0 0) ∧ v = .slice none 0 0) ∨ ∃ len cap vs, c = .sl n 0 len none [CK.int .i64].length ∧ len ≤ cap ∧ cap ≤ maxLen ∧ RowsOk [.int .i64] cap vs ∧ m n = some ⟨vs.map .sc, false⟩) :
    ∃ l : List Int, RIn m (n + 1) (.one c) l ∧ ∀ x ∈ l, -9223372036854775808 ≤ x ∧ x ≤ 9223372036854775807 := by
  rcases h with ⟨rfl, _⟩ | ⟨len, cap, vs, rfl, h1, _, h2, h3⟩
  · exact ⟨[], Or.inl ⟨rfl, rfl⟩, by simp⟩
  · obtain ⟨l, e1, e2, e3⟩ := ints_of h2
    have hlen : (l.take len).length = len := by rw [List.length_take]; omega
    refine ⟨l.take len, Or.inr ⟨n, 0, none, by rw [hlen]; rfl, by omega, ?_⟩, fun x hx => e3 x (List.mem_of_mem_take hx)⟩
    rw [rd_of h3, hlen, e2]
    have e4 : (l.flatMap encI).length = cap := by rw [flatMap_len encI 1 ci1, e1, Nat.mul_one]
    unfold rdB
    rw [if_pos (by rw [e4]; omega), List.drop_zero, Nat.mul_one]
    congr 1
    have : ∀ (l : List Int) (k : Nat), (l.flatMap encI).take k = (l.take k).flatMap encI := by
      intro l
      induction l with
      | nil => intro k; simp
      | cons x l ih =>
        intro k
        cases k with
        | zero => simp
        | succ k => simp [ih k]
    exact this l len
theorem stops_of {cap : Nat} {vs : List Value} (h : RowsOk [.int .i64, .int .u8, .int .u8, .int .u8, .int .u8] cap vs) : ∃ l : List Stp, l.length = cap ∧ vs.map .sc = l.flatMap Stp.cs ∧ ∀ x ∈ l, x.by := by
  unfold RowsOk at h
  induction cap generalizing vs with
  | zero => simp only [List.replicate_zero, List.flatten_nil, CksOk] at h; subst h; exact ⟨[], rfl, rfl, by simp⟩
  | succ k ih =>
    rw [List.replicate_succ, List.flatten_cons] at h
    simp only [List.cons_append, List.nil_append, CksOk] at h
    obtain ⟨n, r, rfl, h1, c0, r0, rfl, h2, c1, r1, rfl, h3, c2, r2, rfl, h4, c3, r3, rfl, h5, h6⟩ := h
    obtain ⟨l, e1, e2, e3⟩ := ih h6
    simp only [IntKind.min, IntKind.max, IntKind.signed, IntKind.bits] at h2 h3 h4 h5
    simp at h2 h3 h4 h5
    refine ⟨⟨n, c0, c1, c2, c3⟩ :: l, by simp [e1], by simp [e2], fun x hx => ?_⟩
    rcases List.mem_cons.1 hx with rfl | hx
    · unfold Stp.by byteB
      simp only
      omega
    · exact e3 x hx
theorem stops_rl {m : Mem} {n : Nat} {c : Cell} {v : Value} (h : (c = .sc (.slice none 0 0) ∧ v = .slice none 0 0) ∨ ∃ len cap vs, c = .sl n 0 len none [CK.int .i64, CK.int .u8, CK.int .u8, CK.int .u8, CK.int .u8].length ∧ len ≤ cap ∧ cap ≤ maxLen ∧ RowsOk [.int .i64, .int .u8, .int .u8, .int .u8, .int .u8] cap vs ∧ m n = some ⟨vs.map .sc, false⟩) :
    ∃ l : List Stp, RSt m (n + 1) (.one c) l ∧ ∀ x ∈ l, x.by := by
  rcases h with ⟨rfl, _⟩ | ⟨len, cap, vs, rfl, h1, _, h2, h3⟩
  · exact ⟨[], Or.inl ⟨rfl, rfl⟩, by simp⟩
  · obtain ⟨l, e1, e2, e3⟩ := stops_of h2
    have hlen : (l.take len).length = len := by rw [List.length_take]; omega
    refine ⟨l.take len, Or.inr ⟨n, 0, none, by rw [hlen]; rfl, by omega, ?_⟩, fun x hx => e3 x (List.mem_of_mem_take hx)⟩
    rw [rd_of h3, hlen, e2]
    have e4 : (l.flatMap Stp.cs).length = cap * 5 := by rw [flatMap_len Stp.cs 5 cs5, e1]
    unfold rdB
    rw [if_pos (by rw [e4]; omega), List.drop_zero]
    congr 1
    have : ∀ (l : List Stp) (k : Nat), (l.flatMap Stp.cs).take (k * 5) = (l.take k).flatMap Stp.cs := by
      intro l
      induction l with
      | nil => intro k; simp
      | cons x l ih =>
        intro k
        cases k with
        | zero => simp
        | succ k =>
          rw [show (k + 1) * 5 = k * 5 + 1 + 1 + 1 + 1 + 1 by omega]
          simp [ih k]
    exact this l len
/-- The cells of a style as values. -/
abbrev Sty.vs (s : Sty) (vf vp vd : Value) : List Value := [.int .i64 s.fill.k, .int .u8 s.fill.c0, .int .u8 s.fill.c1, .int .u8 s.fill.c2, .int .u8 s.fill.c3, .int .i64 s.fill.fx, .int .i64 s.fill.fy, .int .i64 s.fill.tx, .int .i64 s.fill.ty, vf,
  .int .i64 s.pen.k, .int .u8 s.pen.c0, .int .u8 s.pen.c1, .int .u8 s.pen.c2, .int .u8 s.pen.c3, .int .i64 s.pen.fx, .int .i64 s.pen.fy, .int .i64 s.pen.tx, .int .i64 s.pen.ty, vp, .int .i64 s.rule, .int .i64 s.half, .int .i64 s.cap, vd, .int .i64 s.ph, .int .i64 s.op, .int .i64 s.mode]
abbrev stK : List CK := [.int .i64, .int .u8, .int .u8, .int .u8, .int .u8]
def isSty (w : World) (v : Value) : Prop := ∃ (s : Sty) (vf vp vd : Value), v = .agg (s.vs vf vp vd).toArray ∧ (s.fill.by ∧ s.pen.by) ∧ SlOk w stK vf ∧ SlOk w stK vp ∧ SlOk w [.int .i64] vd
theorem pai_open {H : Type} {enc : TypeId × Value → H} {w : World} {base : Nat} {held : Bool} {n : Nat} {x : DataW H × List MemPlace} {a0 a1 a2 a3 a4 a5 a6 a7 a8 a9 : Value}
    (h : DataW.trod enc Try.prog w base (fun _ => true) held n 28 [a0, a1, a2, a3, a4, a5, a6, a7, a8, a9] = some x) :
    ∃ p : Pai, p.by ∧ (a0 = .int .i64 p.k ∧ a1 = .int .u8 p.c0 ∧ a2 = .int .u8 p.c1 ∧ a3 = .int .u8 p.c2 ∧ a4 = .int .u8 p.c3 ∧ a5 = .int .i64 p.fx ∧ a6 = .int .i64 p.fy ∧ a7 = .int .i64 p.tx ∧ a8 = .int .i64 p.ty) ∧
      ∃ y k, DataW.trod enc Try.prog w base (fun _ => true) held k 26 [a9] = some y := by
  have s0 := sub_fields Try.underlying28 h
  obtain ⟨u0, k0, t0⟩ := s0 0 _ 1 [a0] rfl (by kernel_rfl) rfl
  obtain ⟨u1, k1, t1⟩ := s0 1 _ 4 [a1, a2, a3, a4] rfl (by kernel_rfl) rfl
  obtain ⟨u2, k2, t2⟩ := s0 2 _ 2 [a5, a6] rfl (by kernel_rfl) rfl
  obtain ⟨u3, k3, t3⟩ := s0 3 _ 2 [a7, a8] rfl (by kernel_rfl) rfl
  obtain ⟨u4, k4, t4⟩ := s0 4 _ 1 [a9] rfl (by kernel_rfl) rfl
  have c0 := kindsK_ok (P := Try.prog) (k := 8) (ks := [.int .i64]) (by kernel_rfl) _ _ _ _ _ _ _ _ _ t0
  have c1 := kindsK_ok (P := Try.prog) (k := 8) (ks := [.int .u8, .int .u8, .int .u8, .int .u8]) (by kernel_rfl) _ _ _ _ _ _ _ _ _ t1
  have c2 := kindsK_ok (P := Try.prog) (k := 8) (ks := [.int .i64, .int .i64]) (by kernel_rfl) _ _ _ _ _ _ _ _ _ t2
  have c3 := kindsK_ok (P := Try.prog) (k := 8) (ks := [.int .i64, .int .i64]) (by kernel_rfl) _ _ _ _ _ _ _ _ _ t3
  simp only [CksOk] at c0 c1 c2 c3
  obtain ⟨q0, _, e0, _, _⟩ := c0
  obtain ⟨q1, _, e1, b1, q2, _, rfl, b2, q3, _, rfl, b3, q4, _, rfl, b4, rfl⟩ := c1
  obtain ⟨q5, _, e5, _, q6, _, rfl, _, rfl⟩ := c2
  obtain ⟨q7, _, e7, _, q8, _, rfl, _, rfl⟩ := c3
  simp only [List.cons.injEq, and_true] at e0 e1 e5 e7
  simp only [IntKind.min, IntKind.max, IntKind.signed, IntKind.bits] at b1 b2 b3 b4
  simp at b1 b2 b3 b4
  refine ⟨⟨q0, q1, q2, q3, q4, q5, q6, q7, q8, .sc (.slice none 0 0)⟩, ?_, ⟨e0.1, e1.1, e1.2.1, e1.2.2.1, e1.2.2.2, e5.1, e5.2, e7.1, e7.2⟩, u4, k4, t4⟩
  unfold Pai.by byteB
  simp only
  omega
set_option maxRecDepth 100000 in
theorem open53 {H : Type} {enc : TypeId × Value → H} {w : World} {base base' : Nat} {held : Bool} {v : Value} {d : DataW H} {ps : List MemPlace} (hv : Value.okWide Try.prog w .any base' 53 v) (h : DataW.Trod enc Try.prog w base (fun _ => true) held 53 v d ps) : isSty w v := by
  obtain ⟨cs, rfl, hl, hc, hf⟩ := arg_fields (ts := [3, 5, 5, 5, 5, 3, 3, 3, 3, 26, 3, 5, 5, 5, 5, 3, 3, 3, 3, 26, 3, 3, 3, 49, 3, 3, 3]) Try.underlying53 (by kernel_rfl) hv h
  rw [show Try.prog.cellsOf 53 = 27 by kernel_rfl] at hl
  match cs, hl with
  | [a0, a1, a2, a3, a4, a5, a6, a7, a8, a9, a10, a11, a12, a13, a14, a15, a16, a17, a18, a19, a20, a21, a22, a23, a24, a25, a26], _ =>
    obtain ⟨f0, n0, g0⟩ := hf 0 _ 10 [a0, a1, a2, a3, a4, a5, a6, a7, a8, a9] rfl (by kernel_rfl) rfl
    obtain ⟨f1, n1, g1⟩ := hf 1 _ 10 [a10, a11, a12, a13, a14, a15, a16, a17, a18, a19] rfl (by kernel_rfl) rfl
    obtain ⟨f2, n2, g2⟩ := hf 2 _ 1 [a20] rfl (by kernel_rfl) rfl
    obtain ⟨f3, n3, g3⟩ := hf 3 _ 1 [a21] rfl (by kernel_rfl) rfl
    obtain ⟨f4, n4, g4⟩ := hf 4 _ 1 [a22] rfl (by kernel_rfl) rfl
    obtain ⟨f5, n5, g5⟩ := hf 5 _ 2 [a23, a24] rfl (by kernel_rfl) rfl
    obtain ⟨f6, n6, g6⟩ := hf 6 _ 1 [a25] rfl (by kernel_rfl) rfl
    obtain ⟨f7, n7, g7⟩ := hf 7 _ 1 [a26] rfl (by kernel_rfl) rfl
    have s5 := sub_fields Try.underlying51 g5
    obtain ⟨u0, k0, t0⟩ := s5 0 _ 1 [a23] rfl (by kernel_rfl) rfl
    obtain ⟨u1, k1, t1⟩ := s5 1 _ 1 [a24] rfl (by kernel_rfl) rfl
    obtain ⟨p, hp, ⟨rfl, rfl, rfl, rfl, rfl, rfl, rfl, rfl, rfl⟩, y1, z1, w1⟩ := pai_open g0
    obtain ⟨q, hq, ⟨rfl, rfl, rfl, rfl, rfl, rfl, rfl, rfl, rfl⟩, y2, z2, w2⟩ := pai_open g1
    obtain ⟨v0, hv0, hw0⟩ := hc 9 a9 rfl
    obtain rfl : (26 : Nat) = v0 := Option.some.inj hv0
    obtain ⟨v1, hv1, hw1⟩ := hc 19 a19 rfl
    obtain rfl : (26 : Nat) = v1 := Option.some.inj hv1
    obtain ⟨v2, hv2, hw2⟩ := hc 23 a23 rfl
    obtain rfl : (49 : Nat) = v2 := Option.some.inj hv2
    have sf : SlOk w stK a9 := mix_slice (k := 8) Try.underlying26 (by kernel_rfl) (by kernel_rfl) (by decide) ⟨hw0, y1, z1, w1⟩
    have sp : SlOk w stK a19 := mix_slice (k := 8) Try.underlying26 (by kernel_rfl) (by kernel_rfl) (by decide) ⟨hw1, y2, z2, w2⟩
    have sd : SlOk w [.int .i64] a23 := mix_slice (k := 8) Try.underlying49 (by kernel_rfl) (by kernel_rfl) (by decide) ⟨hw2, u0, k0, t0⟩
    have int : ∀ (a : Value) (x : DataW H × List MemPlace) (k : Nat), DataW.trod enc Try.prog w base (fun _ => true) held k 3 [a] = some x → ∃ z, a = .int .i64 z := fun a x k hk => by
      obtain ⟨z, e, _, _⟩ := DataW.trod_int Try.underlying3 hk
      exact ⟨z, (List.cons.inj e).1⟩
    obtain ⟨i1, rfl⟩ := int _ _ _ g2
    obtain ⟨i2, rfl⟩ := int _ _ _ g3
    obtain ⟨i3, rfl⟩ := int _ _ _ g4
    obtain ⟨i4, rfl⟩ := int _ _ _ t1
    obtain ⟨i5, rfl⟩ := int _ _ _ g6
    obtain ⟨i6, rfl⟩ := int _ _ _ g7
    exact ⟨⟨p, q, i1, i2, i3, .sc (.slice none 0 0), i4, i5, i6⟩, a9, a19, a23, rfl, ⟨hp, hq⟩, sf, sp, sd⟩
/-- A style, laid. -/
theorem sty_lay {W : World} {v : Value} (h : isSty W v) : ∃ (s : Sty) (lf lp : List Stp) (ld : List Int) (ρ : Loc) (m : Mem), MRel ρ 3 W m ∧ Held m ∧ SRel m 3 s lf lp ld ∧ (s.fill.by ∧ s.pen.by) ∧ (∀ x ∈ lf, x.by) ∧ (∀ x ∈ lp, x.by) ∧ RRel ρ 3 W (.agg s.cs) v := by
  obtain ⟨s, vf, vp, vd, rfl, ⟨hf, hp⟩, sf, sp, sd⟩ := h
  obtain ⟨ρ1, n1, m1, cf, hm1, hh1, le1, hc1, old1, rfl, k1⟩ := mix_lay (noMem (fun _ => (0, 0)) 0 W) held_none sf
  obtain ⟨ρ2, n2, m2, cp, hm2, hh2, le2, hc2, old2, rfl, k2⟩ := mix_lay hm1 hh1 sp
  obtain ⟨ρ3, n3, m3, cd, hm3, hh3, le3, hc3, old3, rfl, k3⟩ := mix_lay hm2 hh2 sd
  obtain ⟨lf, r1, b1⟩ := stops_rl k1
  obtain ⟨lp, r2, b2⟩ := stops_rl k2
  obtain ⟨ld, r3, _⟩ := ints_rl k3
  have hf' : (Pai.mk s.fill.k s.fill.c0 s.fill.c1 s.fill.c2 s.fill.c3 s.fill.fx s.fill.fy s.fill.tx s.fill.ty cf).by := hf
  have hp' : (Pai.mk s.pen.k s.pen.c0 s.pen.c1 s.pen.c2 s.pen.c3 s.pen.fx s.pen.fy s.pen.tx s.pen.ty cp).by := hp
  have x1 := CRel.mono le3 _ _ (CRel.mono le2 _ _ hc1)
  have x2 := CRel.mono le3 _ _ hc2
  refine ⟨⟨⟨s.fill.k, s.fill.c0, s.fill.c1, s.fill.c2, s.fill.c3, s.fill.fx, s.fill.fy, s.fill.tx, s.fill.ty, cf⟩, ⟨s.pen.k, s.pen.c0, s.pen.c1, s.pen.c2, s.pen.c3, s.pen.fx, s.pen.fy, s.pen.tx, s.pen.ty, cp⟩, s.rule, s.half, s.cap, cd, s.ph, s.op, s.mode⟩, lf, lp, ld, ρ3, m3, hm3, hh3,
    ⟨r1.keep (by omega) (fun id hid => by rw [old3 id (by omega), old2 id (by omega)]), r2.keep (by omega) (fun id hid => by rw [old3 id (by omega)]), r3⟩, ⟨hf', hp'⟩, b1, b2, _, rfl, ?_⟩
  refine ⟨_, _, rfl, ⟨rfl, rfl⟩, _, _, rfl, ⟨rfl, rfl⟩, _, _, rfl, ⟨rfl, rfl⟩, _, _, rfl, ⟨rfl, rfl⟩, _, _, rfl, ⟨rfl, rfl⟩, _, _, rfl, ⟨rfl, rfl⟩, _, _, rfl, ⟨rfl, rfl⟩, _, _, rfl, ⟨rfl, rfl⟩, _, _, rfl, ⟨rfl, rfl⟩, _, _, rfl, x1,
    _, _, rfl, ⟨rfl, rfl⟩, _, _, rfl, ⟨rfl, rfl⟩, _, _, rfl, ⟨rfl, rfl⟩, _, _, rfl, ⟨rfl, rfl⟩, _, _, rfl, ⟨rfl, rfl⟩, _, _, rfl, ⟨rfl, rfl⟩, _, _, rfl, ⟨rfl, rfl⟩, _, _, rfl, ⟨rfl, rfl⟩, _, _, rfl, ⟨rfl, rfl⟩, _, _, rfl, x2,
    _, _, rfl, ⟨rfl, rfl⟩, _, _, rfl, ⟨rfl, rfl⟩, _, _, rfl, ⟨rfl, rfl⟩, _, _, rfl, hc3, _, _, rfl, ⟨rfl, rfl⟩, _, _, rfl, ⟨rfl, rfl⟩, _, _, rfl, ⟨rfl, rfl⟩, rfl⟩
theorem rowL6 (hmix : Try.prog.follows .mixedOrders = true) (W : World) (v : Value) (h : isSty W v) :
    Calls Try.prog 6 #[v] W (fun e w' => e = .returned (.bool true) ∧ Go.RowKit.Below W.heap.size W w') := by
  obtain ⟨s, lf, lp, ld, ρ, m, hm, hh, hS, ⟨hf, hp⟩, b1, b2, hr⟩ := sty_lay h
  exact law_calls (ng := 0) (ρ := ρ) (n := 3) hmix TA_ok (law6 s lf lp ld m 3 hS hf hp b1 b2) hm (fun _ h => by omega) ⟨_, _, rfl, hr, rfl⟩ hh
end Go.Proofs.Ytffhhgcgnillaaa.Sy
