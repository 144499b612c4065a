/- Rows of polygons as arguments; the row CoverInside. Conditions: those that each theorem names. -/
import Derived.Test.YtkdbnmohpanpfaaCoG
import Derived.Test.YtkdbnmohpanpfaaSyX
namespace Go.Proofs.Ytkdbnmohpanpfaa.Sy
open Go Go.Proofs
open Go.RowKit Go.ChangeShapes Go.WideShapes Go.Deep
set_option linter.unusedVariables false

/-- A cell that is a slice of flat elements, or one without room. -/
def SlE (w : World) (ks : List CK) (v : Value) : Prop := SlOk w ks v ∨ ∃ a, v = .slice (some a) 0 0
theorem trod_sl {P : Program} {T e : TypeId} {ks : List CK} {k : Nat} (ht : P.underlying T = some (.slice e)) (hk : kindsK P k e = some ks) (hc : P.cellsOf e = ks.length) (h0 : ks.length ≠ 0) {H : Type} {enc : TypeId × Value → H} {w : World} {base fuel : Nat} {held : Bool} {v : Value} {y : DataW H × List MemPlace}
    (hf : DataW.trod enc P w base (fun _ => true) held fuel T [v] = some y) : SlE w ks v := by
  rcases open_slice ht hf with ⟨hcs, _⟩ | ⟨a, len, cap, m, n, D, Pl, hcs, _, hl, hm, hmm, _, hx⟩
  · exact Or.inl (Or.inl (List.cons.inj hcs).1)
  have hv := (List.cons.inj hcs).1
  subst hv
  rw [if_pos rfl] at hmm
  subst hmm
  by_cases hz : m = 0
  · subst hz
    obtain rfl : len = 0 := by omega
    exact Or.inr ⟨a, rfl⟩
  refine Or.inl (Or.inr ?_)
  have hspot : a.spot = none ∧ a.block < w.heap.size := by
    obtain ⟨cs', h1, _⟩ := hx 0 (by omega)
    obtain ⟨_, h4, h5⟩ := World.cells?_some h1
    rw [hc] at h4 h5
    have h6 := h5 0 (by omega)
    rw [List.getElem?_eq_getElem (by rw [h4]; omega)] at h6
    have e : (a.add (0 * ks.length)).add 0 = a := by
      rw [Nat.zero_mul]
      simp [Addr.add]
    rw [e] at h6
    unfold World.cell? at h6
    split at h6
    · rename_i c x y hb
      split at h6
      · cases h6
      · rename_i hs
        exact ⟨by simpa using hs, (Array.getElem?_eq_some_iff.1 hb).1⟩
    · cases h6
  obtain ⟨b, o, sp⟩ := a
  obtain ⟨rfl, hb⟩ := hspot
  refine ⟨b, o, len, m, (List.range (m * ks.length)).map (fun i => (w.cell? ⟨b, o + i, none⟩).getD (.bool false)), rfl, hb, hl, hm, ?_, ?_⟩
  · refine rep_ok m _ (by simp) (fun i hi => ?_)
    obtain ⟨cs', h1, h2⟩ := hx i hi
    have h3 := kindsK_ok hk H enc w base _ held n _ _ h2
    obtain ⟨_, h4, h5⟩ := World.cells?_some h1
    have hle : i * ks.length + ks.length ≤ m * ks.length := by
      have := Nat.mul_le_mul_right ks.length (show i + 1 ≤ m from hi)
      rwa [Nat.succ_mul] at this
    have : ((List.map (fun i => (w.cell? ⟨b, o + i, none⟩).getD (.bool false)) (List.range (m * ks.length))).drop (i * ks.length)).take ks.length = cs' := by
      refine List.ext_getElem? (fun j => ?_)
      rw [hc] at h4 h5
      by_cases hj : j < ks.length
      · rw [List.getElem?_take_of_lt hj, List.getElem?_drop, List.getElem?_map, List.getElem?_range (by omega)]
        have h6 := h5 j hj
        rw [Deep.add_add] at h6
        have h7 : (⟨b, o, none⟩ : Addr).add (i * ks.length + j) = ⟨b, o + (i * ks.length + j), none⟩ := by
          unfold Addr.add
          split
          · rename_i hz; rw [hz]; rfl
          · rfl
        rw [h7] at h6
        rw [Option.map_some, h6, List.getElem?_eq_getElem (by omega)]
        rfl
      · rw [List.getElem?_eq_none (by simp; omega), List.getElem?_eq_none (by omega)]
    rw [this]
    exact h3
  · intro i x hi
    rw [List.getElem?_map] at hi
    obtain ⟨j, hj, rfl⟩ := Option.map_eq_some_iff.1 hi
    obtain ⟨hj1, rfl⟩ := List.getElem?_eq_some_iff.1 hj
    rw [List.getElem_range] at hj ⊢
    have hj2 : i < m * ks.length := by simpa using hj1
    have hpos : 0 < ks.length := by omega
    have hdm := Nat.div_add_mod i ks.length
    have hmod := Nat.mod_lt i hpos
    have hdiv : i / ks.length < m := Nat.div_lt_of_lt_mul (by rwa [Nat.mul_comm])
    obtain ⟨cs', h1, _⟩ := hx _ hdiv
    obtain ⟨_, h4, h5⟩ := World.cells?_some h1
    rw [hc] at h4 h5
    have h6 := h5 _ hmod
    rw [Deep.add_add] at h6
    have h7 : (⟨b, o, none⟩ : Addr).add (i / ks.length * ks.length + i % ks.length) = ⟨b, o + i, none⟩ := by
      unfold Addr.add
      rw [Nat.mul_comm, hdm]
      split
      · rename_i hz; rw [hz]; rfl
      · rfl
    rw [h7, List.getElem?_eq_getElem (by omega)] at h6
    rw [h6]
    rfl
/-- A slice of such cells. -/
def NsOk (w : World) (ks : List CK) (v : Value) : Prop :=
  v = .slice none 0 0 ∨ ∃ (b o len cap : Nat) (vs : List Value), v = .slice (some ⟨b, o, none⟩) len cap ∧ b < w.heap.size ∧ len ≤ cap ∧ cap ≤ maxLen ∧ vs.length = cap ∧ ∀ (i : Nat) (x : Value), vs[i]? = some x → w.cell? ⟨b, o + i, none⟩ = some x ∧ SlE w ks x
theorem arg_nest {P : Program} {T t e : TypeId} {ks : List CK} {k : Nat} (hT : P.underlying T = some (.slice t)) (hct : P.cellsOf t = 1) (ht : P.underlying t = some (.slice e)) (hk : kindsK P k e = some ks) (hc : P.cellsOf e = ks.length) (h0 : ks.length ≠ 0) {H : Type} {enc : TypeId × Value → H} {w : World} {base base' : Nat} {held : Bool} {v : Value} {d : DataW H} {ps : List MemPlace}
    (hv : Value.okWide P w .any base' T v) (h : DataW.Trod enc P w base (fun _ => true) held T v d ps) : NsOk w ks v := by
  obtain ⟨a, len, cap, rfl⟩ := okWide_slice hT hv
  obtain ⟨fuel, hf⟩ := h
  rcases open_slice1 hT hct hf with ⟨hcs, _⟩ | ⟨a', len', cap', m, n, V, D, Pl, hcs, _, hl, hm, hmm, _, hx⟩
  · exact Or.inl (List.cons.inj hcs).1
  · right
    obtain ⟨rfl, rfl, rfl⟩ := Value.slice.inj (List.cons.inj hcs).1
    rw [if_pos rfl] at hmm
    subst hmm
    have hspot : a'.spot = none ∧ a'.block < w.heap.size := by
      simp only [Value.okWide, hT, Cell.okWide, Cell.ok] at hv
      obtain ⟨_, _, _, h1, row, cells, h2, _⟩ := hv
      refine ⟨h1, ?_⟩
      unfold World.shape? at h2
      split at h2
      · rename_i hb
        exact (Array.getElem?_eq_some_iff.1 hb).1
      · cases h2
    obtain ⟨b, o, sp⟩ := a'
    obtain ⟨rfl, hb⟩ := hspot
    refine ⟨b, o, len, m, (List.range m).map V, rfl, hb, hl, hm, by simp, fun i x hi => ?_⟩
    rw [List.getElem?_map] at hi
    obtain ⟨j, hj, rfl⟩ := Option.map_eq_some_iff.1 hi
    obtain ⟨hj1, rfl⟩ := List.getElem?_eq_some_iff.1 hj
    rw [List.getElem_range] at hj ⊢
    obtain ⟨h1, h2⟩ := hx i (by simpa using hj1)
    refine ⟨?_, trod_sl ht hk hc h0 h2⟩
    have h7 : (⟨b, o, none⟩ : Addr).add i = ⟨b, o + i, none⟩ := by
      unfold Addr.add
      split
      · rename_i hz; rw [hz]; rfl
      · rfl
    rw [← h7]
    exact h1
abbrev ptK : List CK := [.int .i64, .int .i64]
theorem pts_of {cap : Nat} {vs : List Value} (h : RowsOk ptK cap vs) : ∃ l : List Pt, l.length = cap ∧ vs.map .sc = l.flatMap Pt.cs := by
  unfold RowsOk at h
  induction cap generalizing vs with
  | zero => simp only [List.replicate_zero, List.flatten_nil, CksOk] at h; subst h; exact ⟨[], rfl, rfl⟩
  | succ k ih =>
    rw [List.replicate_succ, List.flatten_cons] at h
    simp only [List.cons_append, List.nil_append, CksOk] at h
    obtain ⟨x0, _, rfl, _, x1, r, rfl, _, h3⟩ := h
    obtain ⟨l, e1, e2⟩ := ih h3
    exact ⟨⟨x0, x1⟩ :: l, by simp [e1], by simp [e2, Pt.cs]⟩
theorem flat_takeP : ∀ (l : List Pt) (k : Nat), (l.flatMap Pt.cs).take (k * 2) = (l.take k).flatMap Pt.cs := by
  intro l
  induction l with
  | nil => intro k; simp
  | cons x l ih =>
    intro k
    cases k with
    | zero => simp
    | succ k =>
      rw [show (k + 1) * 2 = k * 2 + 1 + 1 by omega]
      simp [ih k]
theorem pts_rl {m : Mem} {n : Nat} {c : Cell} {v : Value} (h : (c = .sc (.slice none 0 0) ∧ v = .slice none 0 0) ∨ ∃ len cap vs, c = .sl n 0 len none ptK.length ∧ len ≤ cap ∧ cap ≤ maxLen ∧ RowsOk ptK cap vs ∧ m n = some ⟨vs.map .sc, false⟩) :
    ∃ l : List Pt, RPt m (n + 1) (.one c) l ∧ l.length ≤ maxLen := by
  rcases h with ⟨rfl, _⟩ | ⟨len, cap, vs, rfl, h1, hcm, h2, h3⟩
  · exact ⟨[], Or.inl ⟨rfl, rfl⟩, by simp⟩
  · obtain ⟨l, e1, e2⟩ := pts_of h2
    have hlen : (l.take len).length = len := by rw [List.length_take]; omega
    refine ⟨l.take len, Or.inr ⟨n, 0, none, by rw [hlen]; rfl, by omega, ?_⟩, by omega⟩
    rw [rd_of h3, hlen, e2]
    have e4 : (l.flatMap Pt.cs).length = cap * 2 := by rw [flatMap_len Pt.cs 2 cs2, e1]
    unfold rdB
    rw [if_pos (by show 0 + len * 2 ≤ (l.flatMap Pt.cs).length; rw [e4]; omega), List.drop_zero, flat_takeP]
theorem lay_list {w : World} : ∀ (vs : List Value) {ρ : Loc} {n : Nat} {m : Mem}, MRel ρ n w m → Held m → (∀ x ∈ vs, SlE w ptK x) →
    ∃ (ρ' : Loc) (n' : Nat) (m' : Mem) (cs : List Cell), MRel ρ' n' w m' ∧ Held m' ∧ Le ρ n w ρ' n' w ∧ (∀ id, id < n → m' id = m id) ∧ cs.length = vs.length ∧
      ∀ (i : Nat) (c : Cell) (x : Value), cs[i]? = some c → vs[i]? = some x → CRel ρ' n' w c x ∧ ∃ l, RPe m' n' (.one c) l ∧ l.length ≤ maxLen
  | [], ρ, n, m, hm, hh, _ => ⟨ρ, n, m, [], hm, hh, ⟨Nat.le_refl _, fun _ _ => rfl, fun _ h => h⟩, fun _ _ => rfl, rfl, fun i c x h => by simp at h⟩
  | v :: vs, ρ, n, m, hm, hh, hall => by
    obtain ⟨ρ1, n1, m1, c1, hm1, hh1, le1, hc1, old1, l1, hl1, hb1⟩ : ∃ (ρ1 : Loc) (n1 : Nat) (m1 : Mem) (c1 : Cell), MRel ρ1 n1 w m1 ∧ Held m1 ∧ Le ρ n w ρ1 n1 w ∧ CRel ρ1 n1 w c1 v ∧ (∀ id, id < n → m1 id = m id) ∧ ∃ l, RPe m1 n1 (.one c1) l ∧ l.length ≤ maxLen := by
      rcases hall v (by simp) with h | ⟨a, rfl⟩
      · obtain ⟨ρ', n', m', c, q1, q2, q3, q4, q5, rfl, q6⟩ := mix_lay hm hh h
        obtain ⟨l, r1, r2⟩ := pts_rl q6
        exact ⟨ρ', _, m', c, q1, q2, q3, q4, q5, l, Or.inl r1, r2⟩
      · exact ⟨ρ, n, m, .sc (.slice (some a) 0 0), hm, hh, ⟨Nat.le_refl _, fun _ _ => rfl, fun _ h => h⟩, by simp [CRel, Value.oneCell'], fun _ _ => rfl, [], Or.inr ⟨_, rfl, rfl⟩, by simp⟩
    obtain ⟨ρ2, n2, m2, cs, hm2, hh2, le2, old2, hlen, hcs⟩ := lay_list vs hm1 hh1 (fun x hx => hall x (by simp [hx]))
    refine ⟨ρ2, n2, m2, c1 :: cs, hm2, hh2, le1.trans le2, fun id hid => by rw [old2 id (by have := le1.le; omega)]; exact old1 id hid, by simp [hlen], fun i c x hc hx => ?_⟩
    cases i with
    | zero =>
      simp at hc hx
      subst hc
      subst hx
      exact ⟨CRel.mono le2 _ _ hc1, l1, hl1.keep le2.le (fun id hid => old2 id hid), hb1⟩
    | succ i =>
      simp only [List.getElem?_cons_succ] at hc hx
      exact hcs i c x hc hx
/-- Rows of polygons, laid. -/
theorem nest_lay {ρ : Loc} {n : Nat} {w : World} {m : Mem} (hm : MRel ρ n w m) (hh : Held m) {v : Value} (h : NsOk w ptK v) :
    ∃ (ρ' : Loc) (n' : Nat) (m' : Mem) (c : Cell) (L : List (List Pt)), MRel ρ' n' w m' ∧ Held m' ∧ Le ρ n w ρ' n' w ∧ CRel ρ' n' w c v ∧ (∀ id, id < n → m' id = m id) ∧ RPP m' n' (.one c) L := by
  rcases h with rfl | ⟨b, o, len, cap, vs, rfl, hb, hl, hmx, hlen, hx⟩
  · exact ⟨ρ, n, m, .sc (.slice none 0 0), [], hm, hh, ⟨Nat.le_refl _, fun _ _ => rfl, fun _ h => h⟩, by simp [CRel, Value.oneCell'], fun _ _ => rfl, [], rfl, RL.nil, fun i c l h => by simp at h⟩
  · obtain ⟨ρ1, n1, m1, cs, hm1, hh1, le1, old1, hlen1, hcs⟩ := lay_list vs hm hh (fun x hx' => by
      obtain ⟨i, hi, e⟩ := List.getElem_of_mem hx'
      exact (hx i x (by rw [List.getElem?_eq_getElem hi, e])).2)
    have hmr : MRel (atL ρ1 n1 b o) (n1 + 1) w (upd m1 n1 (some ⟨cs, false⟩)) := by
      refine ⟨fun id bl h => ?_, fun id bl h => ?_, fun id bl h i c hi => ?_, fun id bl h ho => ?_, fun id bl h ho => ?_⟩
      · unfold upd at h
        split at h
        · omega
        · have := hm1.lt id bl h; omega
      · unfold upd at h
        unfold atL
        split at h
        · rename_i he; rw [if_pos he]; exact hb
        · rename_i he; rw [if_neg he]; exact hm1.blk id bl h
      · unfold upd at h
        split at h
        · rename_i he
          cases h
          subst he
          have hi' : i < vs.length := by
            have := (List.getElem?_eq_some_iff.1 hi).1
            simp only at this
            omega
          have hv := List.getElem?_eq_getElem hi'
          obtain ⟨h1, _⟩ := hx i _ hv
          obtain ⟨h2, _⟩ := hcs i c _ hi hv
          refine ⟨_, ?_, CRel.mono atL_le _ _ h2⟩
          unfold atL
          rw [if_pos rfl]
          exact h1
        · rename_i he
          obtain ⟨v, h1, h2⟩ := hm1.cells id bl h i c hi
          refine ⟨v, ?_, CRel.mono atL_le _ _ h2⟩
          unfold atL
          rw [if_neg he]
          exact h1
      · rw [held_upd hh1 n1 _ id bl h] at ho; cases ho
      · rw [held_upd hh1 n1 _ id bl h] at ho; cases ho
    have hs := addSl (ρ := ρ1) (n := n1) (w := w) (b := b) (o := o) (len := len) (cap := cap) (sz := 1) (vs := vs) hl (by omega) (fun i x hi => (hx i x hi).1)
    -- the polygons
    have hpick : ∀ i, i < cs.length → ∃ l, RPe m1 n1 (.one (cs.getD i (.sc (.slice none 0 0)))) l := fun i hi => by
      obtain ⟨_, l, h3, _⟩ := hcs i _ _ (List.getElem?_eq_getElem hi) (List.getElem?_eq_getElem (by omega : i < vs.length))
      exact ⟨l, by simpa [List.getD_eq_getElem?_getD, List.getElem?_eq_getElem hi] using h3⟩
    have hch : ∃ f : Nat → List Pt, ∀ i, i < cs.length → RPe m1 n1 (.one (cs.getD i (.sc (.slice none 0 0)))) (f i) := by
      refine ⟨fun i => if h : i < cs.length then (hpick i h).choose else [], fun i hi => ?_⟩
      simp only [hi, dif_pos]
      exact (hpick i hi).choose_spec
    obtain ⟨f, hf⟩ := hch
    have hkeep : ∀ id, id < n1 → upd m1 n1 (some ⟨cs, false⟩) id = m1 id := fun id hid => upd_ne _ _ (by omega)
    refine ⟨atL ρ1 n1 b o, n1 + 1, _, .sl n1 0 len none 1, (List.range len).map f, hmr, held_upd hh1 n1 _, le1.trans atL_le, hs, fun id hid => by rw [hkeep id (by have := le1.le; omega)]; exact old1 id hid, cs.take len, by simp; omega, ?_, fun i c l hc hl' => ?_⟩
    · refine Or.inr ⟨n1, 0, none, by rw [List.length_take, Nat.min_eq_left (by omega)], by omega, ?_⟩
      rw [rd_of (upd_same _ _ _), List.length_take, Nat.min_eq_left (by omega)]
      unfold rdB
      rw [if_pos (by show 0 + len * 1 ≤ cs.length; omega), List.drop_zero, Nat.mul_one]
      congr 1
      induction cs.take len with
      | nil => rfl
      | cons x xs ih => rw [List.flatMap_cons, ← ih]; rfl
    · have hi : i < len := by
        have := (List.getElem?_eq_some_iff.1 hl').1
        simpa using this
      rw [List.getElem?_take_of_lt hi] at hc
      rw [List.getElem?_map, List.getElem?_range hi] at hl'
      cases hl'
      have hic : i < cs.length := by omega
      have h3 := hf i hic
      rw [List.getD_eq_getElem?_getD, hc] at h3
      exact RPe.keep h3 (by omega) hkeep
theorem rowL8 (hmix : Try.prog.follows .mixedOrders = true) (W : World) (v : Value) (h : NsOk W ptK v) (k : Int) (hk : IntKind.i64.min ≤ k ∧ k ≤ IntKind.i64.max) (l0 : List Value) (h0 : CksOk [.int .i64, .int .i64] l0) :
    Calls Try.prog 8 #[v, .int .i64 k, .agg l0.toArray] W (fun e w' => e = .returned (.bool true) ∧ Go.RowKit.Below W.heap.size W w') := by
  obtain ⟨ρ, n, m, c, L, hm, hh, hle, hrel, _, hr⟩ := nest_lay (noMem (fun _ => (0, 0)) 0 W) held_none h
  simp only [CksOk] at h0
  obtain ⟨x, _, rfl, _, y, _, rfl, _, rfl⟩ := h0
  exact law_calls (ng := 0) (ρ := ρ) (n := n) hmix TA_ok (law8 (.one c) L k ⟨x, y⟩ m n hr) hm (fun _ h => by omega) ⟨_, _, rfl, hrel, _, _, rfl, ⟨rfl, rfl⟩, _, _, rfl, ⟨_, rfl, _, _, rfl, ⟨rfl, rfl⟩, _, _, rfl, ⟨rfl, rfl⟩, rfl⟩, rfl⟩ hh
set_option maxRecDepth 100000 in
theorem open22 {H : Type} {enc : TypeId × Value → H} {w : World} {base base' : Nat} {held : Bool} {v : Value} {d : DataW H} {ps : List MemPlace} (hv : Value.okWide Try.prog w .any base' 22 v) (h : DataW.Trod enc Try.prog w base (fun _ => true) held 22 v d ps) : NsOk w ptK v :=
  arg_nest (ks := ptK) (k := 8) Try.underlying22 (by kernel_rfl) Try.underlying40 (by kernel_rfl) (by kernel_rfl) (by decide) hv h
end Go.Proofs.Ytkdbnmohpanpfaa.Sy
