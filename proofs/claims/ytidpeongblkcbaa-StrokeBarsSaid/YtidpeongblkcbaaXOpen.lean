/- Opening of arguments by their kinds: what reads as data of a type is a value of the printed kind. A plain library of this session's own; conditions: none beyond those that each theorem names. -/
import Derived.ProofKit
import Derived.OpenShut
import Derived.Deep.Slices
import Derived.Test.YtidpeongblkcbaaWWords
namespace Go.Proofs.Ytidpeongblkcbaa.XOpen
open Go.RowKit Go.ChangeShapes Go.WideShapes Go.Deep
open Go.Proofs.YtidpeongblkcbaaW.PrintWords

/-- Whatever reads as data of type T lies as the kind d has it, and its value meets wf. -/
def Opens (P : Program) (T : TypeId) {α : Type} (d : Kd α) (wf : α → Prop) : Prop :=
  ∀ (H : Type) (enc : TypeId × Value → H) (w : World) (base : Nat) (spare : Nat → Bool) (held : Bool) (fuel : Nat) (cs : List Value) (x : DataW H × List MemPlace),
    DataW.trod enc P w base spare held fuel T cs = some x → ∃ v, d.K w v cs ∧ wf v

theorem opens_int {P : Program} {T : TypeId} {k : IntKind} (ht : P.underlying T = some (.int k)) : Opens P T (Kd.int k) (fun n => (Lit.int k n).wf = true) := by
  intro H enc w base spare held fuel cs x h
  obtain ⟨n, rfl, _, hw⟩ := DataW.trod_int ht h
  exact ⟨n, rfl, hw⟩

theorem opens_bool {P : Program} {T : TypeId} (ht : P.underlying T = some .bool) : Opens P T Kd.bool (fun _ => True) := by
  intro H enc w base spare held fuel cs x h
  obtain ⟨b, rfl, _⟩ := DataW.trod_bool ht h
  exact ⟨b, rfl, trivial⟩

theorem opens_string {P : Program} {T : TypeId} (ht : P.underlying T = some .string) : Opens P T Kd.string (fun s => s.size ≤ maxLen) := by
  intro H enc w base spare held fuel cs x h
  obtain ⟨s, rfl, _, hs⟩ := DataW.trod_string ht h
  exact ⟨s, rfl, hs⟩

theorem choose_list {α : Type} {n : Nat} {p : Nat → α → Prop} (h : ∀ i, i < n → ∃ x, p i x) : ∃ l : List α, l.length = n ∧ ∀ i x, l[i]? = some x → p i x := by
  induction n with
  | zero => exact ⟨[], rfl, fun i x hx => by simp at hx⟩
  | succ n ih =>
    obtain ⟨l, hl, hp⟩ := ih fun i hi => h i (by omega)
    obtain ⟨x, hx⟩ := h n (by omega)
    refine ⟨l ++ [x], by simp [hl], fun i y hy => ?_⟩
    rcases Nat.lt_or_ge i l.length with hi | hi
    · rw [List.getElem?_append_left hi] at hy
      exact hp i y hy
    · have hin : i = l.length := by
        have := (List.getElem?_eq_some_iff.1 hy).1
        simp at this
        omega
      subst hin
      have hyx : x = y := by simpa using hy
      subst hyx
      rw [hl]
      exact hx

theorem opens_slice {P : Program} {T e : TypeId} {α : Type} {d : Kd α} {wf : α → Prop} (ht : P.underlying T = some (.slice e)) (hc : P.cellsOf e = d.sz) (ho : Opens P e d wf) :
    Opens P T (Kd.slice e d) (fun xs => xs.length ≤ maxLen ∧ ∀ x ∈ xs, wf x) := by
  intro H enc w base spare held fuel cs x h
  rcases open_slice ht h with ⟨rfl, _⟩ | ⟨a, len, cap, m, n, D, Pl, rfl, _, hl, hm, hmm, _, hx⟩
  · exact ⟨[], ⟨none, 0, rfl, Nat.le_refl _, Kd.C_nil _ _⟩, by simp, fun x hx => by cases hx⟩
  · have hlm : len ≤ m := by rw [hmm]; split <;> omega
    obtain ⟨l, hlen, hp⟩ := choose_list (α := α) (n := len) (p := fun i v => wf v ∧ ∃ cs', w.cells? base (a.add (i * P.cellsOf e)) (P.cellsOf e) = some cs' ∧ d.K w v cs') (fun i hi => by
      obtain ⟨cs', h1, h2⟩ := hx i (by omega)
      obtain ⟨v, hK, hw⟩ := ho H enc w base spare held n cs' _ h2
      exact ⟨v, hw, cs', h1, hK⟩)
    subst hlen
    refine ⟨l, ⟨some a, cap, rfl, hl, rfl, ?_, fun _ => ⟨a, rfl, fun j p hj => ?_⟩⟩, ?_, fun x hx => ?_⟩
    · have : cap ≤ 9223372036854775807 := hm
      omega
    · obtain ⟨_, cs', h1, hK⟩ := hp j p hj
      refine ⟨cs', d.K_len hK, hK, fun i u hu => ?_⟩
      obtain ⟨_, hcl, hcell⟩ := World.cells?_some h1
      have hi : i < cs'.length := (List.getElem?_eq_some_iff.1 hu).1
      have hcc := hcell i (by omega)
      rw [← hc, ← Deep.add_add, hcc]
      exact hu
    · exact Nat.le_trans hl hm
    · obtain ⟨i, hi, rfl⟩ := List.mem_iff_getElem.1 hx
      exact (hp i _ (List.getElem?_eq_getElem hi)).1

/-- Fields in line, from cell 'off' on. -/
def OpensF (P : Program) (fs : List Field) (off : Nat) {α : Type} (d : Kd α) (wf : α → Prop) : Prop :=
  ∀ (H : Type) (enc : TypeId × Value → H) (w : World) (base : Nat) (spare : Nat → Bool) (held : Bool) (fuel : Nat) (cs : List Value),
    (∀ f ∈ fs, ∃ x, DataW.trod enc P w base spare held fuel f.type ((cs.drop f.offset).take (P.cellsOf f.type)) = some x) → ∃ v, d.K w v ((cs.drop off).take d.sz) ∧ wf v

theorem opensF_one {P : Program} {f : Field} {off : Nat} {α : Type} {d : Kd α} {wf : α → Prop} (hoff : f.offset = off) (hc : P.cellsOf f.type = d.sz) (ho : Opens P f.type d wf) : OpensF P [f] off d wf := by
  intro H enc w base spare held fuel cs h
  obtain ⟨x, hx⟩ := h f (by simp)
  rw [hoff, hc] at hx
  exact ho H enc w base spare held fuel _ x hx

theorem opensF_cons {P : Program} {f : Field} {fs : List Field} {off : Nat} {α β : Type} {d : Kd α} {d2 : Kd β} {wf : α → Prop} {wf2 : β → Prop} (hoff : f.offset = off) (hc : P.cellsOf f.type = d.sz) (ho : Opens P f.type d wf)
    (h2 : OpensF P fs (off + d.sz) d2 wf2) : OpensF P (f :: fs) off (Kd.pair d d2) (fun x => wf x.1 ∧ wf2 x.2) := by
  intro H enc w base spare held fuel cs h
  obtain ⟨x, hx⟩ := h f (by simp)
  rw [hoff, hc] at hx
  obtain ⟨v, hK, hw⟩ := ho H enc w base spare held fuel _ x hx
  obtain ⟨v2, hK2, hw2⟩ := h2 H enc w base spare held fuel cs (fun g hg => h g (by simp [hg]))
  refine ⟨(v, v2), ⟨_, _, ?_, hK, hK2⟩, hw, hw2⟩
  show List.take (d.sz + d2.sz) (cs.drop off) = _
  rw [List.take_add, List.drop_drop]

theorem opens_struct {P : Program} {T : TypeId} {fs : Array Field} {α β : Type} {d : Kd α} {wf : α → Prop} {g : β → α} (back : α → β) (hg : ∀ y, g (back y) = y) (ht : P.underlying T = some (.struct fs)) (hc : P.cellsOf T = d.sz)
    (ho : OpensF P fs.toList 0 d wf) : Opens P T (Kd.iso d g) (fun x => wf (g x)) := by
  intro H enc w base spare held fuel cs x h
  obtain ⟨xs, n, _, _, hl, hxs, hf⟩ := DataW.trod_struct ht h
  obtain ⟨v, hK, hw⟩ := ho H enc w base spare held n cs (fun f hfm => by
    obtain ⟨i, hi, rfl⟩ := List.mem_iff_getElem.1 hfm
    have hi' : i < fs.size := by simpa using hi
    have := hf i fs[i] (by simp [hi'])
    rw [List.getElem?_eq_getElem (by omega)] at this
    exact ⟨_, by simpa using this⟩)
  refine ⟨back v, ?_, ?_⟩
  · show d.K w (g (back v)) cs
    rw [hg]
    rw [List.drop_zero, ← hc, ← hl, List.take_length] at hK
    exact hK
  · show wf (g (back v))
    rw [hg]
    exact hw

theorem okWide_array {P : Program} {w : World} {r : Reach} {base : Nat} {t e : TypeId} {n : Nat} {v : Value} (ht : P.underlying t = some (.array n e)) (h : Value.okWide P w r base t v) : ∃ cs, v = .agg cs ∧ cs.size = P.cellsOf t := by
  simp only [Value.okWide, ht] at h
  obtain ⟨cs, h1, h2, _⟩ := h
  exact ⟨cs, h1, h2⟩

/-- Elements in line, from element i on: n of them, each of c cells. -/
def OpensI (P : Program) (e c i n : Nat) {α : Type} (d : Kd α) (wf : α → Prop) : Prop :=
  ∀ (H : Type) (enc : TypeId × Value → H) (w : World) (base : Nat) (spare : Nat → Bool) (held : Bool) (fuel : Nat) (cs : List Value),
    (∀ j, i ≤ j → j < i + n → ∃ x, DataW.trod enc P w base spare held fuel e ((cs.drop (j * c)).take c) = some x) → ∃ v, d.K w v ((cs.drop (i * c)).take d.sz) ∧ wf v

theorem opensI_one {P : Program} {e c i : Nat} {α : Type} {d : Kd α} {wf : α → Prop} (hc : c = d.sz) (ho : Opens P e d wf) : OpensI P e c i 1 d wf := by
  intro H enc w base spare held fuel cs h
  obtain ⟨x, hx⟩ := h i (Nat.le_refl _) (by omega)
  subst hc
  exact ho H enc w base spare held fuel _ x hx

theorem opensI_cons {P : Program} {e c i n : Nat} {α β : Type} {d : Kd α} {d2 : Kd β} {wf : α → Prop} {wf2 : β → Prop} (hc : c = d.sz) (ho : Opens P e d wf) (h2 : OpensI P e c (i + 1) n d2 wf2) :
    OpensI P e c i (n + 1) (Kd.pair d d2) (fun x => wf x.1 ∧ wf2 x.2) := by
  intro H enc w base spare held fuel cs h
  subst hc
  obtain ⟨x, hx⟩ := h i (Nat.le_refl _) (by omega)
  obtain ⟨v, hK, hw⟩ := ho H enc w base spare held fuel _ x hx
  obtain ⟨v2, hK2, hw2⟩ := h2 H enc w base spare held fuel cs (fun j h1 h3 => h j (by omega) (by omega))
  refine ⟨(v, v2), ⟨_, _, ?_, hK, hK2⟩, hw, hw2⟩
  show List.take (d.sz + d2.sz) (cs.drop (i * d.sz)) = _
  rw [List.take_add, List.drop_drop, Nat.succ_mul]

theorem opens_array {P : Program} {T e c n : Nat} {α β : Type} {d : Kd α} {wf : α → Prop} {g : β → α} (back : α → β) (hg : ∀ y, g (back y) = y) (ht : P.underlying T = some (.array n e)) (hce : P.cellsOf e = c) (hc : P.cellsOf T = d.sz)
    (ho : OpensI P e c 0 n d wf) : Opens P T (Kd.iso d g) (fun x => wf (g x)) := by
  intro H enc w base spare held fuel cs x h
  obtain ⟨xs, m, _, _, hl, hxs, hf⟩ := DataW.trod_array ht h
  obtain ⟨v, hK, hw⟩ := ho H enc w base spare held m cs (fun j _ hj => by
    have hj' : j < n := by omega
    have := hf j hj'
    rw [List.getElem?_eq_getElem (by omega), hce] at this
    exact ⟨_, this⟩)
  refine ⟨back v, ?_, ?_⟩
  · show d.K w (g (back v)) cs
    rw [hg]
    rw [Nat.zero_mul, List.drop_zero, ← hc, ← hl, List.take_length] at hK
    exact hK
  · show wf (g (back v))
    rw [hg]
    exact hw

theorem opens_i64 {P : Program} {T : TypeId} (ht : P.underlying T = some (.int .i64)) : Opens P T (Kd.int .i64) (fun n => -9223372036854775808 ≤ n ∧ n ≤ 9223372036854775807) := by
  intro H enc w base spare held fuel cs x h
  obtain ⟨v, hv, hw⟩ := opens_int ht H enc w base spare held fuel cs x h
  exact ⟨v, hv, bounds_i64 hw⟩
theorem opens_u64 {P : Program} {T : TypeId} (ht : P.underlying T = some (.int .u64)) : Opens P T (Kd.int .u64) (fun n => 0 ≤ n ∧ n ≤ 18446744073709551615) := by
  intro H enc w base spare held fuel cs x h
  obtain ⟨v, hv, hw⟩ := opens_int ht H enc w base spare held fuel cs x h
  exact ⟨v, hv, bounds_u64 hw⟩
theorem opens_u8 {P : Program} {T : TypeId} (ht : P.underlying T = some (.int .u8)) : Opens P T (Kd.int .u8) (fun n => 0 ≤ n ∧ n ≤ 255) := by
  intro H enc w base spare held fuel cs x h
  obtain ⟨v, hv, hw⟩ := opens_int ht H enc w base spare held fuel cs x h
  exact ⟨v, hv, bounds_u8 hw⟩

theorem toArray_of {cs : Array Value} {l : List Value} (h : cs.toList = l) : cs = l.toArray := by
  subst h
  simp
end Go.Proofs.Ytidpeongblkcbaa.XOpen
