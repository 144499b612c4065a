/- Rows of segments as arguments; the row PathChecks. Conditions: those that each theorem names. -/
import Derived.Test.YtpleidpbapgmiaaDoorPaE
import Derived.Test.YtpleidpbapgmiaaDoorSyG2
import Derived.Test.YtpleidpbapgmiaaDoorSyX
namespace Go.Proofs.YtpleidpbapgmiaaDoor.Sy
open Go Go.Proofs
open Go.RowKit Go.ChangeShapes Go.WideShapes Go.Deep
set_option linter.unusedVariables false

abbrev sgK : List CK := [.int .i64, .int .i64, .int .i64, .int .i64, .int .i64, .int .i64, .int .i64]
def needV : List Int := [0, 1, 1, 2, 3, 0]
theorem segs_of {cap : Nat} {vs : List Value} (h : RowsOk sgK cap vs) : ∃ l : List Sg, l.length = cap ∧ vs.map .sc = l.flatMap Sg.cs := by
  unfold RowsOk at h
  induction cap generalizing vs with
  | zero => simp only [List.replicate_zero, List.flatten_nil, CksOk] at h; subst h; exact ⟨[], rfl, rfl⟩
  | succ k ih =>
    rw [List.replicate_succ, List.flatten_cons] at h
    simp only [List.cons_append, List.nil_append, CksOk] at h
    obtain ⟨x0, _, rfl, _, x1, _, rfl, _, x2, _, rfl, _, x3, _, rfl, _, x4, _, rfl, _, x5, _, rfl, _, x6, r, rfl, _, h3⟩ := h
    obtain ⟨l, e1, e2⟩ := ih h3
    exact ⟨⟨x0, ⟨x1, x2⟩, ⟨x3, x4⟩, ⟨x5, x6⟩⟩ :: l, by simp [e1], by simp [e2, Sg.cs]⟩
theorem flat_take7 : ∀ (l : List Sg) (k : Nat), (l.flatMap Sg.cs).take (k * 7) = (l.take k).flatMap Sg.cs := by
  intro l
  induction l with
  | nil => intro k; simp
  | cons x l ih =>
    intro k
    cases k with
    | zero => simp
    | succ k =>
      rw [show (k + 1) * 7 = k * 7 + 1 + 1 + 1 + 1 + 1 + 1 + 1 by omega]
      simp [ih k]
/-- A slice of segments, laid: it is read. -/
theorem segs_rl {m : Mem} {n : Nat} {c : Cell} {v : Value} (h : (c = .sc (.slice none 0 0) ∧ v = .slice none 0 0) ∨ ∃ len cap vs, c = .sl n 0 len none sgK.length ∧ len ≤ cap ∧ cap ≤ maxLen ∧ RowsOk sgK cap vs ∧ m n = some ⟨vs.map .sc, false⟩) :
    ∃ l : List Sg, RSg m (n + 1) (.one c) l := by
  rcases h with ⟨rfl, _⟩ | ⟨len, cap, vs, rfl, h1, _, h2, h3⟩
  · exact ⟨[], Or.inl ⟨rfl, rfl⟩⟩
  · obtain ⟨l, e1, e2⟩ := segs_of h2
    have hlen : (l.take len).length = len := by rw [List.length_take]; omega
    refine ⟨l.take len, Or.inr ⟨n, 0, none, by rw [hlen]; rfl, by omega, ?_⟩⟩
    rw [rd_of h3, hlen, e2]
    have e4 : (l.flatMap Sg.cs).length = cap * 7 := by rw [flatMap_len Sg.cs 7 cs7, e1]
    unfold rdB
    rw [if_pos (by show 0 + len * 7 ≤ (l.flatMap Sg.cs).length; rw [e4]; omega), List.drop_zero, flat_take7]
/-- A path, laid behind the table. -/
theorem path_lay {W : World} (ht : 0 < W.heap.size ∧ ∀ j v, needV[j]? = some v → W.cell? ⟨0, j, none⟩ = some (.int .i64 v)) {v : Value} (hs : SlOk W sgK v) :
    ∃ (ρ : Loc) (m : Mem) (c : Cell) (l : List Sg), MRel ρ 2 W m ∧ Held m ∧ Glob 1 ρ 2 ∧ RSg m 2 (.one c) l ∧ m 0 = some ⟨needC, false⟩ ∧ RRel ρ 2 W (.one c) v := by
  obtain ⟨ρ, n, m, c0, hm, hh, hle, hc, hold, rfl, hk0⟩ := mix_lay (tab_mem (vals := needV) ht.1 ht.2) tab_held hs
  obtain ⟨l, hr⟩ := segs_rl hk0
  exact ⟨ρ, m, c0, l, hm, hh, tab_glob.mono hle, hr, by rw [hold 0 (by omega)]; exact upd_same _ _ _, by simpa only [RRel] using hc⟩
theorem hWA : ∀ fi nd, (some (53, 15) : Option (Nat × Nat)) = some (fi, nd) → WalkOK Tryd.prog 1 fi nd := fun fi nd h => by
  cases h
  exact walk_ok
theorem rowL4 (hmix : Tryd.prog.follows .mixedOrders = true) (W : World) (ht : 0 < W.heap.size ∧ ∀ j v, needV[j]? = some v → W.cell? ⟨0, j, none⟩ = some (.int .i64 v)) (v : Value) (hv : SlOk W sgK v)
    (k : Int) (hk : IntKind.i64.min ≤ k ∧ k ≤ IntKind.i64.max) :
    Calls Tryd.prog 4 #[v, .int .i64 k] W (fun e w' => e = .returned (.bool true) ∧ Go.RowKit.Below W.heap.size W w') := by
  obtain ⟨ρ, m, c, l, hm, hh, hg, hr, h0, hc⟩ := path_lay ht hv
  exact law_callsW (ng := 1) (ρ := ρ) (n := 2) hWA hmix TA_ok (law4 (.one c) l k m 2 hr (by omega) false h0) hm hg
    ⟨_, _, rfl, hc, _, _, rfl, ⟨rfl, rfl⟩, rfl⟩ hh
end Go.Proofs.YtpleidpbapgmiaaDoor.Sy
