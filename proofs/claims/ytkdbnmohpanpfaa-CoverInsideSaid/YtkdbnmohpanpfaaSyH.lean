/- An evaluator of a part of Go's operations over a memory of its own, part eight: append, copy. Conditions: those that each theorem names. -/
import Derived.Test.YtkdbnmohpanpfaaSyG
namespace Go.Proofs.Ytkdbnmohpanpfaa.Sy
open Go
set_option linter.unusedVariables false
set_option linter.unusedSimpArgs false

section
variable {P : Program} {ρ : Loc} {n : Nat} {w : World} {m : Mem} {o : Oper} {a : Act} {ng : Nat} {env : Nat → Reg}

/-! ### append -/
theorem MRel.drew (h : MRel ρ n w m) : MRel ρ n w.drew m := by
  have L : Le ρ n w ρ n w.drew := ⟨Nat.le_refl _, fun _ _ => rfl, fun _ h => h⟩
  exact ⟨h.lt, h.blk, fun id b hb i c hc => by obtain ⟨v, h1, h2⟩ := h.cells id b hb i c hc; exact ⟨v, h1, CRel.mono L _ _ h2⟩, h.soft, h.apart⟩

theorem Step.drew (h : MRel ρ n w m) : Step ρ n w m ρ n w.drew m :=
  ⟨⟨Nat.le_refl _, fun _ _ => rfl, fun _ h => h⟩, h.drew, ⟨rfl, rfl, rfl, Nat.le_refl _, fun _ _ _ => rfl⟩, fun id b _ hb => ⟨b, hb, fun h => h⟩, fun id b h1 h2 => absurd (h.lt id b h2) (Nat.not_lt.2 h1)⟩

/-- Less memory behind a step. -/
theorem Step.less {ρ' : Loc} {n' : Nat} {w' : World} {m' m'' : Mem} (h : Step ρ n w m ρ' n' w' m') (hs : ∀ id b, m'' id = some b → m' id = some b) : Step ρ n w m ρ' n' w' m'' :=
  ⟨h.le, h.rel.sub (fun id b hb => ⟨b, hs id b hb, rfl, fun x => x⟩), h.fr, fun id b hi hb => h.dom id b hi (hs id b hb), fun id b hi hb => h.fresh id b hi (hs id b hb)⟩

/-- The part of append that grows. -/
theorem run_grow {t u ty e d' : TypeId} {i : TypeInfo} {z : Value} {base : Option Addr} {sLen sCap k : Nat} {olds news : List Value} {x : Value} (hu : P.underlying t = some (.slice e)) (hd : P.underlying u = some (.slice d'))
    (hi : P.info? e = some i) (hz : i.zero = some z) (hlen : ∀ W, (Builtin.lenOf x).run P W = .ok k W)
    (ho : ∀ W : World, (∀ y, W.cell? y = w.cell? y) → (Builtin.firstCells i.size sLen (.slice base sLen sCap)).run P W = .ok olds.toArray W)
    (hn : ∀ W : World, (∀ y, W.cell? y = w.cell? y) → (Builtin.firstCells i.size k x).run P W = .ok news.toArray W)
    (hg : sCap < sLen + k) (h1 : sLen + k ≤ 4294967296) (h2 : i.bytes ≤ 4096) (h3 : 0 < i.bytes) :
    (Builtin.append_ #[t, u] ty #[.slice base sLen sCap, x]).run P w =
      .ok (.slice (some ⟨w.heap.size, 0, none⟩) (sLen + k) (grownCap w (sLen + k) sCap e))
        (w.drew.alloc (.cells ((olds ++ news) ++ (Builtin.zeroCells z.cells (grownCap w (sLen + k) sCap e - (sLen + k))).toList).toArray e)) := by
  have hnle : ¬ (sLen + k ≤ sCap) := by omega
  have hb0 : i.bytes ≠ 0 := by omega
  have hfit : Builtin.nextslicecap (sLen + k) sCap * i.bytes ≤ 281474976710656 := growslice_fits hg (by
    have : (sLen + k) * i.bytes ≤ 4294967296 * 4096 := Nat.mul_le_mul h1 h2
    omega)
  have hfit' : ¬ (281474976710656 < Builtin.nextslicecap (sLen + k) sCap * i.bytes) := by omega
  have e1 := ho w.drew (fun _ => rfl)
  have e2 := hn w.drew (fun _ => rfl)
  have hroom : ∀ k W, (askRoom k).run P W = .ok () W := by
    intro k W
    unfold askRoom
    split <;> rfl
  simp only [Builtin.append_]
  simp [run_underlying hu, run_underlying hd, sizeOf, typeInfo, zeroValue, hi, hz, hlen, hnle, hb0, hfit', Question.forced, e1, e2, hroom, newRow, grownCap]
  congr 2
  apply Array.ext'
  simp

/-- The part of append that puts zeros into a new row. -/
theorem run_zeros {t u ty e : TypeId} {i : TypeInfo} {z : Value} {k : Nat} {kd : IntKind} (hu : P.underlying t = some (.slice e)) (hd : P.underlying u = some (.int kd))
    (hi : P.info? e = some i) (hz : i.zero = some z) (hk : 0 < k) (h1 : k ≤ 4294967296) (h2 : i.bytes ≤ 4096) (h3 : 0 < i.bytes) (h4 : 0 < i.size) :
    (Builtin.append_ #[t, u] ty #[.slice none 0 0, .int .i64 k]).run P w =
      .ok (.slice (some ⟨w.heap.size, 0, none⟩) k (grownCap w k 0 e))
        (w.drew.alloc (.cells ((Builtin.zeroCells z.cells k).toList ++ (Builtin.zeroCells z.cells (grownCap w k 0 e - k)).toList).toArray e)) := by
  have hnle : ¬ (k ≤ 0) := by omega
  have hk0 : k ≠ 0 := by omega
  have hs0 : i.size ≠ 0 := by omega
  have hb0 : i.bytes ≠ 0 := by omega
  have hfit : Builtin.nextslicecap k 0 * i.bytes ≤ 281474976710656 := by
    have := growslice_fits (need := k) (old := 0) (bytes := i.bytes) hk (by
      have : k * i.bytes ≤ 4294967296 * 4096 := Nat.mul_le_mul h1 h2
      omega)
    simpa using this
  have hfit' : ¬ (281474976710656 < Builtin.nextslicecap k 0 * i.bytes) := by omega
  have hroom : ∀ k W, (askRoom k).run P W = .ok () W := by
    intro k W
    unfold askRoom
    split <;> rfl
  have hw : IntKind.i64.wrap (k : Int) = k := by simp [IntKind.wrap, IntKind.bits, IntKind.signed]; omega
  have hbig : ¬ ((k : Int) * i.bytes > 281474976710656) := by
    have : (k : Int) * i.bytes ≤ 4294967296 * 4096 := Int.mul_le_mul (by omega) (by omega) (by omega) (by omega)
    omega
  have hmax : ¬ (9223372036854775807 < (k : Int)) := by omega
  have hks : k * i.size ≠ 0 := Nat.ne_of_gt (Nat.mul_pos hk h4)
  have hneg : ¬ ((k : Int) < 0) := by omega
  simp only [Builtin.append_]
  simp [run_underlying hu, run_underlying hd, sizeOf, typeInfo, zeroValue, hi, hz, asInt, asIntOf, hw, hneg, hbig, hmax, hks, hnle, hk0, hs0, hb0, hfit', Question.forced, hroom, newRow, grownCap, Builtin.firstCells]
  congr 2
  apply Array.ext'
  simp

/-- The part of append that has room. -/
theorem run_room {t u ty e : TypeId} {i : TypeInfo} {b off sLen sCap k : Nat} {news : List Value} {x : Value} {d' : TypeId} (hu : P.underlying t = some (.slice e)) (hd : P.underlying u = some (.slice d'))
    (hi : P.info? e = some i) (hlen : ∀ W, (Builtin.lenOf x).run P W = .ok k W)
    (hn : ∀ W : World, (∀ y, W.cell? y = w.cell? y) → (Builtin.firstCells i.size k x).run P W = .ok news.toArray W)
    (hroom : sLen + k ≤ sCap) (hc : ∀ j, j < news.length → (w.cell? ⟨b, off + sLen * i.size + j, none⟩).isSome = true) (hf : ∀ j, j < news.length → w.frozen? ⟨b, off + sLen * i.size + j, none⟩ = false) (h1 : ∀ v ∈ news, v.oneCell' = true) :
    (Builtin.append_ #[t, u] ty #[.slice (some ⟨b, off, none⟩) sLen sCap, x]).run P w = .ok (.slice (some ⟨b, off, none⟩) (sLen + k) sCap) (w.setCells b (off + sLen * i.size) news) := by
  have hst := run_storeCells_cells (P := P) b (off + sLen * i.size) news 0 w (by simpa using hc) (by simpa using hf) h1
  simp only [Nat.add_zero] at hst
  have e2 := hn w (fun _ => rfl)
  simp [Builtin.append_, run_underlying hu, run_underlying hd, sizeOf, typeInfo, hi, hlen, hroom, e2, Addr.add0, hst]

theorem run_room_nil {t u ty e : TypeId} {i : TypeInfo} {x : Value} {d' : TypeId} (hu : P.underlying t = some (.slice e)) (hd : P.underlying u = some (.slice d'))
    (hi : P.info? e = some i) (hlen : ∀ W, (Builtin.lenOf x).run P W = .ok 0 W)
    (hn : ∀ W : World, (∀ y, W.cell? y = w.cell? y) → (Builtin.firstCells i.size 0 x).run P W = .ok #[] W) :
    (Builtin.append_ #[t, u] ty #[.slice none 0 0, x]).run P w = .ok (.slice none 0 0) w := by
  have e2 := hn w (fun _ => rfl)
  simp [Builtin.append_, run_underlying hu, run_underlying hd, sizeOf, typeInfo, hi, hlen, e2]

/-- What is appended to moves: its number goes, another one comes. -/
theorem Step.move {id oo len k s cp : Nat} {b : Blk} {olds news : List Cell} {ovs nvs : List Value} (hm : MRel ρ n w m) (hb : m id = some b) (hown : b.own = true)
    (ho : CRels ρ n w olds ovs) (hol : ovs.length = len * s) (hov : ∀ (j : Nat) (v : Value), ovs[j]? = some v → w.cell? ⟨(ρ id).1, oo + j, none⟩ = some v) (hn : CRels ρ n w news nvs) (hnl : nvs.length = k * s) (hroom : len + k ≤ cp)
    (hcells : ∀ j, j < cp * s → (w.cell? ⟨(ρ id).1, oo + j, none⟩).isSome = true) :
    Step ρ n w m (upd ρ n ((ρ id).1, oo)) (n + 1) (w.setCells (ρ id).1 (oo + len * s) nvs) (upd (upd m id none) n (some ⟨olds ++ news, true⟩)) ∧
      RRel (upd ρ n ((ρ id).1, oo)) (n + 1) (w.setCells (ρ id).1 (oo + len * s) nvs) (.one (.sl n 0 (len + k) none s)) (.slice (some ⟨(ρ id).1, oo, none⟩) (len + k) cp) := by
  have hfit : len * s + k * s ≤ cp * s := by rw [← Nat.add_mul]; exact Nat.mul_le_mul_right _ hroom
  have hlive : ∀ j, j < nvs.length → (w.cell? ⟨(ρ id).1, oo + len * s + j, none⟩).isSome = true := fun j hj => by
    rw [Nat.add_assoc]; exact hcells _ (by omega)
  have hL : Le ρ n w (upd ρ n ((ρ id).1, oo)) (n + 1) (w.setCells (ρ id).1 (oo + len * s) nvs) :=
    ⟨Nat.le_succ _, fun i h => upd_ne _ _ (Nat.ne_of_lt h), fun a h => World.live_setCells _ _ _ _ hlive a h⟩
  obtain ⟨q1, q2, q3⟩ := World.same_setCells (ρ id).1 nvs (oo + len * s) w
  have hidn := hm.lt id b hb
  have hback : ∀ id' b', id' ≠ n → upd (upd m id none) n (some ⟨olds ++ news, true⟩) id' = some b' → m id' = some b' ∧ id' ≠ id := fun id' b' hne h => by
    rw [upd_ne _ _ hne] at h
    by_cases e : id' = id
    · subst e; rw [upd_same] at h; cases h
    · rw [upd_ne _ _ e] at h; exact ⟨h, e⟩
  refine ⟨⟨hL, ⟨?_, ?_, ?_, ?_, ?_⟩, ⟨q1, q2, q3, by rw [World.size_setCells]; exact Nat.le_refl _, fun k' hk hno => World.heap_setCells_ne _ _ _ _ _ (fun e => hno ⟨id, b, hb, hown, e.symm⟩)⟩, ?_, ?_⟩, ?_⟩
  · intro id' b' h
    by_cases e : id' = n
    · omega
    · exact Nat.lt_succ_of_lt (hm.lt id' b' (hback id' b' e h).1)
  · intro id' b' h
    rw [World.size_setCells]
    by_cases e : id' = n
    · subst e; rw [upd_same]; exact hm.blk id b hb
    · rw [upd_ne _ _ e]; exact hm.blk id' b' (hback id' b' e h).1
  · intro id' b' h i c hi
    by_cases e : id' = n
    · subst e
      rw [upd_same] at h ⊢
      cases h
      simp only at hi ⊢
      have hol' := CRels.length _ _ ho
      rcases Nat.lt_or_ge i olds.length with h1 | h1
      · rw [List.getElem?_append_left h1] at hi
        obtain ⟨v, h2, h3⟩ := CRels.get _ _ ho i c hi
        exact ⟨v, by rw [World.cell?_setCells_out _ _ _ _ _ (fun _ _ => Or.inl (by simp; omega))]; exact hov i v h2, CRel.mono hL _ _ h3⟩
      · rw [List.getElem?_append_right h1] at hi
        obtain ⟨v, h2, h3⟩ := CRels.get _ _ hn _ c hi
        have hlt := (List.getElem?_eq_some_iff.1 h2).1
        have := World.cell?_setCells_in (ρ id).1 nvs (oo + len * s) w hlive (i - olds.length) hlt
        refine ⟨v, ?_, CRel.mono hL _ _ h3⟩
        rw [show oo + i = oo + len * s + (i - olds.length) by omega, this]
        rw [List.getElem?_eq_getElem hlt] at h2
        exact h2
    · obtain ⟨h1, h2⟩ := hback id' b' e h
      rw [upd_ne _ _ e]
      obtain ⟨v, h3, h4⟩ := hm.cells id' b' h1 i c hi
      exact ⟨v, by rw [World.cell?_setCells_out _ _ _ _ _ (fun h5 _ => absurd h5 (hm.apart id b hb hown id' b' h1 h2))]; exact h3, CRel.mono hL _ _ h4⟩
  · intro id' b' h hown' o'
    rw [World.frozen?_setCells]
    by_cases e : id' = n
    · subst e; rw [upd_same]; exact hm.soft id b hb hown o'
    · rw [upd_ne _ _ e]; exact hm.soft id' b' (hback id' b' e h).1 hown' o'
  · intro id' b' h hown' id'' b'' h' hne
    by_cases e : id' = n
    · subst e
      obtain ⟨h1, h2⟩ := hback id'' b'' hne h'
      rw [upd_same, upd_ne _ _ hne]
      exact hm.apart id b hb hown id'' b'' h1 h2
    · obtain ⟨h1, h2⟩ := hback id' b' e h
      by_cases e' : id'' = n
      · subst e'
        rw [upd_same, upd_ne _ _ e]
        exact fun h3 => hm.apart id b hb hown id' b' h1 h2 h3.symm
      · obtain ⟨h3, h4⟩ := hback id'' b'' e' h'
        rw [upd_ne _ _ e, upd_ne _ _ e']
        exact hm.apart id' b' h1 hown' id'' b'' h3 hne
  · intro id' b' hi h
    exact ⟨b', (hback id' b' (Nat.ne_of_lt hi) h).1, fun x => x⟩
  · intro id' b' hi h
    by_cases e : id' = n
    · subst e; exact Or.inr ⟨id, b, hb, hown, by rw [upd_same]⟩
    · exact absurd (hm.lt id' b' (hback id' b' e h).1) (Nat.not_lt.2 hi)
  · simp only [RRel, CRel, upd_same]
    exact ⟨Nat.lt_succ_self _, oo, cp, rfl, fun _ => rfl, hroom, fun c h => (by cases h), fun j hj => World.live_setCells _ _ _ _ hlive _ (hcells j hj)⟩

theorem d_app {t u e d' ty : TypeId} {c : Call} {x y : Operand} {x' y' : O} {s by' : Nat} {z : List Value} {r : Reg} {m' : Mem} {n' : Nat} (ho : o.op = .call c) (hca : c.callee = .builtin .append) (hargs : c.args.toList = [x, y]) (hat : c.argTypes.toList = [t, u]) (hm : MRel ρ n w m) (hg : Glob ng ρ n) (he : ERel ρ n w env a)
    (hx : slimO ng x = some x') (hy : slimO ng y = some y') (hu : P.underlying t = some (.slice e)) (hd : P.underlying u = some (.slice d')) (hs : tsz P e = some s) (hb : tby P e = some by') (hz : tzero P e = some z) (hzl : z.length = s) (hs0 : 0 < s) (hb1 : by' ≤ 4096) (hb0 : 0 < by')
    (hev : evApp m n s by' (evO env x') (evO env y') = some (r, m', n')) : Does P o a ρ n w m r m' n' := by
  obtain ⟨i, zv, g1, g2, g3, g4⟩ := tzero_inv hz
  have hsi : i.size = s := by unfold tsz at hs; rw [g1] at hs; simpa using hs
  have hbi : i.bytes = by' := by unfold tby at hb; rw [g1] at hb; simpa using hb
  have e1 : c.args = #[x, y] := Array.ext' (by simpa using hargs)
  have e2 : c.argTypes = #[t, u] := Array.ext' (by simpa using hat)
  have hxr := evO_rel hx hg he
  have hyr := evO_rel hy hg he
  have hrun : ∀ v w', (Builtin.append_ #[t, u] o.type #[a.eval x, a.eval y]).run P w = .ok v w' → (execOp a.eval o).run P w = .ok (.value v) w' := fun v w' h => by
    simp [execOp, ho, resolve, hca, e1, e2, invoke, builtin, h]
  unfold evApp at hev
  split at hev
  case h_1 => cases hev
  rename_i k news hnews
  obtain ⟨nvs, hn1, hn2, hn2', hn3, hn4⟩ := newsOf_rel (P := P) hm hyr hnews
  have hn5 : ∀ W : World, (∀ q, W.cell? q = w.cell? q) → (Builtin.firstCells i.size k (a.eval y)).run P W = .ok nvs.toArray W := fun W hW => by
    have := hn4 W hW k (Nat.le_refl _)
    rwa [← hn2, List.take_length, ← hsi] at this
  -- what is made anew
  have hgrow : ∀ (base : Option Addr) (sLen sCap : Nat) (olds : List Cell) (ovs : List Value), a.eval x = .slice base sLen sCap → CRels ρ n w olds ovs → ovs.length = sLen * s →
      (∀ W : World, (∀ q, W.cell? q = w.cell? q) → (Builtin.firstCells s sLen (.slice base sLen sCap)).run P W = .ok ovs.toArray W) → sCap < sLen + k → sLen + k ≤ 4294967296 →
      Does P o a ρ n w m (.one (.sl n 0 (sLen + k) none s)) (upd m n (some ⟨olds ++ news, true⟩)) (n + 1) := by
    intro base sLen sCap olds ovs hxe hc hol hof hgt hle
    have hr := run_grow (P := P) (w := w) (ty := o.type) (z := zv) hu hd g1 g2 hn3 (by rw [hsi]; exact hof) hn5 hgt hle (by omega) (by omega)
    have hst := (Step.drew hm).trans (Step.alloc' hm.drew (olds ++ news) (ovs ++ nvs) (Builtin.zeroCells zv.cells (grownCap w (sLen + k) sCap e - (sLen + k))).toList e
      (CRels.append (CRels.mono (Step.drew hm).le _ _ hc) (CRels.mono (Step.drew hm).le _ _ hn1)))
    rw [← hxe] at hr
    refine does_run (hrun _ _ hr) hst (sl_new (w := w.drew) e _ _ (sLen + k) _ s none rfl (grownCap_ge w _ _ e) ?_ (fun x h => by cases h))
    have hge := grownCap_ge w (sLen + k) sCap e
    have hzs : zv.cells.size = s := by rw [g3]; simpa using hzl
    simp only [List.length_append, hol, hn2, Array.length_toList, size_zeroCells, hzs]
    rw [← Nat.add_mul, ← Nat.add_mul]
    exact Nat.mul_le_mul_right _ (by omega)
  split at hev
  · -- nil
    rename_i hxe
    rw [hxe] at hxr
    have hxv := nils_inv hxr
    split at hev
    · rename_i hk
      subst hk
      cases hev
      refine does_same (hrun (.slice none 0 0) w ?_) hm (by simp [RRel, CRel, Value.oneCell'])
      rw [hxv]
      have : nvs = [] := List.length_eq_zero_iff.1 (by omega)
      subst this
      exact run_room_nil hu hd g1 hn3 hn5
    · rename_i hk
      split at hev
      case isFalse => cases hev
      rename_i hle
      cases hev
      have := hgrow none 0 0 [] [] hxv (by simp [CRels]) (by simp) (fun W _ => by simp [Builtin.firstCells]) (by omega) (by omega)
      simpa using this
  · rename_i id off len cap sz' hxe
    rw [hxe] at hxr
    split at hev
    case isFalse => cases hev
    rename_i hh
    obtain ⟨hsz, hle⟩ := hh
    subst hsz
    obtain ⟨hid, oo, cp, hxv, ho1, hlc, hcap, hcells⟩ := sl_inv hxr
    have hroomy : ∀ (olds : List Cell), rd m id off (len * sz') = some olds → ∃ ovs, CRels ρ n w olds ovs ∧ ovs.length = len * sz' ∧ (∀ (j : Nat) (v : Value), ovs[j]? = some v → w.cell? ⟨(ρ id).1, oo + j, none⟩ = some v) ∧
        (∀ W : World, (∀ q, W.cell? q = w.cell? q) → (Builtin.firstCells sz' len (.slice (some ⟨(ρ id).1, oo, none⟩) len cp)).run P W = .ok ovs.toArray W) := by
      intro olds hrd
      obtain ⟨_, hl, vs, h3, h4⟩ := rd_cells hm hrd
      have hlv := CRels.length _ _ h3
      have h5 : ∀ (j : Nat) (v : Value), vs[j]? = some v → w.cell? ⟨(ρ id).1, oo + j, none⟩ = some v := fun j v hj => by
        have hlt := (List.getElem?_eq_some_iff.1 hj).1
        have hne : cp ≠ 0 := by
          intro e0
          have : len = 0 := by omega
          subst this
          omega
        rw [ho1 hne]
        exact h4 j v hj
      refine ⟨vs, h3, by omega, h5, fun W hW => ?_⟩
      have := run_loadCells_list (P := P) W ⟨(ρ id).1, oo, none⟩ vs (fun j v hj => by rw [Addr.add0, hW]; exact h5 j v hj)
      rw [show vs.length = len * sz' by omega] at this
      simpa [Builtin.firstCells] using this
    split at hev
    · -- a capacity that is known
      rename_i cc
      have hcp := hcap cc rfl
      subst hcp
      split at hev
      · rename_i hroom
        split at hev
        · rename_i hk
          subst hk
          cases hev
          have : nvs = [] := List.length_eq_zero_iff.1 (by omega)
          subst this
          refine does_same (hrun (.slice (some ⟨(ρ id).1, oo, none⟩) len cp) w ?_) hm ?_
          · rw [hxv]
            have := run_room (P := P) (w := w) (ty := o.type) (b := (ρ id).1) (off := oo) hu hd g1 hn3 hn5 hroom (by simp) (by simp) (by simp)
            simpa [World.setCells] using this
          · simp only [RRel, CRel]
            exact ⟨hid, oo, cp, rfl, ho1, hlc, fun c h => by cases h; rfl, hcells⟩
        · rename_i hk
          obtain ⟨m1, hw, hq⟩ := Option.map_eq_some_iff.1 hev
          cases hq
          obtain ⟨h5, h6, h7⟩ := Step.store hm hw hn1
          have hne : cp ≠ 0 := by omega
          have ho2 := ho1 hne
          subst ho2
          have hr := run_room (P := P) (w := w) (ty := o.type) (b := (ρ id).1) (off := (ρ id).2 + off) hu hd g1 hn3 hn5 hroom (by rw [hsi]; intro j hj; have := h6 j hj; rwa [← Nat.add_assoc] at this) (by rw [hsi]; intro j hj; have := h7 j hj; rwa [← Nat.add_assoc] at this) (CRels.all_one _ _ hn1)
          rw [← hxv, hsi, Nat.add_assoc] at hr
          refine does_run (hrun _ _ hr) h5 ?_
          simp only [RRel, CRel]
          exact ⟨hid, _, cp, rfl, fun _ => rfl, hroom, fun c h => by cases h; rfl, fun j hj => h5.le.live _ (hcells j hj)⟩
      · rename_i hroom
        obtain ⟨olds, hrd, hq⟩ := Option.map_eq_some_iff.1 hev
        cases hq
        obtain ⟨ovs, h3, h4, h5, h6⟩ := hroomy olds hrd
        exact hgrow _ len cp olds ovs hxv h3 h4 h6 (by omega) hle
    · -- a capacity that is not known
      split at hev
      case h_2 => cases hev
      rename_i b hmb
      split at hev
      case isFalse => cases hev
      rename_i hown
      obtain ⟨olds, hrd, hq⟩ := Option.map_eq_some_iff.1 hev
      cases hq
      obtain ⟨ovs, h3, h4, h5, h6⟩ := hroomy olds hrd
      rcases Nat.lt_or_ge cp (len + k) with hlt | hge
      · have hgr := hgrow _ len cp olds ovs hxv h3 h4 h6 hlt hle
        intro F nf _ next Q hsem hnext
        refine hgr F nf next Q hsem (fun v ρ' w' hst hv => hnext v ρ' w' (hst.less (fun id' b' hb' => ?_)) hv)
        by_cases e : id' = n
        · subst e; rwa [upd_same] at hb' ⊢
        · rw [upd_ne _ _ e] at hb' ⊢
          by_cases e' : id' = id
          · subst e'; rw [upd_same] at hb'; cases hb'
          · rwa [upd_ne _ _ e'] at hb'
      · obtain ⟨hst, hv⟩ := Step.move (cp := cp) hm hmb hown h3 h4 h5 hn1 hn2 hge hcells
        have hfit : len * sz' + k * sz' ≤ cp * sz' := by rw [← Nat.add_mul]; exact Nat.mul_le_mul_right _ hge
        have hr := run_room (P := P) (w := w) (ty := o.type) (b := (ρ id).1) (off := oo) hu hd g1 hn3 hn5 hge (by rw [hsi]; intro j hj; rw [Nat.add_assoc]; exact hcells _ (by omega)) (by intro j hj; exact hm.soft id b hmb hown _) (CRels.all_one _ _ hn1)
        rw [← hxv, hsi] at hr
        exact does_run (hrun _ _ hr) hst hv
  · cases hev

theorem d_appz {t u e ty : TypeId} {kd : IntKind} {c : Call} {x y : Operand} {x' y' : O} {s by' : Nat} {z : List Value} {r : Reg} {m' : Mem} {n' : Nat} {k : Int} (ho : o.op = .call c) (hca : c.callee = .builtin .append) (hargs : c.args.toList = [x, y]) (hat : c.argTypes.toList = [t, u]) (hm : MRel ρ n w m) (hg : Glob ng ρ n) (he : ERel ρ n w env a)
    (hx : slimO ng x = some x') (hy : slimO ng y = some y') (hu : P.underlying t = some (.slice e)) (hd : P.underlying u = some (.int kd)) (hs : tsz P e = some s) (hb : tby P e = some by') (hz : tzero P e = some z) (hzl : z.length = s) (hs0 : 0 < s) (hb1 : by' ≤ 4096) (hb0 : 0 < by')
    (hxe : evO env x' = .one (.sc (.slice none 0 0))) (hye : evO env y' = .one (.sc (.int .i64 k)))
    (hev : (if k = 0 then some (Reg.one (.sc (.slice none 0 0)), m, n)
      else if 0 ≤ k ∧ k ≤ 4294967296 then some (.one (.sl n 0 k.toNat none s), upd m n (some ⟨(List.replicate k.toNat (z.map .sc)).flatten, true⟩), n + 1) else none) = some (r, m', n')) : Does P o a ρ n w m r m' n' := by
  obtain ⟨i, zv, g1, g2, g3, g4⟩ := tzero_inv hz
  have hsi : i.size = s := by unfold tsz at hs; rw [g1] at hs; simpa using hs
  have hbi : i.bytes = by' := by unfold tby at hb; rw [g1] at hb; simpa using hb
  have e1 : c.args = #[x, y] := Array.ext' (by simpa using hargs)
  have e2 : c.argTypes = #[t, u] := Array.ext' (by simpa using hat)
  have hxr := evO_rel hx hg he
  have hyr := evO_rel hy hg he
  rw [hxe] at hxr
  rw [hye] at hyr
  have hxv := nils_inv hxr
  have hyv := sc_inv hyr
  have hrun : ∀ v w', (Builtin.append_ #[t, u] o.type #[a.eval x, a.eval y]).run P w = .ok v w' → (execOp a.eval o).run P w = .ok (.value v) w' := fun v w' h => by
    simp [execOp, ho, resolve, hca, e1, e2, invoke, builtin, h]
  split at hev
  · rename_i hk
    subst hk
    cases hev
    refine does_same (hrun (.slice none 0 0) w ?_) hm (by simp [RRel, CRel, Value.oneCell'])
    rw [hxv, hyv]
    have hw0 : IntKind.i64.wrap (0 : Int) = 0 := by decide
    simp [Builtin.append_, run_underlying hu, run_underlying hd, sizeOf, typeInfo, g1, asInt, asIntOf, hw0]
  · rename_i hk
    split at hev
    case isFalse => cases hev
    rename_i hle
    cases hev
    obtain ⟨q, rfl⟩ : ∃ q : Nat, k = q := ⟨k.toNat, by omega⟩
    simp only [Int.toNat_natCast] at *
    have hr := run_zeros (P := P) (w := w) (ty := o.type) (z := zv) (kd := kd) hu hd g1 g2 (k := q) (by omega) (by omega) (by omega) (by omega) (by omega)
    have hzc : (Builtin.zeroCells zv.cells q).toList = (List.replicate q z).flatten := by
      have := rep_arr z (by omega) q
      unfold Builtin.zeroCells
      rw [g3]
      have h2 := congrArg Array.toList this
      simpa using h2
    have hcs : CRels ρ n w (List.replicate q (z.map Cell.sc)).flatten (List.replicate q z).flatten := by
      have := CRels.sc (ρ := ρ) (n := n) (w := w) _ (rep_one g4 q)
      rwa [List.map_flatten, List.map_replicate] at this
    rw [hzc] at hr
    have hst := (Step.drew hm).trans (Step.alloc' hm.drew (List.replicate q (z.map Cell.sc)).flatten (List.replicate q z).flatten (Builtin.zeroCells zv.cells (grownCap w q 0 e - q)).toList e
      (CRels.mono (Step.drew hm).le _ _ hcs))
    rw [← hxv, ← hyv] at hr
    have hge : q ≤ grownCap w q 0 e := by have := grownCap_ge w q 0 e; omega
    refine does_run (hrun _ _ hr) hst (sl_new (w := w.drew) e _ _ q _ s none rfl hge ?_ (fun x h => by cases h))
    have hzs : zv.cells.size = s := by rw [g3]; simpa using hzl
    have hl1 : (List.replicate q z).flatten.length = q * s := by simp [hzl]
    simp only [List.length_append, hl1, Array.length_toList, size_zeroCells, hzs]
    rw [← Nat.add_mul]
    exact Nat.mul_le_mul_right _ (by omega)

theorem d_cpy {t u e d' ty : TypeId} {c : Call} {x y : Operand} {x' y' : O} {s id off len k : Nat} {cap : Option Nat} {news : List Cell} {m' : Mem} {r : Reg} {n' : Nat} (ho : o.op = .call c) (hca : c.callee = .builtin .copy) (hargs : c.args.toList = [x, y]) (hat : c.argTypes.toList = [t, u]) (hm : MRel ρ n w m) (hg : Glob ng ρ n) (he : ERel ρ n w env a)
    (hx : slimO ng x = some x') (hy : slimO ng y = some y') (hu : P.underlying t = some (.slice e)) (hs : tsz P e = some s) (hp : evO env x' = .one (.sl id off len cap s)) (hn : newsOf m s (evO env y') = some (k, news))
    (hev : (if Nat.min k len = 0 then some (.one (.sc (.int .i64 0)), m, n)
         else (wr m id off (news.take (Nat.min k len * s))).map fun m' => (Reg.one (.sc (.int .i64 (Nat.min k len))), m', n)) = some (r, m', n')) : Does P o a ρ n w m r m' n' := by
  have e1 : c.args = #[x, y] := Array.ext' (by simpa using hargs)
  have e2 : c.argTypes = #[t, u] := Array.ext' (by simpa using hat)
  have hxr := evO_rel hx hg he
  have hyr := evO_rel hy hg he
  rw [hp] at hxr
  obtain ⟨hid, oo, cp, hxv, ho1, hlc, hcap, hcells⟩ := sl_inv hxr
  obtain ⟨nvs, hn1, hn2, hn2', hn3, hn4⟩ := newsOf_rel (P := P) hm hyr hn
  have h8 := hn4 w (fun _ => rfl) (Nat.min k len) (Nat.min_le_left _ _)
  split at hev
  · rename_i h0
    cases hev
    refine does_same (v := .int .i64 0) ?_ hm (by simp [RRel, CRel, Value.oneCell'])
    rw [h0] at h8
    simp [execOp, ho, resolve, hca, e1, e2, invoke, builtin, Builtin.copy_, run_underlying hu, hxv, hn3, run_sizeOf_tsz hs, h0, h8, storeCells, goInt]
  · rename_i h0
    obtain ⟨m1, hw, hq⟩ := Option.map_eq_some_iff.1 hev
    cases hq
    have hne : cp ≠ 0 := by
      intro e0
      have : len = 0 := by omega
      subst this
      exact h0 (Nat.min_zero k)
    have ho2 := ho1 hne
    subst ho2
    obtain ⟨h5, h6, h7⟩ := Step.store hm hw (hn1.take _)
    have hst := run_storeCells_cells (P := P) (ρ id).1 ((ρ id).2 + off) (nvs.take (Nat.min k len * s)) 0 w (by simpa using h6) (by simpa using h7) (CRels.all_one _ _ (hn1.take _))
    simp only [Nat.add_zero] at hst
    refine does_run (v := .int .i64 (Nat.min k len)) ?_ h5 (by simp [RRel, CRel, Value.oneCell'])
    simp [execOp, ho, resolve, hca, e1, e2, invoke, builtin, Builtin.copy_, run_underlying hu, hxv, hn3, run_sizeOf_tsz hs, h8, hst, goInt]
end
end Go.Proofs.Ytkdbnmohpanpfaa.Sy
