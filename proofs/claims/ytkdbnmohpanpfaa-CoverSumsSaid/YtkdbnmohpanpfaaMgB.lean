import Derived.Test.YtkdbnmohpanpfaaMgA
import Derived.RangeFuncRecord
/- An evaluator of a part of Go's operations over a memory of its own, part ten: all operations together; a row of them. Conditions: those that each theorem names. -/
namespace Go.Proofs.Ytkdbnmohpanpfaa.Sy
open Go
set_option linter.unusedVariables false
set_option linter.unusedSimpArgs false

section
variable {P : Program} {ρ : Loc} {n n' : Nat} {w : World} {m m' : Mem} {o : Oper} {a : Act} {ng : Nat} {env : Nat → Reg} {call : Callf} {r : Reg} {md : Nat → Mode} {so : SOp}

theorem does_call_op (hcall : CallOK P ng call) {c : Call} (ho : o.op = .call c) (hs : slimOp P ng md (.call c) = some so) (hev : evalOp call env m n so = some (r, m', n')) (hm : MRel ρ n w m) (hg : Glob ng ρ n) (he : ERel ρ n w env a) : Does P o a ρ n w m r m' n' := by
  simp only [slimOp] at hs
  split at hs
  · rename_i f args hca hargs
    split at hs
    case h_2 => cases hs
    rename_i fn hfn
    split at hs
    · rename_i hz
      cases hs
      exact d_call hcall ho hca hargs hm hg he hz.2.2 hev
    · split at hs
      · rename_i hz
        cases hs
        simp only [evalOp] at hev
        obtain ⟨r1, h1, h2⟩ := Option.map_eq_some_iff.1 hev
        cases h2
        exact d_carry (sub := false) ho hca hargs hfn hz.1 hz.2.1 hz.2.2 hm hg he h1
      · split at hs
        · rename_i hz
          cases hs
          simp only [evalOp] at hev
          obtain ⟨r1, h1, h2⟩ := Option.map_eq_some_iff.1 hev
          cases h2
          exact d_carry (sub := true) ho hca hargs hfn hz.1 hz.2.1 hz.2.2 hm hg he h1
        · cases hs
  · rename_i x args hx1 hca hargs
    obtain ⟨x', hx, rfl⟩ := Option.map_eq_some_iff.1 hs
    simp only [evalOp] at hev
    split at hev
    case h_2 => cases hev
    rename_i f caps hp
    exact d_callv hcall ho hca hx hp hargs hm hg he rfl hev
  · -- len
    rename_i x' hca hargs
    split at hs
    case h_2 => cases hs
    rename_i t hat
    obtain ⟨x, hx, hcx⟩ : ∃ x, c.args.toList = [x] ∧ slimO ng x = some x' := by
      cases hc : c.args.toList with
      | nil => rw [hc] at hargs; simp [slimOs] at hargs
      | cons y ys =>
        rw [hc] at hargs
        simp only [slimOs] at hargs
        split at hargs
        · rename_i a1 b1 h1 h2
          cases hargs
          cases ys with
          | nil => exact ⟨y, rfl, h1⟩
          | cons z zs => simp only [slimOs] at h2; split at h2 <;> cases h2
        · cases hargs
    split at hs
    · rename_i e hu
      cases hs
      simp only [evalOp] at hev
      split at hev
      · rename_i hp
        cases hev
        exact d_len (ty := 0) ho hca hx hat hm hg he hcx hu hp
      · rename_i hp
        cases hev
        exact d_lenN (ty := 0) ho hca hx hat hm hg he hcx hu hp
      · cases hev
    · rename_i k e hu
      cases hs
      simp only [evalOp, Option.some.injEq, Prod.mk.injEq] at hev
      obtain ⟨rfl, rfl, rfl⟩ := hev
      exact d_lenC (ty := 0) ho hca hx hat hm hu
    · cases hs
  · -- cap
    rename_i x' hca hargs
    split at hs
    case h_2 => cases hs
    rename_i t hat
    obtain ⟨x, hx, hcx⟩ : ∃ x, c.args.toList = [x] ∧ slimO ng x = some x' := by
      cases hc : c.args.toList with
      | nil => rw [hc] at hargs; simp [slimOs] at hargs
      | cons y ys =>
        rw [hc] at hargs
        simp only [slimOs] at hargs
        split at hargs
        · rename_i a1 b1 h1 h2
          cases hargs
          cases ys with
          | nil => exact ⟨y, rfl, h1⟩
          | cons z zs => simp only [slimOs] at h2; split at h2 <;> cases h2
        · cases hargs
    split at hs
    · rename_i e hu
      cases hs
      simp only [evalOp] at hev
      split at hev
      · rename_i hp
        cases hev
        exact d_cap (ty := 0) ho hca hx hat hm hg he hcx hu hp
      · rename_i hp
        cases hev
        exact d_capN (ty := 0) ho hca hx hat hm hg he hcx hu hp
      · cases hev
    · cases hs
  · -- append
    rename_i s' x' hca hargs
    split at hs
    case h_2 => cases hs
    rename_i t u hat
    split at hs
    case h_3 => cases hs
    · rename_i e d' hu hd
      split at hs
      case h_2 => cases hs
      rename_i sz by' z h1 h2 h3
      split at hs
      case isFalse => cases hs
      rename_i hc4
      cases hs
      obtain ⟨x, y, hx, hcx, hcy⟩ : ∃ x y, c.args.toList = [x, y] ∧ slimO ng x = some s' ∧ slimO ng y = some x' := by
        cases hc : c.args.toList with
        | nil => rw [hc] at hargs; simp [slimOs] at hargs
        | cons y ys =>
          rw [hc] at hargs
          simp only [slimOs] at hargs
          split at hargs
          · rename_i a1 b1 h1 h2
            cases hargs
            cases ys with
            | nil => simp [slimOs] at h2
            | cons z zs =>
              simp only [slimOs] at h2
              split at h2
              · rename_i a2 b2 h3 h4
                cases h2
                cases zs with
                | nil => exact ⟨y, z, rfl, h1, h3⟩
                | cons z zs => simp only [slimOs] at h4; split at h4 <;> cases h4
              · cases h2
          · cases hargs
      exact d_app (ty := 0) ho hca hx hat hm hg he hcx hcy hu hd h1 h2 h3 hc4.1 hc4.2.1 hc4.2.2.1 hc4.2.2.2 hev
    · rename_i e d' hu hd
      split at hs
      case h_2 => cases hs
      rename_i sz by' z h1 h2 h3
      split at hs
      case isFalse => cases hs
      rename_i hc4
      cases hs
      obtain ⟨x, y, hx, hcx, hcy⟩ : ∃ x y, c.args.toList = [x, y] ∧ slimO ng x = some s' ∧ slimO ng y = some x' := by
        cases hc : c.args.toList with
        | nil => rw [hc] at hargs; simp [slimOs] at hargs
        | cons y ys =>
          rw [hc] at hargs
          simp only [slimOs] at hargs
          split at hargs
          · rename_i a1 b1 h1 h2
            cases hargs
            cases ys with
            | nil => simp [slimOs] at h2
            | cons z zs =>
              simp only [slimOs] at h2
              split at h2
              · rename_i a2 b2 h3 h4
                cases h2
                cases zs with
                | nil => exact ⟨y, z, rfl, h1, h3⟩
                | cons z zs => simp only [slimOs] at h4; split at h4 <;> cases h4
              · cases h2
          · cases hargs
      simp only [evalOp] at hev
      split at hev
      case h_2 => cases hev
      rename_i k hp hq
      exact d_appz (ty := 0) ho hca hx hat hm hg he hcx hcy hu hd h1 h2 h3 hc4.1 hc4.2.1 hc4.2.2.1 hc4.2.2.2 hp hq hev
  · -- copy
    rename_i s' x' hca hargs
    split at hs
    case h_2 => cases hs
    rename_i t u hat
    split at hs
    case h_2 => cases hs
    rename_i e d' hu hd
    obtain ⟨sz, h1, rfl⟩ := Option.map_eq_some_iff.1 hs
    obtain ⟨x, y, hx, hcx, hcy⟩ : ∃ x y, c.args.toList = [x, y] ∧ slimO ng x = some s' ∧ slimO ng y = some x' := by
      cases hc : c.args.toList with
      | nil => rw [hc] at hargs; simp [slimOs] at hargs
      | cons y ys =>
        rw [hc] at hargs
        simp only [slimOs] at hargs
        split at hargs
        · rename_i a1 b1 h1 h2
          cases hargs
          cases ys with
          | nil => simp [slimOs] at h2
          | cons z zs =>
            simp only [slimOs] at h2
            split at h2
            · rename_i a2 b2 h3 h4
              cases h2
              cases zs with
              | nil => exact ⟨y, z, rfl, h1, h3⟩
              | cons z zs => simp only [slimOs] at h4; split at h4 <;> cases h4
            · cases h2
        · cases hargs
    simp only [evalOp] at hev
    split at hev
    case h_2 => cases hev
    rename_i id off len cap sz' k news hp hn
    split at hev
    case isFalse => cases hev
    rename_i hsz
    subst hsz
    exact d_cpy (ty := 0) (d' := d') ho hca hx hat hm hg he hcx hcy hu h1 hp hn hev
  · -- clear
    rename_i x' hca hargs
    split at hs
    case h_2 => cases hs
    rename_i t hat
    obtain ⟨x, hx, hcx⟩ : ∃ x, c.args.toList = [x] ∧ slimO ng x = some x' := by
      cases hc : c.args.toList with
      | nil => rw [hc] at hargs; simp [slimOs] at hargs
      | cons y ys =>
        rw [hc] at hargs
        simp only [slimOs] at hargs
        split at hargs
        · rename_i a1 b1 h1 h2
          cases hargs
          cases ys with
          | nil => exact ⟨y, rfl, h1⟩
          | cons z zs => simp only [slimOs] at h2; split at h2 <;> cases h2
        · cases hargs
    split at hs
    case h_2 => cases hs
    rename_i e hu
    split at hs
    case h_2 => cases hs
    rename_i s' z h1 h2
    split at hs
    case isFalse => cases hs
    rename_i hh
    cases hs
    simp only [evalOp] at hev
    exact d_clr ho hca hx hat hm hg he hcx hu h1 h2 hh.1 hh.2 hev
  · -- min
    rename_i xs hca hargs
    cases hs
    simp only [evalOp] at hev
    split at hev
    case h_2 => cases hev
    rename_i k rs hp
    obtain ⟨v, h1, h2⟩ := Option.map_eq_some_iff.1 hev
    cases h2
    exact d_mn ho hca hargs hm hg he hp h1
  · rename_i xs hca hargs
    cases hs
    simp only [evalOp] at hev
    split at hev
    case h_2 => cases hev
    rename_i k rs hp
    obtain ⟨v, h1, h2⟩ := Option.map_eq_some_iff.1 hev
    cases h2
    exact d_mx ho hca hargs hm hg he hp h1
  · cases hs

theorem does_bin_op {op : BinOp} {t t2 : TypeId} {x y : Operand} (ho : o.op = .binOp op t x y t2) (hs : slimOp P ng md (.binOp op t x y t2) = some so) (hev : evalOp call env m n so = some (r, m', n')) (hm : MRel ρ n w m) (hg : Glob ng ρ n) (he : ERel ρ n w env a) : Does P o a ρ n w m r m' n' := by
  simp only [slimOp] at hs
  split at hs
  case h_2 => cases hs
  rename_i x' y' hx hy
  have heqv : ∀ ks, (op = .eql ∨ op = .neq) → tagg P t = some true → flatK P 100 t = some ks → P.eqGuardType P.depth t = false → so = .eqv ks (op == .neq) x' y' → Does P o a ρ n w m r m' n' := by
    intro ks hop hag hk hgd hso
    subst hso
    simp only [evalOp] at hev
    split at hev
    case h_2 => cases hev
    rename_i u v hp hq
    obtain ⟨z, h1, h2⟩ := Option.map_eq_some_iff.1 hev
    cases h2
    exact d_eqv ho hm hg he hx hy hop hag hk hgd hp hq h1
  split at hs
  · rename_i k hu
    cases hs
    simp only [evalOp] at hev
    split at hev
    case h_2 => cases hev
    rename_i u v hp hq
    obtain ⟨z, h1, h2⟩ := Option.map_eq_some_iff.1 hev
    cases h2
    exact d_bin ho hm hg he hx hy hp hq h1
  · rename_i hu
    split at hs
    case isFalse => cases hs
    rename_i hop
    cases hs
    simp only [evalOp] at hev
    split at hev
    case h_2 => cases hev
    rename_i u v hp hq
    cases hev
    exact d_beq ho hm hg he hx hy hop hu hp hq
  · rename_i fs hu
    split at hs
    case isFalse => cases hs
    rename_i hop
    split at hs
    case h_2 => cases hs
    rename_i ks hk
    split at hs
    case isFalse => cases hs
    rename_i hgd
    cases hs
    exact heqv ks hop (by simp [tagg, hu]) hk hgd rfl
  · rename_i l e hu
    split at hs
    case isFalse => cases hs
    rename_i hop
    split at hs
    case h_2 => cases hs
    rename_i ks hk
    split at hs
    case isFalse => cases hs
    rename_i hgd
    cases hs
    exact heqv ks hop (by simp [tagg, hu]) hk hgd rfl
  · rename_i e hu
    split at hs
    case h_2 => cases hs
    split at hs
    case isFalse => cases hs
    rename_i hop
    cases hs
    have hxr := evO_rel hx hg he
    simp only [evalOp] at hev
    split at hev
    · rename_i hp
      cases hev
      rw [hp] at hxr
      obtain ⟨_, oo, cp, hv, _⟩ := sl_inv hxr
      exact d_eqnil ho hm hop hu rfl (Or.inl ⟨e, rfl, rfl, _, _, _, hv, rfl⟩)
    · rename_i hp
      cases hev
      rw [hp] at hxr
      have hv := nils_inv hxr
      exact d_eqnil ho hm hop hu rfl (Or.inl ⟨e, rfl, rfl, _, _, _, hv, rfl⟩)
    · cases hev
  · rename_i p r v hu
    split at hs
    case h_2 => cases hs
    split at hs
    case isFalse => cases hs
    rename_i hop
    cases hs
    have hxr := evO_rel hx hg he
    simp only [evalOp] at hev
    split at hev
    · rename_i f cs hp
      cases hev
      rw [hp] at hxr
      obtain ⟨vs, hv, _⟩ : ∃ vs : List Value, a.eval x = .func (.func f) #[] vs.toArray ∧ CRels ρ n w cs vs := by simpa only [RRel, CRel] using hxr
      exact d_eqnil ho hm hop hu rfl (Or.inr (Or.inl ⟨p, r, v, rfl, rfl, _, _, _, hv, rfl⟩))
    · cases hev
  · rename_i e hu
    split at hs
    case h_2 => cases hs
    split at hs
    case isFalse => cases hs
    rename_i hop
    cases hs
    have hxr := evO_rel hx hg he
    simp only [evalOp] at hev
    split at hev
    · rename_i hp
      cases hev
      rw [hp] at hxr
      obtain ⟨_, hv⟩ := ptr_inv hxr
      exact d_eqnil ho hm hop hu rfl (Or.inr (Or.inr ⟨e, rfl, rfl, _, hv, rfl⟩))
    · rename_i hp
      cases hev
      rw [hp] at hxr
      have hv := sc_inv hxr
      exact d_eqnil ho hm hop hu rfl (Or.inr (Or.inr ⟨e, rfl, rfl, _, hv, rfl⟩))
    · cases hev
  · cases hs

theorem evalOp_does (hcall : CallOK P ng call) (hs : slimOp P ng md o.op = some so) (hev : evalOp call env m n so = some (r, m', n')) (hm : MRel ρ n w m) (hg : Glob ng ρ n) (he : ERel ρ n w env a) : Does P o a ρ n w m r m' n' := by
  cases ho : o.op with
  | move x =>
    rw [ho] at hs
    simp only [slimOp, Option.map_eq_some_iff] at hs
    obtain ⟨x', hx, rfl⟩ := hs
    simp only [evalOp, Option.some.injEq, Prod.mk.injEq] at hev
    obtain ⟨rfl, rfl, rfl⟩ := hev
    exact d_mv (Or.inl ho) hm hg he hx
  | assign x =>
    rw [ho] at hs
    simp only [slimOp, Option.map_eq_some_iff] at hs
    obtain ⟨x', hx, rfl⟩ := hs
    simp only [evalOp, Option.some.injEq, Prod.mk.injEq] at hev
    obtain ⟨rfl, rfl, rfl⟩ := hev
    exact d_mv (Or.inr ho) hm hg he hx
  | pick c x y =>
    rw [ho] at hs
    simp only [slimOp] at hs
    split at hs
    case h_2 => cases hs
    rename_i c' x' y' hc hx hy
    cases hs
    simp only [evalOp] at hev
    split at hev
    case h_2 => cases hev
    rename_i t ht
    cases hev
    exact d_pick ho hm hg he hc hx hy ht
  | alloc e =>
    rw [ho] at hs
    simp only [slimOp, Option.map_eq_some_iff] at hs
    obtain ⟨z, hz, rfl⟩ := hs
    simp only [evalOp, Option.some.injEq, Prod.mk.injEq] at hev
    obtain ⟨rfl, rfl, rfl⟩ := hev
    exact d_alloc ho hm hz
  | box e x =>
    rw [ho] at hs
    simp only [slimOp, Option.map_eq_some_iff] at hs
    obtain ⟨x', hx, rfl⟩ := hs
    simp only [evalOp] at hev
    split at hev
    case h_2 => cases hev
    rename_i cs hc
    cases hev
    exact d_box ho hm hg he hx hc
  | build t ps =>
    rw [ho] at hs
    simp only [slimOp] at hs
    split at hs
    · rename_i z fs hz hu
      split at hs
      case isFalse => cases hs
      rename_i hall
      obtain ⟨qs, hq, rfl⟩ := Option.map_eq_some_iff.1 hs
      simp only [evalOp] at hev
      obtain ⟨cs, h1, h2⟩ := Option.map_eq_some_iff.1 hev
      cases h2
      exact d_build_str ho hm hg he hz hu hall hq h1
    · rename_i z k e hz hu
      split at hs
      case h_2 => cases hs
      rename_i s hsz
      obtain ⟨qs, hq, rfl⟩ := Option.map_eq_some_iff.1 hs
      simp only [evalOp] at hev
      obtain ⟨cs, h1, h2⟩ := Option.map_eq_some_iff.1 hev
      cases h2
      exact d_build_arr ho hm hg he hz hu hsz hq h1
    · cases hs
  | buildSlice t len ps =>
    rw [ho] at hs
    simp only [slimOp] at hs
    split at hs
    case h_2 => cases hs
    rename_i e hu
    split at hs
    case h_2 => cases hs
    rename_i s z h1 h2
    split at hs
    case isFalse => cases hs
    rename_i hh
    obtain ⟨qs, hq, rfl⟩ := Option.map_eq_some_iff.1 hs
    simp only [evalOp] at hev
    obtain ⟨cs, h3, h4⟩ := Option.map_eq_some_iff.1 hev
    cases h4
    exact d_bslice ho hm hg he hu h1 h2 hh.1 hh.2.1 hh.2.2 hq h3
  | load t x =>
    rw [ho] at hs
    simp only [slimOp] at hs
    split at hs
    · rename_i x' s hx hag hsz
      cases hs
      simp only [evalOp] at hev
      split at hev
      case h_2 => cases hev
      rename_i id off hp
      obtain ⟨cs, h3, h4⟩ := Option.map_eq_some_iff.1 hev
      cases h4
      exact d_loadA ho hm hg he hx hag hsz hp h3
    · rename_i x' s hx hag hsz
      cases hs
      simp only [evalOp] at hev
      split at hev
      case h_2 => cases hev
      rename_i id off hp
      split at hev
      case h_2 => cases hev
      rename_i b hb
      split at hev
      case h_2 => cases hev
      rename_i c hc
      cases hev
      exact d_load1 ho hm hg he hx hag hsz hp hb hc
    · cases hs
  | store t x v =>
    rw [ho] at hs
    simp only [slimOp] at hs
    split at hs
    case h_2 => cases hs
    rename_i x' v' s hx hv hsz
    cases hs
    simp only [evalOp] at hev
    split at hev
    case h_2 => cases hev
    rename_i id off cs hp hc
    split at hev
    case isFalse => cases hev
    rename_i hl
    obtain ⟨m1, h3, h4⟩ := Option.map_eq_some_iff.1 hev
    cases h4
    exact d_store ho hm hg he hx hv hsz hp hc hl h3
  | nilCheck x =>
    rw [ho] at hs
    simp only [slimOp, Option.map_eq_some_iff] at hs
    obtain ⟨x', hx, rfl⟩ := hs
    simp only [evalOp] at hev
    split at hev
    · rename_i hp; cases hev; exact d_nilp ho hm hg he hx hp
    · rename_i hp; cases hev; exact d_nilf ho hm hg he hx hp
    · cases hev
  | binOp op t x y t2 => rw [ho] at hs; exact does_bin_op ho hs hev hm hg he
  | unOp op t x =>
    rw [ho] at hs
    simp only [slimOp, Option.map_eq_some_iff] at hs
    obtain ⟨x', hx, rfl⟩ := hs
    simp only [evalOp] at hev
    split at hev
    case h_2 => cases hev
    rename_i u hp
    obtain ⟨z, h1, h2⟩ := Option.map_eq_some_iff.1 hev
    cases h2
    exact d_un ho hm hg he hx hp h1
  | convert s d x =>
    rw [ho] at hs
    simp only [slimOp] at hs
    split at hs
    case h_2 => cases hs
    rename_i x' ks k hx hsu hdu
    cases hs
    simp only [evalOp] at hev
    split at hev
    case h_2 => cases hev
    rename_i k' u hp
    cases hev
    exact d_conv ho hm hg he hx hsu hdu hp
  | makeFunc fn first caps =>
    rw [ho] at hs
    cases fn <;> simp only [slimOp] at hs <;> first | (cases hs; done) | skip
    split at hs
    case isFalse => cases hs
    rename_i hf
    obtain ⟨os, hx, rfl⟩ := Option.map_eq_some_iff.1 hs
    simp only [evalOp] at hev
    split at hev
    case h_2 => cases hev
    rename_i cs hc
    cases hev
    exact d_mkfn ho hf hm hg he hx hc
  | makeSlice t l c =>
    rw [ho] at hs
    simp only [slimOp] at hs
    split at hs
    case h_2 => cases hs
    rename_i e l' c' hu hl hc
    split at hs
    case h_2 => cases hs
    rename_i s b z h1 h2 h3
    split at hs
    case isFalse => cases hs
    rename_i hh
    cases hs
    simp only [evalOp] at hev
    split at hev
    case h_2 => cases hev
    rename_i li ci hp hq
    split at hev
    case isFalse => cases hev
    rename_i hb
    cases hev
    exact d_mkslice ho hm hg he hl hc hu h1 h2 h3 hh.1 hh.2.1 hh.2.2 hp hq hb.1 hb.2.1 hb.2.2
  | slice t x lo hi mx =>
    rw [ho] at hs
    simp only [slimOp] at hs
    split at hs
    · rename_i x' lo' hi' mx' e hx h1 h2 h3 hu
      obtain ⟨s, hsz, rfl⟩ := Option.map_eq_some_iff.1 hs
      simp only [evalOp] at hev
      split at hev
      · rename_i id off len cap sz' hp
        split at hev
        case isFalse => cases hev
        rename_i hsz'
        subst hsz'
        obtain ⟨q, h4, h5⟩ := Option.map_eq_some_iff.1 hev
        obtain ⟨l, h, c⟩ := q
        cases h5
        exact d_slS ho hm hg he hx h1 h2 h3 hu hsz hp h4
      · rename_i hp
        obtain ⟨q, h4, h5⟩ := Option.map_eq_some_iff.1 hev
        cases h5
        exact d_slN ho hm hg he hx h1 h2 h3 hu hsz hp h4
      · cases hev
    · rename_i x' lo' hi' mx' k e hx h1 h2 h3 hu
      obtain ⟨s, hsz, rfl⟩ := Option.map_eq_some_iff.1 hs
      simp only [evalOp] at hev
      split at hev
      case h_2 => cases hev
      rename_i id off hp
      split at hev
      case h_2 => cases hev
      rename_i b hb
      split at hev
      case isFalse => cases hev
      rename_i hle
      obtain ⟨q, h4, h5⟩ := Option.map_eq_some_iff.1 hev
      obtain ⟨l, h, c⟩ := q
      cases h5
      exact d_slA ho hm hg he hx h1 h2 h3 hu hsz hp hb hle h4
    · cases hs
  | fieldAddr t x i =>
    rw [ho] at hs
    simp only [slimOp] at hs
    split at hs
    case h_2 => cases hs
    rename_i x' fs hx hu
    split at hs
    case h_2 => cases hs
    rename_i f hf
    split at hs
    case h_2 => cases hs
    rename_i s hsz
    cases hs
    simp only [evalOp] at hev
    split at hev
    case h_2 => cases hev
    rename_i id off hp
    cases hev
    exact d_fadr ho hm hg he hx hu hf hsz hp
  | field t x i =>
    rw [ho] at hs
    simp only [slimOp] at hs
    split at hs
    case h_2 => cases hs
    rename_i x' fs hx hu
    split at hs
    case h_2 => cases hs
    rename_i f hf
    split at hs
    case h_2 => cases hs
    rename_i s ag hsz hag
    cases hs
    simp only [evalOp] at hev
    split at hev
    case h_2 => cases hev
    rename_i cs hp
    split at hev
    case isFalse => cases hev
    rename_i hle
    cases ag
    · simp only [Bool.false_eq_true, if_false] at hev
      obtain ⟨c, h1, h2⟩ := Option.map_eq_some_iff.1 hev
      cases h2
      exact d_fld_one ho hm hg he hx hu hf hag hp h1
    · simp only [if_true] at hev
      cases hev
      exact d_fld_agg ho hm hg he hx hu hf hsz hag hp hle
  | indexAddr t x i =>
    rw [ho] at hs
    simp only [slimOp] at hs
    split at hs
    · rename_i x' i' e hx hi hu
      obtain ⟨s, hsz, rfl⟩ := Option.map_eq_some_iff.1 hs
      simp only [evalOp] at hev
      split at hev
      case h_2 => cases hev
      rename_i id off len cap sz' k hp hk
      split at hev
      case isFalse => cases hev
      rename_i hh
      obtain ⟨hz, h0, h1⟩ := hh
      subst hz
      cases hev
      exact d_iadrS ho hm hg he hx hi hu hsz hp hk h0 h1
    · rename_i x' i' len e hx hi hu
      obtain ⟨s, hsz, rfl⟩ := Option.map_eq_some_iff.1 hs
      simp only [evalOp] at hev
      split at hev
      case h_2 => cases hev
      rename_i id off k hp hk
      split at hev
      case isFalse => cases hev
      rename_i hh
      cases hev
      exact d_iadrA ho hm hg he hx hi hu hsz hp hk hh.1 hh.2
    · cases hs
  | index t x i =>
    rw [ho] at hs
    simp only [slimOp] at hs
    split at hs
    case h_3 => cases hs
    case h_2 =>
      rename_i s i' hx hi hu
      cases hs
      simp only [evalOp] at hev
      split at hev
      case h_2 => cases hev
      rename_i k hk
      split at hev
      case isFalse => cases hev
      rename_i hh
      obtain ⟨c, h1, h2⟩ := Option.map_eq_some_iff.1 hev
      cases h2
      exact d_istr ho hx hm hg he hi hu hk hh h1
    rename_i x' i' len e hx hi hu
    split at hs
    case h_2 => cases hs
    rename_i s ag hsz hag
    cases hs
    simp only [evalOp] at hev
    split at hev
    case h_2 => cases hev
    rename_i cs k hp hk
    split at hev
    case isFalse => cases hev
    rename_i hh
    cases ag
    · simp only [Bool.false_eq_true, if_false] at hev
      obtain ⟨c, h1, h2⟩ := Option.map_eq_some_iff.1 hev
      cases h2
      exact d_idx_one ho hm hg he hx hi hu hsz hag hp hk hh.1 hh.2.1 h1
    · simp only [if_true] at hev
      cases hev
      exact d_idx_agg ho hm hg he hx hi hu hsz hag hp hk hh.1 hh.2.1 hh.2.2
  | extract x i =>
    rw [ho] at hs
    simp only [slimOp, Option.map_eq_some_iff] at hs
    obtain ⟨x', hx, rfl⟩ := hs
    simp only [evalOp] at hev
    split at hev
    case h_2 => cases hev
    rename_i rs hp
    obtain ⟨q, h4, h5⟩ := Option.map_eq_some_iff.1 hev
    cases h5
    exact d_ext ho hm hg he hx hp h4
  | call c => rw [ho] at hs; exact does_call_op hcall ho hs hev hm hg he
  | _ => rw [ho] at hs; simp [slimOp] at hs
end
end Go.Proofs.Ytkdbnmohpanpfaa.Sy

/- An evaluator of a part of Go's operations over a memory of its own, part eleven: a region, its operations in their order. Conditions: those that each theorem names. -/
namespace Go.Proofs.Ytkdbnmohpanpfaa.Sy
open Go
set_option linter.unusedVariables false
set_option linter.unusedSimpArgs false

/-- A state that stands to the machine's. -/
structure Good (N ng : Nat) (ρ : Loc) (n : Nat) (w : World) (env : Nat → Reg) (m : Mem) (a : Act) : Prop where
  mem : MRel ρ n w m
  glob : Glob ng ρ n
  env : ERel ρ n w env a
  size : a.tmps.size = N

section
variable {N ng : Nat} {ρ ρ' : Loc} {n n' : Nat} {w w' : World} {env : Nat → Reg} {m m' : Mem} {a : Act}

theorem ERel.put {dst : Option Nat} {r : Reg} {v : Value} (h : ERel ρ n w env a) (hv : RRel ρ n w r v) (hd : ∀ d, dst = some d → d < a.tmps.size) : ERel ρ n w (putE env dst r) (a.put dst v) := by
  cases dst with
  | none => exact h
  | some d =>
    have hlt := hd d rfl
    intro t
    simp only [putE, Act.put]
    by_cases e : t = d
    · subst e
      rw [upd_same]
      simpa [Array.getD_eq_getD_getElem?, hlt] using hv
    · rw [upd_ne _ _ e]
      have := h t
      simpa [Array.getD_eq_getD_getElem?, Array.getElem?_setIfInBounds_ne (Ne.symm e)] using this

theorem Act.size_put (a : Act) (dst : Option Nat) (v : Value) : (a.put dst v).tmps.size = a.tmps.size := by
  cases dst <;> simp [Act.put]
theorem Act.defers_put (a : Act) (dst : Option Nat) (v : Value) : (a.put dst v).defers = a.defers := by
  cases dst <;> simp [Act.put]

theorem Good.step (h : Good N ng ρ n w env m a) (hs : Step ρ n w m ρ' n' w' m') {dst : Option Nat} {r : Reg} {v : Value} (hv : RRel ρ' n' w' r v) (hd : ∀ d, dst = some d → d < N) :
    Good N ng ρ' n' w' (putE env dst r) m' (a.put dst v) :=
  ⟨hs.rel, h.glob.mono hs.le, (h.env.mono hs.le).put hv (fun d hh => by rw [h.size]; exact hd d hh), by rw [Act.size_put]; exact h.size⟩

theorem undef_rel : RRel ρ n w (.tup []) undef := by simp only [RRel, undef]; exact ⟨[], rfl, by simp [RRels]⟩

theorem bool_at (h : ERel ρ n w env a) (t : Nat) : (match a.tmps[t]? with | some (.bool b) => some b | _ => none) = boolOf (env t) := by
  have ht := h t
  rw [Array.getD_eq_getD_getElem?] at ht
  cases hc : a.tmps[t]? with
  | none =>
    rw [hc] at ht
    simp only [Option.getD_none, undef] at ht
    cases he : env t with
    | one c =>
      rw [he] at ht
      simp only [RRel] at ht
      have := CRel.one _ _ ht
      simp [Value.oneCell'] at this
    | agg cs => rfl
    | tup rs => rfl
  | some v =>
    rw [hc] at ht
    simp only [Option.getD_some] at ht
    cases he : env t with
    | one c =>
      rw [he] at ht
      cases c with
      | sc u =>
        have := sc_inv ht
        subst this
        cases v <;> rfl
      | ptr id off => obtain ⟨_, rfl⟩ := ptr_inv ht; rfl
      | sl id off len cap sz => obtain ⟨_, _, _, rfl, _⟩ := sl_inv ht; rfl
      | clo f cs =>
        obtain ⟨vs, rfl, _⟩ : ∃ vs : List Value, v = .func (.func f) #[] vs.toArray ∧ CRels ρ n w cs vs := by simpa only [RRel, CRel] using ht
        rfl
    | agg cs =>
      rw [he] at ht
      obtain ⟨vs, rfl, _⟩ := agg_inv ht
      rfl
    | tup rs =>
      rw [he] at ht
      obtain ⟨vs, rfl, _⟩ : ∃ vs : List Value, v = .tuple vs.toArray ∧ RRels ρ n w rs vs := by simpa only [RRel] using ht
      rfl

variable {P : Program} {md : Nat → Mode} {ops : Array Oper} {o : Oper} {so : SOper}

theorem wanted_eq (h : ERel ρ n w env a) (hs : slimOper P ng md ops o = some so) : Region.wanted o (yielded ops a.tmps) = wantedS env so := by
  unfold slimOper at hs
  simp only [Option.some.injEq] at hs
  subst hs
  unfold Region.wanted wantedS
  cases hg : o.guard with
  | none => rfl
  | some g =>
    obtain ⟨j, want⟩ := g
    simp only [Option.map_some]
    cases hd : (ops[j]?).bind (·.dst) with
    | none => simp [yielded, hd]
    | some t =>
      have := bool_at h t
      simp only [yielded, hd, Option.bind_some]
      exact congrArg (fun z => z == some want) this

/-- What belongs together. -/
def Matches (P : Program) (ng N : Nat) (md : Nat → Mode) (ops : Array Oper) (i : Nat) (so : SOper) : Prop :=
  ∃ o, ops[i]? = some o ∧ slimOper P ng md ops o = some so ∧ ∀ d, so.dst = some d → d < N

theorem slimOp_sem {o : Oper} {s : SOp} (h : slimOp P ng md o.op = some s) (ev : Operand → Value) (rd : Option Nat) : o.semAt rd ev = execOp ev o :=
  Oper.semAt_eq rd ev o (fun c e => by rw [e] at h; simp [slimOp] at h)

variable {F : Fence} {nf : Nat} [Wide F]

theorem wpOp_sound {call : Callf} {Q : Exit → Act → World → Prop} {K : Act → World → Prop} {i : Nat} {r : Reg} (hcall : CallOK P ng call) (hM : Matches P ng N md ops i so) (hG : Good N ng ρ n w env m a)
    (hev : (match wantedS env so with | true => evalOp call env m n so.op | false => some (.tup [], m, n)) = some (r, m', n'))
    (hK : ∀ v ρ' w', Step ρ n w m ρ' n' w' m' → RRel ρ' n' w' r v → K (a.put so.dst v) w') : wpOpIn F nf P ops Q i K a w := by
  obtain ⟨o, h1, h2, h3⟩ := hM
  have hw := wanted_eq (a := a) hG.env h2
  have h2' := h2
  unfold slimOper at h2
  simp only [Option.some.injEq] at h2
  subst h2
  unfold wpOpIn
  simp only [h1, hw]
  cases hq : wantedS env ⟨o.dst, (slimOp P ng md o.op).getD .stuck, o.guard.map fun g => ((ops[g.1]?).bind (·.dst), g.2)⟩ with
  | true =>
    simp only [hq] at hev
    simp only [if_true]
    have h4 : slimOp P ng md o.op = some ((slimOp P ng md o.op).getD .stuck) := by
      cases hs : slimOp P ng md o.op with
      | some s => rfl
      | none => rw [hs] at hev; simp [evalOp] at hev
    exact evalOp_does hcall h4 hev hG.mem hG.glob hG.env F nf K Q (slimOp_sem h4 a.eval) hK
  | false =>
    simp only [hq, Option.some.injEq, Prod.mk.injEq] at hev
    obtain ⟨rfl, rfl, rfl⟩ := hev
    simp only [Bool.false_eq_true, if_false]
    exact ⟨fun f _ => Wide.fn f, hK undef ρ w (Step.refl hG.mem) undef_rel⟩

theorem wpOps_sound {call : Callf} {Q : Exit → Act → World → Prop} (hcall : CallOK P ng call) : ∀ (l : List Nat) (ss : List SOper) (env env' : Nat → Reg) (m m' : Mem) (n n' : Nat) (ρ : Loc) (a : Act) (w : World),
    l.length = ss.length → (∀ (j i : Nat) (so : SOper), l[j]? = some i → ss[j]? = some so → Matches P ng N md ops i so) → Good N ng ρ n w env m a → evalOps call ss env m n = some (env', m', n') →
    (∀ ρ' a' w', Step ρ n w m ρ' n' w' m' → Good N ng ρ' n' w' env' m' a' → a'.defers = a.defers → Q .normal a' w') → wpOpsIn F nf P ops Q l a w
  | [], [], env, env', m, m', n, n', ρ, a, w, _, _, hG, hev, hQ => by
    simp only [evalOps, Option.some.injEq, Prod.mk.injEq] at hev
    obtain ⟨rfl, rfl, rfl⟩ := hev
    exact hQ ρ a w (Step.refl hG.mem) hG rfl
  | [], s :: ss, _, _, _, _, _, _, _, _, _, hl, _, _, _, _ => by simp at hl
  | i :: l, [], _, _, _, _, _, _, _, _, _, hl, _, _, _, _ => by simp at hl
  | i :: l, s :: ss, env, env', m, m', n, n', ρ, a, w, hl, hM, hG, hev, hQ => by
    rw [wpOpsIn_cons]
    have hM0 := hM 0 i s rfl rfl
    have hd : ∀ d, s.dst = some d → d < N := by obtain ⟨_, _, _, h⟩ := hM0; exact h
    have hev' : ∃ r m1 n1, (match wantedS env s with | true => evalOp call env m n s.op | false => some (.tup [], m, n)) = some (r, m1, n1) ∧ evalOps call ss (putE env s.dst r) m1 n1 = some (env', m', n') := by
      simp only [evalOps] at hev
      cases hw : wantedS env s with
      | true =>
        simp only [hw] at hev
        split at hev
        · rename_i r m1 n1 h1
          exact ⟨r, m1, n1, h1, hev⟩
        · cases hev
      | false =>
        simp only [hw] at hev
        exact ⟨.tup [], m, n, rfl, hev⟩
    obtain ⟨r, m1, n1, h1, h2⟩ := hev'
    refine wpOp_sound hcall hM0 hG h1 (fun v ρ1 w1 hst hv => ?_)
    refine wpOps_sound hcall l ss _ env' m1 m' n1 n' ρ1 _ w1 (by simpa using hl) (fun j i' so' h3 h4 => hM (j + 1) i' so' (by simpa using h3) (by simpa using h4)) (hG.step hst hv hd) h2 (fun ρ' a' w' h3 h4 h5 => ?_)
    exact hQ ρ' a' w' (hst.trans h3) h4 (by rw [h5, Act.defers_put])
end
end Go.Proofs.Ytkdbnmohpanpfaa.Sy

/- An evaluator of a part of Go's operations over a memory of its own, part twelve: a region whose order is drawn. Conditions: those that each theorem names. -/
namespace Go.Proofs.Ytkdbnmohpanpfaa.Sy
open Go
set_option linter.unusedVariables false
set_option linter.unusedSimpArgs false

inductive Kind where
  | p | l | mild | hard
  deriving DecidableEq

def kindOf : SOp → Kind
  | .load1 _ | .loadA _ _ | .slA .. => .l
  | .alloc _ | .box _ | .bslice .. | .mkslice .. => .mild
  | .call .q _ _ | .call .k _ _ | .callv .q _ _ | .callv .k _ _ | .call .t _ _ | .callv .t _ _ => .mild
  | .call .w _ _ | .callv .w _ _ | .store .. | .app .. | .appz .. | .cpy .. | .clr .. => .hard
  | _ => .p

def usesO : O → List Nat
  | .t k => [k]
  | _ => []
def usesOs (xs : List O) : List Nat := xs.flatMap usesO
def usesP (xs : List (Nat × Nat × O)) : List Nat := xs.flatMap fun x => usesO x.2.2
def usesOo : Option O → List Nat
  | none => []
  | some x => usesO x

def uses : SOp → List Nat
  | .mv x | .box x | .load1 x | .loadA _ x | .nilchk x | .eqnil _ _ x | .un _ x | .conv _ x | .fadr _ x | .fld _ _ _ x | .ext x _ | .istr _ x | .len x | .cap x | .clr _ _ x => usesO x
  | .pick c a b => usesO c ++ usesO a ++ usesO b
  | .alloc _ | .lenC _ | .stuck => []
  | .build _ ps | .bslice _ _ _ ps => usesP ps
  | .store _ x v | .bin _ x v | .beq _ x v | .eqv _ _ x v | .iadrA _ _ x v | .iadrS _ x v | .idxA _ _ _ x v | .app _ _ x v | .appz _ _ _ x v | .cpy _ x v | .mkslice _ _ _ x v => usesO x ++ usesO v
  | .mkfn _ xs | .pre _ xs | .mn xs | .mx xs | .call _ _ xs | .carry _ xs => usesOs xs
  | .callv _ x xs => usesO x ++ usesOs xs
  | .slS _ x a b c | .slA _ _ x a b c => usesO x ++ usesOo a ++ usesOo b ++ usesOo c

section
variable {env env2 : Nat → Reg}
theorem evO_congr {x : O} (h : ∀ t ∈ usesO x, env t = env2 t) : evO env x = evO env2 x := by
  cases x with
  | t k => exact h k (by simp [usesO])
  | _ => rfl
theorem evOs_congr : ∀ {xs : List O}, (∀ t ∈ usesOs xs, env t = env2 t) → evOs env xs = evOs env2 xs
  | [], _ => rfl
  | x :: xs, h => by
    simp only [usesOs, List.flatMap_cons, List.mem_append] at h
    simp only [evOs]
    rw [evO_congr (fun t ht => h t (Or.inl ht)), evOs_congr (fun t ht => h t (Or.inr ht))]
theorem fillC_congr : ∀ {ps : List (Nat × Nat × O)} {l : List Cell}, (∀ t ∈ usesP ps, env t = env2 t) → fillC env l ps = fillC env2 l ps
  | [], l, _ => rfl
  | (a, b, x) :: ps, l, h => by
    simp only [usesP, List.flatMap_cons, List.mem_append] at h
    simp only [fillC]
    rw [evO_congr (fun t ht => h t (Or.inl ht))]
    split
    · split
      · exact fillC_congr (fun t ht => h t (Or.inr ht))
      · rfl
    · rfl
theorem evOo_congr {x : Option O} (h : ∀ t ∈ usesOo x, env t = env2 t) : x.map (evO env) = x.map (evO env2) := by
  cases x with
  | none => rfl
  | some x => simp only [Option.map_some]; rw [evO_congr h]

theorem evalOp_congr {call : Callf} {m : Mem} {n : Nat} {so : SOp} (h : ∀ t ∈ uses so, env t = env2 t) : evalOp call env m n so = evalOp call env2 m n so := by
  cases so with
  | eqnil k neg x =>
    simp only [uses] at h
    match k with
    | 0 => simp only [evalOp]; rw [evO_congr h]
    | 1 => simp only [evalOp]; rw [evO_congr h]
    | 2 => simp only [evalOp]; rw [evO_congr h]
    | k + 3 => simp only [evalOp]
  | _ =>
    simp only [uses, List.mem_append] at h
    simp only [evalOp] <;> first
      | rw [evO_congr h]
      | rw [evOs_congr h]
      | rw [fillC_congr h]
      | rw [evO_congr (fun t ht => h t (Or.inl ht)), evO_congr (fun t ht => h t (Or.inr ht))]
      | rw [evO_congr (fun t ht => h t (Or.inl (Or.inl ht))), evO_congr (fun t ht => h t (Or.inl (Or.inr ht))), evO_congr (fun t ht => h t (Or.inr ht))]
      | rw [evO_congr (fun t ht => h t (Or.inl ht)), evOs_congr (fun t ht => h t (Or.inr ht))]
      | rw [evO_congr (fun t ht => h t (Or.inl (Or.inl (Or.inl ht)))), evOo_congr (fun t ht => h t (Or.inl (Or.inl (Or.inr ht)))), evOo_congr (fun t ht => h t (Or.inl (Or.inr ht))), evOo_congr (fun t ht => h t (Or.inr ht))]
      | rfl
end

section
variable {call : Callf} {env : Nat → Reg} {m m' : Mem} {n n' : Nat} {so : SOp} {r : Reg}
theorem kind_p (hk : kindOf so = .p) (h : evalOp call env m n so = some (r, m', n')) : m' = m ∧ n' = n ∧ ∀ m2 n2, evalOp call env m2 n2 so = some (r, m2, n2) := by
  cases so with
  | eqnil k neg x =>
    match k with
    | 0 => simp only [evalOp] at h ⊢; split at h <;> first | (cases h; done) | (rename_i hh; cases h; simp [hh])
    | 1 => simp only [evalOp] at h ⊢; split at h <;> first | (cases h; done) | (rename_i hh; cases h; simp [hh])
    | 2 => simp only [evalOp] at h ⊢; split at h <;> first | (cases h; done) | (rename_i hh; cases h; simp [hh])
    | k + 3 => simp only [evalOp] at h; cases h
  | stuck => simp [evalOp] at h
  | pre r0 xs => simp only [evalOp] at h ⊢; cases h; simp
  | carry sub xs =>
    simp only [evalOp] at h ⊢
    obtain ⟨q, h1, h2⟩ := Option.map_eq_some_iff.1 h
    cases h2
    simp [h1]
  | call md f xs =>
    cases md <;> first | (simp [kindOf] at hk; done) | skip
    rename_i g
    simp only [evalOp, doCall] at h ⊢
    split at h
    case isFalse => cases h
    rename_i hf
    split at h
    case h_2 => cases h
    rename_i r1 m1 n1 h1
    split at h
    case isFalse => cases h
    rename_i h2
    cases h
    simp [hf, h1, h2]
  | callv md f xs =>
    cases md <;> first | (simp [kindOf] at hk; done) | skip
    rename_i g
    simp only [evalOp, doCall] at h ⊢
    split at h
    case h_2 => cases h
    rename_i f caps hp
    split at h
    case isFalse => cases h
    rename_i hf
    split at h
    case h_2 => cases h
    rename_i r1 m1 n1 h1
    split at h
    case isFalse => cases h
    rename_i h2
    cases h
    simp [hp, hf, h1, h2]
  | fld off size ag x =>
    simp only [evalOp] at h ⊢
    split at h
    case h_2 => cases h
    rename_i cs hh
    split at h
    case isFalse => cases h
    rename_i h2
    cases ag
    · simp only [Bool.false_eq_true, if_false] at h
      obtain ⟨c, h3, h4⟩ := Option.map_eq_some_iff.1 h
      cases h4
      simp [hh, h2, h3]
    · simp only [if_true] at h
      cases h
      simp [hh, h2]
  | idxA len sz ag x i =>
    simp only [evalOp] at h ⊢
    split at h
    case h_2 => cases h
    rename_i cs k hh hi
    split at h
    case isFalse => cases h
    rename_i h2
    cases ag
    · simp only [Bool.false_eq_true, if_false] at h
      obtain ⟨c, h3, h4⟩ := Option.map_eq_some_iff.1 h
      cases h4
      simp [hh, hi, h2, h3]
    · simp only [if_true] at h
      cases h
      simp [hh, hi, h2]
  | slS sz x lo hi mx =>
    simp only [evalOp] at h ⊢
    split at h
    · rename_i hh
      split at h
      case isFalse => cases h
      rename_i hz
      obtain ⟨c, h3, h4⟩ := Option.map_eq_some_iff.1 h
      cases h4
      simp [hh, hz, h3]
    · rename_i hh
      obtain ⟨c, h3, h4⟩ := Option.map_eq_some_iff.1 h
      cases h4
      simp [hh, h3]
    · cases h
  | iadrA len sz x i =>
    simp only [evalOp] at h ⊢
    split at h
    case h_2 => cases h
    rename_i hh hi
    split at h
    case isFalse => cases h
    rename_i h2
    cases h
    simp [hh, hi, h2]
  | iadrS sz x i =>
    simp only [evalOp] at h ⊢
    split at h
    case h_2 => cases h
    rename_i hh hi
    split at h
    case isFalse => cases h
    rename_i h2
    cases h
    simp [hh, hi, h2]
  | mv x => simp only [evalOp] at h ⊢; cases h; simp
  | lenC x => simp only [evalOp] at h ⊢; cases h; simp
  | pick c a b => simp only [evalOp] at h ⊢; split at h <;> first | (cases h; done) | (rename_i hh; cases h; simp [hh])
  | nilchk x => simp only [evalOp] at h ⊢; split at h <;> first | (cases h; done) | (rename_i hh; cases h; simp [hh])
  | conv k x => simp only [evalOp] at h ⊢; split at h <;> first | (cases h; done) | (rename_i hh; cases h; simp [hh])
  | mkfn f x => simp only [evalOp] at h ⊢; split at h <;> first | (cases h; done) | (rename_i hh; cases h; simp [hh])
  | fadr o x => simp only [evalOp] at h ⊢; split at h <;> first | (cases h; done) | (rename_i hh; cases h; simp [hh])
  | len x => simp only [evalOp] at h ⊢; split at h <;> first | (cases h; done) | (rename_i hh; cases h; simp [hh])
  | cap x => simp only [evalOp] at h ⊢; split at h <;> first | (cases h; done) | (rename_i hh; cases h; simp [hh])
  | beq g x y => simp only [evalOp] at h ⊢; split at h <;> first | (cases h; done) | (rename_i hh hi; cases h; simp [hh, hi])
  | build z ps =>
    simp only [evalOp] at h ⊢
    obtain ⟨c, h3, h4⟩ := Option.map_eq_some_iff.1 h
    cases h4
    simp [h3]
  | bin op x y =>
    simp only [evalOp] at h ⊢
    split at h
    case h_2 => cases h
    rename_i hh hi
    obtain ⟨c, h3, h4⟩ := Option.map_eq_some_iff.1 h
    cases h4
    simp [hh, hi, h3]
  | eqv ks g x y =>
    simp only [evalOp] at h ⊢
    split at h
    case h_2 => cases h
    rename_i hh hi
    obtain ⟨c, h3, h4⟩ := Option.map_eq_some_iff.1 h
    cases h4
    simp [hh, hi, h3]
  | un op x =>
    simp only [evalOp] at h ⊢
    split at h
    case h_2 => cases h
    rename_i hh
    obtain ⟨c, h3, h4⟩ := Option.map_eq_some_iff.1 h
    cases h4
    simp [hh, h3]
  | istr l x =>
    simp only [evalOp] at h ⊢
    split at h
    case h_2 => cases h
    rename_i hh
    split at h
    case isFalse => cases h
    rename_i h5
    obtain ⟨c, h3, h4⟩ := Option.map_eq_some_iff.1 h
    cases h4
    simp [hh, h3, h5]
  | ext x i =>
    simp only [evalOp] at h ⊢
    split at h
    case h_2 => cases h
    rename_i hh
    obtain ⟨c, h3, h4⟩ := Option.map_eq_some_iff.1 h
    cases h4
    simp [hh, h3]
  | mn xs =>
    simp only [evalOp] at h ⊢
    split at h
    case h_2 => cases h
    rename_i hh
    obtain ⟨c, h3, h4⟩ := Option.map_eq_some_iff.1 h
    cases h4
    simp [hh, h3]
  | mx xs =>
    simp only [evalOp] at h ⊢
    split at h
    case h_2 => cases h
    rename_i hh
    obtain ⟨c, h3, h4⟩ := Option.map_eq_some_iff.1 h
    cases h4
    simp [hh, h3]
  | _ => simp [kindOf] at hk

/-- The number that a read looks at. -/
def lookAt (env : Nat → Reg) : SOp → Option Nat
  | .load1 x | .loadA _ x | .slA _ _ x _ _ _ => match evO env x with
    | .one (.ptr id _) => some id
    | _ => none
  | _ => none

theorem kind_l (hk : kindOf so = .l) (h : evalOp call env m n so = some (r, m', n')) : m' = m ∧ n' = n ∧ ∃ id b, lookAt env so = some id ∧ m id = some b ∧ ∀ (m2 : Mem) n2, m2 id = m id → evalOp call env m2 n2 so = some (r, m2, n2) := by
  cases so with
  | call md f xs => cases md <;> simp [kindOf] at hk
  | callv md f xs => cases md <;> simp [kindOf] at hk
  | load1 x =>
    simp only [evalOp] at h ⊢
    split at h
    case h_2 => cases h
    rename_i id off hp
    split at h
    case h_2 => cases h
    rename_i b hb
    split at h
    case h_2 => cases h
    rename_i c hc
    cases h
    refine ⟨rfl, rfl, id, b, by simp [lookAt, hp], hb, fun m2 n2 he => ?_⟩
    simp [hp, he, hb, hc]
  | loadA k x =>
    simp only [evalOp] at h ⊢
    split at h
    case h_2 => cases h
    rename_i id off hp
    obtain ⟨c, h3, h4⟩ := Option.map_eq_some_iff.1 h
    cases h4
    cases hb : m id with
    | none => simp [rd, hb] at h3
    | some b =>
      refine ⟨rfl, rfl, id, b, by simp [lookAt, hp], hb, fun m2 n2 he => ?_⟩
      have : rd m2 id off k = rd m id off k := by simp [rd, he, hb]
      simp [hp, this, h3]
  | slA len sz x lo hi mx =>
    simp only [evalOp] at h ⊢
    split at h
    case h_2 => cases h
    rename_i id off hp
    split at h
    case h_2 => cases h
    rename_i b hb
    split at h
    case isFalse => cases h
    rename_i hle
    obtain ⟨c, h3, h4⟩ := Option.map_eq_some_iff.1 h
    cases h4
    refine ⟨rfl, rfl, id, b, by simp [lookAt, hp], hb, fun m2 n2 he => ?_⟩
    simp [hp, he, hb, hle, h3]
  | _ => simp [kindOf] at hk

theorem kind_mild (hk : kindOf so = .mild) (h : evalOp call env m n so = some (r, m', n')) : n ≤ n' ∧ ∀ id, id < n → m' id = m id := by
  have hu : ∀ (x : Option Blk) id, id < n → upd m n x id = m id := fun x id hi => upd_ne _ _ (Nat.ne_of_lt hi)
  have hcall : ∀ {md : Mode} {f : Nat} {args : List Reg}, (md = .q ∨ md = .k ∨ md = .t) → doCall call md f args m n = some (r, m', n') → n ≤ n' ∧ ∀ id, id < n → m' id = m id := by
    intro md f args hw h
    unfold doCall at h
    cases md with
    | q =>
      simp only at h
      split at h
      case h_2 => cases h
      split at h
      case isFalse => cases h
      cases h
      exact ⟨Nat.le_refl _, fun _ _ => rfl⟩
    | k =>
      simp only at h
      split at h
      case h_2 => cases h
      cases h
      exact ⟨Nat.le_max_left _ _, fun id hi => by simp [unfrz, hi]⟩
    | w => simp at hw
    | t =>
      simp only at h
      split at h
      case h_2 => cases h
      split at h
      case isFalse => cases h
      split at h
      case h_2 => cases h
      split at h
      case isFalse => cases h
      cases h
      exact ⟨Nat.le_refl _, fun _ _ => rfl⟩
    | z g => simp at hw
  cases so with
  | call md f xs =>
    simp only [evalOp] at h
    cases md
    · exact hcall (md := .q) (Or.inl rfl) h
    · exact hcall (md := .k) (Or.inr (Or.inl rfl)) h
    · simp [kindOf] at hk
    · exact hcall (md := .t) (Or.inr (Or.inr rfl)) h
    · simp [kindOf] at hk
  | callv md x xs =>
    simp only [evalOp] at h
    split at h
    case h_2 => cases h
    cases md
    · exact hcall (md := .q) (Or.inl rfl) h
    · exact hcall (md := .k) (Or.inr (Or.inl rfl)) h
    · simp [kindOf] at hk
    · exact hcall (md := .t) (Or.inr (Or.inr rfl)) h
    · simp [kindOf] at hk
  | alloc z => simp only [evalOp] at h; cases h; exact ⟨Nat.le_succ _, hu _⟩
  | box x => simp only [evalOp] at h; split at h <;> first | (cases h; done) | (cases h; exact ⟨Nat.le_succ _, hu _⟩)
  | bslice z len sz ps =>
    simp only [evalOp] at h
    obtain ⟨c, h3, h4⟩ := Option.map_eq_some_iff.1 h
    cases h4
    exact ⟨Nat.le_succ _, hu _⟩
  | mkslice z b sz l c =>
    simp only [evalOp] at h
    split at h
    case h_2 => cases h
    split at h
    case isFalse => cases h
    cases h
    exact ⟨Nat.le_succ _, hu _⟩
  | _ => simp [kindOf] at hk
end

/-! ### what is asked of a region whose order is drawn -/
def usesS (so : SOper) : List Nat :=
  uses so.op ++ (match so.guard with
    | some (some t, _) => [t]
    | _ => [])

def isEff (so : SOper) : Bool := kindOf so.op == .mild || kindOf so.op == .hard

def inC (cl : List (List Nat)) (i j : Nat) : Bool := (cl.getD j []).contains i

/-- The variable in which an operation's address lies. -/
def addrT : SOp → Option Nat
  | .load1 (.t k) | .loadA _ (.t k) | .slA _ _ (.t k) _ _ _ | .store _ (.t k) _ | .app _ _ (.t k) _ => some k
  | _ => none
/-- A store or an append. -/
def isStore : SOp → Bool
  | .store .. | .app .. => true
  | _ => false
/-- A read and a store whose addresses are told apart. -/
def disC (dis : List (Nat × Nat)) (x y : SOp) : Bool :=
  isStore y && (match addrT x, addrT y with
    | some a, some b => dis.contains (a, b)
    | _, _ => false)

/-- Of two operations, the first ahead of the second. -/
def pairOk (us : List Nat) (dis : List (Nat × Nat)) (cl : List (List Nat)) (i : Nat) (x : SOper) (j : Nat) (y : SOper) : Bool :=
  -- one variable is written once
  (match x.dst with
   | some d => y.dst != some d && (!(usesS y).contains d || inC cl i j)
   | none => true) &&
  (match y.dst with
   | some d => !(usesS x).contains d || inC cl i j
   | none => true) &&
  (!(isEff x && isEff y) || inC cl i j || (us.contains i && us.contains j)) &&
  (!(kindOf x.op == .l && kindOf y.op == .hard) || inC cl i j || disC dis x.op y.op) &&
  (!(kindOf x.op == .hard && kindOf y.op == .l) || inC cl i j || disC dis y.op x.op) &&
  (match addrT x.op with
   | some t => y.dst != some t
   | none => true)

def pairsOk (us : List Nat) (dis : List (Nat × Nat)) (cl : List (List Nat)) (i : Nat) (x : SOper) : Nat → List SOper → Bool
  | _, [] => true
  | j, y :: ys => pairOk us dis cl i x j y && pairsOk us dis cl i x (j + 1) ys

/-- A read's address lies in a variable. -/
def lookT : SOp → Bool
  | .load1 (.t _) | .loadA _ (.t _) | .slA _ _ (.t _) _ _ _ => true
  | _ => false

theorem lookT_inv {env : Nat → Reg} {so : SOp} {id : Nat} (h : lookT so = true) (hl : lookAt env so = some id) : ∃ k off, k ∈ uses so ∧ env k = .one (.ptr id off) := by
  cases so with
  | load1 x =>
    cases x <;> simp only [lookT] at h <;> first | (cases h; done) | skip
    rename_i k
    simp only [lookAt, evO] at hl
    split at hl
    · rename_i id' off hp; cases hl; exact ⟨k, off, by simp [uses, usesO], hp⟩
    · cases hl
  | loadA q x =>
    cases x <;> simp only [lookT] at h <;> first | (cases h; done) | skip
    rename_i k
    simp only [lookAt, evO] at hl
    split at hl
    · rename_i id' off hp; cases hl; exact ⟨k, off, by simp [uses, usesO], hp⟩
    · cases hl
  | slA q1 q2 x q3 q4 q5 =>
    cases x <;> simp only [lookT] at h <;> first | (cases h; done) | skip
    rename_i k
    simp only [lookAt, evO] at hl
    split at hl
    · rename_i id' off hp; cases hl; exact ⟨k, off, by simp [uses, usesO], hp⟩
    · cases hl
  | _ => simp [lookT] at h

def allPairs (us : List Nat) (dis : List (Nat × Nat)) (cl : List (List Nat)) : Nat → List SOper → Bool
  | _, [] => true
  | i, x :: xs => ((kindOf x.op != .l || lookT x.op) && (match addrT x.op with | some t => x.dst != some t | none => true)) && pairsOk us dis cl i x (i + 1) xs && allPairs us dis cl (i + 1) xs

/-- The closure is one. -/
def clOk (cl : List (List Nat)) : Nat → List Oper → Bool
  | _, [] => true
  | j, o :: os => (o.after.toList.all fun e => !Region.binds .any e || decide (e.on < j)) &&
      ((cl.getD j []).all fun i => o.after.toList.any fun e => Region.binds .any e && (e.on == i || inC cl i e.on)) && clOk cl (j + 1) os

def dOk (us : List Nat) (dis : List (Nat × Nat)) (cl : List (List Nat)) (ops : Array Oper) (ss : List SOper) : Bool := clOk cl 0 ops.toList && allPairs us dis cl 0 ss

theorem pairsOk_get {us : List Nat} {dis : List (Nat × Nat)} {cl : List (List Nat)} {i : Nat} {x : SOper} : ∀ {ys : List SOper} {j0 : Nat}, pairsOk us dis cl i x j0 ys = true → ∀ k y, ys[k]? = some y → pairOk us dis cl i x (j0 + k) y = true
  | [], _, _, k, y, h => by simp at h
  | z :: ys, j0, h, 0, y, hy => by
    simp only [pairsOk, Bool.and_eq_true] at h
    simp only [List.getElem?_cons_zero, Option.some.injEq] at hy
    subst hy
    exact h.1
  | z :: ys, j0, h, k + 1, y, hy => by
    simp only [pairsOk, Bool.and_eq_true] at h
    have := pairsOk_get h.2 k y (by simpa using hy)
    rwa [Nat.add_assoc, Nat.add_comm 1 k] at this

theorem allPairs_get {us : List Nat} {dis : List (Nat × Nat)} {cl : List (List Nat)} : ∀ {xs : List SOper} {i0 : Nat}, allPairs us dis cl i0 xs = true → ∀ i j x y, i < j → xs[i]? = some x → xs[j]? = some y → pairOk us dis cl (i0 + i) x (i0 + j) y = true
  | [], _, _, i, j, x, y, _, h, _ => by simp at h
  | z :: xs, i0, h, i, j, x, y, hij, hx, hy => by
    simp only [allPairs, Bool.and_eq_true] at h
    obtain ⟨j, rfl⟩ : ∃ k, j = k + 1 := ⟨j - 1, by omega⟩
    cases i with
    | zero =>
      simp only [List.getElem?_cons_zero, Option.some.injEq] at hx
      subst hx
      have := pairsOk_get h.1.2 j y (by simpa using hy)
      rwa [Nat.add_assoc, Nat.add_comm 1 j] at this
    | succ i =>
      have := allPairs_get h.2 i j x y (by omega) (by simpa using hx) (by simpa using hy)
      rwa [Nat.add_assoc, Nat.add_comm 1 i, Nat.add_assoc, Nat.add_comm 1 j] at this

theorem allPairs_look {us : List Nat} {dis : List (Nat × Nat)} {cl : List (List Nat)} : ∀ {xs : List SOper} {i0 : Nat}, allPairs us dis cl i0 xs = true → ∀ (i : Nat) (x : SOper), xs[i]? = some x → (kindOf x.op = .l → lookT x.op = true) ∧ (∀ t, addrT x.op = some t → x.dst ≠ some t)
  | [], _, _, i, x, h => by simp at h
  | z :: xs, i0, h, 0, x, hx => by
    simp only [allPairs, Bool.and_eq_true, Bool.or_eq_true, bne_iff_ne, ne_eq] at h
    simp only [List.getElem?_cons_zero, Option.some.injEq] at hx
    subst hx
    refine ⟨fun hk => h.1.1.1.resolve_left (fun h' => h' hk), fun t ht => ?_⟩
    have := h.1.1.2
    rw [ht] at this
    simpa using this
  | z :: xs, i0, h, i + 1, x, hx => by
    simp only [allPairs, Bool.and_eq_true] at h
    exact allPairs_look h.2 i x (by simpa using hx)

theorem clOk_get {cl : List (List Nat)} : ∀ {os : List Oper} {j0 : Nat}, clOk cl j0 os = true → ∀ j o, os[j]? = some o →
    (∀ e ∈ o.after.toList, Region.binds .any e = true → e.on < j0 + j) ∧ (∀ i ∈ cl.getD (j0 + j) [], ∃ e ∈ o.after.toList, Region.binds .any e = true ∧ (e.on = i ∨ inC cl i e.on = true))
  | [], _, _, j, o, h => by simp at h
  | z :: os, j0, h, 0, o, ho => by
    simp only [clOk, Bool.and_eq_true, List.all_eq_true, List.any_eq_true, Bool.or_eq_true, Bool.not_eq_true', decide_eq_true_eq, beq_iff_eq] at h
    simp only [List.getElem?_cons_zero, Option.some.injEq] at ho
    subst ho
    refine ⟨fun e he hb => ?_, fun i hi => ?_⟩
    · rcases h.1.1 e he with h1 | h1
      · rw [hb] at h1; cases h1
      · simpa using h1
    · obtain ⟨e, h1, h2, h3⟩ := h.1.2 i (by simpa using hi)
      exact ⟨e, h1, h2, h3⟩
  | z :: os, j0, h, j + 1, o, ho => by
    simp only [clOk, Bool.and_eq_true] at h
    have := clOk_get h.2 j o (by simpa using ho)
    rwa [Nat.add_assoc, Nat.add_comm 1 j] at this

def idOf : Reg → Option Nat
  | .one (.ptr i _) => some i
  | .one (.sl i _ _ _ _) => some i
  | _ => none
def noId : Reg → Bool
  | .one (.sc (.slice none 0 0)) => true
  | _ => false
theorem noId_idOf {r : Reg} (h : noId r = true) : idOf r = none := by
  unfold noId at h
  split at h
  · rfl
  · cases h

/-- The addresses lie in different blocks. -/
def disOk (env : Nat → Reg) (dis : List (Nat × Nat)) : Bool :=
  dis.all fun p => noId (env p.2) || match idOf (env p.1), idOf (env p.2) with
    | some i, some j => i != j
    | _, _ => false

theorem wr_else {m m1 : Mem} {id off : Nat} {cs : List Cell} (h1 : wr m id off cs = some m1) {id' : Nat} (hne : id' ≠ id) : m1 id' = m id' := by
  unfold wr at h1
  split at h1
  case h_2 => cases h1
  split at h1
  case isFalse => cases h1
  cases h1
  exact upd_ne _ _ hne
theorem store_id {call : Callf} {env : Nat → Reg} {m m' : Mem} {n n' : Nat} {so : SOp} {r : Reg} {t : Nat} (hs : isStore so = true) (ht : addrT so = some t) (h : evalOp call env m n so = some (r, m', n')) :
    n ≤ n' ∧ ∀ id, idOf (env t) ≠ some id → id < n → m' id = m id := by
  cases so <;> simp only [isStore] at hs <;> first | (cases hs; done) | skip
  · rename_i k x v
    cases x <;> simp only [addrT] at ht <;> first | (cases ht; done) | skip
    cases ht
    simp only [evalOp, evO] at h
    split at h
    case h_2 => cases h
    rename_i id off cs hp hc
    split at h
    case isFalse => cases h
    obtain ⟨m1, h1, h2⟩ := Option.map_eq_some_iff.1 h
    cases h2
    refine ⟨Nat.le_refl _, fun id' hne _ => ?_⟩
    rw [hp] at hne
    exact wr_else h1 (fun e => hne (by rw [e]; rfl))
  · rename_i sz bytes x v
    cases x <;> simp only [addrT] at ht <;> first | (cases ht; done) | skip
    cases ht
    simp only [evalOp, evO] at h
    unfold evApp at h
    split at h
    · cases h
    split at h
    · split at h
      · cases h; exact ⟨Nat.le_refl _, fun _ _ _ => rfl⟩
      · split at h
        · cases h; exact ⟨Nat.le_succ _, fun _ _ h => upd_ne _ _ (Nat.ne_of_lt h)⟩
        · cases h
    · rename_i hp
      rw [hp]
      split at h
      case isFalse => cases h
      split at h
      · split at h
        · split at h
          · cases h; exact ⟨Nat.le_refl _, fun _ _ _ => rfl⟩
          · obtain ⟨m1, h1, h2⟩ := Option.map_eq_some_iff.1 h
            cases h2
            exact ⟨Nat.le_refl _, fun id' hne _ => wr_else h1 (fun e => hne (by rw [e]; rfl))⟩
        · obtain ⟨m1, h1, h2⟩ := Option.map_eq_some_iff.1 h
          cases h2
          exact ⟨Nat.le_succ _, fun _ _ h => upd_ne _ _ (Nat.ne_of_lt h)⟩
      · split at h
        · split at h
          · obtain ⟨m1, h1, h2⟩ := Option.map_eq_some_iff.1 h
            cases h2
            exact ⟨Nat.le_succ _, fun id' hne hlt => by rw [upd_ne _ _ (Nat.ne_of_lt hlt), upd_ne _ _ (fun e => hne (by rw [e]; rfl))]⟩
          · cases h
        · cases h
    · cases h

theorem look_id {env : Nat → Reg} {so : SOp} {t id : Nat} (ht : addrT so = some t) (hl : lookAt env so = some id) : idOf (env t) = some id := by
  cases so with
  | load1 x =>
    cases x <;> simp only [addrT] at ht <;> first | (cases ht; done) | skip
    cases ht
    simp only [lookAt, evO] at hl
    split at hl
    · rename_i id' off hp; cases hl; rw [hp]; rfl
    · cases hl
  | loadA q x =>
    cases x <;> simp only [addrT] at ht <;> first | (cases ht; done) | skip
    cases ht
    simp only [lookAt, evO] at hl
    split at hl
    · rename_i id' off hp; cases hl; rw [hp]; rfl
    · cases hl
  | slA q1 q2 x q3 q4 q5 =>
    cases x <;> simp only [addrT] at ht <;> first | (cases ht; done) | skip
    cases ht
    simp only [lookAt, evO] at hl
    split at hl
    · rename_i id' off hp; cases hl; rw [hp]; rfl
    · cases hl
  | _ => simp [lookAt] at hl
end Go.Proofs.Ytkdbnmohpanpfaa.Sy

/- An evaluator of a part of Go's operations over a memory of its own, part thirteen: a region whose order is drawn comes to what its own order comes to. Conditions: those that each theorem names. -/
namespace Go.Proofs.Ytkdbnmohpanpfaa.Sy
open Go
set_option linter.unusedVariables false
set_option linter.unusedSimpArgs false

def stepS (call : Callf) (env : Nat → Reg) (m : Mem) (n : Nat) (so : SOper) : Option (Reg × Mem × Nat) :=
  match wantedS env so with
  | true => evalOp call env m n so.op
  | false => some (.tup [], m, n)

/-- The way of a row of operations, step by step. -/
theorem trace {call : Callf} : ∀ (ss : List SOper) (env env' : Nat → Reg) (m m' : Mem) (n n' : Nat), evalOps call ss env m n = some (env', m', n') →
    ∃ (E : Nat → Nat → Reg) (M : Nat → Mem) (C : Nat → Nat) (R : Nat → Reg), E 0 = env ∧ M 0 = m ∧ C 0 = n ∧ E ss.length = env' ∧ M ss.length = m' ∧ C ss.length = n' ∧
      ∀ i so, ss[i]? = some so → stepS call (E i) (M i) (C i) so = some (R i, M (i + 1), C (i + 1)) ∧ E (i + 1) = putE (E i) so.dst (R i)
  | [], env, env', m, m', n, n', h => by
    simp only [evalOps, Option.some.injEq, Prod.mk.injEq] at h
    obtain ⟨rfl, rfl, rfl⟩ := h
    exact ⟨fun _ => env, fun _ => m, fun _ => n, fun _ => .tup [], rfl, rfl, rfl, rfl, rfl, rfl, fun i so h => by simp at h⟩
  | s :: ss, env, env', m, m', n, n', h => by
    have hev' : ∃ r m1 n1, stepS call env m n s = some (r, m1, n1) ∧ evalOps call ss (putE env s.dst r) m1 n1 = some (env', m', n') := by
      simp only [evalOps] at h
      unfold stepS
      cases hw : wantedS env s with
      | true =>
        simp only [hw] at h ⊢
        split at h
        · rename_i r m1 n1 h1
          exact ⟨r, m1, n1, h1, h⟩
        · cases h
      | false =>
        simp only [hw] at h ⊢
        exact ⟨.tup [], m, n, rfl, h⟩
    obtain ⟨r, m1, n1, h1, h2⟩ := hev'
    obtain ⟨E, M, C, R, e1, e2, e3, e4, e5, e6, e7⟩ := trace ss _ _ _ _ _ _ h2
    refine ⟨fun i => match i with | 0 => env | i + 1 => E i, fun i => match i with | 0 => m | i + 1 => M i, fun i => match i with | 0 => n | i + 1 => C i, fun i => match i with | 0 => r | i + 1 => R i,
      rfl, rfl, rfl, e4, e5, e6, fun i so hi => ?_⟩
    cases i with
    | zero =>
      simp only [List.getElem?_cons_zero, Option.some.injEq] at hi
      subst hi
      simp only [e1, e2, e3]
      exact ⟨h1, trivial⟩
    | succ i => exact e7 i so (by simpa using hi)

theorem countP_lt {α : Type} {p q : α → Bool} : ∀ (l : List α), (∀ x ∈ l, q x = true → p x = true) → ∀ i ∈ l, p i = true → q i = false → l.countP q < l.countP p
  | [], _, i, hi, _, _ => by simp at hi
  | x :: l, h, i, hi, hp, hq => by
    have hle : l.countP q ≤ l.countP p := List.countP_mono_left (fun y hy hqy => h y (by simp [hy]) hqy)
    rcases List.mem_cons.1 hi with rfl | hi
    · rw [List.countP_cons_of_neg (by simp [hq]), List.countP_cons_of_pos hp]
      omega
    · have ih := countP_lt l (fun y hy => h y (by simp [hy])) i hi hp hq
      by_cases hx : q x = true
      · rw [List.countP_cons_of_pos hx, List.countP_cons_of_pos (h x (by simp) hx)]; omega
      · rw [List.countP_cons_of_neg hx]
        by_cases hx' : p x = true
        · rw [List.countP_cons_of_pos hx']; omega
        · rw [List.countP_cons_of_neg hx']; exact ih

def left (L : Nat) (listed : Array Bool) : Nat := (List.range L).countP fun i => !listed.getD i true

section
variable {us : List Nat} {dis : List (Nat × Nat)} {P : Program} {ng N : Nat} {md : Nat → Mode} {ops : Array Oper} {ss : List SOper} {cl : List (List Nat)} {call : Callf} {Q : Exit → Act → World → Prop}

/-- What the checks say. -/
structure Chk (us : List Nat) (dis : List (Nat × Nat)) (ops : Array Oper) (ss : List SOper) (cl : List (List Nat)) : Prop where
  len : ss.length = ops.size
  pair : ∀ i j x y, i < j → ss[i]? = some x → ss[j]? = some y → pairOk us dis cl i x j y = true
  look : ∀ (j : Nat) (x : SOper), ss[j]? = some x → (kindOf x.op = .l → lookT x.op = true) ∧ (∀ t, addrT x.op = some t → x.dst ≠ some t)
  clo : ∀ j o, ops[j]? = some o → (∀ e ∈ o.after.toList, Region.binds .any e = true → e.on < j) ∧ (∀ i ∈ cl.getD j [], ∃ e ∈ o.after.toList, Region.binds .any e = true ∧ (e.on = i ∨ inC cl i e.on = true))

theorem chk_of (h : dOk us dis cl ops ss = true) (hl : ss.length = ops.size) : Chk us dis ops ss cl := by
  simp only [dOk, Bool.and_eq_true] at h
  refine ⟨hl, fun i j x y hij hx hy => ?_, allPairs_look h.2, fun j o ho => ?_⟩
  · simpa using allPairs_get h.2 i j x y hij hx hy
  · simpa using clOk_get h.1 j o (by simpa using ho)

def Lst (listed : Array Bool) (i : Nat) : Prop := listed.getD i false = true

structure Inv (us : List Nat) (P : Program) (ng N : Nat) (ss : List SOper) (ops : Array Oper) (E : Nat → Nat → Reg) (M : Nat → Mem) (C : Nat → Nat) (R : Nat → Reg) (ρ0 : Loc) (w0 : World) (d0 : List Deferred) (listed : Array Bool) (a : Act) (w : World) : Prop where
  size : listed.size = ss.length
  down : ∀ j o, Lst listed j → ops[j]? = some o → ∀ e ∈ o.after.toList, Region.binds .any e = true → Lst listed e.on
  tmps : a.tmps.size = N
  defers : a.defers = d0
  us : ∀ u ∈ us, Lst listed u
  ex : ∃ p ρ, p ≤ ss.length ∧ (∀ i so, ss[i]? = some so → isEff so = true → (Lst listed i ↔ i < p)) ∧ Step ρ0 (C 0) w0 (M 0) ρ (C p) w (M p) ∧ Glob ng ρ (C p) ∧
    (∀ t, (∀ i so, ss[i]? = some so → so.dst = some t → Lst listed i → RRel ρ (C p) w (R i) (a.tmps.getD t undef)) ∧ ((∀ i so, ss[i]? = some so → so.dst = some t → ¬ Lst listed i) → RRel ρ (C p) w (E 0 t) (a.tmps.getD t undef))) ∧
    (∀ i, i ≤ p → ∀ id b, M i id = some b → id < C i)

theorem clo_mem (hc : Chk us dis ops ss cl) {listed : Array Bool} (hd : ∀ j o, Lst listed j → ops[j]? = some o → ∀ e ∈ o.after.toList, Region.binds .any e = true → Lst listed e.on) :
    ∀ (j i : Nat), j < ops.size → inC cl i j = true → (∀ o, ops[j]? = some o → ∀ e ∈ o.after.toList, Region.binds .any e = true → Lst listed e.on) → Lst listed i := by
  intro j
  induction j using Nat.strongRecOn with
  | _ j ih =>
    intro i hj hi hafter
    obtain ⟨o, ho⟩ : ∃ o, ops[j]? = some o := ⟨ops[j], Array.getElem?_eq_getElem hj⟩
    obtain ⟨h1, h2⟩ := hc.clo j o ho
    have hi' : i ∈ cl.getD j [] := by simpa [inC] using hi
    obtain ⟨e, he, hb, hor⟩ := h2 i hi'
    have hon := hafter o ho e he hb
    rcases hor with rfl | hor
    · exact hon
    · have hlt := h1 e he hb
      exact ih e.on hlt i (by omega) hor (fun o' ho' => hd e.on o' hon ho')

variable {F : Fence} {nf : Nat} [Wide F]

mutual
theorem CRel.shrink {ρ0 ρ : Loc} {n0 n : Nat} {w0 w : World} : ∀ (c : Cell) (v0 v : Value), CRel ρ0 n0 w0 c v0 → CRel ρ n w c v → CRel ρ n0 w c v
  | .sc _, _, _, _, h => by simpa only [CRel] using h
  | .ptr id off, _, _, h0, h => by
    simp only [CRel] at h0 h ⊢
    exact ⟨h0.1, h.2⟩
  | .sl id off len cap sz, _, _, h0, h => by
    simp only [CRel] at h0 h ⊢
    exact ⟨h0.1, h.2⟩
  | .clo f caps, _, _, h0, h => by
    simp only [CRel] at h0 h ⊢
    obtain ⟨vs0, _, h1⟩ := h0
    obtain ⟨vs, h2, h3⟩ := h
    exact ⟨vs, h2, CRels.shrink caps vs0 vs h1 h3⟩
theorem CRels.shrink {ρ0 ρ : Loc} {n0 n : Nat} {w0 w : World} : ∀ (cs : List Cell) (vs0 vs : List Value), CRels ρ0 n0 w0 cs vs0 → CRels ρ n w cs vs → CRels ρ n0 w cs vs
  | [], _, _, _, h => by simpa only [CRels] using h
  | c :: cs, _, _, h0, h => by
    simp only [CRels] at h0 h ⊢
    obtain ⟨v0, r0, _, h1, h2⟩ := h0
    obtain ⟨v, r, h3, h4, h5⟩ := h
    exact ⟨v, r, h3, CRel.shrink c v0 v h1 h4, CRels.shrink cs r0 r h2 h5⟩
end
mutual
theorem RRel.shrink {ρ0 ρ : Loc} {n0 n : Nat} {w0 w : World} : ∀ (c : Reg) (v0 v : Value), RRel ρ0 n0 w0 c v0 → RRel ρ n w c v → RRel ρ n0 w c v
  | .one c, _, _, h0, h => by
    simp only [RRel] at h0 h ⊢
    exact CRel.shrink c _ _ h0 h
  | .agg cs, _, _, h0, h => by
    simp only [RRel] at h0 h ⊢
    obtain ⟨vs0, _, h1⟩ := h0
    obtain ⟨vs, h2, h3⟩ := h
    exact ⟨vs, h2, CRels.shrink cs vs0 vs h1 h3⟩
  | .tup rs, _, _, h0, h => by
    simp only [RRel] at h0 h ⊢
    obtain ⟨vs0, _, h1⟩ := h0
    obtain ⟨vs, h2, h3⟩ := h
    exact ⟨vs, h2, RRels.shrink rs vs0 vs h1 h3⟩
theorem RRels.shrink {ρ0 ρ : Loc} {n0 n : Nat} {w0 w : World} : ∀ (cs : List Reg) (vs0 vs : List Value), RRels ρ0 n0 w0 cs vs0 → RRels ρ n w cs vs → RRels ρ n0 w cs vs
  | [], _, _, _, h => by simpa only [RRels] using h
  | c :: cs, _, _, h0, h => by
    simp only [RRels] at h0 h ⊢
    obtain ⟨v0, r0, _, h1, h2⟩ := h0
    obtain ⟨v, r, h3, h4, h5⟩ := h
    exact ⟨v, r, h3, RRel.shrink c v0 v h1 h4, RRels.shrink cs r0 r h2 h5⟩
end

/-- A call that only looks at what lay when its region began: it was reckoned ahead. -/
structure PreOp (F : Fence) (nf : Nat) (P : Program) (ng N : Nat) (ops : Array Oper) (ss : List SOper) (cl : List (List Nat)) (E : Nat → Nat → Reg) (M : Nat → Mem) (C : Nat → Nat) (R : Nat → Reg) (ρ0 : Loc) (w0 : World) (Q : Exit → Act → World → Prop) (i : Nat) (so : SOper) : Prop where
  dst : ∀ d, so.dst = some d → d < N
  quiet : isEff so = false
  first : ∀ (k : Nat) (sk : SOper), ss[k]? = some sk → kindOf sk.op = .hard → inC cl i k = true
  runs : ∀ (ρ : Loc) (n : Nat) (w : World) (m : Mem) (a : Act) (K : Act → World → Prop), MRel ρ n w m → Glob ng ρ n → MRel ρ (C 0) w (frz (M 0)) → Le ρ0 (C 0) w0 ρ n w → a.tmps.size = N →
    (∀ t, (∀ (k : Nat) (sk : SOper), ss[k]? = some sk → sk.dst ≠ some t) → RRel ρ n w (E 0 t) (a.tmps.getD t undef)) → (∀ t ∈ usesS so, RRel ρ n w (E i t) (a.tmps.getD t undef)) → (∀ v ρ' w', Step ρ n w m ρ' n w' m → RRel ρ' n w' (R i) v → K (a.put so.dst v) w') → wpOpIn F nf P ops Q i K a w

theorem wpAny_ok (hcall : CallOK P ng call) (hc : Chk us dis ops ss cl) {E : Nat → Nat → Reg} {M : Nat → Mem} {C : Nat → Nat} {R : Nat → Reg} {ρ0 : Loc} {w0 : World} {d0 : List Deferred} (hm0 : MRel ρ0 (C 0) w0 (M 0))
    (hM : ∀ i so, ss[i]? = some so → Matches P ng N md ops i so ∨ PreOp F nf P ng N ops ss cl E M C R ρ0 w0 Q i so)
    (htr : ∀ i so, ss[i]? = some so → stepS call (E i) (M i) (C i) so = some (R i, M (i + 1), C (i + 1)) ∧ E (i + 1) = putE (E i) so.dst (R i))
    (hdis : disOk (E ss.length) dis = true)
    (hQ : ∀ ρ' a' w', Step ρ0 (C 0) w0 (M 0) ρ' (C ss.length) w' (M ss.length) → Good N ng ρ' (C ss.length) w' (E ss.length) (M ss.length) a' → a'.defers = d0 → Q .normal a' w') :
    ∀ (fuel : Nat) (listed : Array Bool) (a : Act) (w : World), left ss.length listed ≤ fuel → Inv us P ng N ss ops E M C R ρ0 w0 d0 listed a w → wpAnyIn F nf P .any ops Q fuel listed a w := by
  -- the value of a variable in the rows' own order
  have hE : ∀ j, j ≤ ss.length → ∀ t, (∀ (i : Nat) (so : SOper), i < j → ss[i]? = some so → so.dst = some t → E j t = R i) ∧ ((∀ (i : Nat) (so : SOper), i < j → ss[i]? = some so → so.dst ≠ some t) → E j t = E 0 t) := by
    intro j
    induction j with
    | zero => intro _ t; exact ⟨fun i so h => by omega, fun _ => rfl⟩
    | succ j ih =>
      intro hj t
      obtain ⟨so, hso⟩ : ∃ so, ss[j]? = some so := ⟨ss[j]'(by omega), List.getElem?_eq_getElem (by omega)⟩
      obtain ⟨ih1, ih2⟩ := ih (by omega) t
      rw [(htr j so hso).2]
      constructor
      · intro i si hij hsi hd
        rcases Nat.lt_or_ge i j with h1 | h1
        · have hp := hc.pair i j si so h1 hsi hso
          simp only [pairOk, hd, Bool.and_eq_true, bne_iff_ne, ne_eq] at hp
          have hne : so.dst ≠ some t := hp.1.1.1.1.1.1
          have : putE (E j) so.dst (R j) t = E j t := by
            cases hdd : so.dst with
            | none => rfl
            | some d => exact upd_ne _ _ (fun e => hne (by rw [hdd, e]))
          rw [this]
          exact ih1 i si h1 hsi hd
        · have : i = j := by omega
          subst this
          rw [hso] at hsi
          cases hsi
          rw [hd]
          exact upd_same _ _ _
      · intro hno
        have hne : so.dst ≠ some t := hno j so (by omega) hso
        have : putE (E j) so.dst (R j) t = E j t := by
          cases hdd : so.dst with
          | none => rfl
          | some d => exact upd_ne _ _ (fun e => hne (by rw [hdd, e]))
        rw [this]
        exact ih2 (fun i si hi => hno i si (by omega))
  -- where nothing acts, nothing turns
  have hstill : ∀ i so, ss[i]? = some so → isEff so = false → M (i + 1) = M i ∧ C (i + 1) = C i := by
    intro i so hso hne
    have h1 := (htr i so hso).1
    unfold stepS at h1
    split at h1
    · cases hk : kindOf so.op with
      | p => have := kind_p hk h1; exact ⟨this.1, this.2.1⟩
      | l => have := kind_l hk h1; exact ⟨this.1, this.2.1⟩
      | mild => simp [isEff, hk] at hne
      | hard => simp [isEff, hk] at hne
    · simp only [Option.some.injEq, Prod.mk.injEq] at h1; exact ⟨h1.2.1.symm, h1.2.2.symm⟩
  have hmild : ∀ i so, ss[i]? = some so → kindOf so.op ≠ .hard → C i ≤ C (i + 1) ∧ ∀ id, id < C i → M (i + 1) id = M i id := by
    intro i so hso hne
    by_cases he : isEff so = true
    · have h1 := (htr i so hso).1
      unfold stepS at h1
      split at h1
      · have hk : kindOf so.op = .mild := by
          simp only [isEff, Bool.or_eq_true, beq_iff_eq] at he
          exact he.resolve_right hne
        exact kind_mild hk h1
      · simp only [Option.some.injEq, Prod.mk.injEq] at h1
        exact ⟨by rw [h1.2.2]; exact Nat.le_refl _, fun id _ => by rw [h1.2.1]⟩
    · have := hstill i so hso (by simpa using he)
      exact ⟨by rw [this.2]; exact Nat.le_refl _, fun id _ => by rw [this.1]⟩
  -- an address stays
  have haddr : ∀ (i : Nat) (so : SOper) (t : Nat), ss[i]? = some so → addrT so.op = some t → E ss.length t = E i t := by
    intro i so t hso ht
    have hi : i < ss.length := (List.getElem?_eq_some_iff.1 hso).1
    have hno : ∀ (j : Nat) (sj : SOper), i ≤ j → ss[j]? = some sj → sj.dst ≠ some t := by
      intro j sj hij hsj hd
      rcases Nat.lt_or_ge i j with h | h
      · have hp := hc.pair i j so sj h hso hsj
        simp only [pairOk, Bool.and_eq_true, ht, bne_iff_ne, ne_eq] at hp
        exact hp.2 hd
      · have : j = i := by omega
        subst this
        rw [hso] at hsj
        cases hsj
        exact (hc.look j so hso).2 t ht hd
    obtain ⟨q1, q2⟩ := hE ss.length (Nat.le_refl _) t
    obtain ⟨q3, q4⟩ := hE i (by omega) t
    by_cases hex : ∃ (j : Nat) (sj : SOper), j < i ∧ ss[j]? = some sj ∧ sj.dst = some t
    · obtain ⟨j, sj, h1, h2, h3⟩ := hex
      rw [q1 j sj (by omega) h2 h3, q3 j sj h1 h2 h3]
    · rw [q2 (fun j sj h1 h2 h3 => (Nat.lt_or_ge j i).elim (fun h => hex ⟨j, sj, h, h2, h3⟩) (fun h => hno j sj h h2 h3)), q4 (fun j sj h1 h2 h3 => hex ⟨j, sj, h1, h2, h3⟩)]
  have hapart : ∀ (i : Nat) (si : SOper) (j : Nat) (sj : SOper) (id : Nat), ss[i]? = some si → ss[j]? = some sj → disC dis si.op sj.op = true → lookAt (E i) si.op = some id → C j ≤ C (j + 1) ∧ (id < C j → M (j + 1) id = M j id) := by
    intro i si j sj id hsi hsj hd hl
    simp only [disC, Bool.and_eq_true] at hd
    obtain ⟨hst, hd⟩ := hd
    split at hd
    case h_2 => cases hd
    rename_i ta tb h1 h2
    have hin : (ta, tb) ∈ dis := by simpa using hd
    have h3 := look_id h1 hl
    have h4 := haddr i si ta hsi h1
    have h5 := haddr j sj tb hsj h2
    have h6 := (htr j sj hsj).1
    unfold stepS at h6
    split at h6
    · obtain ⟨h8, h9⟩ := store_id hst h2 h6
      refine ⟨h8, h9 id ?_⟩
      simp only [disOk, List.all_eq_true, Bool.or_eq_true] at hdis
      intro h7
      rcases hdis (ta, tb) hin with this | this
      · rw [h5] at this
        rw [noId_idOf this] at h7
        cases h7
      · simp [h4, h5, h3, h7] at this
    · simp only [Option.some.injEq, Prod.mk.injEq] at h6; exact ⟨by rw [h6.2.2]; exact Nat.le_refl _, fun _ => by rw [h6.2.1]⟩
  have hrun : ∀ p j, p ≤ j → j ≤ ss.length → (∀ (i : Nat) (so : SOper), p ≤ i → i < j → ss[i]? = some so → isEff so = false) → M j = M p ∧ C j = C p := by
    intro p j hpj
    induction j with
    | zero => intro _ _; have : p = 0 := by omega
              subst this; exact ⟨rfl, rfl⟩
    | succ j ih =>
      intro hj hno
      rcases Nat.lt_or_ge j p with h1 | h1
      · have : p = j + 1 := by omega
        subst this; exact ⟨rfl, rfl⟩
      · obtain ⟨so, hso⟩ : ∃ so, ss[j]? = some so := ⟨ss[j]'(by omega), List.getElem?_eq_getElem (by omega)⟩
        have h2 := hstill j so hso (hno j so h1 (by omega) hso)
        have h3 := ih h1 (by omega) (fun i si h4 h5 => hno i si h4 (by omega))
        exact ⟨h2.1.trans h3.1, h2.2.trans h3.2⟩
  intro fuel
  -- what is ready
  have hready : ∀ (listed : Array Bool) a w, Inv us P ng N ss ops E M C R ρ0 w0 d0 listed a w → ∀ j, j ∈ Region.ready .any ops listed ↔ (j < ss.length ∧ ¬ Lst listed j ∧ ∀ o, ops[j]? = some o → ∀ e ∈ o.after.toList, Region.binds .any e = true → Lst listed e.on) := by
    intro listed a w hI j
    simp only [Region.ready, List.mem_filter, List.mem_range, Bool.and_eq_true, Bool.not_eq_true']
    constructor
    · rintro ⟨h1, h2, h3⟩
      have hjs : j < ss.length := by rw [hc.len]; exact h1
      refine ⟨hjs, ?_, ?_⟩
      · intro hl
        have hsz := hI.size
        have : listed.getD j true = listed.getD j false := by
          simp [Array.getD_eq_getD_getElem?, Array.getElem?_eq_getElem (show j < listed.size by omega)]
        rw [this, hl] at h2
        cases h2
      · intro o ho e he hb
        rw [ho] at h3
        simp only [Option.map_some, Option.getD_some] at h3
        rw [← Array.all_toList, List.all_eq_true] at h3
        have := h3 e he
        rw [hb] at this
        simpa [Lst] using this
    · rintro ⟨h1, h2, h3⟩
      have hjo : j < ops.size := by rw [← hc.len]; exact h1
      refine ⟨hjo, ?_, ?_⟩
      · have hsz := hI.size
        have : listed.getD j true = listed.getD j false := by
          simp [Array.getD_eq_getD_getElem?, Array.getElem?_eq_getElem (show j < listed.size by omega)]
        rw [this]
        simpa [Lst] using h2
      · rw [Array.getElem?_eq_getElem hjo]
        simp only [Option.map_some, Option.getD_some]
        rw [← Array.all_toList, List.all_eq_true]
        intro e he
        have := h3 ops[j] (Array.getElem?_eq_getElem hjo) e he
        cases hb : Region.binds .any e with
        | false => rfl
        | true => simpa [Lst] using this hb
  -- the end
  have hend : ∀ (listed : Array Bool) a w, Inv us P ng N ss ops E M C R ρ0 w0 d0 listed a w → Region.ready .any ops listed = [] → Q .normal a w := by
    intro listed a w hI hr
    have hall : ∀ j, j < ss.length → Lst listed j := by
      intro j
      induction j using Nat.strongRecOn with
      | _ j ih =>
        intro hj
        refine Classical.byContradiction fun hn => ?_
        have hjo : j < ops.size := by rw [← hc.len]; exact hj
        have : j ∈ Region.ready .any ops listed := (hready listed a w hI j).2 ⟨hj, hn, fun o ho e he hb => by
          have := (hc.clo j o ho).1 e he hb
          exact ih e.on this (by omega)⟩
        rw [hr] at this
        cases this
    obtain ⟨p, ρ, hp, heff, hst, hgl, henv, hwf⟩ := hI.ex
    have hMp := hrun p ss.length hp (Nat.le_refl _) (fun i so h1 h2 hso => by
      cases he : isEff so with
      | false => rfl
      | true => have := (heff i so hso he).1 (hall i h2); omega)
    refine hQ ρ a w (by rw [hMp.1, hMp.2]; exact hst) ⟨?_, ?_, ?_, hI.tmps⟩ hI.defers
    · rw [hMp.1, hMp.2]; exact hst.rel
    · rw [hMp.2]; exact hgl
    · intro t
      rw [hMp.2]
      obtain ⟨h1, h2⟩ := hE ss.length (Nat.le_refl _) t
      by_cases hex : ∃ (i : Nat) (so : SOper), i < ss.length ∧ ss[i]? = some so ∧ so.dst = some t
      · obtain ⟨i, so, hi, hso, hd⟩ := hex
        rw [h1 i so hi hso hd]
        exact (henv t).1 i so hso hd (hall i hi)
      · have hno : ∀ (i : Nat) (so : SOper), ss[i]? = some so → so.dst ≠ some t := fun i so hso hd => hex ⟨i, so, (List.getElem?_eq_some_iff.1 hso).1, hso, hd⟩
        rw [h2 (fun i so _ hso => hno i so hso)]
        exact (henv t).2 (fun i so hso hd => absurd hd (hno i so hso))
  -- one step
  have hstep : ∀ (K : Array Bool → Act → World → Prop) (listed : Array Bool) a w, Inv us P ng N ss ops E M C R ρ0 w0 d0 listed a w → (∀ listed' a' w', left ss.length listed' < left ss.length listed → Inv us P ng N ss ops E M C R ρ0 w0 d0 listed' a' w' → K listed' a' w') →
      ∀ j ∈ Region.ready .any ops listed, wpOpIn F nf P ops Q j (K (listed.setIfInBounds j true)) a w := by
    intro K listed a w hI hK j hj
    obtain ⟨hjs, hjn, hja⟩ := (hready listed a w hI j).1 hj
    have hjo : j < ops.size := by rw [← hc.len]; exact hjs
    obtain ⟨so, hso⟩ : ∃ so, ss[j]? = some so := ⟨ss[j], List.getElem?_eq_getElem hjs⟩
    obtain ⟨p, ρ, hp, heff, hst, hgl, henv, hwf⟩ := hI.ex
    have hsz := hI.size
    -- listing it
    have hl1 : ∀ i, Lst (listed.setIfInBounds j true) i ↔ (i = j ∨ Lst listed i) := by
      intro i
      unfold Lst
      simp only [Array.getD_eq_getD_getElem?]
      by_cases e : i = j
      · subst e
        simp [Array.getElem?_setIfInBounds_self_of_lt (show i < listed.size by omega)]
      · rw [Array.getElem?_setIfInBounds_ne (Ne.symm e)]
        simp [e]
    have hleft : left ss.length (listed.setIfInBounds j true) < left ss.length listed := by
      refine countP_lt _ (fun x hx hq => ?_) j (by simpa using hjs) ?_ ?_
      · simp only [Array.getD_eq_getD_getElem?] at hq ⊢
        by_cases e : x = j
        · subst e
          rw [Array.getElem?_setIfInBounds_self_of_lt (by omega)] at hq
          simp at hq
        · rwa [Array.getElem?_setIfInBounds_ne (Ne.symm e)] at hq
      · have : listed.getD j true = listed.getD j false := by
          simp [Array.getD_eq_getD_getElem?, Array.getElem?_eq_getElem (show j < listed.size by omega)]
        rw [this]
        simpa [Lst] using hjn
      · simp [Array.getD_eq_getD_getElem?, Array.getElem?_setIfInBounds_self_of_lt (show j < listed.size by omega)]
    have hju : us.contains j = false := by
      cases h : us.contains j with
      | false => rfl
      | true => exact absurd (hI.us j (List.contains_iff_mem.1 h)) hjn
    have hcl : ∀ i, inC cl i j = true → Lst listed i := fun i hi => clo_mem hc hI.down j i hjo hi hja
    have hcl2 : ∀ i, i < ops.size → inC cl j i = true → ¬ Lst listed i := by
      intro i hi hij hl
      obtain ⟨o, ho⟩ : ∃ o, ops[i]? = some o := ⟨ops[i], Array.getElem?_eq_getElem hi⟩
      exact hjn (clo_mem hc hI.down i j hi hij (fun o' ho' => hI.down i o' hl ho'))
    -- the environment as_ the machine has it
    have hdec : ∀ t, Decidable (∃ i si, ss[i]? = some si ∧ si.dst = some t ∧ Lst listed i) := fun t => Classical.propDecidable _
    let eS : Nat → Reg := fun t => if h : ∃ i si, ss[i]? = some si ∧ si.dst = some t ∧ Lst listed i then R h.choose else E 0 t
    have heS : ∀ t, RRel ρ (C p) w (eS t) (a.tmps.getD t undef) := by
      intro t
      by_cases h : ∃ i si, ss[i]? = some si ∧ si.dst = some t ∧ Lst listed i
      · simp only [eS, dif_pos h]
        obtain ⟨si, h1, h2, h3⟩ := h.choose_spec
        exact (henv t).1 _ si h1 h2 h3
      · simp only [eS, dif_neg h]
        exact (henv t).2 (fun i si h1 h2 h3 => h ⟨i, si, h1, h2, h3⟩)
    have huniq : ∀ (i1 : Nat) (s1 : SOper) (i2 : Nat) (s2 : SOper) (t : Nat), ss[i1]? = some s1 → ss[i2]? = some s2 → s1.dst = some t → s2.dst = some t → i1 = i2 := by
      intro i1 s1 i2 s2 t h1 h2 h3 h4
      rcases Nat.lt_trichotomy i1 i2 with h | h | h
      · have := hc.pair i1 i2 s1 s2 h h1 h2
        simp [pairOk, h3, h4] at this
      · exact h
      · have := hc.pair i2 i1 s2 s1 h h2 h1
        simp [pairOk, h3, h4] at this
    have hag : ∀ t ∈ usesS so, eS t = E j t := by
      intro t ht
      obtain ⟨q1, q2⟩ := hE j (by omega) t
      by_cases hex : ∃ (i : Nat) (si : SOper), ss[i]? = some si ∧ si.dst = some t
      · obtain ⟨i, si, hsi, hd⟩ := hex
        have hi : i < ss.length := (List.getElem?_eq_some_iff.1 hsi).1
        rcases Nat.lt_trichotomy i j with h | h | h
        · have hp' := hc.pair i j si so h hsi hso
          simp only [pairOk, hd, Bool.and_eq_true, Bool.or_eq_true, Bool.not_eq_true'] at hp'
          have hin : inC cl i j = true := by
            rcases hp'.1.1.1.1.1.2 with h1 | h1
            · rw [List.contains_iff_mem.2 ht] at h1; cases h1
            · exact h1
          have hl := hcl i hin
          have hh : ∃ i si, ss[i]? = some si ∧ si.dst = some t ∧ Lst listed i := ⟨i, si, hsi, hd, hl⟩
          obtain ⟨s', h1, h2, h3⟩ := hh.choose_spec
          have := huniq _ _ _ _ _ h1 hsi h2 hd
          simp only [eS, dif_pos hh, this]
          exact (q1 i si h hsi hd).symm
        · subst h
          have hno : ¬ ∃ i' si', ss[i']? = some si' ∧ si'.dst = some t ∧ Lst listed i' := by
            rintro ⟨i', si', h1, h2, h3⟩
            have := huniq _ _ _ _ _ h1 hsi h2 hd
            subst this
            exact hjn h3
          simp only [eS, dif_neg hno]
          exact (q2 (fun i' si' h1 h2 h3 => by have := huniq _ _ _ _ _ h2 hsi h3 hd; omega)).symm
        · have hp' := hc.pair j i so si h hso hsi
          simp only [pairOk, hd, Bool.and_eq_true, Bool.or_eq_true, Bool.not_eq_true'] at hp'
          have hin : inC cl j i = true := by
            rcases hp'.1.1.1.1.2 with h1 | h1
            · rw [List.contains_iff_mem.2 ht] at h1; cases h1
            · exact h1
          have hnl := hcl2 i (by rw [← hc.len]; exact hi) hin
          have hno : ¬ ∃ i' si', ss[i']? = some si' ∧ si'.dst = some t ∧ Lst listed i' := by
            rintro ⟨i', si', h1, h2, h3⟩
            have := huniq _ _ _ _ _ h1 hsi h2 hd
            subst this
            exact hnl h3
          simp only [eS, dif_neg hno]
          exact (q2 (fun i' si' h1 h2 h3 => by have := huniq _ _ _ _ _ h2 hsi h3 hd; omega)).symm
      · have hno : ¬ ∃ i' si', ss[i']? = some si' ∧ si'.dst = some t ∧ Lst listed i' := by
          rintro ⟨i', si', h1, h2, h3⟩
          exact hex ⟨i', si', h1, h2⟩
        simp only [eS, dif_neg hno]
        exact (q2 (fun i' si' h1 h2 h3 => hex ⟨i', si', h2, h3⟩)).symm
    have hwant : wantedS eS so = wantedS (E j) so := by
      unfold wantedS
      cases hg : so.guard with
      | none => rfl
      | some g =>
        obtain ⟨gt, want⟩ := g
        cases gt with
        | none => rfl
        | some t =>
          simp only
          rw [hag t (by simp [usesS, hg])]
    have hcong : ∀ m n, stepS call eS m n so = stepS call (E j) m n so := by
      intro m n
      unfold stepS
      rw [hwant, evalOp_congr (fun t ht => hag t (by simp [usesS, ht]))]
    have hG : Good N ng ρ (C p) w eS (M p) a := ⟨hst.rel, hgl, heS, hI.tmps⟩
    have hMj := hM j so hso
    have hdN : ∀ d, so.dst = some d → d < N := by
      rcases hMj with ⟨_, _, _, h⟩ | h
      · exact h
      · exact h.dst
    -- the invariant behind it
    have hnext : ∀ (q : Nat) (v : Value) (ρ' : Loc) (w' : World), q ≤ ss.length → (∀ i si, ss[i]? = some si → isEff si = true → ((i = j ∨ Lst listed i) ↔ i < q)) → Step ρ (C p) w (M p) ρ' (C q) w' (M q) → RRel ρ' (C q) w' (R j) v →
        (∀ i, i ≤ q → ∀ id b, M i id = some b → id < C i) → K (listed.setIfInBounds j true) (a.put so.dst v) w' := by
      intro q v ρ' w' hq heff' hst' hv hwf'
      refine hK _ _ _ hleft ⟨by simpa using hsz, ?_, by rw [Act.size_put]; exact hI.tmps, by rw [Act.defers_put]; exact hI.defers, fun u hu => (hl1 u).2 (Or.inr (hI.us u hu)), q, ρ', hq, ?_, hst.trans hst', hgl.mono hst'.le, ?_, hwf'⟩
      · intro i o hl ho e he hb
        rw [hl1] at hl ⊢
        rcases hl with rfl | hl
        · exact Or.inr (hja o ho e he hb)
        · exact Or.inr (hI.down i o hl ho e he hb)
      · intro i si hsi he
        rw [hl1]
        exact heff' i si hsi he
      · intro t
        have hput : (a.put so.dst v).tmps.getD t undef = if so.dst = some t then v else a.tmps.getD t undef := by
          cases hd : so.dst with
          | none => simp [Act.put]
          | some d =>
            have hlt : d < a.tmps.size := by rw [hI.tmps]; exact hdN d hd
            by_cases e : d = t
            · subst e
              simp [Act.put, Array.getD_eq_getD_getElem?, hlt]
            · have e' : ¬ (some d = some t) := fun h => e (Option.some.inj h)
              simp [Act.put, Array.getD_eq_getD_getElem?, e, Array.getElem?_setIfInBounds_ne e]
        rw [hput]
        constructor
        · intro i si hsi hd hl
          rw [hl1] at hl
          by_cases hdj : so.dst = some t
          · have := huniq _ _ _ _ _ hsi hso hd hdj
            subst this
            rw [if_pos hdj]
            exact hv
          · rw [if_neg hdj]
            rcases hl with rfl | hl
            · rw [hso] at hsi; cases hsi; exact absurd hd hdj
            · exact RRel.mono hst'.le _ _ ((henv t).1 i si hsi hd hl)
        · intro hno
          have hdj : so.dst ≠ some t := fun hd => hno j so hso hd ((hl1 j).2 (Or.inl rfl))
          rw [if_neg hdj]
          exact RRel.mono hst'.le _ _ ((henv t).2 (fun i si hsi hd hl => hno i si hsi hd ((hl1 i).2 (Or.inr hl))))
    have htj := (htr j so hso).1
    by_cases he : isEff so = true
    · -- it acts
      have hpj : p ≤ j := by
        rcases Nat.lt_or_ge j p with h | h
        · exact absurd ((heff j so hso he).2 h) hjn
        · exact h
      have hsame := hrun p j hpj (by omega) (fun i si h1 h2 hsi => by
        cases he' : isEff si with
        | false => rfl
        | true =>
          have hp' := hc.pair i j si so h2 hsi hso
          simp only [pairOk, Bool.and_eq_true, he, he', Bool.and_self, Bool.not_true, Bool.false_or, hju, Bool.and_false, Bool.false_and, Bool.or_false] at hp'
          have := (heff i si hsi he').1 (hcl i hp'.1.1.1.2)
          omega)
      have hev : stepS call eS (M p) (C p) so = some (R j, M (j + 1), C (j + 1)) := by rw [hcong, ← hsame.1, ← hsame.2]; exact htj
      have hMj := hMj.resolve_right (fun h => by rw [h.quiet] at he; cases he)
      refine wpOp_sound hcall hMj hG hev (fun v ρ' w' hst' hv => hnext (j + 1) v ρ' w' (by omega) ?_ hst' hv ?_)
      · intro i si hsi he'
        rcases Nat.lt_trichotomy i j with h | h | h
        · have hp' := hc.pair i j si so h hsi hso
          simp only [pairOk, Bool.and_eq_true, he, he', Bool.and_self, Bool.not_true, Bool.false_or, hju, Bool.and_false, Bool.false_and, Bool.or_false] at hp'
          exact ⟨fun _ => by omega, fun _ => Or.inr (hcl i hp'.1.1.1.2)⟩
        · exact ⟨fun _ => by omega, fun _ => Or.inl h⟩
        · have hp' := hc.pair j i so si h hso hsi
          simp only [pairOk, Bool.and_eq_true, he, he', Bool.and_self, Bool.not_true, Bool.false_or, hju, Bool.and_false, Bool.false_and, Bool.or_false] at hp'
          have hi : i < ops.size := by rw [← hc.len]; exact (List.getElem?_eq_some_iff.1 hsi).1
          refine ⟨fun hh => ?_, fun hh => by omega⟩
          rcases hh with hh | hh
          · omega
          · exact absurd hh (hcl2 i hi hp'.1.1.1.2)
      · intro i hi id b hb
        rcases Nat.lt_or_ge p i with h1 | h1
        · rcases Nat.lt_or_ge i (j + 1) with h2 | h2
          · have hs2 := hrun p i (by omega) (by omega) (fun i' si' h3 h4 hsi' => by
              cases he' : isEff si' with
              | false => rfl
              | true =>
                have hp' := hc.pair i' j si' so (by omega) hsi' hso
                simp only [pairOk, Bool.and_eq_true, he, he', Bool.and_self, Bool.not_true, Bool.false_or, hju, Bool.and_false, Bool.false_and, Bool.or_false] at hp'
                have := (heff i' si' hsi' he').1 (hcl i' hp'.1.1.1.2)
                omega)
            rw [hs2.1] at hb
            rw [hs2.2]
            exact hst.rel.lt id b hb
          · have : i = j + 1 := by omega
            subst this
            exact hst'.rel.lt id b hb
        · exact hwf i h1 id b hb
    · -- it only looks
      have he' : isEff so = false := by simpa using he
      have hev : stepS call eS (M p) (C p) so = some (R j, M p, C p) := by
        rw [hcong]
        unfold stepS at htj ⊢
        split at htj
        · rename_i hw
          cases hk : kindOf so.op with
          | p => exact (kind_p hk htj).2.2 _ _
          | mild => simp [isEff, hk] at he'
          | hard => simp [isEff, hk] at he'
          | l =>
            obtain ⟨h1, h2, id, b, h3, h4, h5⟩ := kind_l hk htj
            refine h5 _ _ ?_
            -- the number is one that there is
            have hid : id < C p := by
              obtain ⟨k, off, h6, h7⟩ := lookT_inv ((hc.look j so hso).1 hk) h3
              have h8 := heS k
              rw [hag k (by simp [usesS, h6]), h7] at h8
              exact (ptr_inv h8).1
            rcases Nat.lt_or_ge j p with hjp | hjp
            · -- what was done ahead of its turn
              have key : ∀ q, j ≤ q → q ≤ p → M q id = M j id := by
                intro q hq1
                induction q with
                | zero => intro _; have : j = 0 := by omega
                          subst this; rfl
                | succ q ihq =>
                  intro hq2
                  rcases Nat.lt_or_ge q j with h9 | h9
                  · have : j = q + 1 := by omega
                    subst this; rfl
                  · have ih2 := ihq h9 (by omega)
                    obtain ⟨sq, hsq⟩ : ∃ sq, ss[q]? = some sq := ⟨ss[q]'(by omega), List.getElem?_eq_getElem (by omega)⟩
                    cases heq' : isEff sq with
                    | false => rw [(hstill q sq hsq heq').1]; exact ih2
                    | true =>
                      have hls := (heff q sq hsq heq').2 (by omega)
                      have hqj : q ≠ j := fun e => by subst e; exact hjn hls
                      by_cases hh : kindOf sq.op = .hard
                      · have hp' := hc.pair j q so sq (by omega) hso hsq
                        simp only [pairOk, Bool.and_eq_true, hk, hh, beq_self_eq_true, Bool.and_self, Bool.not_true, Bool.false_or, Bool.or_eq_true] at hp'
                        have hq3 : q < ops.size := by rw [← hc.len]; omega
                        rcases hp'.1.1.2 with h10 | h10
                        · exact absurd hls (hcl2 q hq3 h10)
                        · rw [(hapart j so q sq id hso hsq h10 h3).2 (hwf q (by omega) id b (by rw [ih2]; exact h4))]; exact ih2
                      · rw [(hmild q sq hsq hh).2 id (hwf q (by omega) id b (by rw [ih2]; exact h4))]
                        exact ih2
              exact key p (by omega) (Nat.le_refl _)
            · -- what is done behind its turn
              have key : ∀ q, p ≤ q → q ≤ j → M q id = M p id ∧ C p ≤ C q := by
                intro q hq1
                induction q with
                | zero => intro _; have : p = 0 := by omega
                          subst this; exact ⟨rfl, Nat.le_refl _⟩
                | succ q ihq =>
                  intro hq2
                  rcases Nat.lt_or_ge q p with h9 | h9
                  · have : p = q + 1 := by omega
                    subst this; exact ⟨rfl, Nat.le_refl _⟩
                  · have ih2 := ihq h9 (by omega)
                    obtain ⟨sq, hsq⟩ : ∃ sq, ss[q]? = some sq := ⟨ss[q]'(by omega), List.getElem?_eq_getElem (by omega)⟩
                    cases heq' : isEff sq with
                    | false =>
                      have := hstill q sq hsq heq'
                      rw [this.1, this.2]; exact ih2
                    | true =>
                      by_cases hh : kindOf sq.op = .hard
                      · have hp' := hc.pair q j sq so (by omega) hsq hso
                        simp only [pairOk, Bool.and_eq_true, hk, hh, beq_self_eq_true, Bool.and_self, Bool.not_true, Bool.false_or, Bool.or_eq_true] at hp'
                        rcases hp'.1.2 with h10 | h10
                        · have := (heff q sq hsq heq').1 (hcl q h10)
                          omega
                        · have h11 := hapart j so q sq id hso hsq h10 h3
                          exact ⟨by rw [h11.2 (by omega)]; exact ih2.1, Nat.le_trans ih2.2 h11.1⟩
                      · have h10 := hmild q sq hsq hh
                        exact ⟨by rw [h10.2 id (by omega)]; exact ih2.1, Nat.le_trans ih2.2 h10.1⟩
              exact (key j hjp (Nat.le_refl _)).1.symm
        · rename_i hw
          simp only [Option.some.injEq, Prod.mk.injEq] at htj
          rw [htj.1]
      have hlast : ∀ i si, ss[i]? = some si → isEff si = true → ((i = j ∨ Lst listed i) ↔ i < p) := by
        intro i si hsi hei
        rw [← heff i si hsi hei]
        constructor
        · rintro (rfl | h)
          · rw [hso] at hsi; cases hsi; rw [he'] at hei; cases hei
          · exact h
        · exact Or.inr

      rcases hMj with hMj | hpre
      · exact wpOp_sound hcall hMj hG hev (fun v ρ' w' hst' hv => hnext p v ρ' w' hp hlast hst' hv hwf)
      · have hkeep : ∀ q, q ≤ p → (∀ id, id < C 0 → M q id = M 0 id) ∧ C 0 ≤ C q := by
          intro q
          induction q with
          | zero => exact fun _ => ⟨fun _ _ => rfl, Nat.le_refl _⟩
          | succ q ihq =>
            intro hq
            obtain ⟨h1, h2⟩ := ihq (by omega)
            obtain ⟨sq, hsq⟩ : ∃ sq, ss[q]? = some sq := ⟨ss[q]'(by omega), List.getElem?_eq_getElem (by omega)⟩
            have hnh : kindOf sq.op ≠ .hard := fun hh => by
              have hls := (heff q sq hsq (by simp [isEff, hh])).2 (by omega)
              exact hcl2 q (by rw [← hc.len]; omega) (hpre.first q sq hsq hh) hls
            obtain ⟨h3, h4⟩ := hmild q sq hsq hnh
            exact ⟨fun id hid => (h4 id (by omega)).trans (h1 id hid), Nat.le_trans h2 h3⟩
        obtain ⟨hk1, hk2⟩ := hkeep p (Nat.le_refl _)
        have hJ : MRel ρ (C 0) w (frz (M 0)) := by
          have hfz : ∀ id b, frz (M 0) id = some b → ∃ b0, M 0 id = some b0 ∧ b = ⟨b0.cells, false⟩ := fun id b hb => by
            unfold frz at hb
            obtain ⟨b0, h1, h2⟩ := Option.map_eq_some_iff.1 hb
            exact ⟨b0, h1, h2.symm⟩
          refine ⟨fun id b hb => ?_, fun id b hb => ?_, fun id b hb i c hci => ?_, fun id b hb ho => ?_, fun id b hb ho => ?_⟩
          · obtain ⟨b0, h1, _⟩ := hfz id b hb
            exact hm0.lt id b0 h1
          · obtain ⟨b0, h1, _⟩ := hfz id b hb
            exact hst.rel.blk id b0 (by rw [hk1 id (hm0.lt id b0 h1)]; exact h1)
          · obtain ⟨b0, h1, rfl⟩ := hfz id b hb
            obtain ⟨v0, _, h3⟩ := hm0.cells id b0 h1 i c hci
            obtain ⟨v, h4, h5⟩ := hst.rel.cells id b0 (by rw [hk1 id (hm0.lt id b0 h1)]; exact h1) i c hci
            exact ⟨v, h4, CRel.shrink c v0 v h3 h5⟩
          · obtain ⟨b0, h1, rfl⟩ := hfz id b hb
            cases ho
          · obtain ⟨b0, h1, rfl⟩ := hfz id b hb
            cases ho
        refine hpre.runs ρ (C p) w (M p) a _ hst.rel hgl hJ hst.le hI.tmps (fun t hno => ?_) (fun t ht => by rw [← hag t ht]; exact heS t) (fun v ρ' w' hst' hv => hnext p v ρ' w' hp hlast hst' hv hwf)
        exact (henv t).2 (fun i si hsi hd => absurd hd (hno i si hsi))
  induction fuel with
  | zero =>
    intro listed a w hl hI
    have hr : Region.ready .any ops listed = [] := by
      cases hc' : Region.ready .any ops listed with
      | nil => rfl
      | cons x xs =>
        have := (hready listed a w hI x).1 (by rw [hc']; simp)
        have h0 : left ss.length listed = 0 := by omega
        unfold left at h0
        rw [List.countP_eq_zero] at h0
        have h1 := h0 x (by simpa using this.1)
        have hsz := hI.size
        have h2 : listed.getD x true = listed.getD x false := by
          simp [Array.getD_eq_getD_getElem?, Array.getElem?_eq_getElem (show x < listed.size by omega)]
        rw [h2] at h1
        exact absurd (by simpa [Lst] using h1) this.2.1
    exact ⟨hr, hend listed a w hI hr⟩
  | succ fuel ih =>
    intro listed a w hl hI
    refine ⟨fun hr => hend listed a w hI hr, fun i hi => ?_⟩
    exact hstep (fun l' a' w' => wpAnyIn F nf P .any ops Q fuel l' a' w') listed a w hI (fun listed' a' w' h1 h2 => ih listed' a' w' (by omega) h2) i hi
end
end Go.Proofs.Ytkdbnmohpanpfaa.Sy

/- An evaluator of a part of Go's operations over a memory of its own, part fourteen: constant allocs whose order is drawn. Conditions: those that each theorem names. -/
namespace Go.Proofs.Ytkdbnmohpanpfaa.Sy
open Go
set_option linter.unusedVariables false
set_option linter.unusedSimpArgs false

/-! ### what speaks of few numbers alone -/
mutual
theorem CRel.back {ρ0 ρ : Loc} {n0 n : Nat} {w0 w : World} (hρ : ∀ id, id < n0 → ρ id = ρ0 id) : ∀ (c : Cell) (v0 v : Value), CRel ρ0 n0 w0 c v0 → CRel ρ n w c v → CRel ρ0 n0 w c v
  | .sc x, v0, v, h0, h => h
  | .ptr id off, v0, v, h0, h => by
    refine ⟨h0.1, ?_⟩
    rw [← hρ id h0.1]
    exact h.2
  | .sl id off len cap sz, v0, v, h0, h => by
    have hl : id < n0 := h0.1
    obtain ⟨_, o, cp, h1, h2, h3, h4, h5⟩ := h
    rw [hρ id hl] at h1 h2 h5
    exact ⟨hl, o, cp, h1, h2, h3, h4, h5⟩
  | .clo f caps, v0, v, h0, h => by
    obtain ⟨vs0, _, g0⟩ := h0
    obtain ⟨vs, h1, g⟩ := h
    exact ⟨vs, h1, CRels.back hρ caps vs0 vs g0 g⟩
theorem CRels.back {ρ0 ρ : Loc} {n0 n : Nat} {w0 w : World} (hρ : ∀ id, id < n0 → ρ id = ρ0 id) : ∀ (cs : List Cell) (vs0 vs : List Value), CRels ρ0 n0 w0 cs vs0 → CRels ρ n w cs vs → CRels ρ0 n0 w cs vs
  | [], vs0, vs, h0, h => h
  | c :: cs, vs0, vs, h0, h => by
    obtain ⟨v0, r0, _, g1, g2⟩ := h0
    obtain ⟨v, r, h1, h2, h3⟩ := h
    exact ⟨v, r, h1, CRel.back hρ c v0 v g1 h2, CRels.back hρ cs r0 r g2 h3⟩
end

/-- A value that is flat, or that points into what there is. -/
def safeC (m : Mem) : Cell → Bool
  | .sc _ => true
  | .ptr id _ => (m id).isSome
  | .sl id _ _ _ _ => (m id).isSome
  | _ => false
def safeR (m : Mem) (r : Reg) : Bool := r.flat || (match r with
  | .one (.ptr id _) => (m id).isSome
  | .one (.sl id _ _ _ _) => (m id).isSome
  | .agg cs => cs.all (safeC m)
  | _ => false)

theorem safeC_rel {ρ0 ρ : Loc} {n0 n : Nat} {w : World} {m : Mem} (hρ : ∀ id, id < n0 → ρ id = ρ0 id) (hlt : ∀ id b, m id = some b → id < n0) {c : Cell} {v : Value} (hs : safeC m c = true) (h : CRel ρ n w c v) : CRel ρ0 n0 w c v := by
  cases c with
  | sc x => exact h
  | ptr id off =>
    obtain ⟨b, hb⟩ := Option.isSome_iff_exists.1 hs
    have hl := hlt id b hb
    exact ⟨hl, by rw [← hρ id hl]; exact h.2⟩
  | sl id off len cap sz =>
    obtain ⟨b, hb⟩ := Option.isSome_iff_exists.1 hs
    have hl := hlt id b hb
    obtain ⟨_, o, cp, h1, h2, h3, h4, h5⟩ := h
    rw [hρ id hl] at h1 h2 h5
    exact ⟨hl, o, cp, h1, h2, h3, h4, h5⟩
  | clo f cs => cases hs
theorem safeCs_rel {ρ0 ρ : Loc} {n0 n : Nat} {w : World} {m : Mem} (hρ : ∀ id, id < n0 → ρ id = ρ0 id) (hlt : ∀ id b, m id = some b → id < n0) : ∀ {cs : List Cell} {vs : List Value}, cs.all (safeC m) = true → CRels ρ n w cs vs → CRels ρ0 n0 w cs vs
  | [], vs, _, h => h
  | c :: cs, vs, hs, h => by
    rw [List.all_cons, Bool.and_eq_true] at hs
    obtain ⟨v, r, h1, h2, h3⟩ := h
    exact ⟨v, r, h1, safeC_rel hρ hlt hs.1 h2, safeCs_rel hρ hlt hs.2 h3⟩

theorem safe_rel {ρ0 ρ : Loc} {n0 n : Nat} {w : World} {m : Mem} {r : Reg} {v : Value} (hρ : ∀ id, id < n0 → ρ id = ρ0 id) (hlt : ∀ id b, m id = some b → id < n0) (hs : safeR m r = true) (h : RRel ρ n w r v) : RRel ρ0 n0 w r v := by
  unfold safeR at hs
  rw [Bool.or_eq_true] at hs
  rcases hs with hs | hs
  · exact flat_rel hs h
  · split at hs
    · rename_i id off
      obtain ⟨b, hb⟩ := Option.isSome_iff_exists.1 hs
      have hl := hlt id b hb
      exact ⟨hl, by rw [← hρ id hl]; exact h.2⟩
    · rename_i id off len cap sz
      obtain ⟨b, hb⟩ := Option.isSome_iff_exists.1 hs
      have hl := hlt id b hb
      obtain ⟨_, o, cp, h1, h2, h3, h4, h5⟩ := h
      rw [hρ id hl] at h1 h2 h5
      exact ⟨hl, o, cp, h1, h2, h3, h4, h5⟩
    · obtain ⟨vs, h1, h2⟩ := h
      exact ⟨vs, h1, safeCs_rel hρ hlt hs h2⟩
    · cases hs

def isSc : Cell → Bool
  | .sc _ => true
  | _ => false
/-- A constant alloc, and its variable. -/
def allocOf (so : SOper) : Option (Nat × List Cell) :=
  match so with
  | ⟨some d, .alloc z, none⟩ => if z.all isSc then some (d, z) else none
  | _ => none
theorem allocOf_inv {so : SOper} {d : Nat} {z : List Cell} (h : allocOf so = some (d, z)) : so = ⟨some d, .alloc z, none⟩ ∧ z.all isSc = true := by
  unfold allocOf at h
  split at h
  · split at h
    · rename_i hz; cases h; exact ⟨rfl, hz⟩
    · cases h
  · cases h
theorem sc_rel {ρ ρ' : Loc} {n n' : Nat} {w w' : World} {c : Cell} {v : Value} (hc : isSc c = true) (h : CRel ρ n w c v) : CRel ρ' n' w' c v := by
  cases c with
  | sc x => exact h
  | _ => cases hc

/-- Is the operation j behind all of U? else it only looks, at nothing of U, and its variable is told. -/
def jOk (us es : List Nat) (cl : List (List Nat)) (ss : List SOper) (j : Nat) (so : SOper) : Bool :=
  us.contains j || us.all (fun u => inC cl u j) ||
    (!isEff so && us.all (fun u => match ss[u]? with
      | some su => (match su.dst with | some d => !(usesS so).contains d | none => false)
      | none => false) &&
     (match so.dst with | some d => es.contains d | none => true) &&
     (List.range j).all fun i => us.contains i || (match ss[i]? with | some si => !isEff si | none => false))
def uOk (us es : List Nat) (cl : List (List Nat)) (ss : List SOper) : Bool :=
  us.all (fun u => match ss[u]? with | some so => (allocOf so).isSome | none => false) &&
  (List.range ss.length).all fun j => match ss[j]? with | some so => jOk us es cl ss j so | none => true
def safeOk (m : Mem) (env : Nat → Reg) (es : List Nat) : Bool := es.all fun t => safeR m (env t)

section
variable {us es : List Nat} {dis : List (Nat × Nat)} {P : Program} {ng N : Nat} {md : Nat → Mode} {ops : Array Oper} {ss : List SOper} {cl : List (List Nat)} {call : Callf} {Q : Exit → Act → World → Prop}

theorem inC_lt (hc : Chk us dis ops ss cl) : ∀ (j i : Nat), j < ops.size → inC cl i j = true → i < j := by
  intro j
  induction j using Nat.strongRecOn with
  | _ j ih =>
    intro i hj hi
    obtain ⟨o, ho⟩ : ∃ o, ops[j]? = some o := ⟨ops[j], Array.getElem?_eq_getElem hj⟩
    obtain ⟨h1, h2⟩ := hc.clo j o ho
    have hi' : i ∈ cl.getD j [] := by simpa [inC] using hi
    obtain ⟨e, he, hb, hor⟩ := h2 i hi'
    have hlt := h1 e he hb
    rcases hor with rfl | hor
    · exact hlt
    · have := ih e.on hlt i (by omega) hor
      omega

/-- What holds while not all of U is listed. -/
structure InvA (us : List Nat) (P : Program) (ng N : Nat) (ss : List SOper) (ops : Array Oper) (E : Nat → Nat → Reg) (M : Nat → Mem) (C : Nat → Nat) (R : Nat → Reg) (ρ0 : Loc) (w0 : World) (d0 : List Deferred) (listed : Array Bool) (a : Act) (w : World) : Prop where
  size : listed.size = ss.length
  down : ∀ j o, Lst listed j → ops[j]? = some o → ∀ e ∈ o.after.toList, Region.binds .any e = true → Lst listed e.on
  tmps : a.tmps.size = N
  defers : a.defers = d0
  ex : ∃ (β : Nat → Nat) (q : Nat) (ρ : Loc) (m' : Mem), Step ρ0 (C 0) w0 (M 0) ρ (C 0 + q) w m' ∧ Glob ng ρ (C 0 + q) ∧
    (∀ id, id < C 0 → m' id = M 0 id) ∧
    (∀ u ∈ us, Lst listed u → C 0 ≤ β u ∧ β u < C 0 + q ∧ ∀ so d z, ss[u]? = some so → allocOf so = some (d, z) → m' (β u) = some ⟨z, true⟩ ∧ RRel ρ (C 0 + q) w (.one (.ptr (β u) 0)) (a.tmps.getD d undef)) ∧
    (∀ u ∈ us, ∀ v ∈ us, Lst listed u → Lst listed v → β u = β v → u = v) ∧
    (∀ t, (∀ i so, ss[i]? = some so → so.dst = some t → i ∉ us → Lst listed i → RRel ρ0 (C 0) w (R i) (a.tmps.getD t undef)) ∧ ((∀ i so, ss[i]? = some so → so.dst = some t → ¬ Lst listed i) → RRel ρ0 (C 0) w (E 0 t) (a.tmps.getD t undef)))

def topU (us : List Nat) : Nat := us.foldr (fun u k => max (u + 1) k) 0
theorem topU_lt : ∀ {us : List Nat} {u : Nat}, u ∈ us → u < topU us
  | x :: us, u, h => by
    simp only [topU, List.foldr_cons]
    rcases List.mem_cons.1 h with rfl | h
    · omega
    · have := topU_lt h
      simp only [topU] at this
      omega
theorem topU_ex : ∀ {us : List Nat} {j : Nat}, j < topU us → ∃ u ∈ us, j ≤ u
  | [], j, h => by simp [topU] at h
  | x :: us, j, h => by
    simp only [topU, List.foldr_cons] at h
    by_cases hx : j ≤ x
    · exact ⟨x, by simp, hx⟩
    · obtain ⟨u, h1, h2⟩ := topU_ex (us := us) (j := j) (by simp only [topU]; omega)
      exact ⟨u, by simp [h1], h2⟩

theorem still_of {E : Nat → Nat → Reg} {M : Nat → Mem} {C : Nat → Nat} {R : Nat → Reg} (htr : ∀ i so, ss[i]? = some so → stepS call (E i) (M i) (C i) so = some (R i, M (i + 1), C (i + 1)) ∧ E (i + 1) = putE (E i) so.dst (R i)) :
    ∀ i so, ss[i]? = some so → isEff so = false → M (i + 1) = M i ∧ C (i + 1) = C i := by
  intro i so hso hne
  have h1 := (htr i so hso).1
  unfold stepS at h1
  split at h1
  · cases hk : kindOf so.op with
    | p => have := kind_p hk h1; exact ⟨this.1, this.2.1⟩
    | l => have := kind_l hk h1; exact ⟨this.1, this.2.1⟩
    | mild => simp [isEff, hk] at hne
    | hard => simp [isEff, hk] at hne
  · simp only [Option.some.injEq, Prod.mk.injEq] at h1; exact ⟨h1.2.1.symm, h1.2.2.symm⟩

theorem alloc_of {E : Nat → Nat → Reg} {M : Nat → Mem} {C : Nat → Nat} {R : Nat → Reg} (htr : ∀ i so, ss[i]? = some so → stepS call (E i) (M i) (C i) so = some (R i, M (i + 1), C (i + 1)) ∧ E (i + 1) = putE (E i) so.dst (R i))
    {u d : Nat} {z : List Cell} {so : SOper} (hso : ss[u]? = some so) (ha : allocOf so = some (d, z)) : R u = .one (.ptr (C u) 0) ∧ M (u + 1) = upd (M u) (C u) (some ⟨z, true⟩) ∧ C (u + 1) = C u + 1 := by
  obtain ⟨rfl, hz⟩ := allocOf_inv ha
  have h1 := (htr u _ hso).1
  simp only [stepS, wantedS, evalOp, Option.some.injEq, Prod.mk.injEq] at h1
  exact ⟨h1.1.symm, h1.2.1.symm, h1.2.2.symm⟩

/-- The way up to the last of U. -/
theorem before {E : Nat → Nat → Reg} {M : Nat → Mem} {C : Nat → Nat} {R : Nat → Reg} (htr : ∀ i so, ss[i]? = some so → stepS call (E i) (M i) (C i) so = some (R i, M (i + 1), C (i + 1)) ∧ E (i + 1) = putE (E i) so.dst (R i))
    (hua : ∀ u ∈ us, ∃ so d z, ss[u]? = some so ∧ allocOf so = some (d, z)) (hm0 : ∀ id b, M 0 id = some b → id < C 0) :
    ∀ i, i ≤ ss.length → (∀ (j : Nat) (so : SOper), j < i → ss[j]? = some so → j ∈ us ∨ isEff so = false) →
      C 0 ≤ C i ∧ (∀ id, id < C 0 → M i id = M 0 id) ∧ (∀ id b, M i id = some b → id < C i) ∧ (∀ id, C 0 ≤ id → id < C i → ∃ u ∈ us, u < i ∧ id = C u) ∧
      (∀ u ∈ us, u < i → C 0 ≤ C u ∧ C u < C i ∧ ∀ so d z, ss[u]? = some so → allocOf so = some (d, z) → M i (C u) = some ⟨z, true⟩)
  | 0, _, _ => ⟨Nat.le_refl _, fun _ _ => rfl, hm0, fun id h1 h2 => by omega, fun u _ h => by omega⟩
  | i + 1, hi, hj => by
    obtain ⟨h1, h2, h3, h4, h5⟩ := before htr hua hm0 i (by omega) (fun j so hlt hso => hj j so (by omega) hso)
    obtain ⟨so, hso⟩ : ∃ so, ss[i]? = some so := ⟨ss[i]'(by omega), List.getElem?_eq_getElem (by omega)⟩
    by_cases hiu : i ∈ us
    · obtain ⟨so', d, z, hso', ha⟩ := hua i hiu
      obtain ⟨_, hM1, hC1⟩ := alloc_of htr hso' ha
      refine ⟨by omega, fun id hid => ?_, fun id b hb => ?_, fun id g1 g2 => ?_, fun u hu hlt => ?_⟩
      · rw [hM1, upd_ne _ _ (by omega)]; exact h2 id hid
      · rw [hM1] at hb
        by_cases e : id = C i
        · omega
        · rw [upd_ne _ _ e] at hb
          have := h3 id b hb
          omega
      · by_cases e : id = C i
        · exact ⟨i, hiu, by omega, e⟩
        · obtain ⟨u, q1, q2, q3⟩ := h4 id g1 (by omega)
          exact ⟨u, q1, by omega, q3⟩
      · by_cases e : u = i
        · subst e
          refine ⟨h1, by omega, fun so2 d2 z2 q1 q2 => ?_⟩
          rw [hso'] at q1
          cases q1
          rw [ha] at q2
          cases q2
          rw [hM1, upd_same]
        · obtain ⟨q1, q2, q3⟩ := h5 u hu (by omega)
          refine ⟨q1, by omega, fun so2 d2 z2 g1 g2 => ?_⟩
          rw [hM1, upd_ne _ _ (by omega)]
          exact q3 so2 d2 z2 g1 g2
    · have hne := (hj i so (by omega) hso).resolve_left hiu
      obtain ⟨hM1, hC1⟩ := still_of htr i so hso hne
      rw [hM1, hC1]
      refine ⟨h1, h2, h3, fun id g1 g2 => ?_, fun u hu hlt => ?_⟩
      · obtain ⟨u, q1, q2, q3⟩ := h4 id g1 g2
        exact ⟨u, q1, by omega, q3⟩
      · exact h5 u hu (by
          have : u ≠ i := fun e => hiu (e ▸ hu)
          omega)

theorem topU_le {L : Nat} : ∀ {us : List Nat}, (∀ u ∈ us, u < L) → topU us ≤ L
  | [], _ => Nat.zero_le _
  | x :: us, h => by
    have h1 := topU_le (us := us) (fun u hu => h u (by simp [hu]))
    have h2 := h x (by simp)
    simp only [topU, List.foldr_cons] at h1 ⊢
    omega

theorem u_alloc (hu : uOk us es cl ss = true) : ∀ u ∈ us, ∃ so d z, ss[u]? = some so ∧ allocOf so = some (d, z) := by
  intro u hm
  simp only [uOk, Bool.and_eq_true, List.all_eq_true] at hu
  have := hu.1 u hm
  split at this
  · rename_i so hso
    obtain ⟨x, hx⟩ := Option.isSome_iff_exists.1 this
    exact ⟨so, x.1, x.2, hso, hx⟩
  · cases this
theorem u_job (hu : uOk us es cl ss = true) {j : Nat} {so : SOper} (hso : ss[j]? = some so) : jOk us es cl ss j so = true := by
  simp only [uOk, Bool.and_eq_true, List.all_eq_true, List.mem_range] at hu
  have := hu.2 j (List.getElem?_eq_some_iff.1 hso).1
  rw [hso] at this
  exact this
theorem u_late (hu : uOk us es cl ss = true) {j : Nat} {so : SOper} (hso : ss[j]? = some so) (hj : j ∉ us) (he : isEff so = true) : ∀ u ∈ us, inC cl u j = true := by
  have h := u_job hu hso
  have hc : us.contains j = false := by
    cases h : us.contains j with
    | false => rfl
    | true => exact absurd (List.contains_iff_mem.1 h) hj
  simp only [jOk, hc, he, Bool.false_or, Bool.not_true, Bool.false_and, Bool.or_false, List.all_eq_true] at h
  exact h

theorem switch (hc : Chk us dis ops ss cl) {E : Nat → Nat → Reg} {M : Nat → Mem} {C : Nat → Nat} {R : Nat → Reg} {ρ0 : Loc} {w0 : World} {d0 : List Deferred}
    (htr : ∀ i so, ss[i]? = some so → stepS call (E i) (M i) (C i) so = some (R i, M (i + 1), C (i + 1)) ∧ E (i + 1) = putE (E i) so.dst (R i))
    (hu : uOk us es cl ss = true) (hm0 : MRel ρ0 (C 0) w0 (M 0)) (hg0 : Glob ng ρ0 (C 0)) {listed : Array Bool} {a : Act} {w : World} (hI : InvA us P ng N ss ops E M C R ρ0 w0 d0 listed a w)
    (hall : ∀ u ∈ us, Lst listed u) (hnone : ∀ (j : Nat) (so : SOper), ss[j]? = some so → j ∉ us → isEff so = true → ¬ Lst listed j) : Inv us P ng N ss ops E M C R ρ0 w0 d0 listed a w := by
  obtain ⟨β, q, ρ, m', hst, hgl, hm', hβ, hinj, henv⟩ := hI.ex
  have hua := u_alloc hu
  have hlate : ∀ (j : Nat) (so : SOper), j < topU us → ss[j]? = some so → j ∈ us ∨ isEff so = false := by
    intro j so hlt hso
    by_cases hj : j ∈ us
    · exact Or.inl hj
    · right
      cases he : isEff so with
      | false => rfl
      | true =>
        obtain ⟨u, h1, h2⟩ := topU_ex hlt
        have := inC_lt hc j u (by rw [← hc.len]; exact (List.getElem?_eq_some_iff.1 hso).1) (u_late hu hso hj he u h1)
        omega
  have hp : topU us ≤ ss.length := topU_le (fun u hm => by
    obtain ⟨so, d, z, hso, _⟩ := hua u hm
    exact (List.getElem?_eq_some_iff.1 hso).1)
  have hbef := fun (i : Nat) (hi : i ≤ topU us) => before htr hua hm0.lt i (by omega) (fun j so hlt hso => hlate j so (by omega) hso)
  obtain ⟨b1, b2, b3, b4, b5⟩ := hbef (topU us) (Nat.le_refl _)
  have hCinj : ∀ u ∈ us, ∀ v ∈ us, C u = C v → u = v := by
    intro u h1 v h2 he
    rcases Nat.lt_trichotomy u v with h | h | h
    · have := ((hbef v (Nat.le_of_lt (topU_lt h2))).2.2.2.2 u h1 h).2.1
      omega
    · exact h
    · have := ((hbef u (Nat.le_of_lt (topU_lt h1))).2.2.2.2 v h2 h).2.1
      omega
  have hdec : ∀ id, Decidable (∃ u, u ∈ us ∧ C u = id) := fun id => Classical.propDecidable _
  obtain ⟨ρ', hρ1, hρ2⟩ : ∃ ρ' : Loc, (∀ u ∈ us, ρ' (C u) = ρ (β u)) ∧ (∀ id, id < C 0 → ρ' id = ρ id) := by
    refine ⟨fun id => if h : ∃ u, u ∈ us ∧ C u = id then ρ (β h.choose) else ρ id, fun u hm => ?_, fun id hid => ?_⟩
    · have h : ∃ u', u' ∈ us ∧ C u' = C u := ⟨u, hm, rfl⟩
      simp only [dif_pos h]
      rw [hCinj _ h.choose_spec.1 u hm h.choose_spec.2]
    · have h : ¬ ∃ u', u' ∈ us ∧ C u' = id := by
        rintro ⟨u, hm, he⟩
        have := (b5 u hm (topU_lt hm)).1
        omega
      simp only [dif_neg h]
  have htrn : ∀ id b, M (topU us) id = some b → ∃ id', m' id' = some b ∧ ρ' id = ρ id' ∧ ((id < C 0 ∧ id' = id ∧ M 0 id = some b) ∨ ∃ u ∈ us, id = C u ∧ id' = β u ∧ b.cells.all isSc = true) := by
    intro id b hb
    rcases Nat.lt_or_ge id (C 0) with h | h
    · have h2 := b2 id h
      rw [h2] at hb
      exact ⟨id, by rw [hm' id h]; exact hb, hρ2 id h, Or.inl ⟨h, rfl, hb⟩⟩
    · obtain ⟨u, h1, h2, rfl⟩ := b4 id h (b3 id b hb)
      obtain ⟨so, d, z, hso, ha⟩ := hua u h1
      have h3 := (b5 u h1 h2).2.2 so d z hso ha
      rw [h3] at hb
      cases hb
      exact ⟨β u, ((hβ u h1 (hall u h1)).2.2 so d z hso ha).1, hρ1 u h1, Or.inr ⟨u, h1, rfl, rfl, (allocOf_inv ha).2⟩⟩
  have hLe : Le ρ0 (C 0) w ρ' (C (topU us)) w := ⟨b1, fun id hid => by rw [hρ2 id hid]; exact hst.le.loc id hid, fun _ h => h⟩
  have hLe0 : Le ρ0 (C 0) w0 ρ' (C (topU us)) w := ⟨b1, fun id hid => by rw [hρ2 id hid]; exact hst.le.loc id hid, hst.le.live⟩
  have hrel : MRel ρ' (C (topU us)) w (M (topU us)) := by
    refine ⟨b3, fun id b hb => ?_, fun id b hb i c hi => ?_, fun id b hb ho o => ?_, fun id b hb ho id2 b2' hb2 hne => ?_⟩
    · obtain ⟨id', h1, h2, _⟩ := htrn id b hb
      rw [h2]
      exact hst.rel.blk id' b h1
    · obtain ⟨id', h1, h2, h3⟩ := htrn id b hb
      obtain ⟨v, h4, h5⟩ := hst.rel.cells id' b h1 i c hi
      refine ⟨v, by rw [h2]; exact h4, ?_⟩
      rcases h3 with ⟨hid, rfl, hb0⟩ | ⟨u, hm, _, _, hz⟩
      · obtain ⟨v0, _, h6⟩ := hm0.cells id' b hb0 i c hi
        exact CRel.mono hLe _ _ (CRel.back hst.le.loc c v0 v h6 h5)
      · exact sc_rel (List.all_eq_true.1 hz c (List.mem_of_getElem? hi)) h5
    · obtain ⟨id', h1, h2, _⟩ := htrn id b hb
      rw [h2]
      exact hst.rel.soft id' b h1 ho o
    · obtain ⟨i1, g1, g2, g3⟩ := htrn id b hb
      obtain ⟨i2, k1, k2, k3⟩ := htrn id2 b2' hb2
      rw [g2, k2]
      refine hst.rel.apart i1 b g1 ho i2 b2' k1 (fun e => hne ?_)
      rcases g3 with ⟨q1, q2, _⟩ | ⟨u, q1, q2, q3, _⟩
      · rcases k3 with ⟨p1, p2, _⟩ | ⟨v, p1, p2, p3, _⟩
        · omega
        · have := (hβ v p1 (hall v p1)).1
          omega
      · rcases k3 with ⟨p1, p2, _⟩ | ⟨v, p1, p2, p3, _⟩
        · have := (hβ u q1 (hall u q1)).1
          omega
        · have := hinj u q1 v p1 (hall u q1) (hall v p1) (by omega)
          subst this
          omega
  have hStep : Step ρ0 (C 0) w0 (M 0) ρ' (C (topU us)) w (M (topU us)) := by
    refine ⟨hLe0, hrel, hst.fr, fun id b hid hb => ⟨b, by rw [← b2 id hid]; exact hb, fun h => h⟩, fun id b hid hb => ?_⟩
    obtain ⟨id', h1, h2, h3⟩ := htrn id b hb
    rw [h2]
    rcases h3 with ⟨h, _⟩ | ⟨u, hm, _, rfl, _⟩
    · omega
    · exact hst.fresh _ b (hβ u hm (hall u hm)).1 h1
  refine ⟨hI.size, hI.down, hI.tmps, hI.defers, hall, topU us, ρ', hp, fun i so hso he => ?_, hStep, hg0.mono hLe0, fun t => ⟨fun i so hso hd hl => ?_, fun hno => ?_⟩, fun i hi => (hbef i hi).2.2.1⟩
  · by_cases hi : i ∈ us
    · exact ⟨fun _ => topU_lt hi, fun _ => hall i hi⟩
    · refine ⟨fun h => absurd h (hnone i so hso hi he), fun h => ?_⟩
      rcases hlate i so h hso with h1 | h1
      · exact absurd h1 hi
      · rw [he] at h1; cases h1
  · by_cases hi : i ∈ us
    · obtain ⟨so', d, z, hso', ha⟩ := hua i hi
      rw [hso] at hso'
      cases hso'
      have hdd : d = t := by
        have := (allocOf_inv ha).1
        rw [this] at hd
        exact Option.some.inj hd
      subst hdd
      rw [(alloc_of htr hso ha).1]
      have h1 := ((hβ i hi hl).2.2 so d z hso ha).2
      refine ⟨(b5 i hi (topU_lt hi)).2.1, ?_⟩
      rw [hρ1 i hi]
      exact h1.2
    · exact RRel.mono hLe _ _ ((henv t).1 i so hso hd hi hl)
  · exact RRel.mono hLe _ _ ((henv t).2 hno)

theorem vals (hc : Chk us dis ops ss cl) {E : Nat → Nat → Reg} {M : Nat → Mem} {C : Nat → Nat} {R : Nat → Reg} (htr : ∀ i so, ss[i]? = some so → stepS call (E i) (M i) (C i) so = some (R i, M (i + 1), C (i + 1)) ∧ E (i + 1) = putE (E i) so.dst (R i)) :
    ∀ j, j ≤ ss.length → ∀ t, (∀ (i : Nat) (so : SOper), i < j → ss[i]? = some so → so.dst = some t → E j t = R i) ∧ ((∀ (i : Nat) (so : SOper), i < j → ss[i]? = some so → so.dst ≠ some t) → E j t = E 0 t) := by
  intro j
  induction j with
  | zero => intro _ t; exact ⟨fun i so h => by omega, fun _ => rfl⟩
  | succ j ih =>
    intro hj t
    obtain ⟨so, hso⟩ : ∃ so, ss[j]? = some so := ⟨ss[j]'(by omega), List.getElem?_eq_getElem (by omega)⟩
    obtain ⟨ih1, ih2⟩ := ih (by omega) t
    rw [(htr j so hso).2]
    constructor
    · intro i si hij hsi hd
      rcases Nat.lt_or_ge i j with h1 | h1
      · have hp := hc.pair i j si so h1 hsi hso
        simp only [pairOk, hd, Bool.and_eq_true, bne_iff_ne, ne_eq] at hp
        have hne : so.dst ≠ some t := hp.1.1.1.1.1.1
        have : putE (E j) so.dst (R j) t = E j t := by
          cases hdd : so.dst with
          | none => rfl
          | some d => exact upd_ne _ _ (fun e => hne (by rw [hdd, e]))
        rw [this]
        exact ih1 i si h1 hsi hd
      · have : i = j := by omega
        subst this
        rw [hso] at hsi
        cases hsi
        rw [hd]
        exact upd_same _ _ _
    · intro hno
      have hne : so.dst ≠ some t := hno j so (by omega) hso
      have : putE (E j) so.dst (R j) t = E j t := by
        cases hdd : so.dst with
        | none => rfl
        | some d => exact upd_ne _ _ (fun e => hne (by rw [hdd, e]))
      rw [this]
      exact ih2 (fun i si hi => hno i si (by omega))

theorem ready_iff (hc : Chk us dis ops ss cl) : ∀ (listed : Array Bool), listed.size = ss.length → ∀ j, j ∈ Region.ready .any ops listed ↔ (j < ss.length ∧ ¬ Lst listed j ∧ ∀ o, ops[j]? = some o → ∀ e ∈ o.after.toList, Region.binds .any e = true → Lst listed e.on) := by
  intro listed hsz0 j
  simp only [Region.ready, List.mem_filter, List.mem_range, Bool.and_eq_true, Bool.not_eq_true']
  constructor
  · rintro ⟨h1, h2, h3⟩
    have hjs : j < ss.length := by rw [hc.len]; exact h1
    refine ⟨hjs, ?_, ?_⟩
    · intro hl
      have hsz := hsz0
      have : listed.getD j true = listed.getD j false := by
        simp [Array.getD_eq_getD_getElem?, Array.getElem?_eq_getElem (show j < listed.size by omega)]
      rw [this, hl] at h2
      cases h2
    · intro o ho e he hb
      rw [ho] at h3
      simp only [Option.map_some, Option.getD_some] at h3
      rw [← Array.all_toList, List.all_eq_true] at h3
      have := h3 e he
      rw [hb] at this
      simpa [Lst] using this
  · rintro ⟨h1, h2, h3⟩
    have hjo : j < ops.size := by rw [← hc.len]; exact h1
    refine ⟨hjo, ?_, ?_⟩
    · have hsz := hsz0
      have : listed.getD j true = listed.getD j false := by
        simp [Array.getD_eq_getD_getElem?, Array.getElem?_eq_getElem (show j < listed.size by omega)]
      rw [this]
      simpa [Lst] using h2
    · rw [Array.getElem?_eq_getElem hjo]
      simp only [Option.map_some, Option.getD_some]
      rw [← Array.all_toList, List.all_eq_true]
      intro e he
      have := h3 ops[j] (Array.getElem?_eq_getElem hjo) e he
      cases hb : Region.binds .any e with
      | false => rfl
      | true => simpa [Lst] using this hb

theorem uniq (hc : Chk us dis ops ss cl) : ∀ (i1 : Nat) (s1 : SOper) (i2 : Nat) (s2 : SOper) (t : Nat), ss[i1]? = some s1 → ss[i2]? = some s2 → s1.dst = some t → s2.dst = some t → i1 = i2 := by
  intro i1 s1 i2 s2 t h1 h2 h3 h4
  rcases Nat.lt_trichotomy i1 i2 with h | h | h
  · have := hc.pair i1 i2 s1 s2 h h1 h2
    simp [pairOk, h3, h4] at this
  · exact h
  · have := hc.pair i2 i1 s2 s1 h h2 h1
    simp [pairOk, h3, h4] at this

variable {F : Fence} {nf : Nat} [Wide F]

theorem wpAny_u (hcall : CallOK P ng call) (hc : Chk us dis ops ss cl) {E : Nat → Nat → Reg} {M : Nat → Mem} {C : Nat → Nat} {R : Nat → Reg} {ρ0 : Loc} {w0 : World} {d0 : List Deferred}
    (hM : ∀ i so, ss[i]? = some so → Matches P ng N md ops i so ∨ PreOp F nf P ng N ops ss cl E M C R ρ0 w0 Q i so)
    (htr : ∀ i so, ss[i]? = some so → stepS call (E i) (M i) (C i) so = some (R i, M (i + 1), C (i + 1)) ∧ E (i + 1) = putE (E i) so.dst (R i))
    (hdis : disOk (E ss.length) dis = true)
    (hQ : ∀ ρ' a' w', Step ρ0 (C 0) w0 (M 0) ρ' (C ss.length) w' (M ss.length) → Good N ng ρ' (C ss.length) w' (E ss.length) (M ss.length) a' → a'.defers = d0 → Q .normal a' w')
    (hu : uOk us es cl ss = true) (hsafe : safeOk (M 0) (E ss.length) es = true) (hm0 : MRel ρ0 (C 0) w0 (M 0)) (hg0 : Glob ng ρ0 (C 0)) :
    ∀ (fuel : Nat) (listed : Array Bool) (a : Act) (w : World), left ss.length listed ≤ fuel → (∃ u ∈ us, ¬ Lst listed u) → (∀ (j : Nat) (so : SOper), ss[j]? = some so → j ∉ us → isEff so = true → ¬ Lst listed j) → InvA us P ng N ss ops E M C R ρ0 w0 d0 listed a w → wpAnyIn F nf P .any ops Q fuel listed a w := by
  have hua := u_alloc hu
  have hE := vals (call := call) hc htr
  have huniq := uniq hc
  -- one step
  have hstep : ∀ (K : Array Bool → Act → World → Prop) (listed : Array Bool) a w, InvA us P ng N ss ops E M C R ρ0 w0 d0 listed a w → (∃ u ∈ us, ¬ Lst listed u) → (∀ (j : Nat) (so : SOper), ss[j]? = some so → j ∉ us → isEff so = true → ¬ Lst listed j) →
      (∀ listed' a' w', left ss.length listed' < left ss.length listed → (∀ (j : Nat) (so : SOper), ss[j]? = some so → j ∉ us → isEff so = true → ¬ Lst listed' j) → InvA us P ng N ss ops E M C R ρ0 w0 d0 listed' a' w' → K listed' a' w') →
      ∀ j ∈ Region.ready .any ops listed, wpOpIn F nf P ops Q j (K (listed.setIfInBounds j true)) a w := by
    intro K listed a w hI hun hnone hK j hj
    obtain ⟨hjs, hjn, hja⟩ := (ready_iff hc listed hI.size j).1 hj
    have hjo : j < ops.size := by rw [← hc.len]; exact hjs
    obtain ⟨so, hso⟩ : ∃ so, ss[j]? = some so := ⟨ss[j], List.getElem?_eq_getElem hjs⟩
    obtain ⟨β, q, ρ, m', hst, hgl, hm', hβ, hinj, henv⟩ := hI.ex
    have hsz := hI.size
    have hl1 : ∀ i, Lst (listed.setIfInBounds j true) i ↔ (i = j ∨ Lst listed i) := by
      intro i
      unfold Lst
      simp only [Array.getD_eq_getD_getElem?]
      by_cases e : i = j
      · subst e
        simp [Array.getElem?_setIfInBounds_self_of_lt (show i < listed.size by omega)]
      · rw [Array.getElem?_setIfInBounds_ne (Ne.symm e)]
        simp [e]
    have hleft : left ss.length (listed.setIfInBounds j true) < left ss.length listed := by
      refine countP_lt _ (fun x hx hq => ?_) j (by simpa using hjs) ?_ ?_
      · by_cases e : x = j
        · subst e
          simp [Array.getD_eq_getD_getElem?, Array.getElem?_setIfInBounds_self_of_lt (show x < listed.size by omega)] at hq
        · simpa [Array.getD_eq_getD_getElem?, Array.getElem?_setIfInBounds_ne (Ne.symm e)] using hq
      · have : listed.getD j true = listed.getD j false := by
          simp [Array.getD_eq_getD_getElem?, Array.getElem?_eq_getElem (show j < listed.size by omega)]
        rw [this]
        simpa [Lst] using hjn
      · simp [Array.getD_eq_getD_getElem?, Array.getElem?_setIfInBounds_self_of_lt (show j < listed.size by omega)]
    have hcl : ∀ i, inC cl i j = true → Lst listed i := fun i hi => clo_mem hc hI.down j i hjo hi hja
    have hMj := hM j so hso
    have hdN : ∀ d, so.dst = some d → d < N := by
      rcases hMj with ⟨_, _, _, h⟩ | h
      · exact h
      · exact h.dst
    -- the environment as_ the machine has it
    have hdec : ∀ t, Decidable (∃ i si, ss[i]? = some si ∧ si.dst = some t ∧ Lst listed i ∧ i ∉ us) := fun t => Classical.propDecidable _
    have hdec2 : ∀ t, Decidable (∃ i si, ss[i]? = some si ∧ si.dst = some t ∧ Lst listed i ∧ i ∈ us) := fun t => Classical.propDecidable _
    let eS : Nat → Reg := fun t => if h : ∃ i si, ss[i]? = some si ∧ si.dst = some t ∧ Lst listed i ∧ i ∉ us then R h.choose else if h : ∃ i si, ss[i]? = some si ∧ si.dst = some t ∧ Lst listed i ∧ i ∈ us then .one (.ptr (β h.choose) 0) else E 0 t
    have hLe0 : Le ρ0 (C 0) w ρ (C 0 + q) w := ⟨Nat.le_add_right _ _, hst.le.loc, fun _ h => h⟩
    have heS1 : ∀ t, (∀ i si, ss[i]? = some si → si.dst = some t → i ∉ us) → RRel ρ0 (C 0) w (eS t) (a.tmps.getD t undef) := by
      intro t hno
      by_cases h : ∃ i si, ss[i]? = some si ∧ si.dst = some t ∧ Lst listed i ∧ i ∉ us
      · simp only [eS, dif_pos h]
        obtain ⟨si, h1, h2, h3, h4⟩ := h.choose_spec
        exact (henv t).1 _ si h1 h2 h4 h3
      · simp only [eS, dif_neg h]
        have h2 : ¬ ∃ i si, ss[i]? = some si ∧ si.dst = some t ∧ Lst listed i ∧ i ∈ us := by
          rintro ⟨i, si, g1, g2, g3, g4⟩
          exact hno i si g1 g2 g4
        simp only [dif_neg h2]
        exact (henv t).2 (fun i si g1 g2 g3 => h ⟨i, si, g1, g2, g3, hno i si g1 g2⟩)
    have heS : ∀ t, RRel ρ (C 0 + q) w (eS t) (a.tmps.getD t undef) := by
      intro t
      by_cases h : ∃ i si, ss[i]? = some si ∧ si.dst = some t ∧ i ∈ us
      · obtain ⟨i, si, g1, g2, g3⟩ := h
        have hno : ¬ ∃ i si, ss[i]? = some si ∧ si.dst = some t ∧ Lst listed i ∧ i ∉ us := by
          rintro ⟨i', si', k1, k2, _, k4⟩
          have := huniq _ _ _ _ _ k1 g1 k2 g2
          subst this
          exact k4 g3
        by_cases hl : Lst listed i
        · have hh : ∃ i si, ss[i]? = some si ∧ si.dst = some t ∧ Lst listed i ∧ i ∈ us := ⟨i, si, g1, g2, hl, g3⟩
          simp only [eS, dif_neg hno, dif_pos hh]
          obtain ⟨s', k1, k2, k3, k4⟩ := hh.choose_spec
          have e := huniq _ _ _ _ _ k1 g1 k2 g2
          rw [e]
          obtain ⟨so', d, z, hso', ha⟩ := hua i g3
          rw [g1] at hso'
          cases hso'
          have := ((hβ i g3 hl).2.2 si d z g1 ha).2
          have hdd : d = t := by
            rw [(allocOf_inv ha).1] at g2
            exact Option.some.inj g2
          rwa [hdd] at this
        · have hh : ¬ ∃ i si, ss[i]? = some si ∧ si.dst = some t ∧ Lst listed i ∧ i ∈ us := by
            rintro ⟨i', si', k1, k2, k3, _⟩
            have := huniq _ _ _ _ _ k1 g1 k2 g2
            subst this
            exact hl k3
          simp only [eS, dif_neg hno, dif_neg hh]
          refine RRel.mono hLe0 _ _ ((henv t).2 (fun i' si' k1 k2 k3 => ?_))
          have := huniq _ _ _ _ _ k1 g1 k2 g2
          subst this
          exact hl k3
      · exact RRel.mono hLe0 _ _ (heS1 t (fun i si g1 g2 g3 => h ⟨i, si, g1, g2, g3⟩))
    have hG : Good N ng ρ (C 0 + q) w eS m' a := ⟨hst.rel, hgl, heS, hI.tmps⟩
    have hput : ∀ (v : Value) (t : Nat), (a.put so.dst v).tmps.getD t undef = if so.dst = some t then v else a.tmps.getD t undef := by
      intro v t
      cases hd : so.dst with
      | none => simp [Act.put]
      | some d =>
        have hlt : d < a.tmps.size := by rw [hI.tmps]; exact hdN d hd
        by_cases e : d = t
        · subst e
          simp [Act.put, Array.getD_eq_getD_getElem?, hlt]
        · have e' : ¬ (some d = some t) := fun h => e (Option.some.inj h)
          simp [Act.put, Array.getD_eq_getD_getElem?, e, Array.getElem?_setIfInBounds_ne e]
    have hdown : ∀ i o, Lst (listed.setIfInBounds j true) i → ops[i]? = some o → ∀ e ∈ o.after.toList, Region.binds .any e = true → Lst (listed.setIfInBounds j true) e.on := by
      intro i o hl ho e he hb
      rw [hl1] at hl ⊢
      rcases hl with rfl | hl
      · exact Or.inr (hja o ho e he hb)
      · exact Or.inr (hI.down i o hl ho e he hb)
    by_cases hju : j ∈ us
    · -- one of U
      obtain ⟨so', d, z, hso', ha⟩ := hua j hju
      rw [hso] at hso'
      cases hso'
      have hsd : so.dst = some d := by rw [(allocOf_inv ha).1]
      have hMj := hMj.resolve_right (fun h => by have h9 := h.quiet; rw [(allocOf_inv ha).1] at h9; simp [isEff, kindOf] at h9)
      have hev : stepS call eS m' (C 0 + q) so = some (.one (.ptr (C 0 + q) 0), upd m' (C 0 + q) (some ⟨z, true⟩), C 0 + q + 1) := by
        rw [(allocOf_inv ha).1]
        rfl
      refine wpOp_sound hcall hMj hG hev (fun v ρ2 w2 hst2 hv => hK _ _ _ hleft ?_ ⟨by simpa using hsz, hdown, by rw [Act.size_put]; exact hI.tmps, by rw [Act.defers_put]; exact hI.defers,
        fun u => if u = j then C 0 + q else β u, q + 1, ρ2, _, hst.trans hst2, hgl.mono hst2.le, fun id hid => ?_, fun u hu1 hl => ?_, fun u h1 u2 h2 g1 g2 he => ?_, fun t => ⟨fun i si hsi hd hi hl => ?_, fun hno => ?_⟩⟩)
      · intro i si hsi hi he hl
        rw [hl1] at hl
        rcases hl with rfl | hl
        · exact hi hju
        · exact hnone i si hsi hi he hl
      · rw [upd_ne _ _ (by omega)]
        exact hm' id hid
      · rw [hl1] at hl
        by_cases e : u = j
        · subst e
          simp only [if_true]
          refine ⟨by omega, by omega, fun so2 d2 z2 k1 k2 => ?_⟩
          rw [hso] at k1
          cases k1
          rw [ha] at k2
          cases k2
          refine ⟨upd_same _ _ _, ?_⟩
          rw [hput, if_pos hsd]
          exact hv
        · have hlu := hl.resolve_left e
          obtain ⟨k1, k2, k3⟩ := hβ u hu1 hlu
          simp only [if_neg e]
          refine ⟨k1, by omega, fun so2 d2 z2 k4 k5 => ?_⟩
          obtain ⟨k6, k7⟩ := k3 so2 d2 z2 k4 k5
          refine ⟨by rw [upd_ne _ _ (by omega)]; exact k6, ?_⟩
          rw [hput, if_neg (fun hd => e (huniq u so2 j so d2 k4 hso (by rw [(allocOf_inv k5).1]) hd))]
          exact RRel.mono hst2.le _ _ k7
      · rw [hl1] at g1 g2
        simp only at he
        by_cases e1 : u = j
        · by_cases e2 : u2 = j
          · rw [e1, e2]
          · rw [if_pos e1, if_neg e2] at he
            have := (hβ u2 h2 (g2.resolve_left e2)).2.1
            omega
        · by_cases e2 : u2 = j
          · rw [if_neg e1, if_pos e2] at he
            have := (hβ u h1 (g1.resolve_left e1)).2.1
            omega
          · rw [if_neg e1, if_neg e2] at he
            exact hinj u h1 u2 h2 (g1.resolve_left e1) (g2.resolve_left e2) he
      · rw [hl1] at hl
        have hne : i ≠ j := fun e => hi (e ▸ hju)
        rw [hput, if_neg (fun hd2 => hne (huniq i si j so t hsi hso hd hd2))]
        exact RRel.mono ⟨Nat.le_refl _, fun _ _ => rfl, hst2.le.live⟩ _ _ ((henv t).1 i si hsi hd hi (hl.resolve_left hne))
      · have hdj : so.dst ≠ some t := fun hd => hno j so hso hd ((hl1 j).2 (Or.inl rfl))
        rw [hput, if_neg hdj]
        exact RRel.mono ⟨Nat.le_refl _, fun _ _ => rfl, hst2.le.live⟩ _ _ ((henv t).2 (fun i si hsi hd hl => hno i si hsi hd ((hl1 i).2 (Or.inr hl))))
    · -- it only looks
      have hjob := u_job hu hso
      have hcon : us.contains j = false := by
        cases h : us.contains j with
        | false => rfl
        | true => exact absurd (List.contains_iff_mem.1 h) hju
      have hnl : us.all (fun u => inC cl u j) = false := by
        cases h : us.all (fun u => inC cl u j) with
        | false => rfl
        | true =>
          obtain ⟨u, h1, h2⟩ := hun
          exact absurd (hcl u (List.all_eq_true.1 h u h1)) h2
      simp only [jOk, hcon, hnl, Bool.false_or, Bool.and_eq_true, Bool.not_eq_true', List.all_eq_true, List.mem_range, Bool.or_eq_true] at hjob
      obtain ⟨⟨⟨hne, hnu0⟩, hes0⟩, hbf0⟩ := hjob
      have hnu : ∀ (i : Nat) (si : SOper) (t : Nat), ss[i]? = some si → si.dst = some t → t ∈ usesS so → i ∉ us := by
        intro i si t hsi hd ht hi
        have := hnu0 i hi
        rw [hsi] at this
        simp only [hd, Bool.not_eq_true'] at this
        rw [List.contains_iff_mem.2 ht] at this
        cases this
      have hes : ∀ d, so.dst = some d → d ∈ es := by
        intro d hd
        rw [hd] at hes0
        exact List.contains_iff_mem.1 hes0
      have hbf : ∀ (i : Nat) (si : SOper), i < j → ss[i]? = some si → i ∈ us ∨ isEff si = false := by
        intro i si hi hsi
        rcases hbf0 i hi with h | h
        · exact Or.inl (List.contains_iff_mem.1 h)
        · rw [hsi] at h
          right
          simpa using h
      have hcl2 : ∀ i, i < ops.size → inC cl j i = true → ¬ Lst listed i := by
        intro i hi hij hl
        obtain ⟨o, ho⟩ : ∃ o, ops[i]? = some o := ⟨ops[i], Array.getElem?_eq_getElem hi⟩
        exact hjn (clo_mem hc hI.down i j hi hij (fun o' ho' => hI.down i o' hl ho'))
      have hag : ∀ t ∈ usesS so, eS t = E j t := by
        intro t ht
        obtain ⟨q1, q2⟩ := hE j (by omega) t
        by_cases hex : ∃ (i : Nat) (si : SOper), ss[i]? = some si ∧ si.dst = some t
        · obtain ⟨i, si, hsi, hd⟩ := hex
          have hi : i < ss.length := (List.getElem?_eq_some_iff.1 hsi).1
          have hiu := hnu i si t hsi hd ht
          have hno2 : ¬ ∃ i si, ss[i]? = some si ∧ si.dst = some t ∧ Lst listed i ∧ i ∈ us := by
            rintro ⟨i', si', k1, k2, _, k4⟩
            have := huniq _ _ _ _ _ k1 hsi k2 hd
            subst this
            exact hiu k4
          rcases Nat.lt_trichotomy i j with h | h | h
          · have hp' := hc.pair i j si so h hsi hso
            simp only [pairOk, hd, Bool.and_eq_true, Bool.or_eq_true, Bool.not_eq_true'] at hp'
            have hin : inC cl i j = true := by
              rcases hp'.1.1.1.1.1.2 with h1 | h1
              · rw [List.contains_iff_mem.2 ht] at h1; cases h1
              · exact h1
            have hl := hcl i hin
            have hh : ∃ i si, ss[i]? = some si ∧ si.dst = some t ∧ Lst listed i ∧ i ∉ us := ⟨i, si, hsi, hd, hl, hiu⟩
            obtain ⟨s', h1, h2, h3, h4⟩ := hh.choose_spec
            have := huniq _ _ _ _ _ h1 hsi h2 hd
            simp only [eS, dif_pos hh, this]
            exact (q1 i si h hsi hd).symm
          · subst h
            have hno : ¬ ∃ i' si', ss[i']? = some si' ∧ si'.dst = some t ∧ Lst listed i' ∧ i' ∉ us := by
              rintro ⟨i', si', h1, h2, h3, _⟩
              have := huniq _ _ _ _ _ h1 hsi h2 hd
              subst this
              exact hjn h3
            simp only [eS, dif_neg hno, dif_neg hno2]
            exact (q2 (fun i' si' h1 h2 h3 => by have := huniq _ _ _ _ _ h2 hsi h3 hd; omega)).symm
          · have hp' := hc.pair j i so si h hso hsi
            simp only [pairOk, hd, Bool.and_eq_true, Bool.or_eq_true, Bool.not_eq_true'] at hp'
            have hin : inC cl j i = true := by
              rcases hp'.1.1.1.1.2 with h1 | h1
              · rw [List.contains_iff_mem.2 ht] at h1; cases h1
              · exact h1
            have hnl2 := hcl2 i (by rw [← hc.len]; exact hi) hin
            have hno : ¬ ∃ i' si', ss[i']? = some si' ∧ si'.dst = some t ∧ Lst listed i' ∧ i' ∉ us := by
              rintro ⟨i', si', h1, h2, h3, _⟩
              have := huniq _ _ _ _ _ h1 hsi h2 hd
              subst this
              exact hnl2 h3
            simp only [eS, dif_neg hno, dif_neg hno2]
            exact (q2 (fun i' si' h1 h2 h3 => by have := huniq _ _ _ _ _ h2 hsi h3 hd; omega)).symm
        · have hno : ¬ ∃ i' si', ss[i']? = some si' ∧ si'.dst = some t ∧ Lst listed i' ∧ i' ∉ us := by
            rintro ⟨i', si', h1, h2, h3⟩
            exact hex ⟨i', si', h1, h2⟩
          have hno2 : ¬ ∃ i' si', ss[i']? = some si' ∧ si'.dst = some t ∧ Lst listed i' ∧ i' ∈ us := by
            rintro ⟨i', si', h1, h2, h3⟩
            exact hex ⟨i', si', h1, h2⟩
          simp only [eS, dif_neg hno, dif_neg hno2]
          exact (q2 (fun i' si' h1 h2 h3 => hex ⟨i', si', h2, h3⟩)).symm
      have hwant : wantedS eS so = wantedS (E j) so := by
        unfold wantedS
        cases hg : so.guard with
        | none => rfl
        | some g =>
          obtain ⟨gt, want⟩ := g
          cases gt with
          | none => rfl
          | some t =>
            simp only
            rw [hag t (by simp [usesS, hg])]
      have hcong : ∀ m n, stepS call eS m n so = stepS call (E j) m n so := by
        intro m n
        unfold stepS
        rw [hwant, evalOp_congr (fun t ht => hag t (by simp [usesS, ht]))]
      have htj := (htr j so hso).1
      obtain ⟨b1, b2, _, _, _⟩ := before htr hua hm0.lt j (by omega) hbf
      have hev : stepS call eS m' (C 0 + q) so = some (R j, m', C 0 + q) := by
        rw [hcong]
        unfold stepS at htj ⊢
        split at htj
        · rename_i hw
          cases hk : kindOf so.op with
          | p => exact (kind_p hk htj).2.2 _ _
          | mild => simp [isEff, hk] at hne
          | hard => simp [isEff, hk] at hne
          | l =>
            obtain ⟨h1, h2, id, b, h3, h4, h5⟩ := kind_l hk htj
            refine h5 _ _ ?_
            have hid : id < C 0 := by
              obtain ⟨k, off, h6, h7⟩ := lookT_inv ((hc.look j so hso).1 hk) h3
              have hku : k ∈ usesS so := by simp [usesS, h6]
              have h8 := heS1 k (fun i si g1 g2 => hnu i si k g1 g2 hku)
              rw [hag k hku, h7] at h8
              exact (ptr_inv h8).1
            rw [hm' id hid, b2 id hid]
        · rename_i hw
          simp only [Option.some.injEq, Prod.mk.injEq] at htj
          rw [htj.1]
      have cont : ∀ (v : Value) (ρ2 : Loc) (w2 : World), Step ρ (C 0 + q) w m' ρ2 (C 0 + q) w2 m' → RRel ρ2 (C 0 + q) w2 (R j) v → K (listed.setIfInBounds j true) (a.put so.dst v) w2 := by
        intro v ρ2 w2 hst2 hv
        refine hK _ _ _ hleft ?_ ⟨by simpa using hsz, hdown, by rw [Act.size_put]; exact hI.tmps, by rw [Act.defers_put]; exact hI.defers,
          β, q, ρ2, m', hst.trans hst2, hgl.mono hst2.le, hm', fun u hu1 hl => ?_, fun u h1 u2 h2 g1 g2 he => ?_, fun t => ⟨fun i si hsi hd hi hl => ?_, fun hno => ?_⟩⟩
        · intro i si hsi hi he hl
          rw [hl1] at hl
          rcases hl with rfl | hl
          · rw [hso] at hsi
            cases hsi
            rw [hne] at he
            cases he
          · exact hnone i si hsi hi he hl
        · rw [hl1] at hl
          have e : u ≠ j := fun e => hju (e ▸ hu1)
          obtain ⟨k1, k2, k3⟩ := hβ u hu1 (hl.resolve_left e)
          refine ⟨k1, k2, fun so2 d2 z2 k4 k5 => ?_⟩
          obtain ⟨k6, k7⟩ := k3 so2 d2 z2 k4 k5
          refine ⟨k6, ?_⟩
          rw [hput, if_neg (fun hd => e (huniq u so2 j so d2 k4 hso (by rw [(allocOf_inv k5).1]) hd))]
          exact RRel.mono hst2.le _ _ k7
        · rw [hl1] at g1 g2
          exact hinj u h1 u2 h2 (g1.resolve_left (fun e => hju (e ▸ h1))) (g2.resolve_left (fun e => hju (e ▸ h2))) he
        · rw [hl1] at hl
          by_cases e : i = j
          · subst e
            rw [hso] at hsi
            cases hsi
            rw [hput, if_pos hd]
            have hs : safeR (M 0) (R i) = true := by
              have h1 := List.all_eq_true.1 hsafe t (hes t hd)
              rwa [((hE ss.length (Nat.le_refl _) t).1 i so hjs hso hd)] at h1
            exact safe_rel (fun id hid => (hst.trans hst2).le.loc id hid) hm0.lt hs hv
          · rw [hput, if_neg (fun hd2 => e (huniq i si j so t hsi hso hd hd2))]
            exact RRel.mono ⟨Nat.le_refl _, fun _ _ => rfl, hst2.le.live⟩ _ _ ((henv t).1 i si hsi hd hi (hl.resolve_left e))
        · have hdj : so.dst ≠ some t := fun hd => hno j so hso hd ((hl1 j).2 (Or.inl rfl))
          rw [hput, if_neg hdj]
          exact RRel.mono ⟨Nat.le_refl _, fun _ _ => rfl, hst2.le.live⟩ _ _ ((henv t).2 (fun i si hsi hd hl => hno i si hsi hd ((hl1 i).2 (Or.inr hl))))
      rcases hMj with hMj | hpre
      · exact wpOp_sound hcall hMj hG hev cont
      · have hJ : MRel ρ (C 0) w (frz (M 0)) := by
          have hfz : ∀ id b, frz (M 0) id = some b → ∃ b0, M 0 id = some b0 ∧ b = ⟨b0.cells, false⟩ := fun id b hb => by
            unfold frz at hb
            obtain ⟨b0, h1, h2⟩ := Option.map_eq_some_iff.1 hb
            exact ⟨b0, h1, h2.symm⟩
          refine ⟨fun id b hb => ?_, fun id b hb => ?_, fun id b hb i c hci => ?_, fun id b hb ho => ?_, fun id b hb ho => ?_⟩
          · obtain ⟨b0, h1, _⟩ := hfz id b hb
            exact hm0.lt id b0 h1
          · obtain ⟨b0, h1, _⟩ := hfz id b hb
            exact hst.rel.blk id b0 (by rw [hm' id (hm0.lt id b0 h1)]; exact h1)
          · obtain ⟨b0, h1, rfl⟩ := hfz id b hb
            obtain ⟨v0, _, h3⟩ := hm0.cells id b0 h1 i c hci
            obtain ⟨v, h4, h5⟩ := hst.rel.cells id b0 (by rw [hm' id (hm0.lt id b0 h1)]; exact h1) i c hci
            exact ⟨v, h4, CRel.shrink c v0 v h3 h5⟩
          · obtain ⟨b0, h1, rfl⟩ := hfz id b hb
            cases ho
          · obtain ⟨b0, h1, rfl⟩ := hfz id b hb
            cases ho
        exact hpre.runs ρ (C 0 + q) w m' a _ hst.rel hgl hJ hst.le hI.tmps (fun t hno => RRel.mono hLe0 _ _ ((henv t).2 (fun i si h1 h2 _ => absurd h2 (hno i si h1)))) (fun t ht => by rw [← hag t ht]; exact heS t) cont
  -- something is ready
  have hsome : ∀ (listed : Array Bool), listed.size = ss.length → (∃ u ∈ us, ¬ Lst listed u) → Region.ready .any ops listed ≠ [] := by
    intro listed hs hun hr
    have hall : ∀ j, j < ss.length → Lst listed j := by
      intro j
      induction j using Nat.strongRecOn with
      | _ j ih =>
        intro hj
        refine Classical.byContradiction fun hn => ?_
        have : j ∈ Region.ready .any ops listed := (ready_iff hc listed hs j).2 ⟨hj, hn, fun o ho e he hb => by
          have := (hc.clo j o ho).1 e he hb
          exact ih e.on this (by omega)⟩
        rw [hr] at this
        cases this
    obtain ⟨u, h1, h2⟩ := hun
    obtain ⟨so, d, z, hso, _⟩ := hua u h1
    exact h2 (hall u (List.getElem?_eq_some_iff.1 hso).1)
  intro fuel
  induction fuel with
  | zero =>
    intro listed a w hl hun hnone hI
    obtain ⟨u, h1, h2⟩ := hun
    obtain ⟨so, d, z, hso, _⟩ := hua u h1
    have hul : u < ss.length := (List.getElem?_eq_some_iff.1 hso).1
    have h0 : left ss.length listed = 0 := by omega
    unfold left at h0
    rw [List.countP_eq_zero] at h0
    have h3 := h0 u (by simpa using hul)
    have hsz := hI.size
    have h4 : listed.getD u true = listed.getD u false := by
      simp [Array.getD_eq_getD_getElem?, Array.getElem?_eq_getElem (show u < listed.size by omega)]
    rw [h4] at h3
    exact absurd (by simpa [Lst] using h3) h2
  | succ fuel ih =>
    intro listed a w hl hun hnone hI
    refine ⟨fun hr => absurd hr (hsome listed hI.size hun), fun i hi => ?_⟩
    refine hstep (fun l' a' w' => wpAnyIn F nf P .any ops Q fuel l' a' w') listed a w hI hun hnone (fun listed' a' w' h1 h2 h3 => ?_) i hi
    by_cases hall : ∃ u ∈ us, ¬ Lst listed' u
    · exact ih listed' a' w' (by omega) hall h2 h3
    · exact wpAny_ok hcall hc hm0 hM htr hdis hQ fuel listed' a' w' (by omega) (switch hc htr hu hm0 hg0 h3 (fun u hm => Classical.byContradiction fun hn => hall ⟨u, hm, hn⟩) h2)
end
end Go.Proofs.Ytkdbnmohpanpfaa.Sy

/- An evaluator of a part of Go's operations over a memory of its own: blocks of the heap that are no cells (the record of a range over a function). Conditions: those that each theorem names. -/
namespace Go.Proofs.Ytkdbnmohpanpfaa.Sy
open Go
set_option linter.unusedVariables false
set_option linter.unusedSimpArgs false

def isC : Obj → Bool
  | .cells .. => true
  | _ => false

section
variable {ρ ρ' : Loc} {n n' l : Nat} {w w' : World} {m m' : Mem} {o o' : Obj}

theorem cell_put (hl : w.heap[l]? = some o) (ho : isC o = false) (ho' : isC o' = false) (a : Addr) : (w.putObj l o').cell? a = w.cell? a := by
  unfold World.cell?
  by_cases e : a.block = l
  · rw [e, hl, World.putObj_heap_same (Array.getElem?_eq_some_iff.1 hl).1]
    cases o <;> cases o' <;> simp_all [isC]
  · rw [World.putObj_heap_other e]
theorem frozen_put (hl : w.heap[l]? = some o) (ho : isC o = false) (ho' : isC o' = false) (a : Addr) : (w.putObj l o').frozen? a = w.frozen? a := by
  unfold World.frozen?
  by_cases e : a.block = l
  · rw [e, hl, World.putObj_heap_same (Array.getElem?_eq_some_iff.1 hl).1]
    cases o <;> cases o' <;> simp_all [isC]
  · rw [World.putObj_heap_other e]
theorem Le.put (hl : w.heap[l]? = some o) (ho : isC o = false) (ho' : isC o' = false) : Le ρ n w ρ n (w.putObj l o') :=
  ⟨Nat.le_refl _, fun _ _ => rfl, fun a h => by rw [cell_put hl ho ho']; exact h⟩
theorem MRel.put (h : MRel ρ n w m) (hl : w.heap[l]? = some o) (ho : isC o = false) (ho' : isC o' = false) : MRel ρ n (w.putObj l o') m where
  lt := h.lt
  blk := fun id b hb => by rw [World.putObj_size]; exact h.blk id b hb
  cells := fun id b hb i c hc => by
    obtain ⟨v, h1, h2⟩ := h.cells id b hb i c hc
    exact ⟨v, by rw [cell_put hl ho ho']; exact h1, CRel.mono (Le.put hl ho ho') _ _ h2⟩
  soft := fun id b hb hown k => by rw [frozen_put hl ho ho']; exact h.soft id b hb hown k
  apart := h.apart

/-- A block that is no cells is laid: no number for it. -/
theorem Step.lay (h : MRel ρ n w m) (o : Obj) : Step ρ n w m ρ n (w.alloc o) m := by
  have L : Le ρ n w ρ n (w.alloc o) := ⟨Nat.le_refl _, fun _ _ => rfl, fun a ha => World.isSome_alloc w o a ha⟩
  refine ⟨L, ⟨h.lt, fun id b hb => by have := h.blk id b hb; simp; omega, fun id b hb i c hc => ?_, fun id b hb hown k => ?_, h.apart⟩, ⟨rfl, rfl, rfl, by simp, fun k hk _ => Go.RowKit.Below.heap_alloc w o k hk⟩, fun id b _ hb => ⟨b, hb, fun x => x⟩, fun id b h1 h2 => absurd (h.lt id b h2) (Nat.not_lt.2 h1)⟩
  · obtain ⟨v, h1, h2⟩ := h.cells id b hb i c hc
    exact ⟨v, World.cell_alloc_of w o _ v h1, CRel.mono L _ _ h2⟩
  · rw [frozen_alloc_lt w o _ (h.blk id b hb)]; exact h.soft id b hb hown k
/-- What lies above the world of the beginning turns. -/
theorem Step.put (h : Step ρ n w m ρ' n' w' m') (hB : w.heap.size ≤ l) (hl : w'.heap[l]? = some o) (ho : isC o = false) (ho' : isC o' = false) : Step ρ n w m ρ' n' (w'.putObj l o') m' where
  le := h.le.trans (Le.put hl ho ho')
  rel := h.rel.put hl ho ho'
  fr := ⟨h.fr.os, h.fr.tape, h.fr.output, by rw [World.putObj_size]; exact h.fr.size, fun k hk hno => by rw [World.putObj_heap_other (by omega)]; exact h.fr.block k hk hno⟩
  dom := h.dom
  fresh := h.fresh
/-- A round: the record is busy, and is ready again. -/
theorem Step.round {w2 w3 : World} (hm : MRel ρ n w m) (hl : w.heap[l]? = some o) (ho : isC o = false) (ho' : isC o' = false) (hno : ¬ Own ρ m l) (h : Step ρ n (w.putObj l o') m ρ' n' w3 m') : Step ρ n w m ρ' n' (w3.putObj l o) m' := by
  have hlt := (Array.getElem?_eq_some_iff.1 hl).1
  have h3 : w3.heap[l]? = some o' := by
    rw [h.fr.block l (by rw [World.putObj_size]; exact hlt) hno]
    exact World.putObj_heap_same hlt
  refine ⟨(Le.put hl ho ho').trans (h.le.trans (Le.put h3 ho' ho)), h.rel.put h3 ho' ho, ⟨h.fr.os, h.fr.tape, h.fr.output, by have := h.fr.size; simpa using this, fun k hk hn => ?_⟩, h.dom, fun id b h1 h2 => by have := h.fresh id b h1 h2; simpa using this⟩
  by_cases e : k = l
  · subst e
    rw [World.putObj_heap_same (Array.getElem?_eq_some_iff.1 h3).1, hl]
  · rw [World.putObj_heap_other e, h.fr.block k (by rw [World.putObj_size]; exact hk) hn, World.putObj_heap_other e]

/-- The marks of loops that have gone by: their blocks lie, and are nobody's. -/
def DOk (B : Nat) (ds : List Deferred) (ρ : Loc) (w : World) (m : Mem) : Prop :=
  B ≤ w.heap.size ∧ ds.Nodup ∧ ∀ d ∈ ds, ∃ D, d = { target := .collected D, args := #[] } ∧ B ≤ D ∧ w.heap[D]? = some (.deferred (some [])) ∧ ¬ Own ρ m D
theorem DOk.nil {B : Nat} (h : B ≤ w.heap.size) : DOk B [] ρ w m := ⟨h, List.nodup_nil, fun d hd => by cases hd⟩
theorem DOk.step {B : Nat} {ds : List Deferred} (h : DOk B ds ρ w m) (hs : Step ρ n w m ρ' n' w' m') : DOk B ds ρ' w' m' := by
  refine ⟨Nat.le_trans h.1 hs.fr.size, h.2.1, fun d hd => ?_⟩
  obtain ⟨D, h1, h2, h3, h4⟩ := h.2.2 d hd
  have hlt := (Array.getElem?_eq_some_iff.1 h3).1
  exact ⟨D, h1, h2, by rw [hs.fr.block D hlt h4]; exact h3, fun ho => h4 (hs.own D hlt ho)⟩
theorem DOk.put {B : Nat} {ds : List Deferred} {r : Loop} (h : DOk B ds ρ w m) (hl : w.heap[l]? = some (.loop r)) (o' : Obj) : DOk B ds ρ (w.putObj l o') m := by
  refine ⟨by rw [World.putObj_size]; exact h.1, h.2.1, fun d hd => ?_⟩
  obtain ⟨D, h1, h2, h3, h4⟩ := h.2.2 d hd
  refine ⟨D, h1, h2, ?_, h4⟩
  rw [World.putObj_heap_other (fun e => by rw [e, hl] at h3; cases h3)]
  exact h3
end
end Go.Proofs.Ytkdbnmohpanpfaa.Sy
