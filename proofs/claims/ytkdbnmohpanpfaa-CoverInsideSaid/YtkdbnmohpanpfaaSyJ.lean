/- An evaluator of a part of Go's operations over a memory of its own, part ten: all operations together; a row of them. Conditions: those that each theorem names. -/
import Derived.Test.YtkdbnmohpanpfaaSyI
namespace Go.Proofs.Ytkdbnmohpanpfaa.Sy
open Go
set_option linter.unusedVariables false
set_option linter.unusedSimpArgs false

section
variable {P : Program} {ρ : Loc} {n n' : Nat} {w : World} {m m' : Mem} {o : Oper} {a : Act} {ng : Nat} {env : Nat → Reg} {call : Callf} {r : Reg} {md : Nat → Mode} {so : SOp}

theorem does_call_op (hcall : CallOK P ng call) {c : Call} (ho : o.op = .call c) (hs : slimOp P ng md (.call c) = some so) (hev : evalOp call env m n so = some (r, m', n')) (hm : MRel ρ n w m) (hg : Glob ng ρ n) (he : ERel ρ n w env a) : Does P o a ρ n w m r m' n' := by
  simp only [slimOp] at hs
  split at hs
  · rename_i f args hca hargs
    split at hs
    case h_2 => cases hs
    rename_i fn hfn
    split at hs
    · rename_i hz
      cases hs
      exact d_call hcall ho hca hargs hm hg he hz.2.2 hev
    · split at hs
      · rename_i hz
        cases hs
        simp only [evalOp] at hev
        obtain ⟨r1, h1, h2⟩ := Option.map_eq_some_iff.1 hev
        cases h2
        exact d_carry (sub := false) ho hca hargs hfn hz.1 hz.2.1 hz.2.2 hm hg he h1
      · split at hs
        · rename_i hz
          cases hs
          simp only [evalOp] at hev
          obtain ⟨r1, h1, h2⟩ := Option.map_eq_some_iff.1 hev
          cases h2
          exact d_carry (sub := true) ho hca hargs hfn hz.1 hz.2.1 hz.2.2 hm hg he h1
        · cases hs
  · rename_i x args hx1 hca hargs
    obtain ⟨x', hx, rfl⟩ := Option.map_eq_some_iff.1 hs
    simp only [evalOp] at hev
    split at hev
    case h_2 => cases hev
    rename_i f caps hp
    exact d_callv hcall ho hca hx hp hargs hm hg he rfl hev
  · -- len
    rename_i x' hca hargs
    split at hs
    case h_2 => cases hs
    rename_i t hat
    obtain ⟨x, hx, hcx⟩ : ∃ x, c.args.toList = [x] ∧ slimO ng x = some x' := by
      cases hc : c.args.toList with
      | nil => rw [hc] at hargs; simp [slimOs] at hargs
      | cons y ys =>
        rw [hc] at hargs
        simp only [slimOs] at hargs
        split at hargs
        · rename_i a1 b1 h1 h2
          cases hargs
          cases ys with
          | nil => exact ⟨y, rfl, h1⟩
          | cons z zs => simp only [slimOs] at h2; split at h2 <;> cases h2
        · cases hargs
    split at hs
    · rename_i e hu
      cases hs
      simp only [evalOp] at hev
      split at hev
      · rename_i hp
        cases hev
        exact d_len (ty := 0) ho hca hx hat hm hg he hcx hu hp
      · rename_i hp
        cases hev
        exact d_lenN (ty := 0) ho hca hx hat hm hg he hcx hu hp
      · cases hev
    · rename_i k e hu
      cases hs
      simp only [evalOp, Option.some.injEq, Prod.mk.injEq] at hev
      obtain ⟨rfl, rfl, rfl⟩ := hev
      exact d_lenC (ty := 0) ho hca hx hat hm hu
    · cases hs
  · -- cap
    rename_i x' hca hargs
    split at hs
    case h_2 => cases hs
    rename_i t hat
    obtain ⟨x, hx, hcx⟩ : ∃ x, c.args.toList = [x] ∧ slimO ng x = some x' := by
      cases hc : c.args.toList with
      | nil => rw [hc] at hargs; simp [slimOs] at hargs
      | cons y ys =>
        rw [hc] at hargs
        simp only [slimOs] at hargs
        split at hargs
        · rename_i a1 b1 h1 h2
          cases hargs
          cases ys with
          | nil => exact ⟨y, rfl, h1⟩
          | cons z zs => simp only [slimOs] at h2; split at h2 <;> cases h2
        · cases hargs
    split at hs
    · rename_i e hu
      cases hs
      simp only [evalOp] at hev
      split at hev
      · rename_i hp
        cases hev
        exact d_cap (ty := 0) ho hca hx hat hm hg he hcx hu hp
      · rename_i hp
        cases hev
        exact d_capN (ty := 0) ho hca hx hat hm hg he hcx hu hp
      · cases hev
    · cases hs
  · -- append
    rename_i s' x' hca hargs
    split at hs
    case h_2 => cases hs
    rename_i t u hat
    split at hs
    case h_3 => cases hs
    · rename_i e d' hu hd
      split at hs
      case h_2 => cases hs
      rename_i sz by' z h1 h2 h3
      split at hs
      case isFalse => cases hs
      rename_i hc4
      cases hs
      obtain ⟨x, y, hx, hcx, hcy⟩ : ∃ x y, c.args.toList = [x, y] ∧ slimO ng x = some s' ∧ slimO ng y = some x' := by
        cases hc : c.args.toList with
        | nil => rw [hc] at hargs; simp [slimOs] at hargs
        | cons y ys =>
          rw [hc] at hargs
          simp only [slimOs] at hargs
          split at hargs
          · rename_i a1 b1 h1 h2
            cases hargs
            cases ys with
            | nil => simp [slimOs] at h2
            | cons z zs =>
              simp only [slimOs] at h2
              split at h2
              · rename_i a2 b2 h3 h4
                cases h2
                cases zs with
                | nil => exact ⟨y, z, rfl, h1, h3⟩
                | cons z zs => simp only [slimOs] at h4; split at h4 <;> cases h4
              · cases h2
          · cases hargs
      exact d_app (ty := 0) ho hca hx hat hm hg he hcx hcy hu hd h1 h2 h3 hc4.1 hc4.2.1 hc4.2.2.1 hc4.2.2.2 hev
    · rename_i e d' hu hd
      split at hs
      case h_2 => cases hs
      rename_i sz by' z h1 h2 h3
      split at hs
      case isFalse => cases hs
      rename_i hc4
      cases hs
      obtain ⟨x, y, hx, hcx, hcy⟩ : ∃ x y, c.args.toList = [x, y] ∧ slimO ng x = some s' ∧ slimO ng y = some x' := by
        cases hc : c.args.toList with
        | nil => rw [hc] at hargs; simp [slimOs] at hargs
        | cons y ys =>
          rw [hc] at hargs
          simp only [slimOs] at hargs
          split at hargs
          · rename_i a1 b1 h1 h2
            cases hargs
            cases ys with
            | nil => simp [slimOs] at h2
            | cons z zs =>
              simp only [slimOs] at h2
              split at h2
              · rename_i a2 b2 h3 h4
                cases h2
                cases zs with
                | nil => exact ⟨y, z, rfl, h1, h3⟩
                | cons z zs => simp only [slimOs] at h4; split at h4 <;> cases h4
              · cases h2
          · cases hargs
      simp only [evalOp] at hev
      split at hev
      case h_2 => cases hev
      rename_i k hp hq
      exact d_appz (ty := 0) ho hca hx hat hm hg he hcx hcy hu hd h1 h2 h3 hc4.1 hc4.2.1 hc4.2.2.1 hc4.2.2.2 hp hq hev
  · -- copy
    rename_i s' x' hca hargs
    split at hs
    case h_2 => cases hs
    rename_i t u hat
    split at hs
    case h_2 => cases hs
    rename_i e d' hu hd
    obtain ⟨sz, h1, rfl⟩ := Option.map_eq_some_iff.1 hs
    obtain ⟨x, y, hx, hcx, hcy⟩ : ∃ x y, c.args.toList = [x, y] ∧ slimO ng x = some s' ∧ slimO ng y = some x' := by
      cases hc : c.args.toList with
      | nil => rw [hc] at hargs; simp [slimOs] at hargs
      | cons y ys =>
        rw [hc] at hargs
        simp only [slimOs] at hargs
        split at hargs
        · rename_i a1 b1 h1 h2
          cases hargs
          cases ys with
          | nil => simp [slimOs] at h2
          | cons z zs =>
            simp only [slimOs] at h2
            split at h2
            · rename_i a2 b2 h3 h4
              cases h2
              cases zs with
              | nil => exact ⟨y, z, rfl, h1, h3⟩
              | cons z zs => simp only [slimOs] at h4; split at h4 <;> cases h4
            · cases h2
        · cases hargs
    simp only [evalOp] at hev
    split at hev
    case h_2 => cases hev
    rename_i id off len cap sz' k news hp hn
    split at hev
    case isFalse => cases hev
    rename_i hsz
    subst hsz
    exact d_cpy (ty := 0) (d' := d') ho hca hx hat hm hg he hcx hcy hu h1 hp hn hev
  · -- clear
    rename_i x' hca hargs
    split at hs
    case h_2 => cases hs
    rename_i t hat
    obtain ⟨x, hx, hcx⟩ : ∃ x, c.args.toList = [x] ∧ slimO ng x = some x' := by
      cases hc : c.args.toList with
      | nil => rw [hc] at hargs; simp [slimOs] at hargs
      | cons y ys =>
        rw [hc] at hargs
        simp only [slimOs] at hargs
        split at hargs
        · rename_i a1 b1 h1 h2
          cases hargs
          cases ys with
          | nil => exact ⟨y, rfl, h1⟩
          | cons z zs => simp only [slimOs] at h2; split at h2 <;> cases h2
        · cases hargs
    split at hs
    case h_2 => cases hs
    rename_i e hu
    split at hs
    case h_2 => cases hs
    rename_i s' z h1 h2
    split at hs
    case isFalse => cases hs
    rename_i hh
    cases hs
    simp only [evalOp] at hev
    exact d_clr ho hca hx hat hm hg he hcx hu h1 h2 hh.1 hh.2 hev
  · -- min
    rename_i xs hca hargs
    cases hs
    simp only [evalOp] at hev
    split at hev
    case h_2 => cases hev
    rename_i k rs hp
    obtain ⟨v, h1, h2⟩ := Option.map_eq_some_iff.1 hev
    cases h2
    exact d_mn ho hca hargs hm hg he hp h1
  · rename_i xs hca hargs
    cases hs
    simp only [evalOp] at hev
    split at hev
    case h_2 => cases hev
    rename_i k rs hp
    obtain ⟨v, h1, h2⟩ := Option.map_eq_some_iff.1 hev
    cases h2
    exact d_mx ho hca hargs hm hg he hp h1
  · cases hs

theorem does_bin_op {op : BinOp} {t t2 : TypeId} {x y : Operand} (ho : o.op = .binOp op t x y t2) (hs : slimOp P ng md (.binOp op t x y t2) = some so) (hev : evalOp call env m n so = some (r, m', n')) (hm : MRel ρ n w m) (hg : Glob ng ρ n) (he : ERel ρ n w env a) : Does P o a ρ n w m r m' n' := by
  simp only [slimOp] at hs
  split at hs
  case h_2 => cases hs
  rename_i x' y' hx hy
  have heqv : ∀ ks, (op = .eql ∨ op = .neq) → tagg P t = some true → flatK P 100 t = some ks → P.eqGuardType P.depth t = false → so = .eqv ks (op == .neq) x' y' → Does P o a ρ n w m r m' n' := by
    intro ks hop hag hk hgd hso
    subst hso
    simp only [evalOp] at hev
    split at hev
    case h_2 => cases hev
    rename_i u v hp hq
    obtain ⟨z, h1, h2⟩ := Option.map_eq_some_iff.1 hev
    cases h2
    exact d_eqv ho hm hg he hx hy hop hag hk hgd hp hq h1
  split at hs
  · rename_i k hu
    cases hs
    simp only [evalOp] at hev
    split at hev
    case h_2 => cases hev
    rename_i u v hp hq
    obtain ⟨z, h1, h2⟩ := Option.map_eq_some_iff.1 hev
    cases h2
    exact d_bin ho hm hg he hx hy hp hq h1
  · rename_i hu
    split at hs
    case isFalse => cases hs
    rename_i hop
    cases hs
    simp only [evalOp] at hev
    split at hev
    case h_2 => cases hev
    rename_i u v hp hq
    cases hev
    exact d_beq ho hm hg he hx hy hop hu hp hq
  · rename_i fs hu
    split at hs
    case isFalse => cases hs
    rename_i hop
    split at hs
    case h_2 => cases hs
    rename_i ks hk
    split at hs
    case isFalse => cases hs
    rename_i hgd
    cases hs
    exact heqv ks hop (by simp [tagg, hu]) hk hgd rfl
  · rename_i l e hu
    split at hs
    case isFalse => cases hs
    rename_i hop
    split at hs
    case h_2 => cases hs
    rename_i ks hk
    split at hs
    case isFalse => cases hs
    rename_i hgd
    cases hs
    exact heqv ks hop (by simp [tagg, hu]) hk hgd rfl
  · rename_i e hu
    split at hs
    case h_2 => cases hs
    split at hs
    case isFalse => cases hs
    rename_i hop
    cases hs
    have hxr := evO_rel hx hg he
    simp only [evalOp] at hev
    split at hev
    · rename_i hp
      cases hev
      rw [hp] at hxr
      obtain ⟨_, oo, cp, hv, _⟩ := sl_inv hxr
      exact d_eqnil ho hm hop hu rfl (Or.inl ⟨e, rfl, rfl, _, _, _, hv, rfl⟩)
    · rename_i hp
      cases hev
      rw [hp] at hxr
      have hv := nils_inv hxr
      exact d_eqnil ho hm hop hu rfl (Or.inl ⟨e, rfl, rfl, _, _, _, hv, rfl⟩)
    · cases hev
  · rename_i p r v hu
    split at hs
    case h_2 => cases hs
    split at hs
    case isFalse => cases hs
    rename_i hop
    cases hs
    have hxr := evO_rel hx hg he
    simp only [evalOp] at hev
    split at hev
    · rename_i f cs hp
      cases hev
      rw [hp] at hxr
      obtain ⟨vs, hv, _⟩ : ∃ vs : List Value, a.eval x = .func (.func f) #[] vs.toArray ∧ CRels ρ n w cs vs := by simpa only [RRel, CRel] using hxr
      exact d_eqnil ho hm hop hu rfl (Or.inr (Or.inl ⟨p, r, v, rfl, rfl, _, _, _, hv, rfl⟩))
    · cases hev
  · rename_i e hu
    split at hs
    case h_2 => cases hs
    split at hs
    case isFalse => cases hs
    rename_i hop
    cases hs
    have hxr := evO_rel hx hg he
    simp only [evalOp] at hev
    split at hev
    · rename_i hp
      cases hev
      rw [hp] at hxr
      obtain ⟨_, hv⟩ := ptr_inv hxr
      exact d_eqnil ho hm hop hu rfl (Or.inr (Or.inr ⟨e, rfl, rfl, _, hv, rfl⟩))
    · rename_i hp
      cases hev
      rw [hp] at hxr
      have hv := sc_inv hxr
      exact d_eqnil ho hm hop hu rfl (Or.inr (Or.inr ⟨e, rfl, rfl, _, hv, rfl⟩))
    · cases hev
  · cases hs

theorem evalOp_does (hcall : CallOK P ng call) (hs : slimOp P ng md o.op = some so) (hev : evalOp call env m n so = some (r, m', n')) (hm : MRel ρ n w m) (hg : Glob ng ρ n) (he : ERel ρ n w env a) : Does P o a ρ n w m r m' n' := by
  cases ho : o.op with
  | move x =>
    rw [ho] at hs
    simp only [slimOp, Option.map_eq_some_iff] at hs
    obtain ⟨x', hx, rfl⟩ := hs
    simp only [evalOp, Option.some.injEq, Prod.mk.injEq] at hev
    obtain ⟨rfl, rfl, rfl⟩ := hev
    exact d_mv (Or.inl ho) hm hg he hx
  | assign x =>
    rw [ho] at hs
    simp only [slimOp, Option.map_eq_some_iff] at hs
    obtain ⟨x', hx, rfl⟩ := hs
    simp only [evalOp, Option.some.injEq, Prod.mk.injEq] at hev
    obtain ⟨rfl, rfl, rfl⟩ := hev
    exact d_mv (Or.inr ho) hm hg he hx
  | pick c x y =>
    rw [ho] at hs
    simp only [slimOp] at hs
    split at hs
    case h_2 => cases hs
    rename_i c' x' y' hc hx hy
    cases hs
    simp only [evalOp] at hev
    split at hev
    case h_2 => cases hev
    rename_i t ht
    cases hev
    exact d_pick ho hm hg he hc hx hy ht
  | alloc e =>
    rw [ho] at hs
    simp only [slimOp, Option.map_eq_some_iff] at hs
    obtain ⟨z, hz, rfl⟩ := hs
    simp only [evalOp, Option.some.injEq, Prod.mk.injEq] at hev
    obtain ⟨rfl, rfl, rfl⟩ := hev
    exact d_alloc ho hm hz
  | box e x =>
    rw [ho] at hs
    simp only [slimOp, Option.map_eq_some_iff] at hs
    obtain ⟨x', hx, rfl⟩ := hs
    simp only [evalOp] at hev
    split at hev
    case h_2 => cases hev
    rename_i cs hc
    cases hev
    exact d_box ho hm hg he hx hc
  | build t ps =>
    rw [ho] at hs
    simp only [slimOp] at hs
    split at hs
    · rename_i z fs hz hu
      split at hs
      case isFalse => cases hs
      rename_i hall
      obtain ⟨qs, hq, rfl⟩ := Option.map_eq_some_iff.1 hs
      simp only [evalOp] at hev
      obtain ⟨cs, h1, h2⟩ := Option.map_eq_some_iff.1 hev
      cases h2
      exact d_build_str ho hm hg he hz hu hall hq h1
    · rename_i z k e hz hu
      split at hs
      case h_2 => cases hs
      rename_i s hsz
      obtain ⟨qs, hq, rfl⟩ := Option.map_eq_some_iff.1 hs
      simp only [evalOp] at hev
      obtain ⟨cs, h1, h2⟩ := Option.map_eq_some_iff.1 hev
      cases h2
      exact d_build_arr ho hm hg he hz hu hsz hq h1
    · cases hs
  | buildSlice t len ps =>
    rw [ho] at hs
    simp only [slimOp] at hs
    split at hs
    case h_2 => cases hs
    rename_i e hu
    split at hs
    case h_2 => cases hs
    rename_i s z h1 h2
    split at hs
    case isFalse => cases hs
    rename_i hh
    obtain ⟨qs, hq, rfl⟩ := Option.map_eq_some_iff.1 hs
    simp only [evalOp] at hev
    obtain ⟨cs, h3, h4⟩ := Option.map_eq_some_iff.1 hev
    cases h4
    exact d_bslice ho hm hg he hu h1 h2 hh.1 hh.2.1 hh.2.2 hq h3
  | load t x =>
    rw [ho] at hs
    simp only [slimOp] at hs
    split at hs
    · rename_i x' s hx hag hsz
      cases hs
      simp only [evalOp] at hev
      split at hev
      case h_2 => cases hev
      rename_i id off hp
      obtain ⟨cs, h3, h4⟩ := Option.map_eq_some_iff.1 hev
      cases h4
      exact d_loadA ho hm hg he hx hag hsz hp h3
    · rename_i x' s hx hag hsz
      cases hs
      simp only [evalOp] at hev
      split at hev
      case h_2 => cases hev
      rename_i id off hp
      split at hev
      case h_2 => cases hev
      rename_i b hb
      split at hev
      case h_2 => cases hev
      rename_i c hc
      cases hev
      exact d_load1 ho hm hg he hx hag hsz hp hb hc
    · cases hs
  | store t x v =>
    rw [ho] at hs
    simp only [slimOp] at hs
    split at hs
    case h_2 => cases hs
    rename_i x' v' s hx hv hsz
    cases hs
    simp only [evalOp] at hev
    split at hev
    case h_2 => cases hev
    rename_i id off cs hp hc
    split at hev
    case isFalse => cases hev
    rename_i hl
    obtain ⟨m1, h3, h4⟩ := Option.map_eq_some_iff.1 hev
    cases h4
    exact d_store ho hm hg he hx hv hsz hp hc hl h3
  | nilCheck x =>
    rw [ho] at hs
    simp only [slimOp, Option.map_eq_some_iff] at hs
    obtain ⟨x', hx, rfl⟩ := hs
    simp only [evalOp] at hev
    split at hev
    · rename_i hp; cases hev; exact d_nilp ho hm hg he hx hp
    · rename_i hp; cases hev; exact d_nilf ho hm hg he hx hp
    · cases hev
  | binOp op t x y t2 => rw [ho] at hs; exact does_bin_op ho hs hev hm hg he
  | unOp op t x =>
    rw [ho] at hs
    simp only [slimOp, Option.map_eq_some_iff] at hs
    obtain ⟨x', hx, rfl⟩ := hs
    simp only [evalOp] at hev
    split at hev
    case h_2 => cases hev
    rename_i u hp
    obtain ⟨z, h1, h2⟩ := Option.map_eq_some_iff.1 hev
    cases h2
    exact d_un ho hm hg he hx hp h1
  | convert s d x =>
    rw [ho] at hs
    simp only [slimOp] at hs
    split at hs
    case h_2 => cases hs
    rename_i x' ks k hx hsu hdu
    cases hs
    simp only [evalOp] at hev
    split at hev
    case h_2 => cases hev
    rename_i k' u hp
    cases hev
    exact d_conv ho hm hg he hx hsu hdu hp
  | makeFunc fn first caps =>
    rw [ho] at hs
    cases fn <;> simp only [slimOp] at hs <;> first | (cases hs; done) | skip
    split at hs
    case isFalse => cases hs
    rename_i hf
    obtain ⟨os, hx, rfl⟩ := Option.map_eq_some_iff.1 hs
    simp only [evalOp] at hev
    split at hev
    case h_2 => cases hev
    rename_i cs hc
    cases hev
    exact d_mkfn ho hf hm hg he hx hc
  | makeSlice t l c =>
    rw [ho] at hs
    simp only [slimOp] at hs
    split at hs
    case h_2 => cases hs
    rename_i e l' c' hu hl hc
    split at hs
    case h_2 => cases hs
    rename_i s b z h1 h2 h3
    split at hs
    case isFalse => cases hs
    rename_i hh
    cases hs
    simp only [evalOp] at hev
    split at hev
    case h_2 => cases hev
    rename_i li ci hp hq
    split at hev
    case isFalse => cases hev
    rename_i hb
    cases hev
    exact d_mkslice ho hm hg he hl hc hu h1 h2 h3 hh.1 hh.2.1 hh.2.2 hp hq hb.1 hb.2.1 hb.2.2
  | slice t x lo hi mx =>
    rw [ho] at hs
    simp only [slimOp] at hs
    split at hs
    · rename_i x' lo' hi' mx' e hx h1 h2 h3 hu
      obtain ⟨s, hsz, rfl⟩ := Option.map_eq_some_iff.1 hs
      simp only [evalOp] at hev
      split at hev
      · rename_i id off len cap sz' hp
        split at hev
        case isFalse => cases hev
        rename_i hsz'
        subst hsz'
        obtain ⟨q, h4, h5⟩ := Option.map_eq_some_iff.1 hev
        obtain ⟨l, h, c⟩ := q
        cases h5
        exact d_slS ho hm hg he hx h1 h2 h3 hu hsz hp h4
      · rename_i hp
        obtain ⟨q, h4, h5⟩ := Option.map_eq_some_iff.1 hev
        cases h5
        exact d_slN ho hm hg he hx h1 h2 h3 hu hsz hp h4
      · cases hev
    · rename_i x' lo' hi' mx' k e hx h1 h2 h3 hu
      obtain ⟨s, hsz, rfl⟩ := Option.map_eq_some_iff.1 hs
      simp only [evalOp] at hev
      split at hev
      case h_2 => cases hev
      rename_i id off hp
      split at hev
      case h_2 => cases hev
      rename_i b hb
      split at hev
      case isFalse => cases hev
      rename_i hle
      obtain ⟨q, h4, h5⟩ := Option.map_eq_some_iff.1 hev
      obtain ⟨l, h, c⟩ := q
      cases h5
      exact d_slA ho hm hg he hx h1 h2 h3 hu hsz hp hb hle h4
    · cases hs
  | fieldAddr t x i =>
    rw [ho] at hs
    simp only [slimOp] at hs
    split at hs
    case h_2 => cases hs
    rename_i x' fs hx hu
    split at hs
    case h_2 => cases hs
    rename_i f hf
    split at hs
    case h_2 => cases hs
    rename_i s hsz
    cases hs
    simp only [evalOp] at hev
    split at hev
    case h_2 => cases hev
    rename_i id off hp
    cases hev
    exact d_fadr ho hm hg he hx hu hf hsz hp
  | field t x i =>
    rw [ho] at hs
    simp only [slimOp] at hs
    split at hs
    case h_2 => cases hs
    rename_i x' fs hx hu
    split at hs
    case h_2 => cases hs
    rename_i f hf
    split at hs
    case h_2 => cases hs
    rename_i s ag hsz hag
    cases hs
    simp only [evalOp] at hev
    split at hev
    case h_2 => cases hev
    rename_i cs hp
    split at hev
    case isFalse => cases hev
    rename_i hle
    cases ag
    · simp only [Bool.false_eq_true, if_false] at hev
      obtain ⟨c, h1, h2⟩ := Option.map_eq_some_iff.1 hev
      cases h2
      exact d_fld_one ho hm hg he hx hu hf hag hp h1
    · simp only [if_true] at hev
      cases hev
      exact d_fld_agg ho hm hg he hx hu hf hsz hag hp hle
  | indexAddr t x i =>
    rw [ho] at hs
    simp only [slimOp] at hs
    split at hs
    · rename_i x' i' e hx hi hu
      obtain ⟨s, hsz, rfl⟩ := Option.map_eq_some_iff.1 hs
      simp only [evalOp] at hev
      split at hev
      case h_2 => cases hev
      rename_i id off len cap sz' k hp hk
      split at hev
      case isFalse => cases hev
      rename_i hh
      obtain ⟨hz, h0, h1⟩ := hh
      subst hz
      cases hev
      exact d_iadrS ho hm hg he hx hi hu hsz hp hk h0 h1
    · rename_i x' i' len e hx hi hu
      obtain ⟨s, hsz, rfl⟩ := Option.map_eq_some_iff.1 hs
      simp only [evalOp] at hev
      split at hev
      case h_2 => cases hev
      rename_i id off k hp hk
      split at hev
      case isFalse => cases hev
      rename_i hh
      cases hev
      exact d_iadrA ho hm hg he hx hi hu hsz hp hk hh.1 hh.2
    · cases hs
  | index t x i =>
    rw [ho] at hs
    simp only [slimOp] at hs
    split at hs
    case h_3 => cases hs
    case h_2 =>
      rename_i s i' hx hi hu
      cases hs
      simp only [evalOp] at hev
      split at hev
      case h_2 => cases hev
      rename_i k hk
      split at hev
      case isFalse => cases hev
      rename_i hh
      obtain ⟨c, h1, h2⟩ := Option.map_eq_some_iff.1 hev
      cases h2
      exact d_istr ho hx hm hg he hi hu hk hh h1
    rename_i x' i' len e hx hi hu
    split at hs
    case h_2 => cases hs
    rename_i s ag hsz hag
    cases hs
    simp only [evalOp] at hev
    split at hev
    case h_2 => cases hev
    rename_i cs k hp hk
    split at hev
    case isFalse => cases hev
    rename_i hh
    cases ag
    · simp only [Bool.false_eq_true, if_false] at hev
      obtain ⟨c, h1, h2⟩ := Option.map_eq_some_iff.1 hev
      cases h2
      exact d_idx_one ho hm hg he hx hi hu hsz hag hp hk hh.1 hh.2.1 h1
    · simp only [if_true] at hev
      cases hev
      exact d_idx_agg ho hm hg he hx hi hu hsz hag hp hk hh.1 hh.2.1 hh.2.2
  | extract x i =>
    rw [ho] at hs
    simp only [slimOp, Option.map_eq_some_iff] at hs
    obtain ⟨x', hx, rfl⟩ := hs
    simp only [evalOp] at hev
    split at hev
    case h_2 => cases hev
    rename_i rs hp
    obtain ⟨q, h4, h5⟩ := Option.map_eq_some_iff.1 hev
    cases h5
    exact d_ext ho hm hg he hx hp h4
  | call c => rw [ho] at hs; exact does_call_op hcall ho hs hev hm hg he
  | _ => rw [ho] at hs; simp [slimOp] at hs
end
end Go.Proofs.Ytkdbnmohpanpfaa.Sy
