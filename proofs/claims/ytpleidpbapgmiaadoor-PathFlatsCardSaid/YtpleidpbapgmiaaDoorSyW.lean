/- The evaluator's range over path.walk is the machine's. Conditions: those that each theorem names. -/
import Derived.Test.YtpleidpbapgmiaaDoorSyV
import Derived.Test.YtpleidpbapgmiaaDoorSyTA
namespace Go.Proofs.YtpleidpbapgmiaaDoor.Sy
open Go Go.Proofs
set_option linter.unusedSimpArgs false
set_option linter.unusedVariables false

theorem mixedW : Tryd.prog.follows .mixedOrders = true := by kernel_rfl
theorem yl_one (l : Nat) : Value.oneCell' (.func (.yield l) #[] #[]) = true := rfl
/-- The iterator's code. -/
def WCode (o0 o1 o2 o3 o4 o5 o6 o7 o8 : Array Oper) : Code := (Code.region 0 o0 false).seq ((Code.region 1 o1 false).seq (Code.block 0 (((Code.region 2 o2 false).seq ((Code.cond (.tmp 10) Code.skip (Code.exit 0)).seq ((Code.block 1 ((Code.region 3 o3 false).seq
  (((Code.region 4 o4 false).seq (Code.cond (.tmp 17) Code.ret Code.skip)).seq ((Code.region 5 o5 false).seq ((Code.region 6 o6 false).seq (Code.cond (.tmp 22) (Code.region 7 o7 false) Code.skip)))))).seq (Code.region 8 o8 false)))).loop)))
theorem code_walk : ∃ (fn : Func) (o0 o1 o2 o3 o4 o5 o6 o7 o8 : Array Oper), Tryd.prog.funcs[53]? = some fn ∧ fn.body = some (WCode o0 o1 o2 o3 o4 o5 o6 o7 o8) ∧ fn.ntmps = 29 ∧ fn.results = #[] ∧ (fn.name == "runtime.NumGoroutine") = false ∧
    slimOpers Tryd.prog 1 mdA o0 o0.toList = some r53_0 ∧ slimOpers Tryd.prog 1 mdA o1 o1.toList = some r53_1 ∧ slimOpers Tryd.prog 1 mdA o2 o2.toList = some r53_2 ∧ slimOpers Tryd.prog 1 mdA o3 o3.toList = some r53_3 ∧
    slimOpers Tryd.prog 1 mdA o4 o4.toList = some r53_4 ∧ slimOpers Tryd.prog 1 mdA o5 o5.toList = some r53_5 ∧ slimOpers Tryd.prog 1 mdA o6 o6.toList = some r53_6 ∧ slimOpers Tryd.prog 1 mdA o7 o7.toList = some r53_7 ∧
    slimOpers Tryd.prog 1 mdA o8 o8.toList = some r53_8 ∧ ∃ oy ty ts, o4[3]? = some oy ∧ oy.guard = none ∧ oy.dst = some 16 ∧ oy.type = ty ∧ oy.op = .call { callee := .value (.tmp 13), args := #[.tmp 14, .tmp 15], argTypes := ts } :=
  ⟨Tryd.f53, _, _, _, _, _, _, _, _, _, Tryd.func53, rfl, rfl, rfl, rfl, by kernel_rfl, by kernel_rfl, by kernel_rfl, by kernel_rfl, by kernel_rfl, by kernel_rfl, by kernel_rfl, by kernel_rfl, by kernel_rfl, _, _, _, rfl, rfl, rfl, rfl, rfl⟩

section
variable {call : Callf} {env : Nat → Reg} {m : Mem} {n : Nat}
theorem ev0 : evalOps call r53_0 env m n = some (upd env 3 (.one (.ptr n 0)), upd m n (some ⟨[zc, zc], true⟩), n + 1) := rfl
theorem ev1 {bx len : Nat} {b : Blk} {c : Cell} {id off : Nat} (h1 : env 1 = .one (.ptr bx 0)) (hb : m bx = some b) (hc : b.cells[0]? = some c) (hs : segsOf c = some (id, off, len)) :
    evalOps call r53_1 env m n = some (upd (upd (upd env 7 (.one c)) 8 (.one (.sc (.int .i64 len)))) 9 (.one (.sc (.int .i64 0))), m, n) := by
  have hl : evalOp call (upd env 7 (.one c)) m n (.len (.t 7)) = some (.one (.sc (.int .i64 len)), m, n) := by
    simp only [evalOp, evO, upd_same]
    unfold segsOf at hs
    split at hs
    · cases hs; rfl
    · split at hs
      · cases hs; rfl
      · cases hs
    · cases hs
  have hl1 : evalOp call env m n (.load1 (.t 1)) = some (.one c, m, n) := by simp only [evalOp, evO, h1, hb, hc]
  simp only [r53_1, evalOps, wantedS, hl1, putE, hl]
  simp only [evalOp, evO]
theorem ev2 {i len : Nat} (h9 : env 9 = .one (.sc (.int .i64 i))) (h8 : env 8 = .one (.sc (.int .i64 len))) :
    evalOps call r53_2 env m n = some (upd env 10 (.one (.sc (.bool (decide ((i : Int) < len))))), m, n) := by
  simp only [r53_2, evalOps, wantedS, putE, evalOp, evO, h9, h8, binV, if_true, Option.map_some]
theorem ev3 {i id off len : Nat} {cap : Option Nat} {cs : List Cell} (h9 : env 9 = .one (.sc (.int .i64 i))) (h7 : env 7 = .one (.sl id off len cap 7)) (hi : i < len) (hrd : rd m id (off + i * 7) 7 = some cs) (hid : id < n) (hl : cs.length = 7) :
    ∃ e, evalOps call r53_3 env m n = some (e, upd m n (some ⟨cs, true⟩), n + 1) ∧ e 5 = .one (.ptr n 0) ∧ ∀ t, t ≠ 11 → t ≠ 12 → t ≠ 5 → e t = env t := by
  obtain ⟨c1, c2, c3, c4, c5, c6, c7, rfl⟩ : ∃ c1 c2 c3 c4 c5 c6 c7, cs = [c1, c2, c3, c4, c5, c6, c7] := by
    match cs, hl with
    | [c1, c2, c3, c4, c5, c6, c7], _ => exact ⟨_, _, _, _, _, _, _, rfl⟩
  have c2' : (0 ≤ (i : Int) ∧ (i : Int) < len) = True := eq_true (by omega)
  refine ⟨upd (upd (upd env 11 (.one (.ptr id (off + i * 7)))) 12 (.agg [c1, c2, c3, c4, c5, c6, c7])) 5 (.one (.ptr n 0)), ?_, upd_same _ _ _, fun t h1 h2 h3 => by rw [upd_ne _ _ h3, upd_ne _ _ h2, upd_ne _ _ h1]⟩
  have u5 : ∀ (e : Nat → Reg) (r : Reg), upd e 5 r 12 = e 12 := fun e r => upd_ne _ _ (by decide)
  simp only [r53_3, evalOps, wantedS, putE, evalOp, evO, h9, h7, ix, true_and, c2', if_true, Int.toNat_natCast, upd_same, hrd, Option.map_some, u5, Reg.cs?, List.length_cons, List.length_nil, wr, Nat.zero_add, Nat.le_refl, and_self, setL, List.set_cons_zero, List.set_cons_succ, upd_upd, Nat.reduceAdd, Nat.reduceLeDiff]
theorem ev5 {d : Int} {c : Cell} {sb : Nat} {b : Blk} (h5 : env 5 = .one (.ptr sb 0)) (hb : m sb = some b) (hc : b.cells[0]? = some c) (hd : ∃ x y, doCall call .t 15 [.one c] m n = some (.one (.sc (.int .i64 d)), x, y)) :
    ∃ e, evalOps call r53_5 env m n = some (e, m, n) ∧ e 6 = .one (.sc (.int .i64 d)) ∧ ∀ t, t ≠ 18 → t ≠ 19 → t ≠ 20 → t ≠ 6 → e t = env t := by
  obtain ⟨x, y, hd⟩ := hd
  have hxy : x = m ∧ y = n := by
    simp only [doCall] at hd
    split at hd
    case h_2 => cases hd
    split at hd
    case isFalse => cases hd
    split at hd
    case h_2 => cases hd
    split at hd
    case isFalse => cases hd
    cases hd
    exact ⟨rfl, rfl⟩
  obtain ⟨rfl, rfl⟩ := hxy
  refine ⟨upd (upd (upd (upd env 18 (.one (.ptr sb 0))) 19 (.one c)) 20 (.one (.sc (.int .i64 d)))) 6 (.one (.sc (.int .i64 d))), ?_, upd_same _ _ _, fun t h1 h2 h3 h4 => by rw [upd_ne _ _ h4, upd_ne _ _ h3, upd_ne _ _ h2, upd_ne _ _ h1]⟩
  simp only [r53_5, evalOps, wantedS, putE, evalOp, evO, h5, Nat.add_zero, upd_same, hb, hc, evOs, hd]
theorem ev6 {d : Int} (h6 : env 6 = .one (.sc (.int .i64 d))) :
    ∃ e, evalOps call r53_6 env m n = some (e, m, n) ∧ e 22 = .one (.sc (.bool (decide (0 < d)))) ∧ ∀ t, t ≠ 21 → t ≠ 22 → e t = env t := by
  refine ⟨upd (upd env 21 (.one (.sc (.int .i64 d)))) 22 (.one (.sc (.bool (decide (d > 0))))), ?_, upd_same _ _ _, fun t h1 h2 => by rw [upd_ne _ _ h2, upd_ne _ _ h1]⟩
  simp only [r53_6, evalOps, wantedS, putE, evalOp, evO, h6, upd_same, binV, if_true, Option.map_some]
theorem ev7 {d : Int} {sb fb : Nat} {q : List Cell} {m3 : Mem} (h6 : env 6 = .one (.sc (.int .i64 d))) (h5 : env 5 = .one (.ptr sb 0)) (h3 : env 3 = .one (.ptr fb 0)) (h0 : 0 < d) (hd : d ≤ 3) (hq : rd m sb (1 + (d.toNat - 1) * 2) 2 = some q) (hw : wr m fb 0 q = some m3) :
    ∃ e, evalOps call r53_7 env m n = some (e, m3, n) ∧ ∀ t, t ≠ 23 → t ≠ 24 → t ≠ 25 → t ≠ 26 → t ≠ 27 → e t = env t := by
  have hl : q.length = 2 := rd_len hq
  have w1 : IntKind.i64.wrap (d - 1) = d - 1 := wr_eq (by omega) (by omega)
  have c1 : (0 ≤ d - 1 ∧ d - 1 < ((3 : Nat) : Int)) = True := eq_true (by omega)
  have c2 : (d - 1).toNat = d.toNat - 1 := by omega
  have u5 : ∀ (e : Nat → Reg) (r : Reg) (a b : Nat), b ≠ a → upd e a r b = e b := fun e r a b h => upd_ne _ _ h
  refine ⟨upd (upd (upd (upd (upd env 23 (.one (.sc (.int .i64 d)))) 24 (.one (.sc (.int .i64 (d - 1))))) 25 (.one (.ptr sb 1))) 26 (.one (.ptr sb (1 + (d.toNat - 1) * 2)))) 27 (.agg q), ?_, fun t h1 h2 h3 h4 h5 => by rw [upd_ne _ _ h5, upd_ne _ _ h4, upd_ne _ _ h3, upd_ne _ _ h2, upd_ne _ _ h1]⟩
  simp only [r53_7, evalOps, wantedS, putE, evalOp, evO, h6, upd_same, binV, if_true, Option.map_some, w1, u5 _ _ 24 5 (by decide), u5 _ _ 23 5 (by decide), h5, Nat.zero_add, u5 _ _ 25 24 (by decide), ix, c1, c2, hq, u5 _ _ 27 3 (by decide), u5 _ _ 26 3 (by decide), u5 _ _ 25 3 (by decide), u5 _ _ 24 3 (by decide), u5 _ _ 23 3 (by decide), h3, Reg.cs?, hl, hw]
theorem ev8 {i : Nat} (hi : i < 4294967296) (h9 : env 9 = .one (.sc (.int .i64 i))) :
    ∃ e, evalOps call r53_8 env m n = some (e, m, n) ∧ e 9 = .one (.sc (.int .i64 ((i + 1 : Nat) : Int))) ∧ ∀ t, t ≠ 28 → t ≠ 9 → e t = env t := by
  have w1 : IntKind.i64.wrap ((i : Int) + 1) = ((i + 1 : Nat) : Int) := wr_nat (by omega)
  refine ⟨upd (upd env 28 (.one (.sc (.int .i64 ((i + 1 : Nat) : Int))))) 9 (.one (.sc (.int .i64 ((i + 1 : Nat) : Int)))), ?_, upd_same _ _ _, fun t h1 h2 => by rw [upd_ne _ _ h2, upd_ne _ _ h1]⟩
  simp only [r53_8, evalOps, wantedS, putE, evalOp, evO, h9, upd_same, binV, if_true, Option.map_some, w1]
end

section
variable {call : Callf}
theorem regS {F : Fence} [Wide F] {nf : Nat} (hcall : CallOK Tryd.prog 1 call) {ops : Array Oper} {ss : List SOper} {env env' : Nat → Reg} {m m' : Mem} {n n' id : Nat} {ρ : Loc} {a : Act} {w : World} {Q : Exit → Act → World → Prop} (hs : slimOpers Tryd.prog 1 mdA ops ops.toList = some ss) (hN : dstsOk 29 ss = true) (hG : Good 29 1 ρ n w env m a)
    (hev : evalOps call ss env m n = some (env', m', n')) (hQ : ∀ ρ' a' w', Step ρ n w m ρ' n' w' m' → Good 29 1 ρ' n' w' env' m' a' → a'.defers = a.defers → Q .normal a' w') : (Code.region id ops false).wpIn F nf Tryd.prog Q a w :=
  region_sound (dis := []) (cl := []) hcall mixedW hs hN (fun h => by cases h) hG hev (fun h => by cases h) hQ

/-- The record while a round may begin. -/
def recW (fn : FuncId) (tmps : Array Value) (p1 p2 D : Nat) (asg body : Code) (st : LoopState) : Loop := { state := st, pending := none, fn, tmps, params := #[p1, p2], assign := asg, body, defers := D }

set_option maxHeartbeats 4000000 in
/-- The region with the call of yield. -/
theorem yield_sound {nf : Nat} (hcall : CallOK Tryd.prog 1 call) {K N : Nat} {p1 p2 l D : Nat} {fn : FuncId} {asg body : Code} {a b : SC} (hp1 : p1 < N) (hp2 : p2 < N)
    (hA : ∀ l, Sound Tryd.prog 1 N call K (Fence.wide.inRound l) asg a) (hB : ∀ l, Sound Tryd.prog 1 N call K (Fence.wide.inRound l) body b)
    {o4 : Array Oper} (hs4 : slimOpers Tryd.prog 1 mdA o4 o4.toList = some r53_4) {oy : Oper} {ts : Array TypeId} (ho : o4[3]? = some oy) (hgd : oy.guard = none) (hdst : oy.dst = some 16) (hop : oy.op = .call { callee := .value (.tmp 13), args := #[.tmp 14, .tmp 15], argTypes := ts })
    {env e0 : Nat → Reg} {m m1 : Mem} {n n1 fb sb : Nat} {fr cs : List Cell} {ρ : Loc} {act a2 : Act} {w : World} {Q : Exit → Act → World → Prop} (hG : Good 29 1 ρ n w env m a2) (hE : ERel ρ n w e0 act) (hsz : act.tmps.size = N) (hd2 : a2.defers = [])
    (h0 : env 0 = .one (.sc (.func (.yield l) #[] #[]))) (h3 : env 3 = .one (.ptr fb 0)) (h5 : env 5 = .one (.ptr sb 0)) (hfr : rd m fb 0 2 = some fr) (hcs : rd m sb 0 7 = some cs)
    (hwB : walkB (exec call K a) (exec call K b) e0 p1 p2 fr cs m n = some (m1, n1)) (hl : w.heap[l]? = some (.loop (recW fn act.tmps p1 p2 D asg body .ready))) (hno : ¬ Own ρ m l)
    (hQ : ∀ ρ' env' a' w', Step ρ n w m ρ' n1 w' m1 → Good 29 1 ρ' n1 w' env' m1 a' → a'.defers = [] → env' 17 = .one (.sc (.bool false)) → (∀ t, t < 13 → env' t = env t) → Q .normal a' w') : (Code.region 4 o4 false).wpIn Fence.wide nf Tryd.prog Q a2 w := by
  obtain ⟨hlen, hg⟩ := slimOpers_get hs4
  have hM : ∀ (i : Nat) (so : SOper), r53_4[i]? = some so → Matches Tryd.prog 1 29 mdA o4 i so := fun i so hi => by
    obtain ⟨o, h1, h2⟩ := hg i so hi
    exact ⟨o, by simpa using h1, h2, fun dd hdd => dstsOk_get (N := 29) (by decide) i so hi dd hdd⟩
  have hsize : o4.size = 5 := by rw [← Array.length_toList]; exact hlen.symm
  refine wpIn_region ?_
  rw [hsize, show List.range 5 = [0, 1, 2, 3, 4] from rfl, wpOpsIn_cons]
  refine wpOp_sound hcall (hM 0 _ rfl) hG (r := .one (.sc (.func (.yield l) #[] #[]))) (m' := m) (n' := n) (by simp only [wantedS, evalOp, evO, h0]) (fun v0 ρ0 w0 st0 hv0 => ?_)
  have hG0 := hG.step st0 (dst := some 13) hv0 (fun d h => by cases h; decide)
  rw [wpOpsIn_cons]
  refine wpOp_sound hcall (hM 1 _ rfl) hG0 (r := .agg fr) (m' := m) (n' := n) (by simp only [wantedS, evalOp, evO, putE, upd_ne _ _ (show (3 : Nat) ≠ 13 by decide), h3, hfr, Option.map_some]) (fun v1 ρ1 w1 st1 hv1 => ?_)
  have hG1 := hG0.step st1 (dst := some 14) hv1 (fun d h => by cases h; decide)
  rw [wpOpsIn_cons]
  refine wpOp_sound hcall (hM 2 _ rfl) hG1 (r := .agg cs) (m' := m) (n' := n) (by simp only [wantedS, evalOp, evO, putE, upd_ne _ _ (show (5 : Nat) ≠ 13 by decide), upd_ne _ _ (show (5 : Nat) ≠ 14 by decide), h5, hcs, Option.map_some]) (fun v2 ρ2 w2 st2 hv2 => ?_)
  have hG2 := hG1.step st2 (dst := some 15) hv2 (fun d h => by cases h; decide)
  have st02 := (st0.trans st1).trans st2
  rw [wpOpsIn_cons]
  obtain ⟨a3, ha3⟩ : ∃ a3, a3 = ((a2.put (some 13) v0).put (some 14) v1).put (some 15) v2 := ⟨_, rfl⟩
  have hd3 : a3.defers = [] := by rw [ha3, Act.defers_put, Act.defers_put, Act.defers_put, hd2]
  change Good 29 1 ρ2 n w2 _ m (((a2.put (some 13) v0).put (some 14) v1).put (some 15) v2) at hG2
  change wpOpIn Fence.wide nf Tryd.prog o4 Q 3 _ (((a2.put (some 13) v0).put (some 14) v1).put (some 15) v2) w2
  rw [← ha3] at hG2 ⊢
  have hl2 : w2.heap[l]? = some (.loop (recW fn act.tmps p1 p2 D asg body .ready)) := by rw [st02.fr.block l (Array.getElem?_eq_some_iff.1 hl).1 hno]; exact hl
  have hno2 : ¬ Own ρ2 m l := fun h => hno (st02.own l (Array.getElem?_eq_some_iff.1 hl).1 h)
  have e13 : a3.tmps.getD 13 undef = .func (.yield l) #[] #[] := by
    have := hG2.env 13
    exact sc_inv this
  obtain ⟨u14, e14⟩ : ∃ u, a3.tmps.getD 14 undef = u := ⟨_, rfl⟩
  obtain ⟨u15, e15⟩ : ∃ u, a3.tmps.getD 15 undef = u := ⟨_, rfl⟩
  have r14 : RRel ρ2 n w2 (.agg fr) u14 := by rw [← e14]; exact hG2.env 14
  have r15 : RRel ρ2 n w2 (.agg cs) u15 := by rw [← e15]; exact hG2.env 15
  have hrun : (execOp a3.eval oy).run Tryd.prog w2 = .ok (.round l fn ((act.tmps.setIfInBounds p1 u14).setIfInBounds p2 u15) asg body) w2 := by
    have hy := run_yield (P := Tryd.prog) (args := #[u14, u15]) hl2 rfl
    have hy' : (Instr.yield l #[u14, u15]).run Tryd.prog w2 = .ok (.round l fn ((act.tmps.setIfInBounds p1 u14).setIfInBounds p2 u15) asg body) w2 := by simpa [recW] using hy
    have x13 : a3.eval (.tmp 13) = .func (.yield l) #[] #[] := e13
    have x14 : a3.eval (.tmp 14) = u14 := e14
    have x15 : a3.eval (.tmp 15) = u15 := e15
    simp [execOp, hop, resolve, Deferred.ofValue, invoke, x13, x14, x15, hy']
  unfold wpOpIn
  simp only [ho]
  rw [show Region.wanted oy (yielded o4 a3.tmps) = true by unfold Region.wanted; rw [hgd]]
  simp only [if_true]
  refine ⟨fun f _ => Wide.fn f, ?_⟩
  rw [Oper.semAt_eq _ a3.eval oy (fun c' e => by rw [hop] at e; cases e), hrun, Oper.uponIn_round]
  refine ⟨fun h => (by cases h), roundIn_of_wpIn (F := Fence.wide) trivial ?_⟩
  -- the round
  unfold walkB at hwB
  split at hwB
  case h_2 => cases hwB
  rename_i s1 hx1
  split at hwB
  case h_2 => cases hwB
  rename_i s2 hx2
  cases hwB
  have hEr : ERel ρ2 n w2 (upd (upd e0 p1 (.agg fr)) p2 (.agg cs)) { tmps := (act.tmps.setIfInBounds p1 u14).setIfInBounds p2 u15, defers := [] } := by
    have hE2 := hE.mono st02.le
    have q1 : ERel ρ2 n w2 (putE e0 (some p1) (.agg fr)) (act.put (some p1) u14) := hE2.put r14 (fun d h => by cases h; rw [hsz]; exact hp1)
    have q2 := q1.put (dst := some p2) r15 (fun d h => by cases h; rw [Act.size_put, hsz]; exact hp2)
    exact q2
  have hGr : Good N 1 ρ2 n w2 (upd (upd e0 p1 (.agg fr)) p2 (.agg cs)) m { tmps := (act.tmps.setIfInBounds p1 u14).setIfInBounds p2 u15, defers := [] } := ⟨hG2.mem, hG2.glob, hEr, by simp [hsz]⟩
  refine hA l (nf - 1) _ s1 .n hx1 ρ2 _ w2 _ w2.heap.size hGr (DOk.nil (Nat.le_refl _)) (fun ρ3 a4 w3 st3 hG3 hD3 => ?_)
  have hl3 : w3.heap[l]? = some (.loop (recW fn act.tmps p1 p2 D asg body .ready)) := by rw [st3.fr.block l (Array.getElem?_eq_some_iff.1 hl2).1 hno2]; exact hl2
  have hno3 : ¬ Own ρ3 s1.m l := fun h => hno2 (st3.own l (Array.getElem?_eq_some_iff.1 hl2).1 h)
  refine ⟨_, run_beginRound hl3 rfl, ?_⟩
  obtain ⟨w4, hw4⟩ : ∃ w4, w4 = w3.putObj l (.loop { recW fn act.tmps p1 p2 D asg body .ready with state := .busy }) := ⟨_, rfl⟩
  rw [← hw4]
  have hL4 : Le ρ3 s1.n w3 ρ3 s1.n w4 := by rw [hw4]; exact Le.put hl3 rfl rfl
  have hG4 : Good N 1 ρ3 s1.n w4 s1.e s1.m a4 := ⟨by rw [hw4]; exact hG3.mem.put hl3 rfl rfl, hG3.glob, hG3.env.mono hL4, hG3.size⟩
  refine hB l (nf - 1) s1 s2 .n hx2 ρ3 a4 w4 _ w2.heap.size hG4 (by rw [hw4]; exact hD3.put hl3 _) (fun ρ4 a5 w5 st4 hG5 _ => ?_)
  have hlt3 := (Array.getElem?_eq_some_iff.1 hl3).1
  have hl5 : w5.heap[l]? = some (.loop { recW fn act.tmps p1 p2 D asg body .ready with state := .busy }) := by
    rw [st4.fr.block l (by rw [hw4, World.putObj_size]; exact hlt3) hno3, hw4]
    exact World.putObj_heap_same hlt3
  refine ⟨_, _, run_endRound none hl5, ?_⟩
  have stR : Step ρ3 s1.n w3 s1.m ρ4 s2.n (w5.putObj l (.loop (recW fn act.tmps p1 p2 D asg body .ready))) s2.m := Step.round (w2 := w3) hG3.mem hl3 rfl (o' := .loop { recW fn act.tmps p1 p2 D asg body .ready with state := .busy }) rfl hno3 (by rw [← hw4]; exact st4)
  have stA := st3.trans stR
  change wpOpsIn Fence.wide nf Tryd.prog o4 Q [4] (a3.put oy.dst (.bool true)) (w5.putObj l (.loop (recW fn act.tmps p1 p2 D asg body .ready)))
  rw [hdst, wpOpsIn_cons]
  have hG6 := hG2.step stA (dst := some 16) (r := .one (.sc (.bool true))) (v := .bool true) (by simp [RRel, CRel, Value.oneCell']) (fun d h => by cases h; decide)
  refine wpOp_sound hcall (hM 4 _ rfl) hG6 (r := .one (.sc (.bool false))) (m' := s2.m) (n' := s2.n) (by simp only [wantedS, evalOp, evO, putE, upd_same, unV, Option.map_some, Bool.not_true]) (fun v7 ρ7 w7 st7 hv7 => ?_)
  have hG7 := hG6.step st7 (dst := some 17) hv7 (fun d h => by cases h; decide)
  refine hQ ρ7 _ _ w7 ((st02.trans stA).trans st7) hG7 (by rw [Act.defers_put, Act.defers_put, hd3]) (upd_same _ _ _) (fun t ht => ?_)
  simp only [putE]
  rw [upd_ne _ _ (by omega), upd_ne _ _ (by omega), upd_ne _ _ (by omega), upd_ne _ _ (by omega), upd_ne _ _ (by omega)]

theorem walkGo_fr {nd fb id off : Nat} {B : List Cell → List Cell → Mem → Nat → Option (Mem × Nat)} {k i : Nat} {m : Mem} {n : Nat} {x : Mem × Nat} (h : walkGo call nd B fb id off (k + 1) i m n = some x) :
    ∃ cs fr m1 n1 c d, rd m id (off + i * 7) 7 = some cs ∧ rd m fb 0 2 = some fr ∧ B fr cs (upd m n (some ⟨cs, true⟩)) (n + 1) = some (m1, n1) ∧ (m1 n).bind (·.cells[0]?) = some c ∧ (∃ x y, doCall call .t nd [.one c] m1 n1 = some (.one (.sc (.int .i64 d)), x, y)) ∧
      ((¬ 0 < d ∧ walkGo call nd B fb id off k (i + 1) m1 n1 = some x) ∨ (0 < d ∧ d ≤ 3 ∧ ∃ q m3, rd m1 n (1 + (d.toNat - 1) * 2) 2 = some q ∧ wr m1 fb 0 q = some m3 ∧ walkGo call nd B fb id off k (i + 1) m3 n1 = some x)) := by
  simp only [walkGo] at h
  split at h
  case h_2 => cases h
  rename_i cs fr h1 h2
  split at h
  case h_2 => cases h
  rename_i m1 n1 h3
  split at h
  case h_2 => cases h
  rename_i c h4
  split at h
  case h_2 => cases h
  rename_i d y z h5
  refine ⟨cs, fr, m1, n1, c, d, h1, h2, h3, h4, ⟨y, z, h5⟩, ?_⟩
  split at h
  · rename_i hd
    split at h
    case isFalse => cases h
    rename_i hd3
    split at h
    case h_2 => cases h
    rename_i q h6
    split at h
    case h_2 => cases h
    rename_i m3 h7
    exact Or.inr ⟨hd, hd3, q, m3, h6, h7, h⟩
  · rename_i hd
    exact Or.inl ⟨hd, h⟩

set_option maxHeartbeats 4000000 in
theorem walk_rounds {nf : Nat} (hcall : CallOK Tryd.prog 1 call) {K N : Nat} {p1 p2 l D : Nat} {fn : FuncId} {asg body : Code} {a b : SC} (hp1 : p1 < N) (hp2 : p2 < N)
    (hA : ∀ l, Sound Tryd.prog 1 N call K (Fence.wide.inRound l) asg a) (hB : ∀ l, Sound Tryd.prog 1 N call K (Fence.wide.inRound l) body b)
    {o2 o3 o4 o5 o6 o7 o8 : Array Oper} (hs2 : slimOpers Tryd.prog 1 mdA o2 o2.toList = some r53_2) (hs3 : slimOpers Tryd.prog 1 mdA o3 o3.toList = some r53_3) (hs4 : slimOpers Tryd.prog 1 mdA o4 o4.toList = some r53_4) (hs5 : slimOpers Tryd.prog 1 mdA o5 o5.toList = some r53_5) (hs6 : slimOpers Tryd.prog 1 mdA o6 o6.toList = some r53_6) (hs7 : slimOpers Tryd.prog 1 mdA o7 o7.toList = some r53_7) (hs8 : slimOpers Tryd.prog 1 mdA o8 o8.toList = some r53_8)
    {oy : Oper} {ts : Array TypeId} (ho : o4[3]? = some oy) (hgd : oy.guard = none) (hdst : oy.dst = some 16) (hop : oy.op = .call { callee := .value (.tmp 13), args := #[.tmp 14, .tmp 15], argTypes := ts })
    {e0 : Nat → Reg} {fb id off len : Nat} {c : Cell} (hsl : segsOf c = some (id, off, len)) {act : Act} (hsz : act.tmps.size = N) {m' : Mem} {n' : Nat} {Q : Exit → Act → World → Prop} :
    ∀ (k i : Nat) (env : Nat → Reg) (m : Mem) (n : Nat) (ρ : Loc) (a2 : Act) (w : World), i + k = len → walkGo call 15 (walkB (exec call K a) (exec call K b) e0 p1 p2) fb id off k i m n = some (m', n') →
      Good 29 1 ρ n w env m a2 → ERel ρ n w e0 act → a2.defers = [] → env 0 = .one (.sc (.func (.yield l) #[] #[])) → env 3 = .one (.ptr fb 0) → env 7 = .one c → env 8 = .one (.sc (.int .i64 len)) → env 9 = .one (.sc (.int .i64 i)) →
      w.heap[l]? = some (.loop (recW fn act.tmps p1 p2 D asg body .ready)) → ¬ Own ρ m l →
      (∀ ρ' env' a' w', Step ρ n w m ρ' n' w' m' → Good 29 1 ρ' n' w' env' m' a' → a'.defers = [] → Q (.exit 0) a' w') →
      Code.roundsIn Fence.wide nf Tryd.prog ((Code.region 2 o2 false).seq ((Code.cond (.tmp 10) Code.skip (Code.exit 0)).seq ((Code.block 1 ((Code.region 3 o3 false).seq
  (((Code.region 4 o4 false).seq (Code.cond (.tmp 17) Code.ret Code.skip)).seq ((Code.region 5 o5 false).seq ((Code.region 6 o6 false).seq (Code.cond (.tmp 22) (Code.region 7 o7 false) Code.skip)))))).seq (Code.region 8 o8 false)))) Q (k + 1) a2 w := by
  intro k
  induction k with
  | zero =>
    intro i env m n ρ a2 w hik hgo hG hE hd h0 h3 h7 h8 h9 hl hno hQ
    cases hgo
    rw [roundsIn_succ]
    refine wpIn_seq (regS hcall hs2 (by decide) hG (ev2 h9 h8) (fun ρ1 a1 w1 st1 hG1 hd1 => ?_))
    have hv := hG1.env 10
    rw [upd_same] at hv
    have hv := sc_inv hv
    refine wpIn_seq (wpIn_cond (c := .tmp 10) (t := false) ?_ ?_)
    · show a1.tmps.getD 10 undef = _
      rw [hv]
      simp only [Value.bool.injEq, decide_eq_false_iff_not]
      omega
    · exact wpIn_exit (hQ ρ1 _ a1 w1 st1 hG1 (hd1.trans hd))
  | succ k ih =>
    intro i env m n ρ a2 w hik hgo hG hE hd h0 h3 h7 h8 h9 hl hno hQ
    obtain ⟨cs, fr, m1, n1, cc, d, hcs, hfr, hwB, hcc, hnd, hgo2⟩ := walkGo_fr hgo
    obtain ⟨cap, rfl, hlen⟩ : ∃ cap, c = .sl id off len cap 7 ∧ len ≤ 4294967296 := by
      unfold segsOf at hsl
      split at hsl
      · cases hsl; omega
      · split at hsl
        · rename_i hle
          cases hsl
          exact ⟨_, rfl, hle⟩
        · cases hsl
      · cases hsl
    rw [roundsIn_succ]
    refine wpIn_seq (regS hcall hs2 (by decide) hG (ev2 h9 h8) (fun ρ1 a1 w1 st1 hG1 hd1 => ?_))
    have hv := hG1.env 10
    rw [upd_same] at hv
    have hv := sc_inv hv
    refine wpIn_seq (wpIn_cond (c := .tmp 10) (t := true) ?_ ?_)
    · show a1.tmps.getD 10 undef = _
      rw [hv]
      simp only [Value.bool.injEq, decide_eq_true_eq]
      omega
    refine wpIn_skip ?_
    refine wpIn_seq (wpIn_block ?_)
    have hid : id < n := by
      unfold rd at hcs
      split at hcs
      · rename_i bb hbb; exact hG.mem.lt id bb hbb
      · cases hcs
    have hfb : fb < n := by
      unfold rd at hfr
      split at hfr
      · rename_i bb hbb; exact hG.mem.lt fb bb hbb
      · cases hfr
    have g9 : upd env 10 (.one (.sc (.bool (decide ((i : Int) < len))))) 9 = .one (.sc (.int .i64 i)) := by rw [upd_ne _ _ (by decide)]; exact h9
    have g7 : upd env 10 (.one (.sc (.bool (decide ((i : Int) < len))))) 7 = .one (.sl id off len cap 7) := by rw [upd_ne _ _ (by decide)]; exact h7
    obtain ⟨e3, hev3, h35, hk3⟩ := ev3 (call := call) (m := m) (n := n) g9 g7 (by omega) hcs hid (rd_len hcs)
    refine wpIn_seq (regS hcall hs3 (by decide) hG1 hev3 (fun ρ2 a3 w2 st2 hG2 hd2 => ?_))
    have st12 := st1.trans st2
    have hlt := (Array.getElem?_eq_some_iff.1 hl).1
    have hl2 : w2.heap[l]? = some (.loop (recW fn act.tmps p1 p2 D asg body .ready)) := by rw [st12.fr.block l hlt hno]; exact hl
    have hno2 : ¬ Own ρ2 (upd m n (some ⟨cs, true⟩)) l := fun h => hno (st12.own l hlt h)
    have hfr2 : rd (upd m n (some ⟨cs, true⟩)) fb 0 2 = some fr := by rw [rd_upd, if_neg (by omega)]; exact hfr
    have hcs2 : rd (upd m n (some ⟨cs, true⟩)) n 0 7 = some cs := by
      rw [rd_upd, if_pos rfl]
      have h7' := rd_len hcs
      unfold rdB
      simp only [h7', Nat.zero_add, Nat.le_refl, if_true, List.drop_zero]
      rw [List.take_of_length_le (by omega)]
    refine wpIn_seq (wpIn_seq ?_)
    refine yield_sound hcall hp1 hp2 hA hB hs4 ho hgd hdst hop hG2 (hE.mono st12.le) hsz (by rw [hd2, hd1, hd]) (by rw [hk3 0 (by decide) (by decide) (by decide), upd_ne _ _ (by decide)]; exact h0) (by rw [hk3 3 (by decide) (by decide) (by decide), upd_ne _ _ (by decide)]; exact h3) h35 hfr2 hcs2 hwB hl2 hno2
      (fun ρ3 e4 a4 w3 st3 hG3 hd3 h17 hk4 => ?_)
    have hv17 := hG3.env 17
    rw [h17] at hv17
    have hv17 := sc_inv hv17
    refine wpIn_cond (c := .tmp 17) (t := false) (show a4.tmps.getD 17 undef = _ from hv17) ?_
    refine wpIn_skip ?_
    obtain ⟨bb, hbb, hbc⟩ := Option.bind_eq_some_iff.1 hcc
    obtain ⟨e5, hev5, h56, hk5⟩ := ev5 (call := call) (env := e4) (m := m1) (n := n1) (by rw [hk4 5 (by decide)]; exact h35) hbb hbc hnd
    refine wpIn_seq (regS hcall hs5 (by decide) hG3 hev5 (fun ρ4 a5 w4 st4 hG4 hd4 => ?_))
    obtain ⟨e6, hev6, h622, hk6⟩ := ev6 (call := call) (env := e5) (m := m1) (n := n1) h56
    refine wpIn_seq (regS hcall hs6 (by decide) hG4 hev6 (fun ρ5 a6 w5 st5 hG5 hd5 => ?_))
    have hv22 := hG5.env 22
    rw [h622] at hv22
    have hv22 := sc_inv hv22
    have st15 := ((st12.trans st3).trans st4).trans st5
    have hdf : a6.defers = [] := by rw [hd5, hd4, hd3]
    have keep : ∀ t, t ∈ [0, 3, 7, 8, 9] → e6 t = env t := by
      intro t ht
      simp only [List.mem_cons, List.mem_nil_iff, or_false] at ht
      rw [hk6 t (by omega) (by omega), hk5 t (by omega) (by omega) (by omega) (by omega), hk4 t (by omega), hk3 t (by omega) (by omega) (by omega), upd_ne _ _ (by omega)]
    -- the last region, and on
    have fin : ∀ (m3 : Mem) (ρ6 : Loc) (e7 : Nat → Reg) (a7 : Act) (w6 : World), Step ρ n w m ρ6 n1 w6 m3 → Good 29 1 ρ6 n1 w6 e7 m3 a7 → a7.defers = [] → (∀ t, t ∈ [0, 3, 7, 8, 9] → e7 t = env t) → walkGo call 15 (walkB (exec call K a) (exec call K b) e0 p1 p2) fb id off k (i + 1) m3 n1 = some (m', n') →
        (Code.region 8 o8 false).wpIn Fence.wide nf Tryd.prog (Exit.then (Code.roundsIn Fence.wide nf Tryd.prog ((Code.region 2 o2 false).seq ((Code.cond (.tmp 10) Code.skip (Code.exit 0)).seq ((Code.block 1 ((Code.region 3 o3 false).seq
  (((Code.region 4 o4 false).seq (Code.cond (.tmp 17) Code.ret Code.skip)).seq ((Code.region 5 o5 false).seq ((Code.region 6 o6 false).seq (Code.cond (.tmp 22) (Code.region 7 o7 false) Code.skip)))))).seq (Code.region 8 o8 false)))) Q (k + 1)) Q) a7 w6 := by
      intro m3 ρ6 e7 a7 w6 st6 hG6 hd6 hk7 hgo3
      obtain ⟨e8, hev8, h89, hk8⟩ := ev8 (call := call) (env := e7) (m := m3) (n := n1) (i := i) (by omega) (by rw [hk7 9 (by simp)]; exact h9)
      refine regS hcall hs8 (by decide) hG6 hev8 (fun ρ7 a8 w7 st7 hG7 hd7 => ?_)
      have st17 := st6.trans st7
      exact ih (i + 1) e8 m3 n1 ρ7 a8 w7 (by omega) hgo3 hG7 (hE.mono st17.le) (hd7.trans hd6) (by rw [hk8 0 (by decide) (by decide), hk7 0 (by simp)]; exact h0) (by rw [hk8 3 (by decide) (by decide), hk7 3 (by simp)]; exact h3) (by rw [hk8 7 (by decide) (by decide), hk7 7 (by simp)]; exact h7) (by rw [hk8 8 (by decide) (by decide), hk7 8 (by simp)]; exact h8) h89
        (by rw [st17.fr.block l hlt hno]; exact hl) (fun h => hno (st17.own l hlt h)) (fun ρ' env' a' w' q1 q2 q3 => hQ ρ' env' a' w' (st17.trans q1) q2 q3)
    rcases hgo2 with ⟨hd0, hgo3⟩ | ⟨hd0, hd3', q, m3, hq, hm3, hgo3⟩
    · refine wpIn_cond (c := .tmp 22) (t := false) (show a6.tmps.getD 22 undef = _ by rw [hv22]; simp only [Value.bool.injEq, decide_eq_false_iff_not]; exact hd0) ?_
      exact wpIn_skip (fin m1 ρ5 e6 a6 w5 st15 hG5 hdf keep hgo3)
    · refine wpIn_cond (c := .tmp 22) (t := true) (show a6.tmps.getD 22 undef = _ by rw [hv22]; simp only [Value.bool.injEq, decide_eq_true_eq]; exact hd0) ?_
      obtain ⟨e7, hev7, hk7⟩ := ev7 (call := call) (env := e6) (m := m1) (n := n1) (d := d) (sb := n) (fb := fb) (by rw [hk6 6 (by decide) (by decide)]; exact h56) (by rw [hk6 5 (by decide) (by decide), hk5 5 (by decide) (by decide) (by decide) (by decide), hk4 5 (by decide)]; exact h35) (by rw [keep 3 (by simp)]; exact h3) hd0 hd3' hq hm3
      refine regS hcall hs7 (by decide) hG5 hev7 (fun ρ6 a7 w6 st6 hG6 hd6 => ?_)
      exact fin m3 ρ6 e7 a7 w6 (st15.trans st6) hG6 (hd6.trans hdf) (fun t ht => by
        rw [← keep t ht]
        simp only [List.mem_cons, List.mem_nil_iff, or_false] at ht
        exact hk7 t (by omega) (by omega) (by omega) (by omega) (by omega)) hgo3
end

theorem inv_fn {P : Program} {f : Nat} {fn : Func} {cap args : Array Value} (h1 : P.funcs[f]? = some fn) (h2 : fn.body.isSome = true) (h3 : (fn.name == "runtime.NumGoroutine") = false) (w : World) : (invoke (.fn (.func f) cap) args).run P w = .ok (.enter f (args ++ cap)) w := by
  have := run_callFunc (args := args ++ cap) h1 h2 h3 w
  simpa [invoke] using this
theorem res_fn {P : Program} {f : Nat} {cap : Array Value} {g : Operand} {a : Act} {l : Nat} (h : a.eval g = .func (.func f) #[] cap) (w : World) : (resolve a.eval (rangeCall g l) 0).run P w = .ok { target := .fn (.func f) cap, args := #[.func (.yield l) #[] #[]] } w := by
  unfold resolve rangeCall
  simp only [h]
  simp [Deferred.ofValue, Act.eval]
theorem good_walk {ρ : Loc} {n bx l : Nat} {w : World} {m : Mem} {v1 : Value} (hm : MRel ρ n w m) (hg : Glob 1 ρ n) (hv : CRel ρ n w (.ptr bx 0) v1) :
    Good 29 1 ρ n w (fun t => ([.one (.sc (.func (.yield l) #[] #[])), .one (.ptr bx 0)] : List Reg).getD t (.tup [])) m { tmps := #[.func (.yield l) #[] #[], v1] ++ Array.replicate 27 undef, defers := [] } := by
  refine ⟨hm, hg, fun t => ?_, by simp⟩
  match t with
  | 0 =>
    have e0 : (#[Value.func (.yield l) #[] #[], v1] ++ Array.replicate 27 undef).getD 0 undef = .func (.yield l) #[] #[] := by
      simp only [Array.getD_eq_getD_getElem?]
      rw [Array.getElem?_append_left (by simp)]
      rfl
    show RRel ρ n w (.one (.sc (.func (.yield l) #[] #[]))) _
    rw [e0]
    simp [RRel, CRel, Value.oneCell']
  | 1 =>
    have e1 : (#[Value.func (.yield l) #[] #[], v1] ++ Array.replicate 27 undef).getD 1 undef = v1 := by
      simp only [Array.getD_eq_getD_getElem?]
      rw [Array.getElem?_append_left (by simp)]
      rfl
    show RRel ρ n w (.one (.ptr bx 0)) _
    rw [e1]
    simpa only [RRel] using hv
  | t + 2 =>
    have e2 : (#[Value.func (.yield l) #[] #[], v1] ++ Array.replicate 27 undef).getD (t + 2) undef = undef := by
      simp only [Array.getD_eq_getD_getElem?]
      rw [Array.getElem?_append_right (by simp), Array.getElem?_replicate]
      split <;> rfl
    show RRel ρ n w (.tup []) _
    rw [e2]
    exact undef_rel
theorem results_none {fn : Func} (h : fn.results = #[]) (tmps : Array Value) (P : Program) (w : World) : (results fn tmps).run P w = .ok (.tuple #[]) w := by
  rw [results_eq, h]
  simp

set_option maxHeartbeats 4000000 in
/-- The range over path.walk. -/
theorem walk_ok : WalkOK Tryd.prog 1 53 15 := by
  intro call hcall K N g x p1 p2 asg body a b hg hp1 hp2 hA hB nf s s' e he ρ act w Q B hG hD hQ
  obtain ⟨fnW, o0, o1, o2, o3, o4, o5, o6, o7, o8, hfn, hbody, hnt, hres, hname, hs0, hs1, hs2, hs3, hs4, hs5, hs6, hs7, hs8, oy, ty, ts, ho, hgd, hdst, _, hop⟩ := code_walk
  simp only [exec] at he
  split at he
  case h_2 => cases he
  rename_i f bx hx
  split at he
  case isFalse => cases he
  rename_i hf
  subst hf
  split at he
  case h_2 => cases he
  rename_i c hc
  split at he
  case h_2 => cases he
  rename_i id off len hsl
  split at he
  case h_2 => cases he
  rename_i m' n' hgo
  cases he
  obtain ⟨blk, hblk, hbc⟩ := Option.bind_eq_some_iff.1 hc
  have hbx : bx < s.n := hG.mem.lt bx blk hblk
  have hv := evO_rel hg hG.glob hG.env
  rw [hx] at hv
  obtain ⟨vs, hv1, hv2⟩ : ∃ vs : List Value, act.eval g = .func (.func 53) #[] vs.toArray ∧ CRels ρ s.n w [.ptr bx 0] vs := by simpa only [RRel, CRel] using hv
  obtain ⟨v1, rfl, hv3⟩ : ∃ v1, vs = [v1] ∧ CRel ρ s.n w (.ptr bx 0) v1 := by
    simp only [CRels] at hv2
    obtain ⟨v, r, h1, h2, h3⟩ := hv2
    exact ⟨v, by rw [h1, h3], h2⟩
  refine wpIn_rangeFunc ?_
  intro fn _
  obtain ⟨l, hl⟩ : ∃ l, l = w.heap.size + 1 := ⟨_, rfl⟩
  obtain ⟨rec, hrec⟩ : ∃ rec, rec = recW fn act.tmps p1 p2 w.heap.size asg body .ready := ⟨_, rfl⟩
  obtain ⟨W1, hW1⟩ : ∃ W1, W1 = (w.alloc (.deferred (some []))).alloc (.loop rec) := ⟨_, rfl⟩
  have stD := Step.lay hG.mem (.deferred (some []))
  have stL := Step.lay stD.rel (.loop rec)
  have st0 : Step ρ s.n w s.m ρ s.n W1 s.m := by rw [hW1]; exact stD.trans stL
  have hlw : W1.heap[l]? = some (.loop rec) := by
    rw [hW1, hl]
    have := World.alloc_heap_new (w.alloc (.deferred (some []))) (.loop rec)
    rwa [World.size_alloc] at this
  have hDw : W1.heap[w.heap.size]? = some (.deferred (some [])) := by
    rw [hW1]
    exact (Go.RowKit.Below.heap_alloc _ _ _ (by simp)).trans (World.alloc_heap_new w _)
  have hnoL : ∀ k, w.heap.size ≤ k → ¬ Own ρ s.m k := fun k hk ⟨i, bb, h1, _, h3⟩ => by have := hG.mem.blk i bb h1; omega
  refine ⟨l, [{ target := .collected w.heap.size, args := #[] }], W1, { target := .fn (.func 53) #[v1], args := #[.func (.yield l) #[] #[]] }, W1, 53,
    #[.func (.yield l) #[] #[], v1], W1, ?_, res_fn hv1 W1, fun _ _ => trivial, inv_fn hfn (by rw [hbody]; rfl) hname W1, fun h => (by cases h), ?_⟩
  · rw [hW1, hl, hrec]; exact run_enterLoop_outer _ _ _ _ _
  refine Wide.calls (calls_of_wp hfn hbody (wpIn_wide (n := 0).1 ?_))
  rw [hnt]
  have hG0 := good_walk (l := l) st0.rel hG.glob (CRel.mono st0.le _ _ hv3)
  obtain ⟨a0, ha0⟩ : ∃ a0 : Act, a0 = { tmps := #[.func (.yield l) #[] #[], v1] ++ Array.replicate 27 undef, defers := [] } := ⟨_, rfl⟩
  change (WCode o0 o1 o2 o3 o4 o5 o6 o7 o8).wpIn Fence.wide 0 Tryd.prog _ { tmps := #[.func (.yield l) #[] #[], v1] ++ Array.replicate 27 undef, defers := [] } W1
  rw [← ha0] at hG0 ⊢
  have hd0 : a0.defers = [] := by rw [ha0]
  clear ha0
  unfold WCode
  refine wpIn_seq (regS hcall hs0 (by decide) hG0 ev0 (fun ρ1 a1 w1 st1 hG1 hd1 => ?_))
  refine wpIn_seq (regS hcall hs1 (by decide) hG1 (ev1 (bx := bx) (b := blk) rfl (by rw [upd_ne _ _ (by omega)]; exact hblk) hbc hsl) (fun ρ2 a2 w2 st2 hG2 hd2 => ?_))
  have st02 := st0.trans (st1.trans st2)
  have st12 := st1.trans st2
  have hllt := (Array.getElem?_eq_some_iff.1 hlw).1
  refine wpIn_block (wpIn_loop_rounds (len + 1) (walk_rounds (l := l) (D := w.heap.size) (fn := fn) hcall hp1 hp2 hA hB hs2 hs3 hs4 hs5 hs6 hs7 hs8 ho hgd hdst hop hsl hG.size len 0 _ _ _ ρ2 a2 w2 (by omega) hgo hG2 (hG.env.mono st02.le) (by rw [hd2, hd1, hd0]) rfl rfl rfl rfl rfl
    (by rw [← hrec, st12.fr.block l hllt (hnoL l (by omega))]; exact hlw) (fun h => hnoL l (by omega) (st12.own l hllt h)) (fun ρ' env' a' w' st hG' hd' => ?_)))
  show bodyPost Tryd.prog fnW _ .normal a' w'
  have st1e : Step ρ s.n W1 s.m ρ' n' w' m' := st12.trans st
  have ste : Step ρ s.n w s.m ρ' n' w' m' := st0.trans st1e
  have hl' : w'.heap[l]? = some (.loop rec) := by rw [st1e.fr.block l hllt (hnoL l (by omega))]; exact hlw
  have hDlt := (Array.getElem?_eq_some_iff.1 hDw).1
  have hD' : w'.heap[w.heap.size]? = some (.deferred (some [])) := by rw [st1e.fr.block _ hDlt (hnoL _ (Nat.le_refl _))]; exact hDw
  refine ⟨hd', _, results_none hres _ _ _, ?_⟩
  have hend := run_endLoop (P := Tryd.prog) hl' (by rw [hrec]; intro h; cases h)
  have hpn : rec.pending = none := by rw [hrec]; rfl
  obtain ⟨rE, hrE⟩ : ∃ rE : Loop, rE = { rec with state := .exhausted } := ⟨_, rfl⟩
  rw [← hrE, hpn] at hend
  refine ⟨none, _, hend, ?_⟩
  have stf := ste.put (l := l) (o' := .loop rE) (by omega) hl' rfl rfl
  refine hQ ρ' _ _ stf ⟨stf.rel, hG.glob.mono stf.le, hG.env.mono stf.le, hG.size⟩ ?_
  have hDs := ((hD.step ste).put hl' (.loop rE))
  refine ⟨hDs.1, List.nodup_cons.2 ⟨fun hmem => ?_, hDs.2.1⟩, fun d hd => ?_⟩
  · obtain ⟨D, h1, _, h3, _⟩ := hD.2.2 _ hmem
    have := (Array.getElem?_eq_some_iff.1 h3).1
    simp only [Deferred.mk.injEq, Target.collected.injEq, and_true] at h1
    omega
  · rcases List.mem_cons.1 hd with rfl | hd
    · refine ⟨w.heap.size, rfl, hD.1, ?_, fun h => hnoL _ (Nat.le_refl _) (st1e.own _ hDlt h)⟩
      rw [World.putObj_heap_other (by omega)]
      exact hD'
    · exact hDs.2.2 d hd
end Go.Proofs.YtpleidpbapgmiaaDoor.Sy
