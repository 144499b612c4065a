/- Curves: lists of the reference, and what is the same. Conditions: those that each theorem names. -/
import Derived.Test.YtpleidpbapgmiaaDoorCuE
namespace Go.Proofs.YtpleidpbapgmiaaDoor.Sy.Cu
open Go Go.Proofs
set_option linter.unusedSimpArgs false
set_option linter.unusedVariables false
attribute [local go_sem] R_nil R_mv R_pick R_alloc R_box R_build R_bslice R_load1 R_loadA R_store R_nilchk R_bin R_beq R_eqv R_eqnil R_un R_conv R_mkfn R_mkslice R_slS R_slA R_fadr R_fld R_iadrA R_iadrS R_idxA R_ext R_len R_lenC R_cap R_app R_appz R_cpy R_mn R_mx
  noId Bool.false_or evalOp evO evOs upd_upd upd_at unfrz_at putE_some putE_none Then_some X_seq X_reg X_dreg X_ureg X_ret X_skip X_exit X_block X_condK condK_bool Next_n Next_x Next_r Out_n Out_x Out_r Ret_n Ret_r
  bin_shr1 bin_add bin_sub bin_mul bin_lss bin_leq bin_gtr bin_geq bin_eql bin_neq un_not un_neg boolOf_b boolOf_tup R_guard Option.map_some evRes pack_one pack_two pack_three pack_none List.getD_cons_zero List.getD_cons_succ getD_nil
  Option.some.injEq exists_eq_left' Reg.cs? fillC setL List.set_cons_zero List.set_cons_succ List.length_cons List.length_nil rd_upd rdB wr List.drop_zero List.drop_succ_cons List.take_succ_cons List.take_zero List.getElem?_cons_zero List.getElem?_cons_succ
  ix Int.toNat_zero lenO_sl lenO_nil sn1 ns1 sn2 ns2 sn3 ns3 sn4 ns4 sn5 ns5 sn6 ns6 sn7 ns7 sn8 ns8 sn9 ns9 sn10 ns10 sn11 ns11 sn12 ns12 sk1_2 sk1_3 sk1_4 sk1_5 sk1_6 sk1_7 sk1_8 sk2_1 sk2_3 sk2_4 sk2_5 sk2_6 sk2_7 sk2_8 sk3_1 sk3_2 sk3_4 sk3_5 sk3_6 sk3_7 sk3_8 sk4_1 sk4_2 sk4_3 sk4_5 sk4_6 sk4_7 sk4_8 sk5_1 sk5_2 sk5_3 sk5_4 sk5_6 sk5_7 sk5_8 sk6_1 sk6_2 sk6_3 sk6_4 sk6_5 sk6_7 sk6_8 sk7_1 sk7_2 sk7_3 sk7_4 sk7_5 sk7_6 sk7_8 sk8_1 sk8_2 sk8_3 sk8_4 sk8_5 sk8_6 sk8_7

theorem Ow.lt {base : Nat} {m : Mem} {n : Nat} {r : Reg} {cs : List Cell} {len sz i : Nat} (h : Ow base m n r cs len sz) (hi : sid r = some i) : base ≤ i ∧ i < n := by
  rcases h with ⟨h, _⟩ | ⟨j, h, h1, h2, _⟩
  · rw [h] at hi; cases hi
  · rw [h] at hi; simp only [sid, Option.some.injEq] at hi; subst hi; exact ⟨h1, h2⟩

/-- One point more on an owned list. -/
theorem push {base n N : Nat} {m M : Mem} {r : Reg} {acc : List Pt} {p : Pt} {j by' : Nat} {o : Bool} (ho : Ow base m n r (encP acc) acc.length 2) (hN : n ≤ N) (hb : base ≤ n) (hM : ∀ i, i < n → M i = m i) (hj : M j = some ⟨p.cs, o⟩) (hsm : acc.length + 1 ≤ 4294967296) :
    ∃ m', evApp M N 2 by' r (.one (.sl j 0 1 (some 1) 2)) = some (.one (.sl N 0 (acc.length + 1) none 2), m', N + 1) ∧ Ow base m' (N + 1) (.one (.sl N 0 (acc.length + 1) none 2)) (encP (acc ++ [p])) (acc ++ [p]).length 2 ∧ ∀ i, i ≠ N → sid r ≠ some i → m' i = M i := by
  have hk : Ow base M N r (encP acc) acc.length 2 := ho.keep hN (fun i hi => hM i (ho.lt hi).2)
  obtain ⟨m', h1, h2, h3⟩ := Ow.app (by' := by') hk (by omega) (show newsOf M 2 (.one (.sl j 0 1 (some 1) 2)) = some (1, p.cs) by simp [newsOf, Sy.rd, hj]) (by omega) (by omega) rfl
  refine ⟨m', h1, ?_, fun i q1 q2 => h3 i q1 (fun id hid e => q2 (by rw [hid, e]))⟩
  have e1 : encP (acc ++ [p]) = encP acc ++ p.cs := by simp [encP]
  rw [e1, List.length_append]
  exact h2

theorem RP.keep' {m m' : Mem} {n n' : Nat} {r : Reg} {l : List Pt} (h : RP m n r l) (hn : n ≤ n') (hm : ∀ id, sid r = some id → m' id = m id) : RP m' n' r l := by
  rcases h with h | ⟨id, off, cap, h1, h2, h3⟩
  · exact Or.inl h
  · refine Or.inr ⟨id, off, cap, h1, by omega, ?_⟩
    have : Sy.rd m' id off (l.length * 2) = Sy.rd m id off (l.length * 2) := by unfold Sy.rd; rw [hm id (by rw [h1]; rfl)]
    rw [this]; exact h3
theorem RP.lt {m : Mem} {n : Nat} {r : Reg} {l : List Pt} (h : RP m n r l) {i : Nat} (hi : sid r = some i) : i < n := by
  rcases h with ⟨h, _⟩ | ⟨id, off, cap, h1, h2, h3⟩
  · rw [h] at hi; cases hi
  · rw [h1] at hi; simp only [sid, Option.some.injEq] at hi; omega

end Go.Proofs.YtpleidpbapgmiaaDoor.Sy.Cu
