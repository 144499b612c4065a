/- Curves: is a list of points a curve? copies, comparisons. Conditions: those that each theorem names. -/
import Derived.Test.YtpleidpbapgmiaaDoorCuA
namespace Go.Proofs.YtpleidpbapgmiaaDoor.Sy.Cu
open Go Go.Proofs
set_option linter.unusedSimpArgs false
set_option linter.unusedVariables false
attribute [local go_sem] R_nil R_mv R_pick R_alloc R_box R_build R_bslice R_load1 R_loadA R_store R_nilchk R_bin R_beq R_eqv R_eqnil R_un R_conv R_mkfn R_mkslice R_slS R_slA R_fadr R_fld R_iadrA R_iadrS R_idxA R_ext R_len R_lenC R_cap R_app R_appz R_cpy R_mn R_mx
  evalOp evO evOs upd_upd upd_at unfrz_at putE_some putE_none Then_some X_seq X_reg X_dreg X_ureg X_ret X_skip X_exit X_block X_condK condK_bool Next_n Next_x Next_r Out_n Out_x Out_r Ret_n Ret_r
  bin_shr1 bin_add bin_sub bin_mul bin_lss bin_leq bin_gtr bin_geq bin_eql bin_neq un_not un_neg boolOf_b boolOf_tup R_guard Option.map_some evRes pack_one pack_two pack_three pack_none List.getD_cons_zero List.getD_cons_succ getD_nil
  Option.some.injEq exists_eq_left' Reg.cs? fillC setL List.set_cons_zero List.set_cons_succ List.length_cons List.length_nil rd_upd rdB wr List.drop_zero List.drop_succ_cons List.take_succ_cons List.take_zero List.getElem?_cons_zero List.getElem?_cons_succ
  ix Int.toNat_zero lenO_sl lenO_nil sn1 ns1 sn2 ns2 sn3 ns3 sn4 ns4 sn5 ns5 sn6 ns6 sn7 ns7 sn8 ns8 sn9 ns9 sn10 ns10 sn11 ns11 sn12 ns12 sk1_2 sk1_3 sk1_4 sk1_5 sk1_6 sk1_7 sk1_8 sk2_1 sk2_3 sk2_4 sk2_5 sk2_6 sk2_7 sk2_8 sk3_1 sk3_2 sk3_4 sk3_5 sk3_6 sk3_7 sk3_8 sk4_1 sk4_2 sk4_3 sk4_5 sk4_6 sk4_7 sk4_8 sk5_1 sk5_2 sk5_3 sk5_4 sk5_6 sk5_7 sk5_8 sk6_1 sk6_2 sk6_3 sk6_4 sk6_5 sk6_7 sk6_8 sk7_1 sk7_2 sk7_3 sk7_4 sk7_5 sk7_6 sk7_8 sk8_1 sk8_2 sk8_3 sk8_4 sk8_5 sk8_6 sk8_7

abbrev encP (l : List Pt) : List Cell := l.flatMap Pt.cs
/-- A slice of points. -/
abbrev RP (m : Mem) (n : Nat) (r : Reg) (l : List Pt) : Prop := Rd m n r (encP l) l.length 2

theorem RP.sl {m : Mem} {n : Nat} {r : Reg} {l : List Pt} {i : Nat} (h : RP m n r l) (hi : i < l.length) : ∃ id off cap, r = .one (.sl id off l.length cap 2) ∧ id < n ∧ rd m id (off + i * 2) 2 = some [I l[i].x, I l[i].y] := by
  rcases h with ⟨_, h, _⟩ | ⟨id, off, cap, h1, h2, h3⟩
  · omega
  · exact ⟨id, off, cap, h1, h2, rd_at cs2 h3 (List.getElem?_eq_getElem hi)⟩

theorem take_succ_all {l : List Pt} {i : Nat} (hi : i < l.length) {p : Pt → Bool} : (l.take (i + 1)).all p = ((l.take i).all p && p l[i]) := by
  rw [List.take_succ_eq_append_getElem hi, List.all_append]; simp
theorem all_false_of {l : List Pt} {i : Nat} (hi : i < l.length) {p : Pt → Bool} (h : p l[i] = false) : l.all p = false := by
  rw [List.all_eq_false]; exact ⟨l[i], List.getElem_mem hi, by simp [h]⟩

theorem wr_nat' {i : Nat} (h : i + 1 ≤ 9223372036854775807) : IntKind.i64.wrap ((i : Int) + 1) = ((i + 1 : Nat) : Int) := by
  rw [wr_eq (by omega) (by omega)]; rfl

end Go.Proofs.YtpleidpbapgmiaaDoor.Sy.Cu
