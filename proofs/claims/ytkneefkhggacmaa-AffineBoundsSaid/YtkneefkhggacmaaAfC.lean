/- Matrices: the law AffineBounds. Conditions: those that each theorem names. -/
import Derived.Test.YtkneefkhggacmaaAfB
import Derived.Test.YtkneefkhggacmaaCvS
import Derived.Test.YtkneefkhggacmaaSyQ
namespace Go.Proofs.Ytkneefkhggacmaa.Sy
open Go Go.Proofs
set_option linter.unusedSimpArgs false
set_option linter.unusedVariables false
attribute [local go_sem] R_nil R_mv R_pick R_alloc R_box R_build R_bslice R_load1 R_loadA R_store R_nilchk R_bin R_beq R_eqv R_eqnil R_un R_conv R_mkfn R_mkslice R_slS R_slA R_fadr R_fld R_iadrA R_iadrS R_idxA R_ext R_len R_lenC R_cap R_app R_cpy R_mn R_mx
  evalOp evO evOs upd_upd upd_at unfrz_at putE_some putE_none Then_some X_seq X_reg X_dreg X_ret X_skip X_exit X_block X_condK condK_bool Next_n Next_x Next_r Out_n Out_x Out_r Ret_n Ret_r
  bin_shr1 bin_add bin_sub bin_mul bin_lss bin_leq bin_gtr bin_geq bin_eql bin_neq un_not un_neg boolOf_b boolOf_tup R_guard Option.map_some evRes pack_one pack_two pack_three pack_none List.getD_cons_zero List.getD_cons_succ getD_nil
  Option.some.injEq exists_eq_left' Reg.cs? fillC setL List.set_cons_zero List.set_cons_succ List.length_cons List.length_nil rd_upd rdB wr List.drop_zero List.drop_succ_cons List.take_succ_cons List.take_zero List.getElem?_cons_zero List.getElem?_cons_succ
  ix Int.toNat_zero lenO_sl lenO_nil sn1 ns1 sn2 ns2 sn3 ns3 sn4 ns4 sn5 ns5 sn6 ns6 sn7 ns7 sn8 ns8 sn9 ns9 sn10 ns10 sn11 ns11 sn12 ns12 sk1_2 sk1_3 sk1_4 sk1_5 sk1_6 sk1_7 sk1_8 sk2_1 sk2_3 sk2_4 sk2_5 sk2_6 sk2_7 sk2_8 sk3_1 sk3_2 sk3_4 sk3_5 sk3_6 sk3_7 sk3_8 sk4_1 sk4_2 sk4_3 sk4_5 sk4_6 sk4_7 sk4_8 sk5_1 sk5_2 sk5_3 sk5_4 sk5_6 sk5_7 sk5_8 sk6_1 sk6_2 sk6_3 sk6_4 sk6_5 sk6_7 sk6_8 sk7_1 sk7_2 sk7_3 sk7_4 sk7_5 sk7_6 sk7_8 sk8_1 sk8_2 sk8_3 sk8_4 sk8_5 sk8_6 sk8_7

theorem join_ne {B : Bx} (h : B.emp = false) (p : Pt) : B.join p.bx = ⟨mnI B.x0 p.x, mnI B.y0 p.y, mxI B.x1 (p.x + 1), mxI B.y1 (p.y + 1)⟩ := by
  unfold Bx.join
  rw [if_neg (by simp [h]), if_neg (by simp [h]), if_neg (by simp [emp_bx])]
  rfl
theorem join_emp {B : Bx} (h : B.emp = true) (p : Pt) : B.join p.bx = p.bx := by
  simp only [Bx.join, h, emp_bx, Bool.false_eq_true, and_false, if_false, if_true]
theorem mnI_comm (a b c : Int) : mnI (mnI a b) c = mnI (mnI a c) b := by
  unfold mnI
  repeat' split
  all_goals omega
theorem mxI_comm (a b c : Int) : mxI (mxI a b) c = mxI (mxI a c) b := by
  unfold mxI
  repeat' split
  all_goals omega
theorem join_comm {B : Bx} (h : B.emp = false) (p q : Pt) : (B.join p.bx).join q.bx = (B.join q.bx).join p.bx := by
  have h1 := emp_has (join_snd B p)
  have h2 := emp_has (join_snd B q)
  rw [join_ne h1 q, join_ne h2 p, join_ne h p, join_ne h q]
  simp only [mnI_comm B.x0 q.x p.x, mnI_comm B.y0 q.y p.y, mxI_comm B.x1 (q.x + 1) (p.x + 1), mxI_comm B.y1 (q.y + 1) (p.y + 1)]
theorem bound_swap (p q r s : Pt) : bound zB [p, r, q, s] = bound zB [p, q, r, s] := by
  have h : zB.emp = true := rfl
  simp only [bound]
  rw [join_emp h, join_comm (emp_bx p) r q]

theorem between {k x lo hi : Int} (h0 : lo ≤ x) (h1 : x ≤ hi) : (k * lo ≤ k * x ∧ k * x ≤ k * hi) ∨ (k * hi ≤ k * x ∧ k * x ≤ k * lo) := by
  rcases Int.le_total 0 k with h | h
  · exact Or.inl ⟨Int.mul_le_mul_of_nonneg_left h0 h, Int.mul_le_mul_of_nonneg_left h1 h⟩
  · have a1 := Int.mul_le_mul_of_nonneg_left h0 (show 0 ≤ -k by omega)
    have a2 := Int.mul_le_mul_of_nonneg_left h1 (show 0 ≤ -k by omega)
    simp only [Int.neg_mul] at a1 a2
    exact Or.inr ⟨by omega, by omega⟩

/-- One coordinate of the image of a point of a box lies between those of the corners. -/
theorem mix_between {a c e x y x0 x1 y0 y1 lo hi : Int} (hx : x0 ≤ x ∧ x ≤ x1) (hy : y0 ≤ y ∧ y ≤ y1)
    (h0 : lo ≤ mixI a x0 c y0 + e ∧ mixI a x0 c y0 + e ≤ hi) (h1 : lo ≤ mixI a x1 c y0 + e ∧ mixI a x1 c y0 + e ≤ hi) (h2 : lo ≤ mixI a x0 c y1 + e ∧ mixI a x0 c y1 + e ≤ hi) (h3 : lo ≤ mixI a x1 c y1 + e ∧ mixI a x1 c y1 + e ≤ hi) :
    lo ≤ mixI a x c y + e ∧ mixI a x c y + e ≤ hi := by
  have b1 := between (k := a) hx.1 hx.2
  have b2 := between (k := c) hy.1 hy.2
  unfold mixI at *
  generalize a * x0 = A0 at *
  generalize a * x1 = A1 at *
  generalize a * x = A at *
  generalize c * y0 = C0 at *
  generalize c * y1 = C1 at *
  generalize c * y = C at *
  rcases b1 with b1 | b1 <;> rcases b2 with b2 | b2 <;> omega

theorem img_in {M : Mt} {b : Bx} {p q0 q1 q2 q3 : Pt} (h0 : M.app b.c0 = some q0) (h1 : M.app b.c1 = some q1) (h2 : M.app b.c2 = some q2) (h3 : M.app b.c3 = some q3) (hp : b.has p = true) :
    ∃ q, M.app p = some q ∧ (bound zB [q0, q1, q2, q3]).has q = true := by
  obtain ⟨e0, hok, r0, i0⟩ := app_some h0
  obtain ⟨e1, _, r1, i1⟩ := app_some h1
  obtain ⟨e2, _, r2, i2⟩ := app_some h2
  obtain ⟨e3, _, r3, i3⟩ := app_some h3
  have k0 := bound_has [q0, q1, q2, q3] zB q0 (by simp)
  have k1 := bound_has [q0, q1, q2, q3] zB q1 (by simp)
  have k2 := bound_has [q0, q1, q2, q3] zB q2 (by simp)
  have k3 := bound_has [q0, q1, q2, q3] zB q3 (by simp)
  generalize bound zB [q0, q1, q2, q3] = C at k0 k1 k2 k3
  subst e0 e1 e2 e3
  rw [has_iff] at hp k0 k1 k2 k3
  rw [inP_iff] at r0 r1 r2 r3 i0 i1 i2 i3
  simp only [Bx.c0, Bx.c1, Bx.c2, Bx.c3, Mt.img] at *
  have hx : b.x0 ≤ p.x ∧ p.x ≤ b.x1 - 1 := by omega
  have hy : b.y0 ≤ p.y ∧ p.y ≤ b.y1 - 1 := by omega
  have g1 := mix_between (a := M.a) (c := M.c) (e := M.e) (lo := C.x0) (hi := C.x1 - 1) hx hy (by omega) (by omega) (by omega) (by omega)
  have g2 := mix_between (a := M.b) (c := M.d) (e := M.f) (lo := C.y0) (hi := C.y1 - 1) hx hy (by omega) (by omega) (by omega) (by omega)
  have g3 := mix_between (a := M.a) (c := M.c) (e := M.e) (lo := -2147483648) (hi := 2147483648) hx hy i0.1 i1.1 i2.1 i3.1
  have g4 := mix_between (a := M.b) (c := M.d) (e := M.f) (lo := -2147483648) (hi := 2147483648) hx hy i0.2 i1.2 i2.2 i3.2
  refine ⟨M.img p, ?_, ?_⟩
  · unfold Mt.app
    rw [if_pos ⟨hok, by rw [inP_iff]; omega, by rw [inP_iff]; exact ⟨g3, g4⟩⟩]
  · rw [has_iff]
    simp only [Mt.img]
    omega
end Go.Proofs.Ytkneefkhggacmaa.Sy
