/- A walk through the code of layers below, or of layer 10. -/
import Derived.Test.YtadeigpphklmfaaDos
import Derived.Test.YtadeigpphklmfaaDrs
import Derived.Test.YtadeigpphklmfaaPan
import Derived.Test.YtadeigpphklmfaaA2
namespace Go.Proofs.Ytadeigpphklmfaa
open Go.RowKit Go.Eng
set_option linter.unusedVariables false
set_option linter.unusedSimpArgs false
theorem C_eqRd (w : World) (A : Option Addr) (c : Nat) (a : List Rd) (B : Option Addr) (d : Nat) (b : List Rd) (hA : Lies kRd w A a) (hB : Lies kRd w B b) (hn : a.length ≤ 9223372036854775807) :
    Calls Try.prog 73 #[.slice A a.length c, .slice B b.length d] w (Ret w (.bool (decide (a = b)))) := by
 refine c_enter (n := 26) Try.func73 rfl rfl rfl ?_
 refine c_seq (c_quiet (qv (.bool false) (fun _ x' => x_assign rfl rfl) ?_))
 refine q_nil (fun w1 x2 => t_norm (c_seq (c_seq (c_quiet (qv (.slice A a.length c) (fun _ x' => x_move rfl rfl) ?_)))))
 refine qv (iJ (a.length : Int)) (fun _ x' => x_len_slice sl_34 rfl rfl) ?_
 refine qv (.slice B b.length d) (fun _ x' => x_move rfl rfl) ?_
 refine qv (iJ (b.length : Int)) (fun _ x' => x_len_slice sl_34 rfl rfl) ?_
 refine q_bool (b := decide ((a.length : Int) ≠ (b.length : Int))) rfl rfl (fun _ x' => x_neq rfl rfl rfl) (fun c3 => ?_) (fun c3 => ?_)
 ·refine q_nil (fun w4 x5 => t_norm (c_true rfl (c_seq (c_quiet (qv (.bool false) (fun _ x' => x_assign rfl rfl) ?_)))))
  exact q_nil (fun w6 x7 => t_norm (c_ret (t_ret (c_done rfl rfl (Ret.b ((decide_eq_false (fun h => by subst h; simp at c3)).symm) ((x2.trans x5).trans x7))))))
 refine q_nil (fun w8 x9 => t_norm (c_false rfl (c_skip (t_norm (c_seq (c_seq (c_quiet (qv (.slice A a.length c) (fun _ x' => x_move rfl rfl) ?_))))))))
 refine qv (iJ (a.length : Int)) (fun _ x' => x_len_slice sl_34 rfl rfl) ?_
 refine qv (iJ 0) (fun _ x' => x_move rfl rfl) ?_
 refine q_nil (fun w10 x11 => t_norm (c_block (c_loop (fun ρ w15 => ∃ k12 : Nat, k12 ≤ a.length ∧ a.take k12 = b.take k12 ∧ ρ 0 = .slice A a.length c ∧ ρ 1 = .slice B b.length d ∧ ρ 12 = iJ (a.length : Int) ∧ ρ 13 = iJ (k12 : Int) ∧ Ext w10 w15) (fun ρ _ => a.length - (intOf (ρ 13)).toNat) ⟨0, Nat.zero_le _, rfl, rfl, rfl, rfl, rfl, Ext.refl _⟩ ?_)))
 rintro ρ w15 ⟨k12, hk13, hi14, e17, e18, e19, e20, x16⟩
 have hlen := len_eq c3
 by_cases hl21 : k12 < a.length
 ·obtain ⟨y22, hx23⟩ := some_of (l := a) (k := k12) (by omega)
  obtain ⟨ad24, cs25, eA26, hK27, hE28⟩ := hA k12 y22 hx23
  have hK27' : cs25 = [.string y22.key, iJ y22.ver.time, iJ y22.ver.client] := hK27
  subst hK27'
  obtain ⟨y30, hx31⟩ := some_of (l := b) (k := k12) (by omega)
  obtain ⟨ad32, cs33, eA34, hK35, hE36⟩ := hB k12 y30 hx31
  have hK35' : cs33 = [.string y30.key, iJ y30.ver.time, iJ y30.ver.client] := hK35
  subst hK35'
  refine c_seq (c_quiet (qv (.bool true) (fun _ x' => yb (x_lss rfl e20 e19) (decide_eq_true (by omega))) ?_))
  refine q_nil (fun w38 x39 => t_norm (c_seq (c_true rfl (c_skip (t_norm (c_seq (c_block (c_seq (c_quiet (qv (iJ (k12 : Int)) (fun _ x' => x_move rfl e20) ?_))))))))))
  refine qv (iJ (k12 : Int)) (fun _ x' => x_assign rfl rfl) ?_
  refine q_nil (fun w40 x41 => t_norm (c_seq (c_draw mixed (by kernel_rfl) (qv (.slice A a.length c) (fun _ x' => x_move rfl e17) ?_))))
  refine qv (iJ (k12 : Int)) (fun _ x' => x_move rfl rfl) ?_
  refine qv (.pointer (some (ad24.add (k12 * 3)))) (fun _ x' => x_indexAddr sl_34 rfl rfl eA26 rfl (by omega) (by omega) rfl) ?_
  refine qv (vRd y22) (fun _ x' => x_load rfl rfl ((((((((hE28.ext x2).ext x9).ext x11).ext x16).ext x39).ext x41).ext x').agg (vs := [.string y22.key, iJ y22.ver.time, iJ y22.ver.client]) agg_78_3 0 rfl rfl)) ?_
  refine qv (.slice B b.length d) (fun _ x' => x_move rfl e18) ?_
  refine qv (iJ (k12 : Int)) (fun _ x' => x_move rfl rfl) ?_
  refine qv (.pointer (some (ad32.add (k12 * 3)))) (fun _ x' => x_indexAddr sl_34 rfl rfl eA34 rfl (by omega) (by omega) rfl) ?_
  refine qv (vRd y30) (fun _ x' => x_load rfl rfl ((((((((hE36.ext x2).ext x9).ext x11).ext x16).ext x39).ext x41).ext x').agg (vs := [.string y30.key, iJ y30.ver.time, iJ y30.ver.client]) agg_78_3 0 rfl rfl)) ?_
  refine q_bool (b := !decide (y22 = y30)) rfl rfl (fun _ x' => x_neRd rdT_78 rfl rfl rfl) (fun c42 => ?_) (fun c42 => ?_)
  ·refine q_nil (fun w43 x44 => t_norm (c_true rfl (c_seq (c_quiet (qv (.bool false) (fun _ x' => x_assign rfl rfl) ?_)))))
   exact q_nil (fun w45 x46 => t_norm (c_ret (b_ret (t_ret (t_ret (b_ret (t_ret (c_done rfl rfl (Ret.b ((decide_eq_false (eq_fail hx23 hx31 (by simpa using c42))).symm) (((((((x2.trans x9).trans x11).trans x16).trans x39).trans x41).trans x44).trans x46))))))))))
  refine q_nil (fun w47 x48 => t_norm (c_false rfl (c_skip (b_norm (t_norm (c_quiet (qv (iJ ((k12 : Int) + 1)) (fun _ x' => x_add rfl e20 rfl (wrap_of (by omega) (by omega))) ?_)))))))
  refine qv (iJ ((k12 : Int) + 1)) (fun _ x' => x_move rfl rfl) ?_
  exact q_nil (fun w49 x50 => t_norm (⟨_, rfl, ⟨k12 + 1, by omega, eq_step hi14 hx23 hx31 (by simpa using c42), e17, e18, e19, rfl, ((((x16.trans x39).trans x41).trans x48).trans x50)⟩, meas_up e20 hl21⟩))
 refine c_seq (c_quiet (qv (.bool false) (fun _ x' => yb (x_lss rfl e20 e19) (decide_eq_false (by omega))) ?_))
 refine q_nil (fun w51 x52 => t_norm (c_seq (c_false rfl (c_exit (t_exit (t_exit (b_exit (t_norm (c_seq (c_quiet (qv (.bool true) (fun _ x' => x_assign rfl rfl) ?_)))))))))))
 exact q_nil (fun w53 x54 => t_norm (c_ret (c_done rfl rfl (Ret.b ((decide_eq_true (eq_end hi14 hlen hl21)).symm) (((((x2.trans x9).trans x11).trans x16).trans x52).trans x54)))))
theorem C_eqWr (w : World) (A : Option Addr) (c : Nat) (a : List Wr) (B : Option Addr) (d : Nat) (b : List Wr) (hA : Lies kWr w A a) (hB : Lies kWr w B b) (hn : a.length ≤ 9223372036854775807) :
    Calls Try.prog 74 #[.slice A a.length c, .slice B b.length d] w (Ret w (.bool (decide (a = b)))) := by
 refine c_enter (n := 26) Try.func74 rfl rfl rfl ?_
 refine c_seq (c_quiet (qv (.bool false) (fun _ x' => x_assign rfl rfl) ?_))
 refine q_nil (fun w1 x2 => t_norm (c_seq (c_seq (c_quiet (qv (.slice A a.length c) (fun _ x' => x_move rfl rfl) ?_)))))
 refine qv (iJ (a.length : Int)) (fun _ x' => x_len_slice sl_35 rfl rfl) ?_
 refine qv (.slice B b.length d) (fun _ x' => x_move rfl rfl) ?_
 refine qv (iJ (b.length : Int)) (fun _ x' => x_len_slice sl_35 rfl rfl) ?_
 refine q_bool (b := decide ((a.length : Int) ≠ (b.length : Int))) rfl rfl (fun _ x' => x_neq rfl rfl rfl) (fun c3 => ?_) (fun c3 => ?_)
 ·refine q_nil (fun w4 x5 => t_norm (c_true rfl (c_seq (c_quiet (qv (.bool false) (fun _ x' => x_assign rfl rfl) ?_)))))
  exact q_nil (fun w6 x7 => t_norm (c_ret (t_ret (c_done rfl rfl (Ret.b ((decide_eq_false (fun h => by subst h; simp at c3)).symm) ((x2.trans x5).trans x7))))))
 refine q_nil (fun w8 x9 => t_norm (c_false rfl (c_skip (t_norm (c_seq (c_seq (c_quiet (qv (.slice A a.length c) (fun _ x' => x_move rfl rfl) ?_))))))))
 refine qv (iJ (a.length : Int)) (fun _ x' => x_len_slice sl_35 rfl rfl) ?_
 refine qv (iJ 0) (fun _ x' => x_move rfl rfl) ?_
 refine q_nil (fun w10 x11 => t_norm (c_block (c_loop (fun ρ w15 => ∃ k12 : Nat, k12 ≤ a.length ∧ a.take k12 = b.take k12 ∧ ρ 0 = .slice A a.length c ∧ ρ 1 = .slice B b.length d ∧ ρ 12 = iJ (a.length : Int) ∧ ρ 13 = iJ (k12 : Int) ∧ Ext w10 w15) (fun ρ _ => a.length - (intOf (ρ 13)).toNat) ⟨0, Nat.zero_le _, rfl, rfl, rfl, rfl, rfl, Ext.refl _⟩ ?_)))
 rintro ρ w15 ⟨k12, hk13, hi14, e17, e18, e19, e20, x16⟩
 have hlen := len_eq c3
 by_cases hl21 : k12 < a.length
 ·obtain ⟨y22, hx23⟩ := some_of (l := a) (k := k12) (by omega)
  obtain ⟨ad24, cs25, eA26, hK27, hE28⟩ := hA k12 y22 hx23
  have hK27' : cs25 = [.string y22.key, .string y22.val] := hK27
  subst hK27'
  obtain ⟨y30, hx31⟩ := some_of (l := b) (k := k12) (by omega)
  obtain ⟨ad32, cs33, eA34, hK35, hE36⟩ := hB k12 y30 hx31
  have hK35' : cs33 = [.string y30.key, .string y30.val] := hK35
  subst hK35'
  refine c_seq (c_quiet (qv (.bool true) (fun _ x' => yb (x_lss rfl e20 e19) (decide_eq_true (by omega))) ?_))
  refine q_nil (fun w38 x39 => t_norm (c_seq (c_true rfl (c_skip (t_norm (c_seq (c_block (c_seq (c_quiet (qv (iJ (k12 : Int)) (fun _ x' => x_move rfl e20) ?_))))))))))
  refine qv (iJ (k12 : Int)) (fun _ x' => x_assign rfl rfl) ?_
  refine q_nil (fun w40 x41 => t_norm (c_seq (c_draw mixed (by kernel_rfl) (qv (.slice A a.length c) (fun _ x' => x_move rfl e17) ?_))))
  refine qv (iJ (k12 : Int)) (fun _ x' => x_move rfl rfl) ?_
  refine qv (.pointer (some (ad24.add (k12 * 2)))) (fun _ x' => x_indexAddr sl_35 rfl rfl eA26 rfl (by omega) (by omega) rfl) ?_
  refine qv (vWr y22) (fun _ x' => x_load rfl rfl ((((((((hE28.ext x2).ext x9).ext x11).ext x16).ext x39).ext x41).ext x').agg (vs := [.string y22.key, .string y22.val]) agg_80_2 0 rfl rfl)) ?_
  refine qv (.slice B b.length d) (fun _ x' => x_move rfl e18) ?_
  refine qv (iJ (k12 : Int)) (fun _ x' => x_move rfl rfl) ?_
  refine qv (.pointer (some (ad32.add (k12 * 2)))) (fun _ x' => x_indexAddr sl_35 rfl rfl eA34 rfl (by omega) (by omega) rfl) ?_
  refine qv (vWr y30) (fun _ x' => x_load rfl rfl ((((((((hE36.ext x2).ext x9).ext x11).ext x16).ext x39).ext x41).ext x').agg (vs := [.string y30.key, .string y30.val]) agg_80_2 0 rfl rfl)) ?_
  refine q_bool (b := !decide (y22 = y30)) rfl rfl (fun _ x' => x_neWr strs2T_80 rfl rfl rfl) (fun c42 => ?_) (fun c42 => ?_)
  ·refine q_nil (fun w43 x44 => t_norm (c_true rfl (c_seq (c_quiet (qv (.bool false) (fun _ x' => x_assign rfl rfl) ?_)))))
   exact q_nil (fun w45 x46 => t_norm (c_ret (b_ret (t_ret (t_ret (b_ret (t_ret (c_done rfl rfl (Ret.b ((decide_eq_false (eq_fail hx23 hx31 (by simpa using c42))).symm) (((((((x2.trans x9).trans x11).trans x16).trans x39).trans x41).trans x44).trans x46))))))))))
  refine q_nil (fun w47 x48 => t_norm (c_false rfl (c_skip (b_norm (t_norm (c_quiet (qv (iJ ((k12 : Int) + 1)) (fun _ x' => x_add rfl e20 rfl (wrap_of (by omega) (by omega))) ?_)))))))
  refine qv (iJ ((k12 : Int) + 1)) (fun _ x' => x_move rfl rfl) ?_
  exact q_nil (fun w49 x50 => t_norm (⟨_, rfl, ⟨k12 + 1, by omega, eq_step hi14 hx23 hx31 (by simpa using c42), e17, e18, e19, rfl, ((((x16.trans x39).trans x41).trans x48).trans x50)⟩, meas_up e20 hl21⟩))
 refine c_seq (c_quiet (qv (.bool false) (fun _ x' => yb (x_lss rfl e20 e19) (decide_eq_false (by omega))) ?_))
 refine q_nil (fun w51 x52 => t_norm (c_seq (c_false rfl (c_exit (t_exit (t_exit (b_exit (t_norm (c_seq (c_quiet (qv (.bool true) (fun _ x' => x_assign rfl rfl) ?_)))))))))))
 exact q_nil (fun w53 x54 => t_norm (c_ret (c_done rfl rfl (Ret.b ((decide_eq_true (eq_end hi14 hlen hl21)).symm) (((((x2.trans x9).trans x11).trans x16).trans x52).trans x54)))))
end Go.Proofs.Ytadeigpphklmfaa
