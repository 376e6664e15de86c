/- Equality of rows. -/
import Derived.Test.YtibhkdomoknnfaaEnc
import Derived.Test.YtibhkdomoknnfaaA2
namespace Go.Proofs.Ytibhkdomoknnfaa
open Go.RowKit Go.Eng
set_option linter.unusedVariables false
set_option linter.unusedSimpArgs false
theorem C_eqRd (w : World) (A : Option Addr) (c : Nat) (a : List Rd) (B : Option Addr) (d : Nat) (b : List Rd) (hA : Lies kRd w A a) (hB : Lies kRd w B b) (hn : a.length ≤ 9223372036854775807) :
    Calls Try.prog 57 #[.slice A a.length c, .slice B b.length d] w (Ret w (.bool (decide (a = b)))) := by
 refine c_enter (n := 26) Try.func57 rfl rfl rfl ?_
 refine c_seq ?_
 refine c_quiet ?_
 refine q_val (v := .bool false) rfl rfl (fun w' x' => x_assign rfl rfl) ?_
 refine q_nil (fun w1 x2 => ?_)
 refine t_norm ?_
 refine c_seq ?_
 refine c_seq ?_
 refine c_quiet ?_
 refine q_val (v := .slice A a.length c) rfl rfl (fun w' x' => x_move rfl rfl) ?_
 refine q_val (v := .int .i64 (a.length : Int)) rfl rfl (fun w' x' => x_len_slice sl_30 rfl rfl) ?_
 refine q_val (v := .slice B b.length d) rfl rfl (fun w' x' => x_move rfl rfl) ?_
 refine q_val (v := .int .i64 (b.length : Int)) rfl rfl (fun w' x' => x_len_slice sl_30 rfl rfl) ?_
 refine q_bool (b := decide ((a.length : Int) ≠ (b.length : Int))) rfl rfl (fun w' x' => x_neq rfl rfl rfl) (fun c3 => ?_) (fun c3 => ?_)
 ·refine q_nil (fun w4 x5 => ?_)
  refine t_norm ?_
  refine c_true rfl ?_
  refine c_seq ?_
  refine c_quiet ?_
  refine q_val (v := .bool false) rfl rfl (fun w' x' => x_assign rfl rfl) ?_
  refine q_nil (fun w6 x7 => ?_)
  refine t_norm ?_
  refine c_ret ?_
  refine t_ret ?_
  exact c_done rfl rfl (Ret.b ((decide_eq_false (fun h => by subst h; simp at c3)).symm) ((x2.trans x5).trans x7))
 ·refine q_nil (fun w8 x9 => ?_)
  refine t_norm ?_
  refine c_false rfl ?_
  refine c_skip ?_
  refine t_norm ?_
  refine c_seq ?_
  refine c_seq ?_
  refine c_quiet ?_
  refine q_val (v := .slice A a.length c) rfl rfl (fun w' x' => x_move rfl rfl) ?_
  refine q_val (v := .int .i64 (a.length : Int)) rfl rfl (fun w' x' => x_len_slice sl_30 rfl rfl) ?_
  refine q_val (v := .int .i64 0) rfl rfl (fun w' x' => x_move rfl rfl) ?_
  refine q_nil (fun w10 x11 => ?_)
  refine t_norm ?_
  refine c_block ?_
  refine c_loop (fun ρ w15 => ∃ k12 : Nat, k12 ≤ a.length ∧ a.take k12 = b.take k12 ∧ ρ 0 = .slice A a.length c ∧ ρ 1 = .slice B b.length d ∧ ρ 12 = .int .i64 (a.length : Int) ∧ ρ 13 = .int .i64 (k12 : Int) ∧ Ext w10 w15) (fun ρ _ => a.length - (intOf (ρ 13)).toNat) ⟨0, Nat.zero_le _, rfl, rfl, rfl, rfl, rfl, Ext.refl _⟩ ?_
  rintro ρ w15 ⟨k12, hk13, hi14, e17, e18, e19, e20, x16⟩
  have hlen := len_eq c3
  by_cases hl21 : k12 < a.length
  ·obtain ⟨y22, hx23⟩ := some_of (l := a) (k := k12) (by omega)
   obtain ⟨ad24, cs25, eA26, hK27, hE28⟩ := hA k12 y22 hx23
   have hK27' : cs25 = [.string y22.key, .int .i64 y22.ver.time, .int .i64 y22.ver.client] := hK27
   subst hK27'
   obtain ⟨y30, hx31⟩ := some_of (l := b) (k := k12) (by omega)
   obtain ⟨ad32, cs33, eA34, hK35, hE36⟩ := hB k12 y30 hx31
   have hK35' : cs33 = [.string y30.key, .int .i64 y30.ver.time, .int .i64 y30.ver.client] := hK35
   subst hK35'
   refine c_seq ?_
   refine c_quiet ?_
   refine q_val (v := .bool true) rfl rfl (fun w' x' => yb (x_lss rfl e20 e19) (decide_eq_true (by omega))) ?_
   refine q_nil (fun w38 x39 => ?_)
   refine t_norm ?_
   refine c_seq ?_
   refine c_true rfl ?_
   refine c_skip ?_
   refine t_norm ?_
   refine c_seq ?_
   refine c_block ?_
   refine c_seq ?_
   refine c_quiet ?_
   refine q_val (v := .int .i64 (k12 : Int)) rfl rfl (fun w' x' => x_move rfl e20) ?_
   refine q_val (v := .int .i64 (k12 : Int)) rfl rfl (fun w' x' => x_assign rfl rfl) ?_
   refine q_nil (fun w40 x41 => ?_)
   refine t_norm ?_
   refine c_seq ?_
   refine c_draw mixed (by kernel_rfl) ?_
   refine q_val (v := .slice A a.length c) rfl rfl (fun w' x' => x_move rfl e17) ?_
   refine q_val (v := .int .i64 (k12 : Int)) rfl rfl (fun w' x' => x_move rfl rfl) ?_
   refine q_val (v := .pointer (some (ad24.add (k12 * 3)))) rfl rfl (fun w' x' => x_indexAddr sl_30 rfl rfl eA26 rfl (by omega) (by omega) rfl) ?_
   refine q_val (v := vRd y22) rfl rfl (fun w' x' => x_load rfl rfl ((((((((hE28.ext x2).ext x9).ext x11).ext x16).ext x39).ext x41).ext x').agg (vs := [.string y22.key, .int .i64 y22.ver.time, .int .i64 y22.ver.client]) agg_64_3 0 rfl rfl)) ?_
   refine q_val (v := .slice B b.length d) rfl rfl (fun w' x' => x_move rfl e18) ?_
   refine q_val (v := .int .i64 (k12 : Int)) rfl rfl (fun w' x' => x_move rfl rfl) ?_
   refine q_val (v := .pointer (some (ad32.add (k12 * 3)))) rfl rfl (fun w' x' => x_indexAddr sl_30 rfl rfl eA34 rfl (by omega) (by omega) rfl) ?_
   refine q_val (v := vRd y30) rfl rfl (fun w' x' => x_load rfl rfl ((((((((hE36.ext x2).ext x9).ext x11).ext x16).ext x39).ext x41).ext x').agg (vs := [.string y30.key, .int .i64 y30.ver.time, .int .i64 y30.ver.client]) agg_64_3 0 rfl rfl)) ?_
   refine q_bool (b := !decide (y22 = y30)) rfl rfl (fun w' x' => x_neRd rdT_64 rfl rfl rfl) (fun c42 => ?_) (fun c42 => ?_)
   ·refine q_nil (fun w43 x44 => ?_)
    refine t_norm ?_
    refine c_true rfl ?_
    refine c_seq ?_
    refine c_quiet ?_
    refine q_val (v := .bool false) rfl rfl (fun w' x' => x_assign rfl rfl) ?_
    refine q_nil (fun w45 x46 => ?_)
    refine t_norm ?_
    refine c_ret ?_
    refine b_ret (t_ret (t_ret (b_ret (t_ret ?_))))
    exact c_done rfl rfl (Ret.b ((decide_eq_false (eq_fail hx23 hx31 (by simpa using c42))).symm) (((((((x2.trans x9).trans x11).trans x16).trans x39).trans x41).trans x44).trans x46))
   ·refine q_nil (fun w47 x48 => ?_)
    refine t_norm ?_
    refine c_false rfl ?_
    refine c_skip ?_
    refine b_norm (t_norm ?_)
    refine c_quiet ?_
    refine q_val (v := .int .i64 ((k12 : Int) + 1)) rfl rfl (fun w' x' => x_add rfl e20 rfl (wrap_of (by omega) (by omega))) ?_
    refine q_val (v := .int .i64 ((k12 : Int) + 1)) rfl rfl (fun w' x' => x_move rfl rfl) ?_
    refine q_nil (fun w49 x50 => ?_)
    refine t_norm ?_
    exact ⟨_, rfl, ⟨k12 + 1, by omega, eq_step hi14 hx23 hx31 (by simpa using c42), e17, e18, e19, rfl, ((((x16.trans x39).trans x41).trans x48).trans x50)⟩, meas_up e20 hl21⟩
  ·refine c_seq ?_
   refine c_quiet ?_
   refine q_val (v := .bool false) rfl rfl (fun w' x' => yb (x_lss rfl e20 e19) (decide_eq_false (by omega))) ?_
   refine q_nil (fun w51 x52 => ?_)
   refine t_norm ?_
   refine c_seq ?_
   refine c_false rfl ?_
   refine c_exit ?_
   refine t_exit (t_exit (b_exit (t_norm ?_)))
   refine c_seq ?_
   refine c_quiet ?_
   refine q_val (v := .bool true) rfl rfl (fun w' x' => x_assign rfl rfl) ?_
   refine q_nil (fun w53 x54 => ?_)
   refine t_norm ?_
   refine c_ret ?_
   exact c_done rfl rfl (Ret.b ((decide_eq_true (eq_end hi14 hlen hl21)).symm) (((((x2.trans x9).trans x11).trans x16).trans x52).trans x54))

theorem C_eqWr (w : World) (A : Option Addr) (c : Nat) (a : List Wr) (B : Option Addr) (d : Nat) (b : List Wr) (hA : Lies kWr w A a) (hB : Lies kWr w B b) (hn : a.length ≤ 9223372036854775807) :
    Calls Try.prog 58 #[.slice A a.length c, .slice B b.length d] w (Ret w (.bool (decide (a = b)))) := by
 refine c_enter (n := 26) Try.func58 rfl rfl rfl ?_
 refine c_seq ?_
 refine c_quiet ?_
 refine q_val (v := .bool false) rfl rfl (fun w' x' => x_assign rfl rfl) ?_
 refine q_nil (fun w1 x2 => ?_)
 refine t_norm ?_
 refine c_seq ?_
 refine c_seq ?_
 refine c_quiet ?_
 refine q_val (v := .slice A a.length c) rfl rfl (fun w' x' => x_move rfl rfl) ?_
 refine q_val (v := .int .i64 (a.length : Int)) rfl rfl (fun w' x' => x_len_slice sl_31 rfl rfl) ?_
 refine q_val (v := .slice B b.length d) rfl rfl (fun w' x' => x_move rfl rfl) ?_
 refine q_val (v := .int .i64 (b.length : Int)) rfl rfl (fun w' x' => x_len_slice sl_31 rfl rfl) ?_
 refine q_bool (b := decide ((a.length : Int) ≠ (b.length : Int))) rfl rfl (fun w' x' => x_neq rfl rfl rfl) (fun c3 => ?_) (fun c3 => ?_)
 ·refine q_nil (fun w4 x5 => ?_)
  refine t_norm ?_
  refine c_true rfl ?_
  refine c_seq ?_
  refine c_quiet ?_
  refine q_val (v := .bool false) rfl rfl (fun w' x' => x_assign rfl rfl) ?_
  refine q_nil (fun w6 x7 => ?_)
  refine t_norm ?_
  refine c_ret ?_
  refine t_ret ?_
  exact c_done rfl rfl (Ret.b ((decide_eq_false (fun h => by subst h; simp at c3)).symm) ((x2.trans x5).trans x7))
 ·refine q_nil (fun w8 x9 => ?_)
  refine t_norm ?_
  refine c_false rfl ?_
  refine c_skip ?_
  refine t_norm ?_
  refine c_seq ?_
  refine c_seq ?_
  refine c_quiet ?_
  refine q_val (v := .slice A a.length c) rfl rfl (fun w' x' => x_move rfl rfl) ?_
  refine q_val (v := .int .i64 (a.length : Int)) rfl rfl (fun w' x' => x_len_slice sl_31 rfl rfl) ?_
  refine q_val (v := .int .i64 0) rfl rfl (fun w' x' => x_move rfl rfl) ?_
  refine q_nil (fun w10 x11 => ?_)
  refine t_norm ?_
  refine c_block ?_
  refine c_loop (fun ρ w15 => ∃ k12 : Nat, k12 ≤ a.length ∧ a.take k12 = b.take k12 ∧ ρ 0 = .slice A a.length c ∧ ρ 1 = .slice B b.length d ∧ ρ 12 = .int .i64 (a.length : Int) ∧ ρ 13 = .int .i64 (k12 : Int) ∧ Ext w10 w15) (fun ρ _ => a.length - (intOf (ρ 13)).toNat) ⟨0, Nat.zero_le _, rfl, rfl, rfl, rfl, rfl, Ext.refl _⟩ ?_
  rintro ρ w15 ⟨k12, hk13, hi14, e17, e18, e19, e20, x16⟩
  have hlen := len_eq c3
  by_cases hl21 : k12 < a.length
  ·obtain ⟨y22, hx23⟩ := some_of (l := a) (k := k12) (by omega)
   obtain ⟨ad24, cs25, eA26, hK27, hE28⟩ := hA k12 y22 hx23
   have hK27' : cs25 = [.string y22.key, .string y22.val] := hK27
   subst hK27'
   obtain ⟨y30, hx31⟩ := some_of (l := b) (k := k12) (by omega)
   obtain ⟨ad32, cs33, eA34, hK35, hE36⟩ := hB k12 y30 hx31
   have hK35' : cs33 = [.string y30.key, .string y30.val] := hK35
   subst hK35'
   refine c_seq ?_
   refine c_quiet ?_
   refine q_val (v := .bool true) rfl rfl (fun w' x' => yb (x_lss rfl e20 e19) (decide_eq_true (by omega))) ?_
   refine q_nil (fun w38 x39 => ?_)
   refine t_norm ?_
   refine c_seq ?_
   refine c_true rfl ?_
   refine c_skip ?_
   refine t_norm ?_
   refine c_seq ?_
   refine c_block ?_
   refine c_seq ?_
   refine c_quiet ?_
   refine q_val (v := .int .i64 (k12 : Int)) rfl rfl (fun w' x' => x_move rfl e20) ?_
   refine q_val (v := .int .i64 (k12 : Int)) rfl rfl (fun w' x' => x_assign rfl rfl) ?_
   refine q_nil (fun w40 x41 => ?_)
   refine t_norm ?_
   refine c_seq ?_
   refine c_draw mixed (by kernel_rfl) ?_
   refine q_val (v := .slice A a.length c) rfl rfl (fun w' x' => x_move rfl e17) ?_
   refine q_val (v := .int .i64 (k12 : Int)) rfl rfl (fun w' x' => x_move rfl rfl) ?_
   refine q_val (v := .pointer (some (ad24.add (k12 * 2)))) rfl rfl (fun w' x' => x_indexAddr sl_31 rfl rfl eA26 rfl (by omega) (by omega) rfl) ?_
   refine q_val (v := vWr y22) rfl rfl (fun w' x' => x_load rfl rfl ((((((((hE28.ext x2).ext x9).ext x11).ext x16).ext x39).ext x41).ext x').agg (vs := [.string y22.key, .string y22.val]) agg_66_2 0 rfl rfl)) ?_
   refine q_val (v := .slice B b.length d) rfl rfl (fun w' x' => x_move rfl e18) ?_
   refine q_val (v := .int .i64 (k12 : Int)) rfl rfl (fun w' x' => x_move rfl rfl) ?_
   refine q_val (v := .pointer (some (ad32.add (k12 * 2)))) rfl rfl (fun w' x' => x_indexAddr sl_31 rfl rfl eA34 rfl (by omega) (by omega) rfl) ?_
   refine q_val (v := vWr y30) rfl rfl (fun w' x' => x_load rfl rfl ((((((((hE36.ext x2).ext x9).ext x11).ext x16).ext x39).ext x41).ext x').agg (vs := [.string y30.key, .string y30.val]) agg_66_2 0 rfl rfl)) ?_
   refine q_bool (b := !decide (y22 = y30)) rfl rfl (fun w' x' => x_neWr strs2T_66 rfl rfl rfl) (fun c42 => ?_) (fun c42 => ?_)
   ·refine q_nil (fun w43 x44 => ?_)
    refine t_norm ?_
    refine c_true rfl ?_
    refine c_seq ?_
    refine c_quiet ?_
    refine q_val (v := .bool false) rfl rfl (fun w' x' => x_assign rfl rfl) ?_
    refine q_nil (fun w45 x46 => ?_)
    refine t_norm ?_
    refine c_ret ?_
    refine b_ret (t_ret (t_ret (b_ret (t_ret ?_))))
    exact c_done rfl rfl (Ret.b ((decide_eq_false (eq_fail hx23 hx31 (by simpa using c42))).symm) (((((((x2.trans x9).trans x11).trans x16).trans x39).trans x41).trans x44).trans x46))
   ·refine q_nil (fun w47 x48 => ?_)
    refine t_norm ?_
    refine c_false rfl ?_
    refine c_skip ?_
    refine b_norm (t_norm ?_)
    refine c_quiet ?_
    refine q_val (v := .int .i64 ((k12 : Int) + 1)) rfl rfl (fun w' x' => x_add rfl e20 rfl (wrap_of (by omega) (by omega))) ?_
    refine q_val (v := .int .i64 ((k12 : Int) + 1)) rfl rfl (fun w' x' => x_move rfl rfl) ?_
    refine q_nil (fun w49 x50 => ?_)
    refine t_norm ?_
    exact ⟨_, rfl, ⟨k12 + 1, by omega, eq_step hi14 hx23 hx31 (by simpa using c42), e17, e18, e19, rfl, ((((x16.trans x39).trans x41).trans x48).trans x50)⟩, meas_up e20 hl21⟩
  ·refine c_seq ?_
   refine c_quiet ?_
   refine q_val (v := .bool false) rfl rfl (fun w' x' => yb (x_lss rfl e20 e19) (decide_eq_false (by omega))) ?_
   refine q_nil (fun w51 x52 => ?_)
   refine t_norm ?_
   refine c_seq ?_
   refine c_false rfl ?_
   refine c_exit ?_
   refine t_exit (t_exit (b_exit (t_norm ?_)))
   refine c_seq ?_
   refine c_quiet ?_
   refine q_val (v := .bool true) rfl rfl (fun w' x' => x_assign rfl rfl) ?_
   refine q_nil (fun w53 x54 => ?_)
   refine t_norm ?_
   refine c_ret ?_
   exact c_done rfl rfl (Ret.b ((decide_eq_true (eq_end hi14 hlen hl21)).symm) (((((x2.trans x9).trans x11).trans x16).trans x52).trans x54))

end Go.Proofs.Ytibhkdomoknnfaa
