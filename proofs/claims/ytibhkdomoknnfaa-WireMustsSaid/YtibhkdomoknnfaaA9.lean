/- A Noop of bytes. -/
import Derived.Test.YtibhkdomoknnfaaEnc
import Derived.Test.YtibhkdomoknnfaaA8
namespace Go.Proofs.Ytibhkdomoknnfaa
open Go.RowKit Go.Eng
set_option linter.unusedVariables false
set_option linter.unusedSimpArgs false
theorem C_same0 (w : World) (A : Option Addr) (c : Nat) (a : List UInt8) (B : Option Addr) (d : Nat) (b : List UInt8) (hA : Lies kByte w A a) (hB : Lies kByte w B b) (hn : a.length ≤ 9223372036854775807) :
    Calls Try.prog 17 #[.slice A a.length c, .slice B b.length d] w (Ret w (.bool (decide (a = b)))) := by
 refine c_enter (n := 26) Try.func17 rfl rfl rfl ?_
 refine c_seq ?_
 refine c_quiet ?_
 refine q_val (v := .bool false) rfl rfl (fun w' x' => x_assign rfl rfl) ?_
 refine q_nil (fun w1 x2 => ?_)
 refine t_norm ?_
 refine c_seq ?_
 refine c_seq ?_
 refine c_quiet ?_
 refine q_val (v := .slice A a.length c) rfl rfl (fun w' x' => x_move rfl rfl) ?_
 refine q_val (v := .int .i64 (a.length : Int)) rfl rfl (fun w' x' => x_len_slice sl_46 rfl rfl) ?_
 refine q_val (v := .slice B b.length d) rfl rfl (fun w' x' => x_move rfl rfl) ?_
 refine q_val (v := .int .i64 (b.length : Int)) rfl rfl (fun w' x' => x_len_slice sl_46 rfl rfl) ?_
 refine q_bool (b := decide ((a.length : Int) ≠ (b.length : Int))) rfl rfl (fun w' x' => x_neq rfl rfl rfl) (fun c3 => ?_) (fun c3 => ?_)
 ·refine q_nil (fun w4 x5 => ?_)
  refine t_norm ?_
  refine c_true rfl ?_
  refine c_seq ?_
  refine c_quiet ?_
  refine q_val (v := .bool false) rfl rfl (fun w' x' => x_assign rfl rfl) ?_
  refine q_nil (fun w6 x7 => ?_)
  refine t_norm ?_
  refine c_ret ?_
  refine t_ret ?_
  exact c_done rfl rfl (Ret.b ((decide_eq_false (fun h => by subst h; simp at c3)).symm) ((x2.trans x5).trans x7))
 ·refine q_nil (fun w8 x9 => ?_)
  refine t_norm ?_
  refine c_false rfl ?_
  refine c_skip ?_
  refine t_norm ?_
  refine c_seq ?_
  refine c_seq ?_
  refine c_quiet ?_
  refine q_val (v := .slice A a.length c) rfl rfl (fun w' x' => x_move rfl rfl) ?_
  refine q_val (v := .int .i64 (a.length : Int)) rfl rfl (fun w' x' => x_len_slice sl_46 rfl rfl) ?_
  refine q_val (v := .int .i64 0) rfl rfl (fun w' x' => x_move rfl rfl) ?_
  refine q_nil (fun w10 x11 => ?_)
  refine t_norm ?_
  refine c_block ?_
  refine c_loop (fun ρ w15 => ∃ k12 : Nat, k12 ≤ a.length ∧ a.take k12 = b.take k12 ∧ ρ 0 = .slice A a.length c ∧ ρ 1 = .slice B b.length d ∧ ρ 12 = .int .i64 (a.length : Int) ∧ ρ 13 = .int .i64 (k12 : Int) ∧ Ext w10 w15) (fun ρ _ => a.length - (intOf (ρ 13)).toNat) ⟨0, Nat.zero_le _, rfl, rfl, rfl, rfl, rfl, Ext.refl _⟩ ?_
  rintro ρ w15 ⟨k12, hk13, hi14, e17, e18, e19, e20, x16⟩
  have hlen := len_eq c3
  by_cases hl21 : k12 < a.length
  ·obtain ⟨y22, hx23⟩ := some_of (l := a) (k := k12) (by omega)
   obtain ⟨ad24, cs25, eA26, hK27, hE28⟩ := hA k12 y22 hx23
   have hK27' : cs25 = [.int .u8 (y22.toNat : Int)] := hK27
   subst hK27'
   obtain ⟨y30, hx31⟩ := some_of (l := b) (k := k12) (by omega)
   obtain ⟨ad32, cs33, eA34, hK35, hE36⟩ := hB k12 y30 hx31
   have hK35' : cs33 = [.int .u8 (y30.toNat : Int)] := hK35
   subst hK35'
   refine c_seq ?_
   refine c_quiet ?_
   refine q_val (v := .bool true) rfl rfl (fun w' x' => yb (x_lss rfl e20 e19) (decide_eq_true (by omega))) ?_
   refine q_nil (fun w38 x39 => ?_)
   refine t_norm ?_
   refine c_seq ?_
   refine c_true rfl ?_
   refine c_skip ?_
   refine t_norm ?_
   refine c_seq ?_
   refine c_block ?_
   refine c_seq ?_
   refine c_quiet ?_
   refine q_val (v := .int .i64 (k12 : Int)) rfl rfl (fun w' x' => x_move rfl e20) ?_
   refine q_val (v := .int .i64 (k12 : Int)) rfl rfl (fun w' x' => x_assign rfl rfl) ?_
   refine q_nil (fun w40 x41 => ?_)
   refine t_norm ?_
   refine c_seq ?_
   refine c_draw mixed (by kernel_rfl) ?_
   refine q_val (v := .slice A a.length c) rfl rfl (fun w' x' => x_move rfl e17) ?_
   refine q_val (v := .int .i64 (k12 : Int)) rfl rfl (fun w' x' => x_move rfl rfl) ?_
   refine q_val (v := .pointer (some (ad24.add (k12 * 1)))) rfl rfl (fun w' x' => x_indexAddr sl_46 rfl rfl eA26 rfl (by omega) (by omega) rfl) ?_
   refine q_val (v := .int .u8 (y22.toNat : Int)) rfl rfl (fun w' x' => x_load rfl rfl ((((((((hE28.ext x2).ext x9).ext x11).ext x16).ext x39).ext x41).ext x').one one_5 0 rfl rfl)) ?_
   refine q_val (v := .slice B b.length d) rfl rfl (fun w' x' => x_move rfl e18) ?_
   refine q_val (v := .int .i64 (k12 : Int)) rfl rfl (fun w' x' => x_move rfl rfl) ?_
   refine q_val (v := .pointer (some (ad32.add (k12 * 1)))) rfl rfl (fun w' x' => x_indexAddr sl_46 rfl rfl eA34 rfl (by omega) (by omega) rfl) ?_
   refine q_val (v := .int .u8 (y30.toNat : Int)) rfl rfl (fun w' x' => x_load rfl rfl ((((((((hE36.ext x2).ext x9).ext x11).ext x16).ext x39).ext x41).ext x').one one_5 0 rfl rfl)) ?_
   refine q_bool (b := decide ((y22.toNat : Int) ≠ (y30.toNat : Int))) rfl rfl (fun w' x' => x_neq rfl rfl rfl) (fun c42 => ?_) (fun c42 => ?_)
   ·refine q_nil (fun w43 x44 => ?_)
    refine t_norm ?_
    refine c_true rfl ?_
    refine c_seq ?_
    refine c_quiet ?_
    refine q_val (v := .bool false) rfl rfl (fun w' x' => x_assign rfl rfl) ?_
    refine q_nil (fun w45 x46 => ?_)
    refine t_norm ?_
    refine c_ret ?_
    refine b_ret (t_ret (t_ret (b_ret (t_ret ?_))))
    exact c_done rfl rfl (Ret.b ((decide_eq_false (eq_fail hx23 hx31 (u8_ne c42))).symm) (((((((x2.trans x9).trans x11).trans x16).trans x39).trans x41).trans x44).trans x46))
   ·refine q_nil (fun w47 x48 => ?_)
    refine t_norm ?_
    refine c_false rfl ?_
    refine c_skip ?_
    refine b_norm (t_norm ?_)
    refine c_quiet ?_
    refine q_val (v := .int .i64 ((k12 : Int) + 1)) rfl rfl (fun w' x' => x_add rfl e20 rfl (wrap_of (by omega) (by omega))) ?_
    refine q_val (v := .int .i64 ((k12 : Int) + 1)) rfl rfl (fun w' x' => x_move rfl rfl) ?_
    refine q_nil (fun w49 x50 => ?_)
    refine t_norm ?_
    exact ⟨_, rfl, ⟨k12 + 1, by omega, eq_step hi14 hx23 hx31 (u8_eq c42), e17, e18, e19, rfl, ((((x16.trans x39).trans x41).trans x48).trans x50)⟩, meas_up e20 hl21⟩
  ·refine c_seq ?_
   refine c_quiet ?_
   refine q_val (v := .bool false) rfl rfl (fun w' x' => yb (x_lss rfl e20 e19) (decide_eq_false (by omega))) ?_
   refine q_nil (fun w51 x52 => ?_)
   refine t_norm ?_
   refine c_seq ?_
   refine c_false rfl ?_
   refine c_exit ?_
   refine t_exit (t_exit (b_exit (t_norm ?_)))
   refine c_seq ?_
   refine c_quiet ?_
   refine q_val (v := .bool true) rfl rfl (fun w' x' => x_assign rfl rfl) ?_
   refine q_nil (fun w53 x54 => ?_)
   refine t_norm ?_
   refine c_ret ?_
   exact c_done rfl rfl (Ret.b ((decide_eq_true (eq_end hi14 hlen hl21)).symm) (((((x2.trans x9).trans x11).trans x16).trans x52).trans x54))

theorem C_same (w : World) (A : Option Addr) (n c : Nat) (a : List UInt8) (ha : n = a.length) (B : Option Addr) (m d : Nat) (b : List UInt8) (hb : m = b.length) (hA : Lies kByte w A a) (hB : Lies kByte w B b) (hn : a.length ≤ 9223372036854775807) : Calls Try.prog 17 #[.slice A n c, .slice B m d] w (Ret w (.bool (decide (a = b)))) := by subst ha; subst hb; exact C_same0 w A c a B d b hA hB hn
theorem C_awake (w : World) :
    Calls Try.prog 8 #[] w (Ret w (.bool true)) := by
 refine c_enter (n := 16) Try.func8 rfl rfl rfl ?_
 refine c_seq ?_
 refine c_quiet ?_
 refine q_val (v := .bool false) rfl rfl (fun w' x' => x_assign rfl rfl) ?_
 refine q_nil (fun w1 x2 => ?_)
 refine t_norm ?_
 refine c_seq ?_
 refine c_plain ?_
 refine p_val (v := .agg #[.int .i64 0, .int .i64 0, .int .i64 0, .int .i64 0, .int .i64 0, .int .i64 0, .slice none 0 0, .slice none 0 0, .bool false]) rfl rfl (x_build0 zero_33 bld_33 rfl) ?_
 refine p_val (v := .iface 33 (.agg #[.int .i64 0, .int .i64 0, .int .i64 0, .int .i64 0, .int .i64 0, .int .i64 0, .slice none 0 0, .slice none 0 0, .bool false])) rfl rfl (x_makeIface pl_33_ rfl rfl) ?_
 refine p_call (vs := #[.iface 33 (.agg #[.int .i64 0, .int .i64 0, .int .i64 0, .int .i64 0, .int .i64 0, .int .i64 0, .slice none 0 0, .slice none 0 0, .bool false])]) fn_15 rfl rfl rfl (args1 rfl) ?_
 refine (C_encC _ (⟨0, (⟨0, 0⟩ : Txn), (⟨0, 0⟩ : Stp), 0, [], [], false⟩ : Cmd) (⟨none, 0, none, 0⟩ : Ptr) (CmdAt.nil _ rfl rfl) (slim_nil rfl rfl)).mono ?_
 rintro e w5 ⟨A3, k4, rfl, hb6, x7⟩
 refine ⟨_, rfl, ?_⟩
 have hl8 := hb6.lies
 refine p_val (v := .tuple #[.slice A3 ((outC (⟨0, (⟨0, 0⟩ : Txn), (⟨0, 0⟩ : Stp), 0, [], [], false⟩ : Cmd)).length) k4, .int .i64 (errOf (rightCmd (⟨0, (⟨0, 0⟩ : Txn), (⟨0, 0⟩ : Stp), 0, [], [], false⟩ : Cmd)))]) rfl rfl (x_move rfl rfl) ?_
 refine p_val (v := .slice A3 ((outC (⟨0, (⟨0, 0⟩ : Txn), (⟨0, 0⟩ : Stp), 0, [], [], false⟩ : Cmd)).length) k4) rfl rfl (x_extract rfl rfl rfl) ?_
 refine p_val (v := .int .i64 (errOf (rightCmd (⟨0, (⟨0, 0⟩ : Txn), (⟨0, 0⟩ : Stp), 0, [], [], false⟩ : Cmd)))) rfl rfl (x_extract rfl rfl rfl) ?_
 refine p_val (v := .slice A3 ((outC (⟨0, (⟨0, 0⟩ : Txn), (⟨0, 0⟩ : Stp), 0, [], [], false⟩ : Cmd)).length) k4) rfl rfl (x_assign rfl rfl) ?_
 refine p_val (v := .int .i64 (errOf (rightCmd (⟨0, (⟨0, 0⟩ : Txn), (⟨0, 0⟩ : Stp), 0, [], [], false⟩ : Cmd)))) rfl rfl (x_assign rfl rfl) ?_
 refine p_nil ?_
 refine t_norm ?_
 refine c_seq ?_
 refine c_plain ?_
 refine p_val (v := .int .i64 (errOf (rightCmd (⟨0, (⟨0, 0⟩ : Txn), (⟨0, 0⟩ : Stp), 0, [], [], false⟩ : Cmd)))) rfl rfl (x_move rfl rfl) ?_
 refine p_val (v := .bool true) rfl rfl (yb (x_eql rfl rfl rfl) (by decide)) ?_
 refine p_val (v := .bool true) rfl rfl (x_move rfl rfl) ?_
 refine p_val (v := .slice A3 ((outC (⟨0, (⟨0, 0⟩ : Txn), (⟨0, 0⟩ : Stp), 0, [], [], false⟩ : Cmd)).length) k4) rfl rfl (x_move rfl rfl) ?_
 refine p_buildSlice (cs := [.int .u8 1, .int .u8 0, .int .u8 0, .int .u8 0, .int .u8 0, .int .u8 0, .int .u8 0, .int .u8 0, .int .u8 0, .int .u8 0]) el_46 rfl rfl rfl (parts10 rfl rfl rfl rfl rfl rfl rfl rfl rfl rfl) (by decide) (by decide) (fill_ok [.int .u8 1, .int .u8 0, .int .u8 0, .int .u8 0, .int .u8 0, .int .u8 0, .int .u8 0, .int .u8 0, .int .u8 0, .int .u8 0] [.int .u8 1, .int .u8 0, .int .u8 0, .int .u8 0, .int .u8 0, .int .u8 0, .int .u8 0, .int .u8 0, .int .u8 0, .int .u8 0] rfl rfl) (fun w9 b10 x11 z12 => ?_)
 refine p_call (vs := #[.slice A3 ((outC (⟨0, (⟨0, 0⟩ : Txn), (⟨0, 0⟩ : Stp), 0, [], [], false⟩ : Cmd)).length) k4, .slice (some ⟨w5.heap.size, 0, none⟩) 10 10]) fn_17 rfl rfl rfl (args2 rfl rfl) ?_
 refine (Calls.asBool (decide_eq_true noop_bytes) (C_same _ _ _ _ (outC (⟨0, (⟨0, 0⟩ : Txn), (⟨0, 0⟩ : Stp), 0, [], [], false⟩ : Cmd)) rfl _ _ _ ([1, 0, 0, 0, 0, 0, 0, 0, 0, 0] : List UInt8) rfl (hl8.ext x11) (lies_lit b10 rfl) hb6.small)).mono ?_
 rintro e w13 ⟨rfl, x14⟩
 refine ⟨_, rfl, ?_⟩
 refine p_val (v := .bool true) rfl rfl (x_pick_t rfl rfl rfl) ?_
 refine p_val (v := .bool true) rfl rfl (x_assign rfl rfl) ?_
 refine p_nil ?_
 refine t_norm ?_
 refine c_ret ?_
 exact c_done rfl rfl (Ret.b (rfl) (((x2.trans x7).trans x11).trans x14))

end Go.Proofs.Ytibhkdomoknnfaa
