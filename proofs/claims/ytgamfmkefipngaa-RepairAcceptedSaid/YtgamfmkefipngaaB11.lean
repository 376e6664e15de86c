/- A walk through the code of layers below, or of layer 13. -/
import Derived.Test.YtgamfmkefipngaaRfa
import Derived.Test.YtgamfmkefipngaaDrs
import Derived.Test.YtgamfmkefipngaaPan
import Derived.Test.YtgamfmkefipngaaB7
namespace Go.Proofs.Ytgamfmkefipngaa
open Go.RowKit Go.Eng
set_option linter.unusedVariables false
set_option linter.unusedSimpArgs false
theorem D_has (w : World) (set : Int) (k : Nat) :
    Calls Try.prog 20 #[.int .i64 set, .int .i64 (k : Int)] w (Ret w (.bool (hasF set (k : Int)))) := by
 refine c_enter (n := 25) Try.func20 rfl rfl rfl ?_
 refine c_seq (c_quiet (qv (.bool false) (fun _ x' => x_assign rfl rfl) ?_))
 refine q_nil (fun w1 x2 => t_norm (c_seq (c_seq (c_quiet (qv (iJ (k : Int)) (fun _ x' => x_move rfl rfl) ?_)))))
 refine q_bool (b := decide ((k : Int) < 0)) rfl rfl (fun _ x' => x_lss rfl rfl rfl) (fun c3 => ?_) (fun c3 => ?_)
 ·have c3' := of_decide_eq_true c3
  refine qv (.bool true) (fun _ x' => x_move rfl rfl) ?_
  refine qk rfl rfl (qk rfl rfl (qv (.bool true) (fun _ x' => x_pick_t rfl rfl rfl) ?_))
  refine q_nil (fun w4 x5 => t_norm (c_true rfl (c_seq (c_quiet (qv (.bool false) (fun _ x' => x_assign rfl rfl) ?_)))))
  exact q_nil (fun w6 x7 => t_norm (c_ret (t_ret (c_done rfl rfl (Ret.b ((has_out (by omega)).symm) ((x2.trans x5).trans x7))))))
 have c3' := of_decide_eq_false c3
 refine qv (.bool false) (fun _ x' => x_move rfl rfl) ?_
 refine qv (iJ (k : Int)) (fun _ x' => x_move rfl rfl) ?_
 refine q_bool (b := decide ((k : Int) > 6)) rfl rfl (fun _ x' => x_gtr rfl rfl rfl) (fun c8 => ?_) (fun c8 => ?_)
 ·have c8' := of_decide_eq_true c8
  refine qv (.bool true) (fun _ x' => x_pick_f rfl rfl rfl) ?_
  refine q_nil (fun w9 x10 => t_norm (c_true rfl (c_seq (c_quiet (qv (.bool false) (fun _ x' => x_assign rfl rfl) ?_)))))
  exact q_nil (fun w11 x12 => t_norm (c_ret (t_ret (c_done rfl rfl (Ret.b ((has_out (by omega)).symm) ((x2.trans x10).trans x12))))))
 have c8' := of_decide_eq_false c8
 refine qv (.bool false) (fun _ x' => x_pick_f rfl rfl rfl) ?_
 refine q_nil (fun w13 x14 => t_norm (c_false rfl (c_skip (t_norm (c_seq (c_quiet (qv (iJ set) (fun _ x' => x_move rfl rfl) ?_)))))))
 refine qv (.int .u64 (u64w set)) (fun _ x' => x_convert cv_86_u64 un_3 rfl rfl rfl) ?_
 refine qv (.int .u64 (u64w set)) (fun _ x' => x_assign rfl rfl) ?_
 refine q_nil (fun w15 x16 => t_norm (c_seq (c_seq (c_quiet (qv (iJ 0) (fun _ x' => x_assign rfl rfl) ?_)))))
 refine q_nil (fun w17 x18 => t_norm (c_block (c_loop (fun ρ w21 => ∃ k19 : Nat, k19 ≤ k ∧ ρ 1 = iJ (k : Int) ∧ ρ 4 = .bool false ∧ ρ 5 = .int .u64 (halv (u64w set) k19) ∧ ρ 6 = iJ (k19 : Int) ∧ Ext w17 w21) (fun ρ _ => k - (intOf (ρ 6)).toNat) ⟨0, Nat.zero_le _, rfl, rfl, rfl, rfl, Ext.refl _⟩ ?_)))
 rintro ρ w21 ⟨k19, hk20, e23, e24, e25, e26, x22⟩
 by_cases hl27 : k19 < k
 ·refine c_seq (c_seq (c_quiet (qv (iJ (k19 : Int)) (fun _ x' => x_move rfl e26) ?_)))
  refine qv (iJ (k : Int)) (fun _ x' => x_move rfl e23) ?_
  refine qv (.bool true) (fun _ x' => yb (x_lss rfl rfl rfl) (decide_eq_true (by omega))) ?_
  refine q_nil (fun w28 x29 => t_norm (c_true rfl (c_skip (t_norm (c_seq (c_block (c_quiet (qv (.int .u64 (halv (u64w set) k19)) (fun _ x' => x_move rfl e25) ?_))))))))
  refine qv (.int .u64 (halv (u64w set) k19 / 2)) (fun _ x' => x_quo rfl rfl rfl (by decide) (quo64 (halv_b (u64w_b set) k19))) ?_
  refine qv (.int .u64 (halv (u64w set) k19 / 2)) (fun _ x' => x_assign rfl rfl) ?_
  refine q_nil (fun w30 x31 => b_norm (t_norm (c_quiet (qv (iJ (k19 : Int)) (fun _ x' => x_move rfl e26) ?_))))
  refine qv (iJ ((k19 : Int) + 1)) (fun _ x' => x_add rfl rfl rfl (wrap_of (by omega) (by omega))) ?_
  refine qv (iJ ((k19 : Int) + 1)) (fun _ x' => x_assign rfl rfl) ?_
  exact q_nil (fun w32 x33 => t_norm (⟨_, rfl, ⟨k19 + 1, by omega, e23, e24, (Eq.trans (show _ = Value.int .u64 (halv (u64w set) k19 / 2) from rfl) (show Value.int .u64 (halv (u64w set) k19 / 2) = Value.int .u64 (halv (u64w set) (k19 + 1)) from rfl)), rfl, (((x22.trans x29).trans x31).trans x33)⟩, meas_up e26 hl27⟩))
 refine c_seq (c_seq (c_quiet (qv (iJ (k19 : Int)) (fun _ x' => x_move rfl e26) ?_)))
 refine qv (iJ (k : Int)) (fun _ x' => x_move rfl e23) ?_
 refine qv (.bool false) (fun _ x' => yb (x_lss rfl rfl rfl) (decide_eq_false (by omega))) ?_
 refine q_nil (fun w34 x35 => t_norm (c_false rfl (c_exit (t_exit (t_exit (b_exit (t_norm (c_seq (c_quiet (qv (.int .u64 (halv (u64w set) k19)) (fun _ x' => x_move rfl e25) ?_))))))))))
 refine qv (.int .u64 (halv (u64w set) k19 % 2)) (fun _ x' => x_rem rfl rfl rfl (by decide) (rem_of (halv_b (u64w_b set) k19).1)) ?_
 refine q_bool (b := decide (halv (u64w set) k19 % 2 = 1)) rfl rfl (fun _ x' => x_eql rfl rfl rfl) (fun c36 => ?_) (fun c36 => ?_)
 ·have c36' := of_decide_eq_true c36
  refine qv (.bool true) (fun _ x' => x_assign rfl rfl) ?_
  exact q_nil (fun w37 x38 => t_norm (c_ret (c_done rfl rfl (Ret.b (has_end c36 (by omega) (by omega)) ((((((x2.trans x14).trans x16).trans x18).trans x22).trans x35).trans x38)))))
 have c36' := of_decide_eq_false c36
 refine qv (.bool false) (fun _ x' => x_assign rfl rfl) ?_
 exact q_nil (fun w39 x40 => t_norm (c_ret (c_done rfl rfl (Ret.b (has_end c36 (by omega) (by omega)) ((((((x2.trans x14).trans x16).trans x18).trans x22).trans x35).trans x40)))))
theorem D_major (w : World) (f set : Int) :
    Calls Try.prog 21 #[.int .i64 f, .int .i64 set] w (Ret w (.bool (majF f set))) := by
 obtain ⟨N, hN, hN7⟩ := size_nat f
 refine c_enter (n := 27) Try.func21 rfl rfl rfl ?_
 refine c_seq (c_quiet (qv (.bool false) (fun _ x' => x_assign rfl rfl) ?_))
 refine q_nil (fun w1 x2 => t_norm (c_seq (c_quiet (qv (iJ 0) (fun _ x' => x_assign rfl rfl) ?_))))
 refine q_nil (fun w3 x4 => t_norm (c_seq (c_seq (c_quiet (qv (iJ 0) (fun _ x' => x_assign rfl rfl) ?_)))))
 refine q_nil (fun w5 x6 => t_norm (c_block (c_loop (fun ρ w9 => ∃ k7 : Nat, k7 ≤ N ∧ ρ 0 = iJ f ∧ ρ 1 = iJ set ∧ ρ 4 = .bool false ∧ ρ 5 = iJ ((cntF set k7 : Nat) : Int) ∧ ρ 6 = iJ (k7 : Int) ∧ Ext w5 w9) (fun ρ _ => N - (intOf (ρ 6)).toNat) ⟨0, Nat.zero_le _, rfl, rfl, rfl, rfl, rfl, Ext.refl _⟩ ?_)))
 rintro ρ w9 ⟨k7, hk8, e11, e12, e13, e14, e15, x10⟩
 by_cases hl16 : k7 < N
 ·have hcf := cntF_le set k7
  refine c_seq (c_seq (c_quiet (qv (iJ (k7 : Int)) (fun _ x' => x_move rfl e15) ?_)))
  refine qv (iJ f) (fun _ x' => x_move rfl e11) ?_
  refine q_call (vs := #[iJ f]) fn_16 rfl rfl rfl (args1 rfl) (v := iJ (sizeF f)) (fun _ x' => D_size _ f) ?_
  refine qv (.bool true) (fun _ x' => yb (x_lss rfl rfl rfl) (decide_eq_true (by omega))) ?_
  refine q_nil (fun w17 x18 => t_norm (c_true rfl (c_skip (t_norm (c_seq (c_block (c_seq (c_quiet (qv (iJ set) (fun _ x' => x_move rfl e12) ?_)))))))))
  refine qv (iJ (k7 : Int)) (fun _ x' => x_move rfl e15) ?_
  refine q_callb (b := hasF set (k7 : Int)) (vs := #[iJ set, iJ (k7 : Int)]) fn_20 rfl rfl rfl (args2 rfl rfl) (fun _ x' => D_has _ set k7) (fun c19 => ?_) (fun c19 => ?_)
  ·refine q_nil (fun w20 x21 => t_norm (c_true rfl (c_quiet (qv (iJ ((cntF set k7 : Nat) : Int)) (fun _ x' => x_move rfl e14) ?_))))
   refine qv (iJ (((cntF set k7 : Nat) : Int) + 1)) (fun _ x' => x_add rfl rfl rfl (wrap_of (by omega) (by omega))) ?_
   refine qv (iJ (((cntF set k7 : Nat) : Int) + 1)) (fun _ x' => x_assign rfl rfl) ?_
   refine q_nil (fun w22 x23 => b_norm (t_norm (c_quiet (qv (iJ (k7 : Int)) (fun _ x' => x_move rfl e15) ?_))))
   refine qv (iJ ((k7 : Int) + 1)) (fun _ x' => x_add rfl rfl rfl (wrap_of (by omega) (by omega))) ?_
   refine qv (iJ ((k7 : Int) + 1)) (fun _ x' => x_assign rfl rfl) ?_
   exact q_nil (fun w24 x25 => t_norm (⟨_, rfl, ⟨k7 + 1, by omega, e11, e12, e13, (Eq.trans (show _ = Value.int .i64 (((cntF set k7 : Nat) : Int) + 1) from rfl) (show Value.int .i64 (((cntF set k7 : Nat) : Int) + 1) = Value.int .i64 ((cntF set (k7 + 1) : Nat) : Int) from by rw [cntF_step, c19]; simp)), rfl, ((((x10.trans x18).trans x21).trans x23).trans x25)⟩, meas_up e15 hl16⟩))
  refine q_nil (fun w26 x27 => t_norm (c_false rfl (c_skip (b_norm (t_norm (c_quiet (qv (iJ (k7 : Int)) (fun _ x' => x_move rfl e15) ?_)))))))
  refine qv (iJ ((k7 : Int) + 1)) (fun _ x' => x_add rfl rfl rfl (wrap_of (by omega) (by omega))) ?_
  refine qv (iJ ((k7 : Int) + 1)) (fun _ x' => x_assign rfl rfl) ?_
  exact q_nil (fun w28 x29 => t_norm (⟨_, rfl, ⟨k7 + 1, by omega, e11, e12, e13, (Eq.trans (show _ = Value.int .i64 ((cntF set k7 : Nat) : Int) from e14) (show Value.int .i64 (((cntF set k7 : Nat) : Int)) = Value.int .i64 ((cntF set (k7 + 1) : Nat) : Int) from by rw [cntF_step, c19]; simp)), rfl, (((x10.trans x18).trans x27).trans x29)⟩, meas_up e15 hl16⟩))
 obtain rfl : k7 = N := by omega
 refine c_seq (c_seq (c_quiet (qv (iJ (k7 : Int)) (fun _ x' => x_move rfl e15) ?_)))
 refine qv (iJ f) (fun _ x' => x_move rfl e11) ?_
 refine q_call (vs := #[iJ f]) fn_16 rfl rfl rfl (args1 rfl) (v := iJ (sizeF f)) (fun _ x' => D_size _ f) ?_
 refine qv (.bool false) (fun _ x' => yb (x_lss rfl rfl rfl) (decide_eq_false (by omega))) ?_
 refine q_nil (fun w30 x31 => t_norm (c_false rfl (c_exit (t_exit (t_exit (b_exit (t_norm (c_seq (c_quiet (qv (iJ f) (fun _ x' => x_move rfl e11) ?_))))))))))
 refine q_call (vs := #[iJ f]) fn_16 rfl rfl rfl (args1 rfl) (v := iJ (sizeF f)) (fun _ x' => D_size _ f) ?_
 refine q_bool (b := decide (sizeF f > 0)) rfl rfl (fun _ x' => x_gtr rfl rfl rfl) (fun c32 => ?_) (fun c32 => ?_)
 ·refine qv (.bool true) (fun _ x' => x_move rfl rfl) ?_
  refine qv (iJ ((cntF set k7 : Nat) : Int)) (fun _ x' => x_move rfl e14) ?_
  refine qv (iJ f) (fun _ x' => x_move rfl e11) ?_
  refine q_call (vs := #[iJ f]) fn_40 rfl rfl rfl (args1 rfl) (v := iJ (slowF f)) (fun _ x' => D_slow _ f) ?_
  refine q_bool (b := decide (((cntF set k7 : Nat) : Int) ≥ slowF f)) rfl rfl (fun _ x' => x_geq rfl rfl rfl) (fun c33 => ?_) (fun c33 => ?_)
  ·refine qv (.bool true) (fun _ x' => x_pick_t rfl rfl rfl) ?_
   refine qv (.bool true) (fun _ x' => x_assign rfl rfl) ?_
   exact q_nil (fun w34 x35 => t_norm (c_ret (c_done rfl rfl (Ret.b (maj_end hN c32 c33) (((((x2.trans x4).trans x6).trans x10).trans x31).trans x35)))))
  refine qv (.bool false) (fun _ x' => x_pick_t rfl rfl rfl) ?_
  refine qv (.bool false) (fun _ x' => x_assign rfl rfl) ?_
  exact q_nil (fun w36 x37 => t_norm (c_ret (c_done rfl rfl (Ret.b (maj_end hN c32 c33) (((((x2.trans x4).trans x6).trans x10).trans x31).trans x37)))))
 refine qv (.bool false) (fun _ x' => x_move rfl rfl) ?_
 refine qk rfl rfl (qk rfl rfl (qk rfl rfl (qk rfl rfl (qv (.bool false) (fun _ x' => x_pick_f rfl rfl rfl) ?_))))
 refine qv (.bool false) (fun _ x' => x_assign rfl rfl) ?_
 exact q_nil (fun w38 x39 => t_norm (c_ret (c_done rfl rfl (Ret.b (maj_no c32) (((((x2.trans x4).trans x6).trans x10).trans x31).trans x39)))))
end Go.Proofs.Ytgamfmkefipngaa
