/- A walk through the code of layers below, or of layer 10. -/
import Derived.Test.YtadeigpphklmfaaDos
import Derived.Test.YtadeigpphklmfaaDrs
import Derived.Test.YtadeigpphklmfaaPan
import Derived.Test.YtadeigpphklmfaaTy
namespace Go.Proofs.Ytadeigpphklmfaa
open Go.RowKit Go.Eng
set_option linter.unusedVariables false
set_option linter.unusedSimpArgs false
theorem C_within (w : World) (a b c : Int) :
    Calls Try.prog 51 #[.int .i64 a, .int .i64 b, .int .i64 c] w (Ret w (.bool (within a b c))) := by
 refine c_enter (n := 15) Try.func51 rfl rfl rfl ?_
 refine c_seq (c_quiet (qv (.bool false) (fun _ x' => x_assign rfl rfl) ?_))
 refine q_nil (fun w1 x2 => t_norm (c_seq (c_quiet (qv (iJ a) (fun _ x' => x_move rfl rfl) ?_))))
 refine qv (iJ b) (fun _ x' => x_move rfl rfl) ?_
 refine q_bool (b := decide (a ≥ b)) rfl rfl (fun _ x' => x_geq rfl rfl rfl) (fun c3 => ?_) (fun c3 => ?_)
 ·refine qv (.bool true) (fun _ x' => x_move rfl rfl) ?_
  refine qv (iJ a) (fun _ x' => x_move rfl rfl) ?_
  refine qv (iJ c) (fun _ x' => x_move rfl rfl) ?_
  refine q_bool (b := decide (a ≤ c)) rfl rfl (fun _ x' => x_leq rfl rfl rfl) (fun c4 => ?_) (fun c4 => ?_)
  ·refine qv (.bool true) (fun _ x' => x_pick_t rfl rfl rfl) ?_
   refine qv (.bool true) (fun _ x' => x_assign rfl rfl) ?_
   exact q_nil (fun w5 x6 => t_norm (c_ret (c_done rfl rfl (Ret.b (by simp only [within]; simp_all <;> omega) (x2.trans x6)))))
  refine qv (.bool false) (fun _ x' => x_pick_t rfl rfl rfl) ?_
  refine qv (.bool false) (fun _ x' => x_assign rfl rfl) ?_
  exact q_nil (fun w7 x8 => t_norm (c_ret (c_done rfl rfl (Ret.b (by simp only [within]; simp_all <;> omega) (x2.trans x8)))))
 refine qv (.bool false) (fun _ x' => x_move rfl rfl) ?_
 refine qk rfl rfl (qk rfl rfl (qk rfl rfl (qv (.bool false) (fun _ x' => x_pick_f rfl rfl rfl) ?_)))
 refine qv (.bool false) (fun _ x' => x_assign rfl rfl) ?_
 exact q_nil (fun w9 x10 => t_norm (c_ret (c_done rfl rfl (Ret.b (by simp only [within]; simp_all <;> omega) (x2.trans x10)))))
theorem C_wwithin (w : World) (a b c : Int) :
    Calls Try.prog 41 #[.int .i64 a, .int .i64 b, .int .i64 c] w (Ret w (.bool (within a b c))) := by
 refine c_enter (n := 15) Try.func41 rfl rfl rfl ?_
 refine c_seq (c_quiet (qv (.bool false) (fun _ x' => x_assign rfl rfl) ?_))
 refine q_nil (fun w1 x2 => t_norm (c_seq (c_quiet (qv (iJ a) (fun _ x' => x_move rfl rfl) ?_))))
 refine qv (iJ b) (fun _ x' => x_move rfl rfl) ?_
 refine q_bool (b := decide (a ≥ b)) rfl rfl (fun _ x' => x_geq rfl rfl rfl) (fun c3 => ?_) (fun c3 => ?_)
 ·refine qv (.bool true) (fun _ x' => x_move rfl rfl) ?_
  refine qv (iJ a) (fun _ x' => x_move rfl rfl) ?_
  refine qv (iJ c) (fun _ x' => x_move rfl rfl) ?_
  refine q_bool (b := decide (a ≤ c)) rfl rfl (fun _ x' => x_leq rfl rfl rfl) (fun c4 => ?_) (fun c4 => ?_)
  ·refine qv (.bool true) (fun _ x' => x_pick_t rfl rfl rfl) ?_
   refine qv (.bool true) (fun _ x' => x_assign rfl rfl) ?_
   exact q_nil (fun w5 x6 => t_norm (c_ret (c_done rfl rfl (Ret.b (by simp only [within]; simp_all <;> omega) (x2.trans x6)))))
  refine qv (.bool false) (fun _ x' => x_pick_t rfl rfl rfl) ?_
  refine qv (.bool false) (fun _ x' => x_assign rfl rfl) ?_
  exact q_nil (fun w7 x8 => t_norm (c_ret (c_done rfl rfl (Ret.b (by simp only [within]; simp_all <;> omega) (x2.trans x8)))))
 refine qv (.bool false) (fun _ x' => x_move rfl rfl) ?_
 refine qk rfl rfl (qk rfl rfl (qk rfl rfl (qv (.bool false) (fun _ x' => x_pick_f rfl rfl rfl) ?_)))
 refine qv (.bool false) (fun _ x' => x_assign rfl rfl) ?_
 exact q_nil (fun w9 x10 => t_norm (c_ret (c_done rfl rfl (Ret.b (by simp only [within]; simp_all <;> omega) (x2.trans x10)))))
theorem C_rightInst (w : World) (a : Inst) :
    Calls Try.prog 52 #[vInst a] w (Ret w (.bool (rightInst a))) := by
 refine c_enter (n := 11) Try.func52 rfl rfl rfl ?_
 refine c_seq (c_plain (p_box rfl rfl rfl rfl (fun w1 b2 x3 z4 => ?_)))
 refine pv (.bool false) (x_assign rfl rfl) ?_
 refine p_nil (t_norm (c_seq (c_quiet (qv (pJ w.heap.size) (fun _ x' => x_fieldAddr fld_29_0 rfl rfl rfl) ?_))))
 refine qv (iJ a.replica) (fun _ x' => x_load rfl rfl ((b2.ext x').one one_3 rfl)) ?_
 refine q_callb (b := within a.replica 0 6) (vs := #[iJ a.replica, iJ 0, iJ 6]) fn_51 rfl rfl rfl (args3 rfl rfl rfl) (fun _ x' => C_within _ a.replica 0 6) (fun c5 => ?_) (fun c5 => ?_)
 ·refine qv (.bool true) (fun _ x' => x_move rfl rfl) ?_
  refine qv (.pointer (some (⟨w.heap.size, 1, none⟩))) (fun _ x' => x_fieldAddr fld_29_1 rfl rfl rfl) ?_
  refine qv (iJ a.slot) (fun _ x' => x_load rfl rfl ((b2.ext x').one one_3 rfl)) ?_
  refine q_callb (b := within a.slot 1 1048576) (vs := #[iJ a.slot, iJ 1, iJ 1048576]) fn_51 rfl rfl rfl (args3 rfl rfl rfl) (fun _ x' => C_within _ a.slot 1 1048576) (fun c6 => ?_) (fun c6 => ?_)
  ·refine qv (.bool true) (fun _ x' => x_pick_t rfl rfl rfl) ?_
   refine qv (.bool true) (fun _ x' => x_assign rfl rfl) ?_
   exact q_nil (fun w7 x8 => t_norm (c_ret (c_done rfl rfl (Ret.b (by simp_all [rightInst]) (x3.trans x8)))))
  refine qv (.bool false) (fun _ x' => x_pick_t rfl rfl rfl) ?_
  refine qv (.bool false) (fun _ x' => x_assign rfl rfl) ?_
  exact q_nil (fun w9 x10 => t_norm (c_ret (c_done rfl rfl (Ret.b (by simp_all [rightInst]) (x3.trans x10)))))
 refine qv (.bool false) (fun _ x' => x_move rfl rfl) ?_
 refine qk rfl rfl (qk rfl rfl (qk rfl rfl (qv (.bool false) (fun _ x' => x_pick_f rfl rfl rfl) ?_)))
 refine qv (.bool false) (fun _ x' => x_assign rfl rfl) ?_
 exact q_nil (fun w11 x12 => t_norm (c_ret (c_done rfl rfl (Ret.b (by simp_all [rightInst]) (x3.trans x12)))))
theorem D_rightInst (w : World) (a : Inst) :
    Calls Try.prog 45 #[vInst a] w (Ret w (.bool (rightInst a))) := by
 refine c_enter (n := 21) Try.func45 rfl rfl rfl ?_
 refine c_seq (c_plain (p_box rfl rfl rfl rfl (fun w1 b2 x3 z4 => ?_)))
 refine pv (.bool false) (x_assign rfl rfl) ?_
 refine p_nil (t_norm (c_seq (c_quiet (qv (pJ w.heap.size) (fun _ x' => x_fieldAddr fld_29_0 rfl rfl rfl) ?_))))
 refine qv (iJ a.replica) (fun _ x' => x_load rfl rfl ((b2.ext x').one one_3 rfl)) ?_
 refine q_bool (b := decide (a.replica ≥ 0)) rfl rfl (fun _ x' => x_geq rfl rfl rfl) (fun c5 => ?_) (fun c5 => ?_)
 ·refine qv (.bool true) (fun _ x' => x_move rfl rfl) ?_
  refine qv (pJ w.heap.size) (fun _ x' => x_fieldAddr fld_29_0 rfl rfl rfl) ?_
  refine qv (iJ a.replica) (fun _ x' => x_load rfl rfl ((b2.ext x').one one_3 rfl)) ?_
  refine q_bool (b := decide (a.replica ≤ 6)) rfl rfl (fun _ x' => x_leq rfl rfl rfl) (fun c6 => ?_) (fun c6 => ?_)
  ·refine qv (.bool true) (fun _ x' => x_pick_t rfl rfl rfl) ?_
   refine qv (.bool true) (fun _ x' => x_move rfl rfl) ?_
   refine qv (.pointer (some (⟨w.heap.size, 1, none⟩))) (fun _ x' => x_fieldAddr fld_29_1 rfl rfl rfl) ?_
   refine qv (iJ a.slot) (fun _ x' => x_load rfl rfl ((b2.ext x').one one_3 rfl)) ?_
   refine q_bool (b := decide (a.slot ≥ 1)) rfl rfl (fun _ x' => x_geq rfl rfl rfl) (fun c7 => ?_) (fun c7 => ?_)
   ·refine qv (.bool true) (fun _ x' => x_pick_t rfl rfl rfl) ?_
    refine qv (.bool true) (fun _ x' => x_move rfl rfl) ?_
    refine qv (.pointer (some (⟨w.heap.size, 1, none⟩))) (fun _ x' => x_fieldAddr fld_29_1 rfl rfl rfl) ?_
    refine qv (iJ a.slot) (fun _ x' => x_load rfl rfl ((b2.ext x').one one_3 rfl)) ?_
    refine q_bool (b := decide (a.slot ≤ 1048576)) rfl rfl (fun _ x' => x_leq rfl rfl rfl) (fun c8 => ?_) (fun c8 => ?_)
    ·refine qv (.bool true) (fun _ x' => x_pick_t rfl rfl rfl) ?_
     refine qv (.bool true) (fun _ x' => x_assign rfl rfl) ?_
     exact q_nil (fun w9 x10 => t_norm (c_ret (c_done rfl rfl (Ret.b (by simp only [rightInst, within]; simp_all <;> omega) (x3.trans x10)))))
    refine qv (.bool false) (fun _ x' => x_pick_t rfl rfl rfl) ?_
    refine qv (.bool false) (fun _ x' => x_assign rfl rfl) ?_
    exact q_nil (fun w11 x12 => t_norm (c_ret (c_done rfl rfl (Ret.b (by simp only [rightInst, within]; simp_all <;> omega) (x3.trans x12)))))
   refine qv (.bool false) (fun _ x' => x_pick_t rfl rfl rfl) ?_
   refine qv (.bool false) (fun _ x' => x_move rfl rfl) ?_
   refine qk rfl rfl (qk rfl rfl (qk rfl rfl (qv (.bool false) (fun _ x' => x_pick_f rfl rfl rfl) ?_)))
   refine qv (.bool false) (fun _ x' => x_assign rfl rfl) ?_
   exact q_nil (fun w13 x14 => t_norm (c_ret (c_done rfl rfl (Ret.b (by simp only [rightInst, within]; simp_all <;> omega) (x3.trans x14)))))
  refine qv (.bool false) (fun _ x' => x_pick_t rfl rfl rfl) ?_
  refine qv (.bool false) (fun _ x' => x_move rfl rfl) ?_
  refine qk rfl rfl (qk rfl rfl (qk rfl rfl (qv (.bool false) (fun _ x' => x_pick_f rfl rfl rfl) ?_)))
  refine qv (.bool false) (fun _ x' => x_move rfl rfl) ?_
  refine qk rfl rfl (qk rfl rfl (qk rfl rfl (qv (.bool false) (fun _ x' => x_pick_f rfl rfl rfl) ?_)))
  refine qv (.bool false) (fun _ x' => x_assign rfl rfl) ?_
  exact q_nil (fun w15 x16 => t_norm (c_ret (c_done rfl rfl (Ret.b (by simp only [rightInst, within]; simp_all <;> omega) (x3.trans x16)))))
 refine qv (.bool false) (fun _ x' => x_move rfl rfl) ?_
 refine qk rfl rfl (qk rfl rfl (qk rfl rfl (qv (.bool false) (fun _ x' => x_pick_f rfl rfl rfl) ?_)))
 refine qv (.bool false) (fun _ x' => x_move rfl rfl) ?_
 refine qk rfl rfl (qk rfl rfl (qk rfl rfl (qv (.bool false) (fun _ x' => x_pick_f rfl rfl rfl) ?_)))
 refine qv (.bool false) (fun _ x' => x_move rfl rfl) ?_
 refine qk rfl rfl (qk rfl rfl (qk rfl rfl (qv (.bool false) (fun _ x' => x_pick_f rfl rfl rfl) ?_)))
 refine qv (.bool false) (fun _ x' => x_assign rfl rfl) ?_
 exact q_nil (fun w17 x18 => t_norm (c_ret (c_done rfl rfl (Ret.b (by simp only [rightInst, within]; simp_all <;> omega) (x3.trans x18)))))
theorem C_rightBal (w : World) (a : Bal) :
    Calls Try.prog 42 #[vBal a] w (Ret w (.bool (rightBal a))) := by
 refine c_enter (n := 11) Try.func42 rfl rfl rfl ?_
 refine c_seq (c_plain (p_box rfl rfl rfl rfl (fun w1 b2 x3 z4 => ?_)))
 refine pv (.bool false) (x_assign rfl rfl) ?_
 refine p_nil (t_norm (c_seq (c_quiet (qv (pJ w.heap.size) (fun _ x' => x_fieldAddr fld_27_0 rfl rfl rfl) ?_))))
 refine qv (iJ a.number) (fun _ x' => x_load rfl rfl ((b2.ext x').one one_3 rfl)) ?_
 refine q_callb (b := within a.number 0 1099511627776) (vs := #[iJ a.number, iJ 0, iJ 1099511627776]) fn_51 rfl rfl rfl (args3 rfl rfl rfl) (fun _ x' => C_within _ a.number 0 1099511627776) (fun c5 => ?_) (fun c5 => ?_)
 ·refine qv (.bool true) (fun _ x' => x_move rfl rfl) ?_
  refine qv (.pointer (some (⟨w.heap.size, 1, none⟩))) (fun _ x' => x_fieldAddr fld_27_1 rfl rfl rfl) ?_
  refine qv (iJ a.replica) (fun _ x' => x_load rfl rfl ((b2.ext x').one one_3 rfl)) ?_
  refine q_callb (b := within a.replica 0 6) (vs := #[iJ a.replica, iJ 0, iJ 6]) fn_51 rfl rfl rfl (args3 rfl rfl rfl) (fun _ x' => C_within _ a.replica 0 6) (fun c6 => ?_) (fun c6 => ?_)
  ·refine qv (.bool true) (fun _ x' => x_pick_t rfl rfl rfl) ?_
   refine qv (.bool true) (fun _ x' => x_assign rfl rfl) ?_
   exact q_nil (fun w7 x8 => t_norm (c_ret (c_done rfl rfl (Ret.b (by simp_all [rightBal]) (x3.trans x8)))))
  refine qv (.bool false) (fun _ x' => x_pick_t rfl rfl rfl) ?_
  refine qv (.bool false) (fun _ x' => x_assign rfl rfl) ?_
  exact q_nil (fun w9 x10 => t_norm (c_ret (c_done rfl rfl (Ret.b (by simp_all [rightBal]) (x3.trans x10)))))
 refine qv (.bool false) (fun _ x' => x_move rfl rfl) ?_
 refine qk rfl rfl (qk rfl rfl (qk rfl rfl (qv (.bool false) (fun _ x' => x_pick_f rfl rfl rfl) ?_)))
 refine qv (.bool false) (fun _ x' => x_assign rfl rfl) ?_
 exact q_nil (fun w11 x12 => t_norm (c_ret (c_done rfl rfl (Ret.b (by simp_all [rightBal]) (x3.trans x12)))))
theorem D_rightBal (w : World) (a : Bal) :
    Calls Try.prog 31 #[vBal a] w (Ret w (.bool (rightBal a))) := by
 refine c_enter (n := 21) Try.func31 rfl rfl rfl ?_
 refine c_seq (c_plain (p_box rfl rfl rfl rfl (fun w1 b2 x3 z4 => ?_)))
 refine pv (.bool false) (x_assign rfl rfl) ?_
 refine p_nil (t_norm (c_seq (c_quiet (qv (pJ w.heap.size) (fun _ x' => x_fieldAddr fld_27_0 rfl rfl rfl) ?_))))
 refine qv (iJ a.number) (fun _ x' => x_load rfl rfl ((b2.ext x').one one_3 rfl)) ?_
 refine q_bool (b := decide (a.number ≥ 0)) rfl rfl (fun _ x' => x_geq rfl rfl rfl) (fun c5 => ?_) (fun c5 => ?_)
 ·refine qv (.bool true) (fun _ x' => x_move rfl rfl) ?_
  refine qv (pJ w.heap.size) (fun _ x' => x_fieldAddr fld_27_0 rfl rfl rfl) ?_
  refine qv (iJ a.number) (fun _ x' => x_load rfl rfl ((b2.ext x').one one_3 rfl)) ?_
  refine q_bool (b := decide (a.number ≤ 1099511627776)) rfl rfl (fun _ x' => x_leq rfl rfl rfl) (fun c6 => ?_) (fun c6 => ?_)
  ·refine qv (.bool true) (fun _ x' => x_pick_t rfl rfl rfl) ?_
   refine qv (.bool true) (fun _ x' => x_move rfl rfl) ?_
   refine qv (.pointer (some (⟨w.heap.size, 1, none⟩))) (fun _ x' => x_fieldAddr fld_27_1 rfl rfl rfl) ?_
   refine qv (iJ a.replica) (fun _ x' => x_load rfl rfl ((b2.ext x').one one_3 rfl)) ?_
   refine q_bool (b := decide (a.replica ≥ 0)) rfl rfl (fun _ x' => x_geq rfl rfl rfl) (fun c7 => ?_) (fun c7 => ?_)
   ·refine qv (.bool true) (fun _ x' => x_pick_t rfl rfl rfl) ?_
    refine qv (.bool true) (fun _ x' => x_move rfl rfl) ?_
    refine qv (.pointer (some (⟨w.heap.size, 1, none⟩))) (fun _ x' => x_fieldAddr fld_27_1 rfl rfl rfl) ?_
    refine qv (iJ a.replica) (fun _ x' => x_load rfl rfl ((b2.ext x').one one_3 rfl)) ?_
    refine q_bool (b := decide (a.replica ≤ 6)) rfl rfl (fun _ x' => x_leq rfl rfl rfl) (fun c8 => ?_) (fun c8 => ?_)
    ·refine qv (.bool true) (fun _ x' => x_pick_t rfl rfl rfl) ?_
     refine qv (.bool true) (fun _ x' => x_assign rfl rfl) ?_
     exact q_nil (fun w9 x10 => t_norm (c_ret (c_done rfl rfl (Ret.b (by simp only [rightBal, within]; simp_all <;> omega) (x3.trans x10)))))
    refine qv (.bool false) (fun _ x' => x_pick_t rfl rfl rfl) ?_
    refine qv (.bool false) (fun _ x' => x_assign rfl rfl) ?_
    exact q_nil (fun w11 x12 => t_norm (c_ret (c_done rfl rfl (Ret.b (by simp only [rightBal, within]; simp_all <;> omega) (x3.trans x12)))))
   refine qv (.bool false) (fun _ x' => x_pick_t rfl rfl rfl) ?_
   refine qv (.bool false) (fun _ x' => x_move rfl rfl) ?_
   refine qk rfl rfl (qk rfl rfl (qk rfl rfl (qv (.bool false) (fun _ x' => x_pick_f rfl rfl rfl) ?_)))
   refine qv (.bool false) (fun _ x' => x_assign rfl rfl) ?_
   exact q_nil (fun w13 x14 => t_norm (c_ret (c_done rfl rfl (Ret.b (by simp only [rightBal, within]; simp_all <;> omega) (x3.trans x14)))))
  refine qv (.bool false) (fun _ x' => x_pick_t rfl rfl rfl) ?_
  refine qv (.bool false) (fun _ x' => x_move rfl rfl) ?_
  refine qk rfl rfl (qk rfl rfl (qk rfl rfl (qv (.bool false) (fun _ x' => x_pick_f rfl rfl rfl) ?_)))
  refine qv (.bool false) (fun _ x' => x_move rfl rfl) ?_
  refine qk rfl rfl (qk rfl rfl (qk rfl rfl (qv (.bool false) (fun _ x' => x_pick_f rfl rfl rfl) ?_)))
  refine qv (.bool false) (fun _ x' => x_assign rfl rfl) ?_
  exact q_nil (fun w15 x16 => t_norm (c_ret (c_done rfl rfl (Ret.b (by simp only [rightBal, within]; simp_all <;> omega) (x3.trans x16)))))
 refine qv (.bool false) (fun _ x' => x_move rfl rfl) ?_
 refine qk rfl rfl (qk rfl rfl (qk rfl rfl (qv (.bool false) (fun _ x' => x_pick_f rfl rfl rfl) ?_)))
 refine qv (.bool false) (fun _ x' => x_move rfl rfl) ?_
 refine qk rfl rfl (qk rfl rfl (qk rfl rfl (qv (.bool false) (fun _ x' => x_pick_f rfl rfl rfl) ?_)))
 refine qv (.bool false) (fun _ x' => x_move rfl rfl) ?_
 refine qk rfl rfl (qk rfl rfl (qk rfl rfl (qv (.bool false) (fun _ x' => x_pick_f rfl rfl rfl) ?_)))
 refine qv (.bool false) (fun _ x' => x_assign rfl rfl) ?_
 exact q_nil (fun w17 x18 => t_norm (c_ret (c_done rfl rfl (Ret.b (by simp only [rightBal, within]; simp_all <;> omega) (x3.trans x18)))))
theorem C_rightTxn (w : World) (a : Txn) :
    Calls Try.prog 64 #[vTxn a] w (Ret w (.bool (rightTxn a))) := by
 refine c_enter (n := 11) Try.func64 rfl rfl rfl ?_
 refine c_seq (c_plain (p_box rfl rfl rfl rfl (fun w1 b2 x3 z4 => ?_)))
 refine pv (.bool false) (x_assign rfl rfl) ?_
 refine p_nil (t_norm (c_seq (c_quiet (qv (pJ w.heap.size) (fun _ x' => x_fieldAddr fld_31_0 rfl rfl rfl) ?_))))
 refine qv (iJ a.client) (fun _ x' => x_load rfl rfl ((b2.ext x').one one_3 rfl)) ?_
 refine q_callb (b := within a.client 0 3) (vs := #[iJ a.client, iJ 0, iJ 3]) fn_51 rfl rfl rfl (args3 rfl rfl rfl) (fun _ x' => C_within _ a.client 0 3) (fun c5 => ?_) (fun c5 => ?_)
 ·refine qv (.bool true) (fun _ x' => x_move rfl rfl) ?_
  refine qv (.pointer (some (⟨w.heap.size, 1, none⟩))) (fun _ x' => x_fieldAddr fld_31_1 rfl rfl rfl) ?_
  refine qv (iJ a.number) (fun _ x' => x_load rfl rfl ((b2.ext x').one one_3 rfl)) ?_
  refine q_callb (b := within a.number 1 1099511627776) (vs := #[iJ a.number, iJ 1, iJ 1099511627776]) fn_51 rfl rfl rfl (args3 rfl rfl rfl) (fun _ x' => C_within _ a.number 1 1099511627776) (fun c6 => ?_) (fun c6 => ?_)
  ·refine qv (.bool true) (fun _ x' => x_pick_t rfl rfl rfl) ?_
   refine qv (.bool true) (fun _ x' => x_assign rfl rfl) ?_
   exact q_nil (fun w7 x8 => t_norm (c_ret (c_done rfl rfl (Ret.b (by simp_all [rightTxn]) (x3.trans x8)))))
  refine qv (.bool false) (fun _ x' => x_pick_t rfl rfl rfl) ?_
  refine qv (.bool false) (fun _ x' => x_assign rfl rfl) ?_
  exact q_nil (fun w9 x10 => t_norm (c_ret (c_done rfl rfl (Ret.b (by simp_all [rightTxn]) (x3.trans x10)))))
 refine qv (.bool false) (fun _ x' => x_move rfl rfl) ?_
 refine qk rfl rfl (qk rfl rfl (qk rfl rfl (qv (.bool false) (fun _ x' => x_pick_f rfl rfl rfl) ?_)))
 refine qv (.bool false) (fun _ x' => x_assign rfl rfl) ?_
 exact q_nil (fun w11 x12 => t_norm (c_ret (c_done rfl rfl (Ret.b (by simp_all [rightTxn]) (x3.trans x12)))))
theorem D_rightTxn (w : World) (a : Txn) :
    Calls Try.prog 58 #[vTxn a] w (Ret w (.bool (rightTxn a))) := by
 refine c_enter (n := 21) Try.func58 rfl rfl rfl ?_
 refine c_seq (c_plain (p_box rfl rfl rfl rfl (fun w1 b2 x3 z4 => ?_)))
 refine pv (.bool false) (x_assign rfl rfl) ?_
 refine p_nil (t_norm (c_seq (c_quiet (qv (pJ w.heap.size) (fun _ x' => x_fieldAddr fld_31_0 rfl rfl rfl) ?_))))
 refine qv (iJ a.client) (fun _ x' => x_load rfl rfl ((b2.ext x').one one_3 rfl)) ?_
 refine q_bool (b := decide (a.client ≥ 0)) rfl rfl (fun _ x' => x_geq rfl rfl rfl) (fun c5 => ?_) (fun c5 => ?_)
 ·refine qv (.bool true) (fun _ x' => x_move rfl rfl) ?_
  refine qv (pJ w.heap.size) (fun _ x' => x_fieldAddr fld_31_0 rfl rfl rfl) ?_
  refine qv (iJ a.client) (fun _ x' => x_load rfl rfl ((b2.ext x').one one_3 rfl)) ?_
  refine q_bool (b := decide (a.client ≤ 3)) rfl rfl (fun _ x' => x_leq rfl rfl rfl) (fun c6 => ?_) (fun c6 => ?_)
  ·refine qv (.bool true) (fun _ x' => x_pick_t rfl rfl rfl) ?_
   refine qv (.bool true) (fun _ x' => x_move rfl rfl) ?_
   refine qv (.pointer (some (⟨w.heap.size, 1, none⟩))) (fun _ x' => x_fieldAddr fld_31_1 rfl rfl rfl) ?_
   refine qv (iJ a.number) (fun _ x' => x_load rfl rfl ((b2.ext x').one one_3 rfl)) ?_
   refine q_bool (b := decide (a.number ≥ 1)) rfl rfl (fun _ x' => x_geq rfl rfl rfl) (fun c7 => ?_) (fun c7 => ?_)
   ·refine qv (.bool true) (fun _ x' => x_pick_t rfl rfl rfl) ?_
    refine qv (.bool true) (fun _ x' => x_move rfl rfl) ?_
    refine qv (.pointer (some (⟨w.heap.size, 1, none⟩))) (fun _ x' => x_fieldAddr fld_31_1 rfl rfl rfl) ?_
    refine qv (iJ a.number) (fun _ x' => x_load rfl rfl ((b2.ext x').one one_3 rfl)) ?_
    refine q_bool (b := decide (a.number ≤ 1099511627776)) rfl rfl (fun _ x' => x_leq rfl rfl rfl) (fun c8 => ?_) (fun c8 => ?_)
    ·refine qv (.bool true) (fun _ x' => x_pick_t rfl rfl rfl) ?_
     refine qv (.bool true) (fun _ x' => x_assign rfl rfl) ?_
     exact q_nil (fun w9 x10 => t_norm (c_ret (c_done rfl rfl (Ret.b (by simp only [rightTxn, within]; simp_all <;> omega) (x3.trans x10)))))
    refine qv (.bool false) (fun _ x' => x_pick_t rfl rfl rfl) ?_
    refine qv (.bool false) (fun _ x' => x_assign rfl rfl) ?_
    exact q_nil (fun w11 x12 => t_norm (c_ret (c_done rfl rfl (Ret.b (by simp only [rightTxn, within]; simp_all <;> omega) (x3.trans x12)))))
   refine qv (.bool false) (fun _ x' => x_pick_t rfl rfl rfl) ?_
   refine qv (.bool false) (fun _ x' => x_move rfl rfl) ?_
   refine qk rfl rfl (qk rfl rfl (qk rfl rfl (qv (.bool false) (fun _ x' => x_pick_f rfl rfl rfl) ?_)))
   refine qv (.bool false) (fun _ x' => x_assign rfl rfl) ?_
   exact q_nil (fun w13 x14 => t_norm (c_ret (c_done rfl rfl (Ret.b (by simp only [rightTxn, within]; simp_all <;> omega) (x3.trans x14)))))
  refine qv (.bool false) (fun _ x' => x_pick_t rfl rfl rfl) ?_
  refine qv (.bool false) (fun _ x' => x_move rfl rfl) ?_
  refine qk rfl rfl (qk rfl rfl (qk rfl rfl (qv (.bool false) (fun _ x' => x_pick_f rfl rfl rfl) ?_)))
  refine qv (.bool false) (fun _ x' => x_move rfl rfl) ?_
  refine qk rfl rfl (qk rfl rfl (qk rfl rfl (qv (.bool false) (fun _ x' => x_pick_f rfl rfl rfl) ?_)))
  refine qv (.bool false) (fun _ x' => x_assign rfl rfl) ?_
  exact q_nil (fun w15 x16 => t_norm (c_ret (c_done rfl rfl (Ret.b (by simp only [rightTxn, within]; simp_all <;> omega) (x3.trans x16)))))
 refine qv (.bool false) (fun _ x' => x_move rfl rfl) ?_
 refine qk rfl rfl (qk rfl rfl (qk rfl rfl (qv (.bool false) (fun _ x' => x_pick_f rfl rfl rfl) ?_)))
 refine qv (.bool false) (fun _ x' => x_move rfl rfl) ?_
 refine qk rfl rfl (qk rfl rfl (qk rfl rfl (qv (.bool false) (fun _ x' => x_pick_f rfl rfl rfl) ?_)))
 refine qv (.bool false) (fun _ x' => x_move rfl rfl) ?_
 refine qk rfl rfl (qk rfl rfl (qk rfl rfl (qv (.bool false) (fun _ x' => x_pick_f rfl rfl rfl) ?_)))
 refine qv (.bool false) (fun _ x' => x_assign rfl rfl) ?_
 exact q_nil (fun w17 x18 => t_norm (c_ret (c_done rfl rfl (Ret.b (by simp only [rightTxn, within]; simp_all <;> omega) (x3.trans x18)))))
theorem C_rightStp (w : World) (a : Stp) :
    Calls Try.prog 65 #[vStp a] w (Ret w (.bool (rightStp a))) := by
 refine c_enter (n := 11) Try.func65 rfl rfl rfl ?_
 refine c_seq (c_plain (p_box rfl rfl rfl rfl (fun w1 b2 x3 z4 => ?_)))
 refine pv (.bool false) (x_assign rfl rfl) ?_
 refine p_nil (t_norm (c_seq (c_quiet (qv (pJ w.heap.size) (fun _ x' => x_fieldAddr fld_33_0 rfl rfl rfl) ?_))))
 refine qv (iJ a.time) (fun _ x' => x_load rfl rfl ((b2.ext x').one one_3 rfl)) ?_
 refine q_callb (b := within a.time 0 1099511627776) (vs := #[iJ a.time, iJ 0, iJ 1099511627776]) fn_51 rfl rfl rfl (args3 rfl rfl rfl) (fun _ x' => C_within _ a.time 0 1099511627776) (fun c5 => ?_) (fun c5 => ?_)
 ·refine qv (.bool true) (fun _ x' => x_move rfl rfl) ?_
  refine qv (.pointer (some (⟨w.heap.size, 1, none⟩))) (fun _ x' => x_fieldAddr fld_33_1 rfl rfl rfl) ?_
  refine qv (iJ a.client) (fun _ x' => x_load rfl rfl ((b2.ext x').one one_3 rfl)) ?_
  refine q_callb (b := within a.client 0 3) (vs := #[iJ a.client, iJ 0, iJ 3]) fn_51 rfl rfl rfl (args3 rfl rfl rfl) (fun _ x' => C_within _ a.client 0 3) (fun c6 => ?_) (fun c6 => ?_)
  ·refine qv (.bool true) (fun _ x' => x_pick_t rfl rfl rfl) ?_
   refine qv (.bool true) (fun _ x' => x_assign rfl rfl) ?_
   exact q_nil (fun w7 x8 => t_norm (c_ret (c_done rfl rfl (Ret.b (by simp_all [rightStp]) (x3.trans x8)))))
  refine qv (.bool false) (fun _ x' => x_pick_t rfl rfl rfl) ?_
  refine qv (.bool false) (fun _ x' => x_assign rfl rfl) ?_
  exact q_nil (fun w9 x10 => t_norm (c_ret (c_done rfl rfl (Ret.b (by simp_all [rightStp]) (x3.trans x10)))))
 refine qv (.bool false) (fun _ x' => x_move rfl rfl) ?_
 refine qk rfl rfl (qk rfl rfl (qk rfl rfl (qv (.bool false) (fun _ x' => x_pick_f rfl rfl rfl) ?_)))
 refine qv (.bool false) (fun _ x' => x_assign rfl rfl) ?_
 exact q_nil (fun w11 x12 => t_norm (c_ret (c_done rfl rfl (Ret.b (by simp_all [rightStp]) (x3.trans x12)))))
theorem D_rightStp (w : World) (a : Stp) :
    Calls Try.prog 59 #[vStp a] w (Ret w (.bool (rightStp a))) := by
 refine c_enter (n := 21) Try.func59 rfl rfl rfl ?_
 refine c_seq (c_plain (p_box rfl rfl rfl rfl (fun w1 b2 x3 z4 => ?_)))
 refine pv (.bool false) (x_assign rfl rfl) ?_
 refine p_nil (t_norm (c_seq (c_quiet (qv (pJ w.heap.size) (fun _ x' => x_fieldAddr fld_33_0 rfl rfl rfl) ?_))))
 refine qv (iJ a.time) (fun _ x' => x_load rfl rfl ((b2.ext x').one one_3 rfl)) ?_
 refine q_bool (b := decide (a.time ≥ 0)) rfl rfl (fun _ x' => x_geq rfl rfl rfl) (fun c5 => ?_) (fun c5 => ?_)
 ·refine qv (.bool true) (fun _ x' => x_move rfl rfl) ?_
  refine qv (pJ w.heap.size) (fun _ x' => x_fieldAddr fld_33_0 rfl rfl rfl) ?_
  refine qv (iJ a.time) (fun _ x' => x_load rfl rfl ((b2.ext x').one one_3 rfl)) ?_
  refine q_bool (b := decide (a.time ≤ 1099511627776)) rfl rfl (fun _ x' => x_leq rfl rfl rfl) (fun c6 => ?_) (fun c6 => ?_)
  ·refine qv (.bool true) (fun _ x' => x_pick_t rfl rfl rfl) ?_
   refine qv (.bool true) (fun _ x' => x_move rfl rfl) ?_
   refine qv (.pointer (some (⟨w.heap.size, 1, none⟩))) (fun _ x' => x_fieldAddr fld_33_1 rfl rfl rfl) ?_
   refine qv (iJ a.client) (fun _ x' => x_load rfl rfl ((b2.ext x').one one_3 rfl)) ?_
   refine q_bool (b := decide (a.client ≥ 0)) rfl rfl (fun _ x' => x_geq rfl rfl rfl) (fun c7 => ?_) (fun c7 => ?_)
   ·refine qv (.bool true) (fun _ x' => x_pick_t rfl rfl rfl) ?_
    refine qv (.bool true) (fun _ x' => x_move rfl rfl) ?_
    refine qv (.pointer (some (⟨w.heap.size, 1, none⟩))) (fun _ x' => x_fieldAddr fld_33_1 rfl rfl rfl) ?_
    refine qv (iJ a.client) (fun _ x' => x_load rfl rfl ((b2.ext x').one one_3 rfl)) ?_
    refine q_bool (b := decide (a.client ≤ 3)) rfl rfl (fun _ x' => x_leq rfl rfl rfl) (fun c8 => ?_) (fun c8 => ?_)
    ·refine qv (.bool true) (fun _ x' => x_pick_t rfl rfl rfl) ?_
     refine qv (.bool true) (fun _ x' => x_assign rfl rfl) ?_
     exact q_nil (fun w9 x10 => t_norm (c_ret (c_done rfl rfl (Ret.b (by simp only [rightStp, within]; simp_all <;> omega) (x3.trans x10)))))
    refine qv (.bool false) (fun _ x' => x_pick_t rfl rfl rfl) ?_
    refine qv (.bool false) (fun _ x' => x_assign rfl rfl) ?_
    exact q_nil (fun w11 x12 => t_norm (c_ret (c_done rfl rfl (Ret.b (by simp only [rightStp, within]; simp_all <;> omega) (x3.trans x12)))))
   refine qv (.bool false) (fun _ x' => x_pick_t rfl rfl rfl) ?_
   refine qv (.bool false) (fun _ x' => x_move rfl rfl) ?_
   refine qk rfl rfl (qk rfl rfl (qk rfl rfl (qv (.bool false) (fun _ x' => x_pick_f rfl rfl rfl) ?_)))
   refine qv (.bool false) (fun _ x' => x_assign rfl rfl) ?_
   exact q_nil (fun w13 x14 => t_norm (c_ret (c_done rfl rfl (Ret.b (by simp only [rightStp, within]; simp_all <;> omega) (x3.trans x14)))))
  refine qv (.bool false) (fun _ x' => x_pick_t rfl rfl rfl) ?_
  refine qv (.bool false) (fun _ x' => x_move rfl rfl) ?_
  refine qk rfl rfl (qk rfl rfl (qk rfl rfl (qv (.bool false) (fun _ x' => x_pick_f rfl rfl rfl) ?_)))
  refine qv (.bool false) (fun _ x' => x_move rfl rfl) ?_
  refine qk rfl rfl (qk rfl rfl (qk rfl rfl (qv (.bool false) (fun _ x' => x_pick_f rfl rfl rfl) ?_)))
  refine qv (.bool false) (fun _ x' => x_assign rfl rfl) ?_
  exact q_nil (fun w15 x16 => t_norm (c_ret (c_done rfl rfl (Ret.b (by simp only [rightStp, within]; simp_all <;> omega) (x3.trans x16)))))
 refine qv (.bool false) (fun _ x' => x_move rfl rfl) ?_
 refine qk rfl rfl (qk rfl rfl (qk rfl rfl (qv (.bool false) (fun _ x' => x_pick_f rfl rfl rfl) ?_)))
 refine qv (.bool false) (fun _ x' => x_move rfl rfl) ?_
 refine qk rfl rfl (qk rfl rfl (qk rfl rfl (qv (.bool false) (fun _ x' => x_pick_f rfl rfl rfl) ?_)))
 refine qv (.bool false) (fun _ x' => x_move rfl rfl) ?_
 refine qk rfl rfl (qk rfl rfl (qk rfl rfl (qv (.bool false) (fun _ x' => x_pick_f rfl rfl rfl) ?_)))
 refine qv (.bool false) (fun _ x' => x_assign rfl rfl) ?_
 exact q_nil (fun w17 x18 => t_norm (c_ret (c_done rfl rfl (Ret.b (by simp only [rightStp, within]; simp_all <;> omega) (x3.trans x18)))))
theorem C_order (w : World) (a b c d : Int) :
    Calls Try.prog 62 #[.int .i64 a, .int .i64 b, .int .i64 c, .int .i64 d] w (Ret w (.int .i64 (cmp2 a b c d))) := by
 refine c_enter (n := 32) Try.func62 rfl rfl rfl ?_
 refine c_seq (c_quiet (qv (iJ 0) (fun _ x' => x_assign rfl rfl) ?_))
 refine q_nil (fun w1 x2 => t_norm (c_seq (c_block (c_seq (c_quiet (qv (iJ a) (fun _ x' => x_move rfl rfl) ?_))))))
 refine qv (iJ c) (fun _ x' => x_move rfl rfl) ?_
 refine q_bool (b := decide (a < c)) rfl rfl (fun _ x' => x_lss rfl rfl rfl) (fun c3 => ?_) (fun c3 => ?_)
 ·refine qv (.bool true) (fun _ x' => x_move rfl rfl) ?_
  refine qk rfl rfl (qk rfl rfl (qk rfl rfl (qk rfl rfl (qk rfl rfl (qk rfl rfl (qk rfl rfl (qk rfl rfl (qv (.bool true) (fun _ x' => x_pick_t rfl rfl rfl) ?_))))))))
  refine qv (.bool true) (fun _ x' => x_assign rfl rfl) ?_
  refine q_nil (fun w4 x5 => t_norm (c_true rfl (c_seq (c_quiet (qv (iJ (-1)) (fun _ x' => x_assign rfl rfl) ?_)))))
  exact q_nil (fun w6 x7 => t_norm (c_ret (b_ret (t_ret (c_done rfl rfl (Ret.i (by simp only [decide_eq_true_eq, decide_eq_false_iff_not] at *; unfold cmp2; (repeat' split) <;> omega) ((x2.trans x5).trans x7)))))))
 refine qv (.bool false) (fun _ x' => x_move rfl rfl) ?_
 refine qv (iJ a) (fun _ x' => x_move rfl rfl) ?_
 refine qv (iJ c) (fun _ x' => x_move rfl rfl) ?_
 refine q_bool (b := decide (a = c)) rfl rfl (fun _ x' => x_eql rfl rfl rfl) (fun c8 => ?_) (fun c8 => ?_)
 ·refine qv (.bool true) (fun _ x' => x_move rfl rfl) ?_
  refine qv (iJ b) (fun _ x' => x_move rfl rfl) ?_
  refine qv (iJ d) (fun _ x' => x_move rfl rfl) ?_
  refine q_bool (b := decide (b < d)) rfl rfl (fun _ x' => x_lss rfl rfl rfl) (fun c9 => ?_) (fun c9 => ?_)
  ·refine qv (.bool true) (fun _ x' => x_pick_t rfl rfl rfl) ?_
   refine qv (.bool true) (fun _ x' => x_pick_f rfl rfl rfl) ?_
   refine qv (.bool true) (fun _ x' => x_assign rfl rfl) ?_
   refine q_nil (fun w10 x11 => t_norm (c_true rfl (c_seq (c_quiet (qv (iJ (-1)) (fun _ x' => x_assign rfl rfl) ?_)))))
   exact q_nil (fun w12 x13 => t_norm (c_ret (b_ret (t_ret (c_done rfl rfl (Ret.i (by simp only [decide_eq_true_eq, decide_eq_false_iff_not] at *; unfold cmp2; (repeat' split) <;> omega) ((x2.trans x11).trans x13)))))))
  refine qv (.bool false) (fun _ x' => x_pick_t rfl rfl rfl) ?_
  refine qv (.bool false) (fun _ x' => x_pick_f rfl rfl rfl) ?_
  refine qv (.bool false) (fun _ x' => x_assign rfl rfl) ?_
  refine q_nil (fun w14 x15 => t_norm (c_false rfl (c_seq (c_quiet (qv (iJ a) (fun _ x' => x_move rfl rfl) ?_)))))
  refine qv (iJ c) (fun _ x' => x_move rfl rfl) ?_
  refine qv (.bool true) (fun _ x' => yb (x_eql rfl rfl rfl) c8) ?_
  refine qv (.bool true) (fun _ x' => x_move rfl rfl) ?_
  refine qv (iJ b) (fun _ x' => x_move rfl rfl) ?_
  refine qv (iJ d) (fun _ x' => x_move rfl rfl) ?_
  refine q_bool (b := decide (b = d)) rfl rfl (fun _ x' => x_eql rfl rfl rfl) (fun c16 => ?_) (fun c16 => ?_)
  ·refine qv (.bool true) (fun _ x' => x_pick_t rfl rfl rfl) ?_
   refine qv (.bool true) (fun _ x' => x_assign rfl rfl) ?_
   refine q_nil (fun w17 x18 => t_norm (c_true rfl (c_seq (c_quiet (qv (iJ 0) (fun _ x' => x_assign rfl rfl) ?_)))))
   exact q_nil (fun w19 x20 => t_norm (c_ret (b_ret (t_ret (c_done rfl rfl (Ret.i (by simp only [decide_eq_true_eq, decide_eq_false_iff_not] at *; unfold cmp2; (repeat' split) <;> omega) (((x2.trans x15).trans x18).trans x20)))))))
  refine qv (.bool false) (fun _ x' => x_pick_t rfl rfl rfl) ?_
  refine qv (.bool false) (fun _ x' => x_assign rfl rfl) ?_
  refine q_nil (fun w21 x22 => t_norm (c_false rfl (c_skip (b_norm (t_norm (c_seq (c_quiet (qv (iJ 1) (fun _ x' => x_assign rfl rfl) ?_))))))))
  exact q_nil (fun w23 x24 => t_norm (c_ret (c_done rfl rfl (Ret.i (by simp only [decide_eq_true_eq, decide_eq_false_iff_not] at *; unfold cmp2; (repeat' split) <;> omega) (((x2.trans x15).trans x22).trans x24)))))
 refine qv (.bool false) (fun _ x' => x_move rfl rfl) ?_
 refine qk rfl rfl (qk rfl rfl (qk rfl rfl (qv (.bool false) (fun _ x' => x_pick_f rfl rfl rfl) ?_)))
 refine qv (.bool false) (fun _ x' => x_pick_f rfl rfl rfl) ?_
 refine qv (.bool false) (fun _ x' => x_assign rfl rfl) ?_
 refine q_nil (fun w25 x26 => t_norm (c_false rfl (c_seq (c_quiet (qv (iJ a) (fun _ x' => x_move rfl rfl) ?_)))))
 refine qv (iJ c) (fun _ x' => x_move rfl rfl) ?_
 refine qv (.bool false) (fun _ x' => yb (x_eql rfl rfl rfl) c8) ?_
 refine qv (.bool false) (fun _ x' => x_move rfl rfl) ?_
 refine qk rfl rfl (qk rfl rfl (qk rfl rfl (qv (.bool false) (fun _ x' => x_pick_f rfl rfl rfl) ?_)))
 refine qv (.bool false) (fun _ x' => x_assign rfl rfl) ?_
 refine q_nil (fun w27 x28 => t_norm (c_false rfl (c_skip (b_norm (t_norm (c_seq (c_quiet (qv (iJ 1) (fun _ x' => x_assign rfl rfl) ?_))))))))
 exact q_nil (fun w29 x30 => t_norm (c_ret (c_done rfl rfl (Ret.i (by simp only [decide_eq_true_eq, decide_eq_false_iff_not] at *; unfold cmp2; (repeat' split) <;> omega) (((x2.trans x26).trans x28).trans x30)))))
theorem D_order (w : World) (a b c d : Int) :
    Calls Try.prog 57 #[.int .i64 a, .int .i64 b, .int .i64 c, .int .i64 d] w (Ret w (.int .i64 (cmp2 a b c d))) := by
 refine c_enter (n := 21) Try.func57 rfl rfl rfl ?_
 refine c_seq (c_quiet (qv (iJ 0) (fun _ x' => x_assign rfl rfl) ?_))
 refine q_nil (fun w1 x2 => t_norm (c_seq (c_seq (c_quiet (qv (iJ a) (fun _ x' => x_move rfl rfl) ?_)))))
 refine qv (iJ c) (fun _ x' => x_move rfl rfl) ?_
 refine q_bool (b := decide (a < c)) rfl rfl (fun _ x' => x_lss rfl rfl rfl) (fun c3 => ?_) (fun c3 => ?_)
 ·refine q_nil (fun w4 x5 => t_norm (c_true rfl (c_seq (c_quiet (qv (iJ (-1)) (fun _ x' => x_assign rfl rfl) ?_)))))
  exact q_nil (fun w6 x7 => t_norm (c_ret (t_ret (c_done rfl rfl (Ret.i (by simp only [decide_eq_true_eq, decide_eq_false_iff_not] at *; unfold cmp2; (repeat' split) <;> omega) ((x2.trans x5).trans x7))))))
 refine q_nil (fun w8 x9 => t_norm (c_false rfl (c_skip (t_norm (c_seq (c_seq (c_quiet (qv (iJ a) (fun _ x' => x_move rfl rfl) ?_))))))))
 refine qv (iJ c) (fun _ x' => x_move rfl rfl) ?_
 refine q_bool (b := decide (a > c)) rfl rfl (fun _ x' => x_gtr rfl rfl rfl) (fun c10 => ?_) (fun c10 => ?_)
 ·refine q_nil (fun w11 x12 => t_norm (c_true rfl (c_seq (c_quiet (qv (iJ 1) (fun _ x' => x_assign rfl rfl) ?_)))))
  exact q_nil (fun w13 x14 => t_norm (c_ret (t_ret (c_done rfl rfl (Ret.i (by simp only [decide_eq_true_eq, decide_eq_false_iff_not] at *; unfold cmp2; (repeat' split) <;> omega) (((x2.trans x9).trans x12).trans x14))))))
 refine q_nil (fun w15 x16 => t_norm (c_false rfl (c_skip (t_norm (c_seq (c_seq (c_quiet (qv (iJ b) (fun _ x' => x_move rfl rfl) ?_))))))))
 refine qv (iJ d) (fun _ x' => x_move rfl rfl) ?_
 refine q_bool (b := decide (b < d)) rfl rfl (fun _ x' => x_lss rfl rfl rfl) (fun c17 => ?_) (fun c17 => ?_)
 ·refine q_nil (fun w18 x19 => t_norm (c_true rfl (c_seq (c_quiet (qv (iJ (-1)) (fun _ x' => x_assign rfl rfl) ?_)))))
  exact q_nil (fun w20 x21 => t_norm (c_ret (t_ret (c_done rfl rfl (Ret.i (by simp only [decide_eq_true_eq, decide_eq_false_iff_not] at *; unfold cmp2; (repeat' split) <;> omega) ((((x2.trans x9).trans x16).trans x19).trans x21))))))
 refine q_nil (fun w22 x23 => t_norm (c_false rfl (c_skip (t_norm (c_seq (c_seq (c_quiet (qv (iJ b) (fun _ x' => x_move rfl rfl) ?_))))))))
 refine qv (iJ d) (fun _ x' => x_move rfl rfl) ?_
 refine q_bool (b := decide (b > d)) rfl rfl (fun _ x' => x_gtr rfl rfl rfl) (fun c24 => ?_) (fun c24 => ?_)
 ·refine q_nil (fun w25 x26 => t_norm (c_true rfl (c_seq (c_quiet (qv (iJ 1) (fun _ x' => x_assign rfl rfl) ?_)))))
  exact q_nil (fun w27 x28 => t_norm (c_ret (t_ret (c_done rfl rfl (Ret.i (by simp only [decide_eq_true_eq, decide_eq_false_iff_not] at *; unfold cmp2; (repeat' split) <;> omega) (((((x2.trans x9).trans x16).trans x23).trans x26).trans x28))))))
 refine q_nil (fun w29 x30 => t_norm (c_false rfl (c_skip (t_norm (c_seq (c_quiet (qv (iJ 0) (fun _ x' => x_assign rfl rfl) ?_)))))))
 exact q_nil (fun w31 x32 => t_norm (c_ret (c_done rfl rfl (Ret.i (by simp only [decide_eq_true_eq, decide_eq_false_iff_not] at *; unfold cmp2; (repeat' split) <;> omega) (((((x2.trans x9).trans x16).trans x23).trans x30).trans x32)))))
theorem C_cmpBal (w : World) (a b : Bal) :
    Calls Try.prog 53 #[vBal a, vBal b] w (Ret w (.int .i64 (cmpBal a b))) := by
 refine c_enter (n := 14) Try.func53 rfl rfl rfl ?_
 refine c_seq (c_plain (p_box rfl rfl rfl rfl (fun w1 b2 x3 z4 => ?_)))
 refine p_box rfl rfl rfl rfl (fun w5 b6 x7 z8 => ?_)
 refine pv (iJ 0) (x_assign rfl rfl) ?_
 refine p_nil (t_norm (c_seq (c_quiet (qv (pJ w.heap.size) (fun _ x' => x_fieldAddr fld_27_0 rfl rfl rfl) ?_))))
 refine qv (iJ a.number) (fun _ x' => x_load rfl rfl (((b2.ext x7).ext x').one one_3 rfl)) ?_
 refine qv (.pointer (some (⟨w.heap.size, 1, none⟩))) (fun _ x' => x_fieldAddr fld_27_1 rfl rfl rfl) ?_
 refine qv (iJ a.replica) (fun _ x' => x_load rfl rfl (((b2.ext x7).ext x').one one_3 rfl)) ?_
 refine qv (pJ w1.heap.size) (fun _ x' => x_fieldAddr fld_27_0 rfl rfl rfl) ?_
 refine qv (iJ b.number) (fun _ x' => x_load rfl rfl ((b6.ext x').one one_3 rfl)) ?_
 refine qv (.pointer (some (⟨w1.heap.size, 1, none⟩))) (fun _ x' => x_fieldAddr fld_27_1 rfl rfl rfl) ?_
 refine qv (iJ b.replica) (fun _ x' => x_load rfl rfl ((b6.ext x').one one_3 rfl)) ?_
 refine q_call (vs := #[iJ a.number, iJ a.replica, iJ b.number, iJ b.replica]) fn_62 rfl rfl rfl (args4 rfl rfl rfl rfl) (v := iJ (cmp2 a.number a.replica b.number b.replica)) (fun _ x' => C_order _ a.number a.replica b.number b.replica) ?_
 refine qv (iJ (cmp2 a.number a.replica b.number b.replica)) (fun _ x' => x_assign rfl rfl) ?_
 exact q_nil (fun w9 x10 => t_norm (c_ret (c_done rfl rfl (Ret.i (rfl) ((x3.trans x7).trans x10)))))
theorem C_cmpStp (w : World) (a b : Stp) :
    Calls Try.prog 67 #[vStp a, vStp b] w (Ret w (.int .i64 (cmpStp a b))) := by
 refine c_enter (n := 14) Try.func67 rfl rfl rfl ?_
 refine c_seq (c_plain (p_box rfl rfl rfl rfl (fun w1 b2 x3 z4 => ?_)))
 refine p_box rfl rfl rfl rfl (fun w5 b6 x7 z8 => ?_)
 refine pv (iJ 0) (x_assign rfl rfl) ?_
 refine p_nil (t_norm (c_seq (c_quiet (qv (pJ w.heap.size) (fun _ x' => x_fieldAddr fld_33_0 rfl rfl rfl) ?_))))
 refine qv (iJ a.time) (fun _ x' => x_load rfl rfl (((b2.ext x7).ext x').one one_3 rfl)) ?_
 refine qv (.pointer (some (⟨w.heap.size, 1, none⟩))) (fun _ x' => x_fieldAddr fld_33_1 rfl rfl rfl) ?_
 refine qv (iJ a.client) (fun _ x' => x_load rfl rfl (((b2.ext x7).ext x').one one_3 rfl)) ?_
 refine qv (pJ w1.heap.size) (fun _ x' => x_fieldAddr fld_33_0 rfl rfl rfl) ?_
 refine qv (iJ b.time) (fun _ x' => x_load rfl rfl ((b6.ext x').one one_3 rfl)) ?_
 refine qv (.pointer (some (⟨w1.heap.size, 1, none⟩))) (fun _ x' => x_fieldAddr fld_33_1 rfl rfl rfl) ?_
 refine qv (iJ b.client) (fun _ x' => x_load rfl rfl ((b6.ext x').one one_3 rfl)) ?_
 refine q_call (vs := #[iJ a.time, iJ a.client, iJ b.time, iJ b.client]) fn_62 rfl rfl rfl (args4 rfl rfl rfl rfl) (v := iJ (cmp2 a.time a.client b.time b.client)) (fun _ x' => C_order _ a.time a.client b.time b.client) ?_
 refine qv (iJ (cmp2 a.time a.client b.time b.client)) (fun _ x' => x_assign rfl rfl) ?_
 exact q_nil (fun w9 x10 => t_norm (c_ret (c_done rfl rfl (Ret.i (rfl) ((x3.trans x7).trans x10)))))
theorem D_before (w : World) (a b : Stp) :
    Calls Try.prog 60 #[vStp a, vStp b] w (Ret w (.bool (decide (cmpStp a b < 0)))) := by
 refine c_enter (n := 15) Try.func60 rfl rfl rfl ?_
 refine c_seq (c_plain (p_box rfl rfl rfl rfl (fun w1 b2 x3 z4 => ?_)))
 refine p_box rfl rfl rfl rfl (fun w5 b6 x7 z8 => ?_)
 refine pv (.bool false) (x_assign rfl rfl) ?_
 refine p_nil (t_norm (c_seq (c_quiet (qv (pJ w.heap.size) (fun _ x' => x_fieldAddr fld_33_0 rfl rfl rfl) ?_))))
 refine qv (iJ a.time) (fun _ x' => x_load rfl rfl (((b2.ext x7).ext x').one one_3 rfl)) ?_
 refine qv (.pointer (some (⟨w.heap.size, 1, none⟩))) (fun _ x' => x_fieldAddr fld_33_1 rfl rfl rfl) ?_
 refine qv (iJ a.client) (fun _ x' => x_load rfl rfl (((b2.ext x7).ext x').one one_3 rfl)) ?_
 refine qv (pJ w1.heap.size) (fun _ x' => x_fieldAddr fld_33_0 rfl rfl rfl) ?_
 refine qv (iJ b.time) (fun _ x' => x_load rfl rfl ((b6.ext x').one one_3 rfl)) ?_
 refine qv (.pointer (some (⟨w1.heap.size, 1, none⟩))) (fun _ x' => x_fieldAddr fld_33_1 rfl rfl rfl) ?_
 refine qv (iJ b.client) (fun _ x' => x_load rfl rfl ((b6.ext x').one one_3 rfl)) ?_
 refine q_call (vs := #[iJ a.time, iJ a.client, iJ b.time, iJ b.client]) fn_57 rfl rfl rfl (args4 rfl rfl rfl rfl) (v := iJ (cmp2 a.time a.client b.time b.client)) (fun _ x' => D_order _ a.time a.client b.time b.client) ?_
 refine q_bool (b := decide (cmp2 a.time a.client b.time b.client < 0)) rfl rfl (fun _ x' => x_lss rfl rfl rfl) (fun c9 => ?_) (fun c9 => ?_)
 ·refine qv (.bool true) (fun _ x' => x_assign rfl rfl) ?_
  exact q_nil (fun w10 x11 => t_norm (c_ret (c_done rfl rfl (Ret.b ((c9).symm) ((x3.trans x7).trans x11)))))
 refine qv (.bool false) (fun _ x' => x_assign rfl rfl) ?_
 exact q_nil (fun w12 x13 => t_norm (c_ret (c_done rfl rfl (Ret.b ((c9).symm) ((x3.trans x7).trans x13)))))
theorem D_lower (w : World) (a b : Bal) :
    Calls Try.prog 46 #[vBal a, vBal b] w (Ret w (.bool (decide (cmpBal a b < 0)))) := by
 refine c_enter (n := 15) Try.func46 rfl rfl rfl ?_
 refine c_seq (c_plain (p_box rfl rfl rfl rfl (fun w1 b2 x3 z4 => ?_)))
 refine p_box rfl rfl rfl rfl (fun w5 b6 x7 z8 => ?_)
 refine pv (.bool false) (x_assign rfl rfl) ?_
 refine p_nil (t_norm (c_seq (c_quiet (qv (pJ w.heap.size) (fun _ x' => x_fieldAddr fld_27_0 rfl rfl rfl) ?_))))
 refine qv (iJ a.number) (fun _ x' => x_load rfl rfl (((b2.ext x7).ext x').one one_3 rfl)) ?_
 refine qv (.pointer (some (⟨w.heap.size, 1, none⟩))) (fun _ x' => x_fieldAddr fld_27_1 rfl rfl rfl) ?_
 refine qv (iJ a.replica) (fun _ x' => x_load rfl rfl (((b2.ext x7).ext x').one one_3 rfl)) ?_
 refine qv (pJ w1.heap.size) (fun _ x' => x_fieldAddr fld_27_0 rfl rfl rfl) ?_
 refine qv (iJ b.number) (fun _ x' => x_load rfl rfl ((b6.ext x').one one_3 rfl)) ?_
 refine qv (.pointer (some (⟨w1.heap.size, 1, none⟩))) (fun _ x' => x_fieldAddr fld_27_1 rfl rfl rfl) ?_
 refine qv (iJ b.replica) (fun _ x' => x_load rfl rfl ((b6.ext x').one one_3 rfl)) ?_
 refine q_call (vs := #[iJ a.number, iJ a.replica, iJ b.number, iJ b.replica]) fn_57 rfl rfl rfl (args4 rfl rfl rfl rfl) (v := iJ (cmp2 a.number a.replica b.number b.replica)) (fun _ x' => D_order _ a.number a.replica b.number b.replica) ?_
 refine q_bool (b := decide (cmp2 a.number a.replica b.number b.replica < 0)) rfl rfl (fun _ x' => x_lss rfl rfl rfl) (fun c9 => ?_) (fun c9 => ?_)
 ·refine qv (.bool true) (fun _ x' => x_assign rfl rfl) ?_
  exact q_nil (fun w10 x11 => t_norm (c_ret (c_done rfl rfl (Ret.b ((c9).symm) ((x3.trans x7).trans x11)))))
 refine qv (.bool false) (fun _ x' => x_assign rfl rfl) ?_
 exact q_nil (fun w12 x13 => t_norm (c_ret (c_done rfl rfl (Ret.b ((c9).symm) ((x3.trans x7).trans x13)))))
theorem C_rightDep (w : World) (a : Dep) :
    Calls Try.prog 56 #[vDep a] w (Ret w (.bool (rightDep a))) := by
 refine c_enter (n := 16) Try.func56 rfl rfl rfl ?_
 refine c_seq (c_plain (p_box rfl rfl rfl rfl (fun w1 b2 x3 z4 => ?_)))
 refine pv (.bool false) (x_assign rfl rfl) ?_
 refine p_nil (t_norm (c_seq (c_seq (c_quiet (qv (vDep a) (fun _ x' => x_load rfl rfl ((b2.ext x').agg (vs := [iJ a.d0, iJ a.d1, iJ a.d2, iJ a.d3, iJ a.d4, iJ a.d5, iJ a.d6]) agg_39_7 rfl)) ?_)))))
 refine qv (iJ 0) (fun _ x' => x_move rfl rfl) ?_
 refine q_nil (fun w5 x6 => t_norm (c_block (wp_loop_rounds 8 ?_)))
 refine r_round ?_
 refine c_seq (c_quiet (qv (.bool true) (fun _ x' => yb (x_lss rfl rfl rfl) rfl) ?_))
 refine q_nil (fun w7 x8 => t_norm (c_seq (c_true rfl (c_skip (t_norm (c_seq (c_block (c_seq (c_quiet (qv (iJ a.d0) (fun _ x' => x_index_array arr_39 rfl rfl rfl (by decide) (by decide) rfl) ?_))))))))))
 refine qv (iJ a.d0) (fun _ x' => x_assign rfl rfl) ?_
 refine q_nil (fun w9 x10 => t_norm (c_seq (c_quiet (qv (iJ a.d0) (fun _ x' => x_move rfl rfl) ?_))))
 refine q_bool (b := decide (a.d0 < 0)) rfl rfl (fun _ x' => x_lss rfl rfl rfl) (fun c11 => ?_) (fun c11 => ?_)
 ·refine qv (.bool true) (fun _ x' => x_move rfl rfl) ?_
  refine qk rfl rfl (qk rfl rfl (qv (.bool true) (fun _ x' => x_pick_t rfl rfl rfl) ?_))
  refine q_nil (fun w12 x13 => t_norm (c_true rfl (c_seq (c_quiet (qv (.bool false) (fun _ x' => x_assign rfl rfl) ?_)))))
  exact q_nil (fun w14 x15 => t_norm (c_ret (b_ret (t_ret (t_ret (b_ret (t_ret (c_done rfl rfl (Ret.b (by simp only [rightDep, within]; simp_all <;> omega) (((((x3.trans x6).trans x8).trans x10).trans x13).trans x15))))))))))
 refine qv (.bool false) (fun _ x' => x_move rfl rfl) ?_
 refine qv (iJ a.d0) (fun _ x' => x_move rfl rfl) ?_
 refine q_bool (b := decide (a.d0 > 1048576)) rfl rfl (fun _ x' => x_gtr rfl rfl rfl) (fun c16 => ?_) (fun c16 => ?_)
 ·refine qv (.bool true) (fun _ x' => x_pick_f rfl rfl rfl) ?_
  refine q_nil (fun w17 x18 => t_norm (c_true rfl (c_seq (c_quiet (qv (.bool false) (fun _ x' => x_assign rfl rfl) ?_)))))
  exact q_nil (fun w19 x20 => t_norm (c_ret (b_ret (t_ret (t_ret (b_ret (t_ret (c_done rfl rfl (Ret.b (by simp only [rightDep, within]; simp_all <;> omega) (((((x3.trans x6).trans x8).trans x10).trans x18).trans x20))))))))))
 refine qv (.bool false) (fun _ x' => x_pick_f rfl rfl rfl) ?_
 refine q_nil (fun w21 x22 => t_norm (c_false rfl (c_skip (b_norm (t_norm (c_quiet (qv (iJ 1) (fun _ x' => x_add rfl rfl rfl (wrap_eq (by decide) (by decide) (by decide))) ?_)))))))
 refine qv (iJ 1) (fun _ x' => x_move rfl rfl) ?_
 refine q_nil (fun w23 x24 => t_norm (r_round ?_))
 refine c_seq (c_quiet (qv (.bool true) (fun _ x' => yb (x_lss rfl rfl rfl) rfl) ?_))
 refine q_nil (fun w25 x26 => t_norm (c_seq (c_true rfl (c_skip (t_norm (c_seq (c_block (c_seq (c_quiet (qv (iJ a.d1) (fun _ x' => x_index_array arr_39 rfl rfl rfl (by decide) (by decide) rfl) ?_))))))))))
 refine qv (iJ a.d1) (fun _ x' => x_assign rfl rfl) ?_
 refine q_nil (fun w27 x28 => t_norm (c_seq (c_quiet (qv (iJ a.d1) (fun _ x' => x_move rfl rfl) ?_))))
 refine q_bool (b := decide (a.d1 < 0)) rfl rfl (fun _ x' => x_lss rfl rfl rfl) (fun c29 => ?_) (fun c29 => ?_)
 ·refine qv (.bool true) (fun _ x' => x_move rfl rfl) ?_
  refine qk rfl rfl (qk rfl rfl (qv (.bool true) (fun _ x' => x_pick_t rfl rfl rfl) ?_))
  refine q_nil (fun w30 x31 => t_norm (c_true rfl (c_seq (c_quiet (qv (.bool false) (fun _ x' => x_assign rfl rfl) ?_)))))
  exact q_nil (fun w32 x33 => t_norm (c_ret (b_ret (t_ret (t_ret (b_ret (t_ret (c_done rfl rfl (Ret.b (by simp only [rightDep, within]; simp_all <;> omega) (((((((((x3.trans x6).trans x8).trans x10).trans x22).trans x24).trans x26).trans x28).trans x31).trans x33))))))))))
 refine qv (.bool false) (fun _ x' => x_move rfl rfl) ?_
 refine qv (iJ a.d1) (fun _ x' => x_move rfl rfl) ?_
 refine q_bool (b := decide (a.d1 > 1048576)) rfl rfl (fun _ x' => x_gtr rfl rfl rfl) (fun c34 => ?_) (fun c34 => ?_)
 ·refine qv (.bool true) (fun _ x' => x_pick_f rfl rfl rfl) ?_
  refine q_nil (fun w35 x36 => t_norm (c_true rfl (c_seq (c_quiet (qv (.bool false) (fun _ x' => x_assign rfl rfl) ?_)))))
  exact q_nil (fun w37 x38 => t_norm (c_ret (b_ret (t_ret (t_ret (b_ret (t_ret (c_done rfl rfl (Ret.b (by simp only [rightDep, within]; simp_all <;> omega) (((((((((x3.trans x6).trans x8).trans x10).trans x22).trans x24).trans x26).trans x28).trans x36).trans x38))))))))))
 refine qv (.bool false) (fun _ x' => x_pick_f rfl rfl rfl) ?_
 refine q_nil (fun w39 x40 => t_norm (c_false rfl (c_skip (b_norm (t_norm (c_quiet (qv (iJ 2) (fun _ x' => x_add rfl rfl rfl (wrap_eq (by decide) (by decide) (by decide))) ?_)))))))
 refine qv (iJ 2) (fun _ x' => x_move rfl rfl) ?_
 refine q_nil (fun w41 x42 => t_norm (r_round ?_))
 refine c_seq (c_quiet (qv (.bool true) (fun _ x' => yb (x_lss rfl rfl rfl) rfl) ?_))
 refine q_nil (fun w43 x44 => t_norm (c_seq (c_true rfl (c_skip (t_norm (c_seq (c_block (c_seq (c_quiet (qv (iJ a.d2) (fun _ x' => x_index_array arr_39 rfl rfl rfl (by decide) (by decide) rfl) ?_))))))))))
 refine qv (iJ a.d2) (fun _ x' => x_assign rfl rfl) ?_
 refine q_nil (fun w45 x46 => t_norm (c_seq (c_quiet (qv (iJ a.d2) (fun _ x' => x_move rfl rfl) ?_))))
 refine q_bool (b := decide (a.d2 < 0)) rfl rfl (fun _ x' => x_lss rfl rfl rfl) (fun c47 => ?_) (fun c47 => ?_)
 ·refine qv (.bool true) (fun _ x' => x_move rfl rfl) ?_
  refine qk rfl rfl (qk rfl rfl (qv (.bool true) (fun _ x' => x_pick_t rfl rfl rfl) ?_))
  refine q_nil (fun w48 x49 => t_norm (c_true rfl (c_seq (c_quiet (qv (.bool false) (fun _ x' => x_assign rfl rfl) ?_)))))
  exact q_nil (fun w50 x51 => t_norm (c_ret (b_ret (t_ret (t_ret (b_ret (t_ret (c_done rfl rfl (Ret.b (by simp only [rightDep, within]; simp_all <;> omega) (((((((((((((x3.trans x6).trans x8).trans x10).trans x22).trans x24).trans x26).trans x28).trans x40).trans x42).trans x44).trans x46).trans x49).trans x51))))))))))
 refine qv (.bool false) (fun _ x' => x_move rfl rfl) ?_
 refine qv (iJ a.d2) (fun _ x' => x_move rfl rfl) ?_
 refine q_bool (b := decide (a.d2 > 1048576)) rfl rfl (fun _ x' => x_gtr rfl rfl rfl) (fun c52 => ?_) (fun c52 => ?_)
 ·refine qv (.bool true) (fun _ x' => x_pick_f rfl rfl rfl) ?_
  refine q_nil (fun w53 x54 => t_norm (c_true rfl (c_seq (c_quiet (qv (.bool false) (fun _ x' => x_assign rfl rfl) ?_)))))
  exact q_nil (fun w55 x56 => t_norm (c_ret (b_ret (t_ret (t_ret (b_ret (t_ret (c_done rfl rfl (Ret.b (by simp only [rightDep, within]; simp_all <;> omega) (((((((((((((x3.trans x6).trans x8).trans x10).trans x22).trans x24).trans x26).trans x28).trans x40).trans x42).trans x44).trans x46).trans x54).trans x56))))))))))
 refine qv (.bool false) (fun _ x' => x_pick_f rfl rfl rfl) ?_
 refine q_nil (fun w57 x58 => t_norm (c_false rfl (c_skip (b_norm (t_norm (c_quiet (qv (iJ 3) (fun _ x' => x_add rfl rfl rfl (wrap_eq (by decide) (by decide) (by decide))) ?_)))))))
 refine qv (iJ 3) (fun _ x' => x_move rfl rfl) ?_
 refine q_nil (fun w59 x60 => t_norm (r_round ?_))
 refine c_seq (c_quiet (qv (.bool true) (fun _ x' => yb (x_lss rfl rfl rfl) rfl) ?_))
 refine q_nil (fun w61 x62 => t_norm (c_seq (c_true rfl (c_skip (t_norm (c_seq (c_block (c_seq (c_quiet (qv (iJ a.d3) (fun _ x' => x_index_array arr_39 rfl rfl rfl (by decide) (by decide) rfl) ?_))))))))))
 refine qv (iJ a.d3) (fun _ x' => x_assign rfl rfl) ?_
 refine q_nil (fun w63 x64 => t_norm (c_seq (c_quiet (qv (iJ a.d3) (fun _ x' => x_move rfl rfl) ?_))))
 refine q_bool (b := decide (a.d3 < 0)) rfl rfl (fun _ x' => x_lss rfl rfl rfl) (fun c65 => ?_) (fun c65 => ?_)
 ·refine qv (.bool true) (fun _ x' => x_move rfl rfl) ?_
  refine qk rfl rfl (qk rfl rfl (qv (.bool true) (fun _ x' => x_pick_t rfl rfl rfl) ?_))
  refine q_nil (fun w66 x67 => t_norm (c_true rfl (c_seq (c_quiet (qv (.bool false) (fun _ x' => x_assign rfl rfl) ?_)))))
  exact q_nil (fun w68 x69 => t_norm (c_ret (b_ret (t_ret (t_ret (b_ret (t_ret (c_done rfl rfl (Ret.b (by simp only [rightDep, within]; simp_all <;> omega) (((((((((((((((((x3.trans x6).trans x8).trans x10).trans x22).trans x24).trans x26).trans x28).trans x40).trans x42).trans x44).trans x46).trans x58).trans x60).trans x62).trans x64).trans x67).trans x69))))))))))
 refine qv (.bool false) (fun _ x' => x_move rfl rfl) ?_
 refine qv (iJ a.d3) (fun _ x' => x_move rfl rfl) ?_
 refine q_bool (b := decide (a.d3 > 1048576)) rfl rfl (fun _ x' => x_gtr rfl rfl rfl) (fun c70 => ?_) (fun c70 => ?_)
 ·refine qv (.bool true) (fun _ x' => x_pick_f rfl rfl rfl) ?_
  refine q_nil (fun w71 x72 => t_norm (c_true rfl (c_seq (c_quiet (qv (.bool false) (fun _ x' => x_assign rfl rfl) ?_)))))
  exact q_nil (fun w73 x74 => t_norm (c_ret (b_ret (t_ret (t_ret (b_ret (t_ret (c_done rfl rfl (Ret.b (by simp only [rightDep, within]; simp_all <;> omega) (((((((((((((((((x3.trans x6).trans x8).trans x10).trans x22).trans x24).trans x26).trans x28).trans x40).trans x42).trans x44).trans x46).trans x58).trans x60).trans x62).trans x64).trans x72).trans x74))))))))))
 refine qv (.bool false) (fun _ x' => x_pick_f rfl rfl rfl) ?_
 refine q_nil (fun w75 x76 => t_norm (c_false rfl (c_skip (b_norm (t_norm (c_quiet (qv (iJ 4) (fun _ x' => x_add rfl rfl rfl (wrap_eq (by decide) (by decide) (by decide))) ?_)))))))
 refine qv (iJ 4) (fun _ x' => x_move rfl rfl) ?_
 refine q_nil (fun w77 x78 => t_norm (r_round ?_))
 refine c_seq (c_quiet (qv (.bool true) (fun _ x' => yb (x_lss rfl rfl rfl) rfl) ?_))
 refine q_nil (fun w79 x80 => t_norm (c_seq (c_true rfl (c_skip (t_norm (c_seq (c_block (c_seq (c_quiet (qv (iJ a.d4) (fun _ x' => x_index_array arr_39 rfl rfl rfl (by decide) (by decide) rfl) ?_))))))))))
 refine qv (iJ a.d4) (fun _ x' => x_assign rfl rfl) ?_
 refine q_nil (fun w81 x82 => t_norm (c_seq (c_quiet (qv (iJ a.d4) (fun _ x' => x_move rfl rfl) ?_))))
 refine q_bool (b := decide (a.d4 < 0)) rfl rfl (fun _ x' => x_lss rfl rfl rfl) (fun c83 => ?_) (fun c83 => ?_)
 ·refine qv (.bool true) (fun _ x' => x_move rfl rfl) ?_
  refine qk rfl rfl (qk rfl rfl (qv (.bool true) (fun _ x' => x_pick_t rfl rfl rfl) ?_))
  refine q_nil (fun w84 x85 => t_norm (c_true rfl (c_seq (c_quiet (qv (.bool false) (fun _ x' => x_assign rfl rfl) ?_)))))
  exact q_nil (fun w86 x87 => t_norm (c_ret (b_ret (t_ret (t_ret (b_ret (t_ret (c_done rfl rfl (Ret.b (by simp only [rightDep, within]; simp_all <;> omega) (((((((((((((((((((((x3.trans x6).trans x8).trans x10).trans x22).trans x24).trans x26).trans x28).trans x40).trans x42).trans x44).trans x46).trans x58).trans x60).trans x62).trans x64).trans x76).trans x78).trans x80).trans x82).trans x85).trans x87))))))))))
 refine qv (.bool false) (fun _ x' => x_move rfl rfl) ?_
 refine qv (iJ a.d4) (fun _ x' => x_move rfl rfl) ?_
 refine q_bool (b := decide (a.d4 > 1048576)) rfl rfl (fun _ x' => x_gtr rfl rfl rfl) (fun c88 => ?_) (fun c88 => ?_)
 ·refine qv (.bool true) (fun _ x' => x_pick_f rfl rfl rfl) ?_
  refine q_nil (fun w89 x90 => t_norm (c_true rfl (c_seq (c_quiet (qv (.bool false) (fun _ x' => x_assign rfl rfl) ?_)))))
  exact q_nil (fun w91 x92 => t_norm (c_ret (b_ret (t_ret (t_ret (b_ret (t_ret (c_done rfl rfl (Ret.b (by simp only [rightDep, within]; simp_all <;> omega) (((((((((((((((((((((x3.trans x6).trans x8).trans x10).trans x22).trans x24).trans x26).trans x28).trans x40).trans x42).trans x44).trans x46).trans x58).trans x60).trans x62).trans x64).trans x76).trans x78).trans x80).trans x82).trans x90).trans x92))))))))))
 refine qv (.bool false) (fun _ x' => x_pick_f rfl rfl rfl) ?_
 refine q_nil (fun w93 x94 => t_norm (c_false rfl (c_skip (b_norm (t_norm (c_quiet (qv (iJ 5) (fun _ x' => x_add rfl rfl rfl (wrap_eq (by decide) (by decide) (by decide))) ?_)))))))
 refine qv (iJ 5) (fun _ x' => x_move rfl rfl) ?_
 refine q_nil (fun w95 x96 => t_norm (r_round ?_))
 refine c_seq (c_quiet (qv (.bool true) (fun _ x' => yb (x_lss rfl rfl rfl) rfl) ?_))
 refine q_nil (fun w97 x98 => t_norm (c_seq (c_true rfl (c_skip (t_norm (c_seq (c_block (c_seq (c_quiet (qv (iJ a.d5) (fun _ x' => x_index_array arr_39 rfl rfl rfl (by decide) (by decide) rfl) ?_))))))))))
 refine qv (iJ a.d5) (fun _ x' => x_assign rfl rfl) ?_
 refine q_nil (fun w99 x100 => t_norm (c_seq (c_quiet (qv (iJ a.d5) (fun _ x' => x_move rfl rfl) ?_))))
 refine q_bool (b := decide (a.d5 < 0)) rfl rfl (fun _ x' => x_lss rfl rfl rfl) (fun c101 => ?_) (fun c101 => ?_)
 ·refine qv (.bool true) (fun _ x' => x_move rfl rfl) ?_
  refine qk rfl rfl (qk rfl rfl (qv (.bool true) (fun _ x' => x_pick_t rfl rfl rfl) ?_))
  refine q_nil (fun w102 x103 => t_norm (c_true rfl (c_seq (c_quiet (qv (.bool false) (fun _ x' => x_assign rfl rfl) ?_)))))
  exact q_nil (fun w104 x105 => t_norm (c_ret (b_ret (t_ret (t_ret (b_ret (t_ret (c_done rfl rfl (Ret.b (by simp only [rightDep, within]; simp_all <;> omega) (((((((((((((((((((((((((x3.trans x6).trans x8).trans x10).trans x22).trans x24).trans x26).trans x28).trans x40).trans x42).trans x44).trans x46).trans x58).trans x60).trans x62).trans x64).trans x76).trans x78).trans x80).trans x82).trans x94).trans x96).trans x98).trans x100).trans x103).trans x105))))))))))
 refine qv (.bool false) (fun _ x' => x_move rfl rfl) ?_
 refine qv (iJ a.d5) (fun _ x' => x_move rfl rfl) ?_
 refine q_bool (b := decide (a.d5 > 1048576)) rfl rfl (fun _ x' => x_gtr rfl rfl rfl) (fun c106 => ?_) (fun c106 => ?_)
 ·refine qv (.bool true) (fun _ x' => x_pick_f rfl rfl rfl) ?_
  refine q_nil (fun w107 x108 => t_norm (c_true rfl (c_seq (c_quiet (qv (.bool false) (fun _ x' => x_assign rfl rfl) ?_)))))
  exact q_nil (fun w109 x110 => t_norm (c_ret (b_ret (t_ret (t_ret (b_ret (t_ret (c_done rfl rfl (Ret.b (by simp only [rightDep, within]; simp_all <;> omega) (((((((((((((((((((((((((x3.trans x6).trans x8).trans x10).trans x22).trans x24).trans x26).trans x28).trans x40).trans x42).trans x44).trans x46).trans x58).trans x60).trans x62).trans x64).trans x76).trans x78).trans x80).trans x82).trans x94).trans x96).trans x98).trans x100).trans x108).trans x110))))))))))
 refine qv (.bool false) (fun _ x' => x_pick_f rfl rfl rfl) ?_
 refine q_nil (fun w111 x112 => t_norm (c_false rfl (c_skip (b_norm (t_norm (c_quiet (qv (iJ 6) (fun _ x' => x_add rfl rfl rfl (wrap_eq (by decide) (by decide) (by decide))) ?_)))))))
 refine qv (iJ 6) (fun _ x' => x_move rfl rfl) ?_
 refine q_nil (fun w113 x114 => t_norm (r_round ?_))
 refine c_seq (c_quiet (qv (.bool true) (fun _ x' => yb (x_lss rfl rfl rfl) rfl) ?_))
 refine q_nil (fun w115 x116 => t_norm (c_seq (c_true rfl (c_skip (t_norm (c_seq (c_block (c_seq (c_quiet (qv (iJ a.d6) (fun _ x' => x_index_array arr_39 rfl rfl rfl (by decide) (by decide) rfl) ?_))))))))))
 refine qv (iJ a.d6) (fun _ x' => x_assign rfl rfl) ?_
 refine q_nil (fun w117 x118 => t_norm (c_seq (c_quiet (qv (iJ a.d6) (fun _ x' => x_move rfl rfl) ?_))))
 refine q_bool (b := decide (a.d6 < 0)) rfl rfl (fun _ x' => x_lss rfl rfl rfl) (fun c119 => ?_) (fun c119 => ?_)
 ·refine qv (.bool true) (fun _ x' => x_move rfl rfl) ?_
  refine qk rfl rfl (qk rfl rfl (qv (.bool true) (fun _ x' => x_pick_t rfl rfl rfl) ?_))
  refine q_nil (fun w120 x121 => t_norm (c_true rfl (c_seq (c_quiet (qv (.bool false) (fun _ x' => x_assign rfl rfl) ?_)))))
  exact q_nil (fun w122 x123 => t_norm (c_ret (b_ret (t_ret (t_ret (b_ret (t_ret (c_done rfl rfl (Ret.b (by simp only [rightDep, within]; simp_all <;> omega) (((((((((((((((((((((((((((((x3.trans x6).trans x8).trans x10).trans x22).trans x24).trans x26).trans x28).trans x40).trans x42).trans x44).trans x46).trans x58).trans x60).trans x62).trans x64).trans x76).trans x78).trans x80).trans x82).trans x94).trans x96).trans x98).trans x100).trans x112).trans x114).trans x116).trans x118).trans x121).trans x123))))))))))
 refine qv (.bool false) (fun _ x' => x_move rfl rfl) ?_
 refine qv (iJ a.d6) (fun _ x' => x_move rfl rfl) ?_
 refine q_bool (b := decide (a.d6 > 1048576)) rfl rfl (fun _ x' => x_gtr rfl rfl rfl) (fun c124 => ?_) (fun c124 => ?_)
 ·refine qv (.bool true) (fun _ x' => x_pick_f rfl rfl rfl) ?_
  refine q_nil (fun w125 x126 => t_norm (c_true rfl (c_seq (c_quiet (qv (.bool false) (fun _ x' => x_assign rfl rfl) ?_)))))
  exact q_nil (fun w127 x128 => t_norm (c_ret (b_ret (t_ret (t_ret (b_ret (t_ret (c_done rfl rfl (Ret.b (by simp only [rightDep, within]; simp_all <;> omega) (((((((((((((((((((((((((((((x3.trans x6).trans x8).trans x10).trans x22).trans x24).trans x26).trans x28).trans x40).trans x42).trans x44).trans x46).trans x58).trans x60).trans x62).trans x64).trans x76).trans x78).trans x80).trans x82).trans x94).trans x96).trans x98).trans x100).trans x112).trans x114).trans x116).trans x118).trans x126).trans x128))))))))))
 refine qv (.bool false) (fun _ x' => x_pick_f rfl rfl rfl) ?_
 refine q_nil (fun w129 x130 => t_norm (c_false rfl (c_skip (b_norm (t_norm (c_quiet (qv (iJ 7) (fun _ x' => x_add rfl rfl rfl (wrap_eq (by decide) (by decide) (by decide))) ?_)))))))
 refine qv (iJ 7) (fun _ x' => x_move rfl rfl) ?_
 refine q_nil (fun w131 x132 => t_norm (r_round ?_))
 refine c_seq (c_quiet (qv (.bool false) (fun _ x' => yb (x_lss rfl rfl rfl) rfl) ?_))
 refine q_nil (fun w133 x134 => t_norm (c_seq (c_false rfl (c_exit (t_exit (t_exit (b_exit (t_norm (c_seq (c_quiet (qv (.bool true) (fun _ x' => x_assign rfl rfl) ?_)))))))))))
 exact q_nil (fun w135 x136 => t_norm (c_ret (c_done rfl rfl (Ret.b (by simp only [rightDep, within]; simp_all <;> omega) (((((((((((((((((((((((((((((((x3.trans x6).trans x8).trans x10).trans x22).trans x24).trans x26).trans x28).trans x40).trans x42).trans x44).trans x46).trans x58).trans x60).trans x62).trans x64).trans x76).trans x78).trans x80).trans x82).trans x94).trans x96).trans x98).trans x100).trans x112).trans x114).trans x116).trans x118).trans x130).trans x132).trans x134).trans x136)))))
theorem D_rightDep (w : World) (a : Dep) :
    Calls Try.prog 48 #[vDep a] w (Ret w (.bool (rightDep a))) := by
 refine c_enter (n := 18) Try.func48 rfl rfl rfl ?_
 refine c_seq (c_plain (p_box rfl rfl rfl rfl (fun w1 b2 x3 z4 => ?_)))
 refine pv (.bool false) (x_assign rfl rfl) ?_
 refine p_nil (t_norm (c_seq (c_seq (c_quiet (qv (iJ 0) (fun _ x' => x_assign rfl rfl) ?_)))))
 refine q_nil (fun w5 x6 => t_norm (c_block (wp_loop_rounds 8 ?_)))
 refine r_round ?_
 refine c_seq (c_seq (c_quiet (qv (iJ 0) (fun _ x' => x_move rfl rfl) ?_)))
 refine qv (.bool true) (fun _ x' => yb (x_lss rfl rfl rfl) rfl) ?_
 refine q_nil (fun w7 x8 => t_norm (c_true rfl (c_skip (t_norm (c_seq (c_block (c_seq (c_quiet (qv (iJ 0) (fun _ x' => x_move rfl rfl) ?_)))))))))
 refine qv (pJ w.heap.size) (fun _ x' => x_indexAddr_array arr_39 rfl rfl rfl (by decide) (by decide) rfl) ?_
 refine qv (iJ a.d0) (fun _ x' => x_load rfl rfl ((((b2.ext x6).ext x8).ext x').one one_3 rfl)) ?_
 refine q_bool (b := decide (a.d0 < 0)) rfl rfl (fun _ x' => x_lss rfl rfl rfl) (fun c9 => ?_) (fun c9 => ?_)
 ·refine qv (.bool true) (fun _ x' => x_move rfl rfl) ?_
  refine qk rfl rfl (qk rfl rfl (qk rfl rfl (qk rfl rfl (qv (.bool true) (fun _ x' => x_pick_t rfl rfl rfl) ?_))))
  refine q_nil (fun w10 x11 => t_norm (c_true rfl (c_seq (c_quiet (qv (.bool false) (fun _ x' => x_assign rfl rfl) ?_)))))
  exact q_nil (fun w12 x13 => t_norm (c_ret (b_ret (t_ret (t_ret (b_ret (t_ret (c_done rfl rfl (Ret.b (by simp only [rightDep, within]; simp_all <;> omega) ((((x3.trans x6).trans x8).trans x11).trans x13))))))))))
 refine qv (.bool false) (fun _ x' => x_move rfl rfl) ?_
 refine qv (iJ 0) (fun _ x' => x_move rfl rfl) ?_
 refine qv (pJ w.heap.size) (fun _ x' => x_indexAddr_array arr_39 rfl rfl rfl (by decide) (by decide) rfl) ?_
 refine qv (iJ a.d0) (fun _ x' => x_load rfl rfl ((((b2.ext x6).ext x8).ext x').one one_3 rfl)) ?_
 refine q_bool (b := decide (a.d0 > 1048576)) rfl rfl (fun _ x' => x_gtr rfl rfl rfl) (fun c14 => ?_) (fun c14 => ?_)
 ·refine qv (.bool true) (fun _ x' => x_pick_f rfl rfl rfl) ?_
  refine q_nil (fun w15 x16 => t_norm (c_true rfl (c_seq (c_quiet (qv (.bool false) (fun _ x' => x_assign rfl rfl) ?_)))))
  exact q_nil (fun w17 x18 => t_norm (c_ret (b_ret (t_ret (t_ret (b_ret (t_ret (c_done rfl rfl (Ret.b (by simp only [rightDep, within]; simp_all <;> omega) ((((x3.trans x6).trans x8).trans x16).trans x18))))))))))
 refine qv (.bool false) (fun _ x' => x_pick_f rfl rfl rfl) ?_
 refine q_nil (fun w19 x20 => t_norm (c_false rfl (c_skip (b_norm (t_norm (c_quiet (qv (iJ 0) (fun _ x' => x_move rfl rfl) ?_)))))))
 refine qv (iJ 1) (fun _ x' => x_add rfl rfl rfl (wrap_eq (by decide) (by decide) (by decide))) ?_
 refine qv (iJ 1) (fun _ x' => x_assign rfl rfl) ?_
 refine q_nil (fun w21 x22 => t_norm (r_round ?_))
 refine c_seq (c_seq (c_quiet (qv (iJ 1) (fun _ x' => x_move rfl rfl) ?_)))
 refine qv (.bool true) (fun _ x' => yb (x_lss rfl rfl rfl) rfl) ?_
 refine q_nil (fun w23 x24 => t_norm (c_true rfl (c_skip (t_norm (c_seq (c_block (c_seq (c_quiet (qv (iJ 1) (fun _ x' => x_move rfl rfl) ?_)))))))))
 refine qv (.pointer (some (⟨w.heap.size, 1, none⟩))) (fun _ x' => x_indexAddr_array arr_39 rfl rfl rfl (by decide) (by decide) rfl) ?_
 refine qv (iJ a.d1) (fun _ x' => x_load rfl rfl (((((((b2.ext x6).ext x8).ext x20).ext x22).ext x24).ext x').one one_3 rfl)) ?_
 refine q_bool (b := decide (a.d1 < 0)) rfl rfl (fun _ x' => x_lss rfl rfl rfl) (fun c25 => ?_) (fun c25 => ?_)
 ·refine qv (.bool true) (fun _ x' => x_move rfl rfl) ?_
  refine qk rfl rfl (qk rfl rfl (qk rfl rfl (qk rfl rfl (qv (.bool true) (fun _ x' => x_pick_t rfl rfl rfl) ?_))))
  refine q_nil (fun w26 x27 => t_norm (c_true rfl (c_seq (c_quiet (qv (.bool false) (fun _ x' => x_assign rfl rfl) ?_)))))
  exact q_nil (fun w28 x29 => t_norm (c_ret (b_ret (t_ret (t_ret (b_ret (t_ret (c_done rfl rfl (Ret.b (by simp only [rightDep, within]; simp_all <;> omega) (((((((x3.trans x6).trans x8).trans x20).trans x22).trans x24).trans x27).trans x29))))))))))
 refine qv (.bool false) (fun _ x' => x_move rfl rfl) ?_
 refine qv (iJ 1) (fun _ x' => x_move rfl rfl) ?_
 refine qv (.pointer (some (⟨w.heap.size, 1, none⟩))) (fun _ x' => x_indexAddr_array arr_39 rfl rfl rfl (by decide) (by decide) rfl) ?_
 refine qv (iJ a.d1) (fun _ x' => x_load rfl rfl (((((((b2.ext x6).ext x8).ext x20).ext x22).ext x24).ext x').one one_3 rfl)) ?_
 refine q_bool (b := decide (a.d1 > 1048576)) rfl rfl (fun _ x' => x_gtr rfl rfl rfl) (fun c30 => ?_) (fun c30 => ?_)
 ·refine qv (.bool true) (fun _ x' => x_pick_f rfl rfl rfl) ?_
  refine q_nil (fun w31 x32 => t_norm (c_true rfl (c_seq (c_quiet (qv (.bool false) (fun _ x' => x_assign rfl rfl) ?_)))))
  exact q_nil (fun w33 x34 => t_norm (c_ret (b_ret (t_ret (t_ret (b_ret (t_ret (c_done rfl rfl (Ret.b (by simp only [rightDep, within]; simp_all <;> omega) (((((((x3.trans x6).trans x8).trans x20).trans x22).trans x24).trans x32).trans x34))))))))))
 refine qv (.bool false) (fun _ x' => x_pick_f rfl rfl rfl) ?_
 refine q_nil (fun w35 x36 => t_norm (c_false rfl (c_skip (b_norm (t_norm (c_quiet (qv (iJ 1) (fun _ x' => x_move rfl rfl) ?_)))))))
 refine qv (iJ 2) (fun _ x' => x_add rfl rfl rfl (wrap_eq (by decide) (by decide) (by decide))) ?_
 refine qv (iJ 2) (fun _ x' => x_assign rfl rfl) ?_
 refine q_nil (fun w37 x38 => t_norm (r_round ?_))
 refine c_seq (c_seq (c_quiet (qv (iJ 2) (fun _ x' => x_move rfl rfl) ?_)))
 refine qv (.bool true) (fun _ x' => yb (x_lss rfl rfl rfl) rfl) ?_
 refine q_nil (fun w39 x40 => t_norm (c_true rfl (c_skip (t_norm (c_seq (c_block (c_seq (c_quiet (qv (iJ 2) (fun _ x' => x_move rfl rfl) ?_)))))))))
 refine qv (.pointer (some (⟨w.heap.size, 2, none⟩))) (fun _ x' => x_indexAddr_array arr_39 rfl rfl rfl (by decide) (by decide) rfl) ?_
 refine qv (iJ a.d2) (fun _ x' => x_load rfl rfl ((((((((((b2.ext x6).ext x8).ext x20).ext x22).ext x24).ext x36).ext x38).ext x40).ext x').one one_3 rfl)) ?_
 refine q_bool (b := decide (a.d2 < 0)) rfl rfl (fun _ x' => x_lss rfl rfl rfl) (fun c41 => ?_) (fun c41 => ?_)
 ·refine qv (.bool true) (fun _ x' => x_move rfl rfl) ?_
  refine qk rfl rfl (qk rfl rfl (qk rfl rfl (qk rfl rfl (qv (.bool true) (fun _ x' => x_pick_t rfl rfl rfl) ?_))))
  refine q_nil (fun w42 x43 => t_norm (c_true rfl (c_seq (c_quiet (qv (.bool false) (fun _ x' => x_assign rfl rfl) ?_)))))
  exact q_nil (fun w44 x45 => t_norm (c_ret (b_ret (t_ret (t_ret (b_ret (t_ret (c_done rfl rfl (Ret.b (by simp only [rightDep, within]; simp_all <;> omega) ((((((((((x3.trans x6).trans x8).trans x20).trans x22).trans x24).trans x36).trans x38).trans x40).trans x43).trans x45))))))))))
 refine qv (.bool false) (fun _ x' => x_move rfl rfl) ?_
 refine qv (iJ 2) (fun _ x' => x_move rfl rfl) ?_
 refine qv (.pointer (some (⟨w.heap.size, 2, none⟩))) (fun _ x' => x_indexAddr_array arr_39 rfl rfl rfl (by decide) (by decide) rfl) ?_
 refine qv (iJ a.d2) (fun _ x' => x_load rfl rfl ((((((((((b2.ext x6).ext x8).ext x20).ext x22).ext x24).ext x36).ext x38).ext x40).ext x').one one_3 rfl)) ?_
 refine q_bool (b := decide (a.d2 > 1048576)) rfl rfl (fun _ x' => x_gtr rfl rfl rfl) (fun c46 => ?_) (fun c46 => ?_)
 ·refine qv (.bool true) (fun _ x' => x_pick_f rfl rfl rfl) ?_
  refine q_nil (fun w47 x48 => t_norm (c_true rfl (c_seq (c_quiet (qv (.bool false) (fun _ x' => x_assign rfl rfl) ?_)))))
  exact q_nil (fun w49 x50 => t_norm (c_ret (b_ret (t_ret (t_ret (b_ret (t_ret (c_done rfl rfl (Ret.b (by simp only [rightDep, within]; simp_all <;> omega) ((((((((((x3.trans x6).trans x8).trans x20).trans x22).trans x24).trans x36).trans x38).trans x40).trans x48).trans x50))))))))))
 refine qv (.bool false) (fun _ x' => x_pick_f rfl rfl rfl) ?_
 refine q_nil (fun w51 x52 => t_norm (c_false rfl (c_skip (b_norm (t_norm (c_quiet (qv (iJ 2) (fun _ x' => x_move rfl rfl) ?_)))))))
 refine qv (iJ 3) (fun _ x' => x_add rfl rfl rfl (wrap_eq (by decide) (by decide) (by decide))) ?_
 refine qv (iJ 3) (fun _ x' => x_assign rfl rfl) ?_
 refine q_nil (fun w53 x54 => t_norm (r_round ?_))
 refine c_seq (c_seq (c_quiet (qv (iJ 3) (fun _ x' => x_move rfl rfl) ?_)))
 refine qv (.bool true) (fun _ x' => yb (x_lss rfl rfl rfl) rfl) ?_
 refine q_nil (fun w55 x56 => t_norm (c_true rfl (c_skip (t_norm (c_seq (c_block (c_seq (c_quiet (qv (iJ 3) (fun _ x' => x_move rfl rfl) ?_)))))))))
 refine qv (.pointer (some (⟨w.heap.size, 3, none⟩))) (fun _ x' => x_indexAddr_array arr_39 rfl rfl rfl (by decide) (by decide) rfl) ?_
 refine qv (iJ a.d3) (fun _ x' => x_load rfl rfl (((((((((((((b2.ext x6).ext x8).ext x20).ext x22).ext x24).ext x36).ext x38).ext x40).ext x52).ext x54).ext x56).ext x').one one_3 rfl)) ?_
 refine q_bool (b := decide (a.d3 < 0)) rfl rfl (fun _ x' => x_lss rfl rfl rfl) (fun c57 => ?_) (fun c57 => ?_)
 ·refine qv (.bool true) (fun _ x' => x_move rfl rfl) ?_
  refine qk rfl rfl (qk rfl rfl (qk rfl rfl (qk rfl rfl (qv (.bool true) (fun _ x' => x_pick_t rfl rfl rfl) ?_))))
  refine q_nil (fun w58 x59 => t_norm (c_true rfl (c_seq (c_quiet (qv (.bool false) (fun _ x' => x_assign rfl rfl) ?_)))))
  exact q_nil (fun w60 x61 => t_norm (c_ret (b_ret (t_ret (t_ret (b_ret (t_ret (c_done rfl rfl (Ret.b (by simp only [rightDep, within]; simp_all <;> omega) (((((((((((((x3.trans x6).trans x8).trans x20).trans x22).trans x24).trans x36).trans x38).trans x40).trans x52).trans x54).trans x56).trans x59).trans x61))))))))))
 refine qv (.bool false) (fun _ x' => x_move rfl rfl) ?_
 refine qv (iJ 3) (fun _ x' => x_move rfl rfl) ?_
 refine qv (.pointer (some (⟨w.heap.size, 3, none⟩))) (fun _ x' => x_indexAddr_array arr_39 rfl rfl rfl (by decide) (by decide) rfl) ?_
 refine qv (iJ a.d3) (fun _ x' => x_load rfl rfl (((((((((((((b2.ext x6).ext x8).ext x20).ext x22).ext x24).ext x36).ext x38).ext x40).ext x52).ext x54).ext x56).ext x').one one_3 rfl)) ?_
 refine q_bool (b := decide (a.d3 > 1048576)) rfl rfl (fun _ x' => x_gtr rfl rfl rfl) (fun c62 => ?_) (fun c62 => ?_)
 ·refine qv (.bool true) (fun _ x' => x_pick_f rfl rfl rfl) ?_
  refine q_nil (fun w63 x64 => t_norm (c_true rfl (c_seq (c_quiet (qv (.bool false) (fun _ x' => x_assign rfl rfl) ?_)))))
  exact q_nil (fun w65 x66 => t_norm (c_ret (b_ret (t_ret (t_ret (b_ret (t_ret (c_done rfl rfl (Ret.b (by simp only [rightDep, within]; simp_all <;> omega) (((((((((((((x3.trans x6).trans x8).trans x20).trans x22).trans x24).trans x36).trans x38).trans x40).trans x52).trans x54).trans x56).trans x64).trans x66))))))))))
 refine qv (.bool false) (fun _ x' => x_pick_f rfl rfl rfl) ?_
 refine q_nil (fun w67 x68 => t_norm (c_false rfl (c_skip (b_norm (t_norm (c_quiet (qv (iJ 3) (fun _ x' => x_move rfl rfl) ?_)))))))
 refine qv (iJ 4) (fun _ x' => x_add rfl rfl rfl (wrap_eq (by decide) (by decide) (by decide))) ?_
 refine qv (iJ 4) (fun _ x' => x_assign rfl rfl) ?_
 refine q_nil (fun w69 x70 => t_norm (r_round ?_))
 refine c_seq (c_seq (c_quiet (qv (iJ 4) (fun _ x' => x_move rfl rfl) ?_)))
 refine qv (.bool true) (fun _ x' => yb (x_lss rfl rfl rfl) rfl) ?_
 refine q_nil (fun w71 x72 => t_norm (c_true rfl (c_skip (t_norm (c_seq (c_block (c_seq (c_quiet (qv (iJ 4) (fun _ x' => x_move rfl rfl) ?_)))))))))
 refine qv (.pointer (some (⟨w.heap.size, 4, none⟩))) (fun _ x' => x_indexAddr_array arr_39 rfl rfl rfl (by decide) (by decide) rfl) ?_
 refine qv (iJ a.d4) (fun _ x' => x_load rfl rfl ((((((((((((((((b2.ext x6).ext x8).ext x20).ext x22).ext x24).ext x36).ext x38).ext x40).ext x52).ext x54).ext x56).ext x68).ext x70).ext x72).ext x').one one_3 rfl)) ?_
 refine q_bool (b := decide (a.d4 < 0)) rfl rfl (fun _ x' => x_lss rfl rfl rfl) (fun c73 => ?_) (fun c73 => ?_)
 ·refine qv (.bool true) (fun _ x' => x_move rfl rfl) ?_
  refine qk rfl rfl (qk rfl rfl (qk rfl rfl (qk rfl rfl (qv (.bool true) (fun _ x' => x_pick_t rfl rfl rfl) ?_))))
  refine q_nil (fun w74 x75 => t_norm (c_true rfl (c_seq (c_quiet (qv (.bool false) (fun _ x' => x_assign rfl rfl) ?_)))))
  exact q_nil (fun w76 x77 => t_norm (c_ret (b_ret (t_ret (t_ret (b_ret (t_ret (c_done rfl rfl (Ret.b (by simp only [rightDep, within]; simp_all <;> omega) ((((((((((((((((x3.trans x6).trans x8).trans x20).trans x22).trans x24).trans x36).trans x38).trans x40).trans x52).trans x54).trans x56).trans x68).trans x70).trans x72).trans x75).trans x77))))))))))
 refine qv (.bool false) (fun _ x' => x_move rfl rfl) ?_
 refine qv (iJ 4) (fun _ x' => x_move rfl rfl) ?_
 refine qv (.pointer (some (⟨w.heap.size, 4, none⟩))) (fun _ x' => x_indexAddr_array arr_39 rfl rfl rfl (by decide) (by decide) rfl) ?_
 refine qv (iJ a.d4) (fun _ x' => x_load rfl rfl ((((((((((((((((b2.ext x6).ext x8).ext x20).ext x22).ext x24).ext x36).ext x38).ext x40).ext x52).ext x54).ext x56).ext x68).ext x70).ext x72).ext x').one one_3 rfl)) ?_
 refine q_bool (b := decide (a.d4 > 1048576)) rfl rfl (fun _ x' => x_gtr rfl rfl rfl) (fun c78 => ?_) (fun c78 => ?_)
 ·refine qv (.bool true) (fun _ x' => x_pick_f rfl rfl rfl) ?_
  refine q_nil (fun w79 x80 => t_norm (c_true rfl (c_seq (c_quiet (qv (.bool false) (fun _ x' => x_assign rfl rfl) ?_)))))
  exact q_nil (fun w81 x82 => t_norm (c_ret (b_ret (t_ret (t_ret (b_ret (t_ret (c_done rfl rfl (Ret.b (by simp only [rightDep, within]; simp_all <;> omega) ((((((((((((((((x3.trans x6).trans x8).trans x20).trans x22).trans x24).trans x36).trans x38).trans x40).trans x52).trans x54).trans x56).trans x68).trans x70).trans x72).trans x80).trans x82))))))))))
 refine qv (.bool false) (fun _ x' => x_pick_f rfl rfl rfl) ?_
 refine q_nil (fun w83 x84 => t_norm (c_false rfl (c_skip (b_norm (t_norm (c_quiet (qv (iJ 4) (fun _ x' => x_move rfl rfl) ?_)))))))
 refine qv (iJ 5) (fun _ x' => x_add rfl rfl rfl (wrap_eq (by decide) (by decide) (by decide))) ?_
 refine qv (iJ 5) (fun _ x' => x_assign rfl rfl) ?_
 refine q_nil (fun w85 x86 => t_norm (r_round ?_))
 refine c_seq (c_seq (c_quiet (qv (iJ 5) (fun _ x' => x_move rfl rfl) ?_)))
 refine qv (.bool true) (fun _ x' => yb (x_lss rfl rfl rfl) rfl) ?_
 refine q_nil (fun w87 x88 => t_norm (c_true rfl (c_skip (t_norm (c_seq (c_block (c_seq (c_quiet (qv (iJ 5) (fun _ x' => x_move rfl rfl) ?_)))))))))
 refine qv (.pointer (some (⟨w.heap.size, 5, none⟩))) (fun _ x' => x_indexAddr_array arr_39 rfl rfl rfl (by decide) (by decide) rfl) ?_
 refine qv (iJ a.d5) (fun _ x' => x_load rfl rfl (((((((((((((((((((b2.ext x6).ext x8).ext x20).ext x22).ext x24).ext x36).ext x38).ext x40).ext x52).ext x54).ext x56).ext x68).ext x70).ext x72).ext x84).ext x86).ext x88).ext x').one one_3 rfl)) ?_
 refine q_bool (b := decide (a.d5 < 0)) rfl rfl (fun _ x' => x_lss rfl rfl rfl) (fun c89 => ?_) (fun c89 => ?_)
 ·refine qv (.bool true) (fun _ x' => x_move rfl rfl) ?_
  refine qk rfl rfl (qk rfl rfl (qk rfl rfl (qk rfl rfl (qv (.bool true) (fun _ x' => x_pick_t rfl rfl rfl) ?_))))
  refine q_nil (fun w90 x91 => t_norm (c_true rfl (c_seq (c_quiet (qv (.bool false) (fun _ x' => x_assign rfl rfl) ?_)))))
  exact q_nil (fun w92 x93 => t_norm (c_ret (b_ret (t_ret (t_ret (b_ret (t_ret (c_done rfl rfl (Ret.b (by simp only [rightDep, within]; simp_all <;> omega) (((((((((((((((((((x3.trans x6).trans x8).trans x20).trans x22).trans x24).trans x36).trans x38).trans x40).trans x52).trans x54).trans x56).trans x68).trans x70).trans x72).trans x84).trans x86).trans x88).trans x91).trans x93))))))))))
 refine qv (.bool false) (fun _ x' => x_move rfl rfl) ?_
 refine qv (iJ 5) (fun _ x' => x_move rfl rfl) ?_
 refine qv (.pointer (some (⟨w.heap.size, 5, none⟩))) (fun _ x' => x_indexAddr_array arr_39 rfl rfl rfl (by decide) (by decide) rfl) ?_
 refine qv (iJ a.d5) (fun _ x' => x_load rfl rfl (((((((((((((((((((b2.ext x6).ext x8).ext x20).ext x22).ext x24).ext x36).ext x38).ext x40).ext x52).ext x54).ext x56).ext x68).ext x70).ext x72).ext x84).ext x86).ext x88).ext x').one one_3 rfl)) ?_
 refine q_bool (b := decide (a.d5 > 1048576)) rfl rfl (fun _ x' => x_gtr rfl rfl rfl) (fun c94 => ?_) (fun c94 => ?_)
 ·refine qv (.bool true) (fun _ x' => x_pick_f rfl rfl rfl) ?_
  refine q_nil (fun w95 x96 => t_norm (c_true rfl (c_seq (c_quiet (qv (.bool false) (fun _ x' => x_assign rfl rfl) ?_)))))
  exact q_nil (fun w97 x98 => t_norm (c_ret (b_ret (t_ret (t_ret (b_ret (t_ret (c_done rfl rfl (Ret.b (by simp only [rightDep, within]; simp_all <;> omega) (((((((((((((((((((x3.trans x6).trans x8).trans x20).trans x22).trans x24).trans x36).trans x38).trans x40).trans x52).trans x54).trans x56).trans x68).trans x70).trans x72).trans x84).trans x86).trans x88).trans x96).trans x98))))))))))
 refine qv (.bool false) (fun _ x' => x_pick_f rfl rfl rfl) ?_
 refine q_nil (fun w99 x100 => t_norm (c_false rfl (c_skip (b_norm (t_norm (c_quiet (qv (iJ 5) (fun _ x' => x_move rfl rfl) ?_)))))))
 refine qv (iJ 6) (fun _ x' => x_add rfl rfl rfl (wrap_eq (by decide) (by decide) (by decide))) ?_
 refine qv (iJ 6) (fun _ x' => x_assign rfl rfl) ?_
 refine q_nil (fun w101 x102 => t_norm (r_round ?_))
 refine c_seq (c_seq (c_quiet (qv (iJ 6) (fun _ x' => x_move rfl rfl) ?_)))
 refine qv (.bool true) (fun _ x' => yb (x_lss rfl rfl rfl) rfl) ?_
 refine q_nil (fun w103 x104 => t_norm (c_true rfl (c_skip (t_norm (c_seq (c_block (c_seq (c_quiet (qv (iJ 6) (fun _ x' => x_move rfl rfl) ?_)))))))))
 refine qv (.pointer (some (⟨w.heap.size, 6, none⟩))) (fun _ x' => x_indexAddr_array arr_39 rfl rfl rfl (by decide) (by decide) rfl) ?_
 refine qv (iJ a.d6) (fun _ x' => x_load rfl rfl ((((((((((((((((((((((b2.ext x6).ext x8).ext x20).ext x22).ext x24).ext x36).ext x38).ext x40).ext x52).ext x54).ext x56).ext x68).ext x70).ext x72).ext x84).ext x86).ext x88).ext x100).ext x102).ext x104).ext x').one one_3 rfl)) ?_
 refine q_bool (b := decide (a.d6 < 0)) rfl rfl (fun _ x' => x_lss rfl rfl rfl) (fun c105 => ?_) (fun c105 => ?_)
 ·refine qv (.bool true) (fun _ x' => x_move rfl rfl) ?_
  refine qk rfl rfl (qk rfl rfl (qk rfl rfl (qk rfl rfl (qv (.bool true) (fun _ x' => x_pick_t rfl rfl rfl) ?_))))
  refine q_nil (fun w106 x107 => t_norm (c_true rfl (c_seq (c_quiet (qv (.bool false) (fun _ x' => x_assign rfl rfl) ?_)))))
  exact q_nil (fun w108 x109 => t_norm (c_ret (b_ret (t_ret (t_ret (b_ret (t_ret (c_done rfl rfl (Ret.b (by simp only [rightDep, within]; simp_all <;> omega) ((((((((((((((((((((((x3.trans x6).trans x8).trans x20).trans x22).trans x24).trans x36).trans x38).trans x40).trans x52).trans x54).trans x56).trans x68).trans x70).trans x72).trans x84).trans x86).trans x88).trans x100).trans x102).trans x104).trans x107).trans x109))))))))))
 refine qv (.bool false) (fun _ x' => x_move rfl rfl) ?_
 refine qv (iJ 6) (fun _ x' => x_move rfl rfl) ?_
 refine qv (.pointer (some (⟨w.heap.size, 6, none⟩))) (fun _ x' => x_indexAddr_array arr_39 rfl rfl rfl (by decide) (by decide) rfl) ?_
 refine qv (iJ a.d6) (fun _ x' => x_load rfl rfl ((((((((((((((((((((((b2.ext x6).ext x8).ext x20).ext x22).ext x24).ext x36).ext x38).ext x40).ext x52).ext x54).ext x56).ext x68).ext x70).ext x72).ext x84).ext x86).ext x88).ext x100).ext x102).ext x104).ext x').one one_3 rfl)) ?_
 refine q_bool (b := decide (a.d6 > 1048576)) rfl rfl (fun _ x' => x_gtr rfl rfl rfl) (fun c110 => ?_) (fun c110 => ?_)
 ·refine qv (.bool true) (fun _ x' => x_pick_f rfl rfl rfl) ?_
  refine q_nil (fun w111 x112 => t_norm (c_true rfl (c_seq (c_quiet (qv (.bool false) (fun _ x' => x_assign rfl rfl) ?_)))))
  exact q_nil (fun w113 x114 => t_norm (c_ret (b_ret (t_ret (t_ret (b_ret (t_ret (c_done rfl rfl (Ret.b (by simp only [rightDep, within]; simp_all <;> omega) ((((((((((((((((((((((x3.trans x6).trans x8).trans x20).trans x22).trans x24).trans x36).trans x38).trans x40).trans x52).trans x54).trans x56).trans x68).trans x70).trans x72).trans x84).trans x86).trans x88).trans x100).trans x102).trans x104).trans x112).trans x114))))))))))
 refine qv (.bool false) (fun _ x' => x_pick_f rfl rfl rfl) ?_
 refine q_nil (fun w115 x116 => t_norm (c_false rfl (c_skip (b_norm (t_norm (c_quiet (qv (iJ 6) (fun _ x' => x_move rfl rfl) ?_)))))))
 refine qv (iJ 7) (fun _ x' => x_add rfl rfl rfl (wrap_eq (by decide) (by decide) (by decide))) ?_
 refine qv (iJ 7) (fun _ x' => x_assign rfl rfl) ?_
 refine q_nil (fun w117 x118 => t_norm (r_round ?_))
 refine c_seq (c_seq (c_quiet (qv (iJ 7) (fun _ x' => x_move rfl rfl) ?_)))
 refine qv (.bool false) (fun _ x' => yb (x_lss rfl rfl rfl) rfl) ?_
 refine q_nil (fun w119 x120 => t_norm (c_false rfl (c_exit (t_exit (t_exit (b_exit (t_norm (c_seq (c_quiet (qv (.bool true) (fun _ x' => x_assign rfl rfl) ?_))))))))))
 exact q_nil (fun w121 x122 => t_norm (c_ret (c_done rfl rfl (Ret.b (by simp only [rightDep, within]; simp_all <;> omega) ((((((((((((((((((((((((x3.trans x6).trans x8).trans x20).trans x22).trans x24).trans x36).trans x38).trans x40).trans x52).trans x54).trans x56).trans x68).trans x70).trans x72).trans x84).trans x86).trans x88).trans x100).trans x102).trans x104).trans x116).trans x118).trans x120).trans x122)))))
theorem C_rightKey (w : World) (a : ByteArray) :
    Calls Try.prog 75 #[.string a] w (Ret w (.bool (rightKey a))) := by
 refine c_enter (n := 11) Try.func75 rfl rfl rfl ?_
 refine c_seq (c_quiet (qv (.bool false) (fun _ x' => x_assign rfl rfl) ?_))
 refine q_nil (fun w1 x2 => t_norm (c_seq (c_quiet (qv (.string a) (fun _ x' => x_move rfl rfl) ?_))))
 refine qv (iJ (a.size : Int)) (fun _ x' => x_len_string str_9 rfl rfl) ?_
 refine q_bool (b := decide ((a.size : Int) ≥ 1)) rfl rfl (fun _ x' => x_geq rfl rfl rfl) (fun c3 => ?_) (fun c3 => ?_)
 ·refine qv (.bool true) (fun _ x' => x_move rfl rfl) ?_
  refine qv (.string a) (fun _ x' => x_move rfl rfl) ?_
  refine qv (iJ (a.size : Int)) (fun _ x' => x_len_string str_9 rfl rfl) ?_
  refine q_bool (b := decide ((a.size : Int) ≤ 8)) rfl rfl (fun _ x' => x_leq rfl rfl rfl) (fun c4 => ?_) (fun c4 => ?_)
  ·refine qv (.bool true) (fun _ x' => x_pick_t rfl rfl rfl) ?_
   refine qv (.bool true) (fun _ x' => x_assign rfl rfl) ?_
   exact q_nil (fun w5 x6 => t_norm (c_ret (c_done rfl rfl (Ret.b (by simp only [rightKey]; simp_all <;> omega) (x2.trans x6)))))
  refine qv (.bool false) (fun _ x' => x_pick_t rfl rfl rfl) ?_
  refine qv (.bool false) (fun _ x' => x_assign rfl rfl) ?_
  exact q_nil (fun w7 x8 => t_norm (c_ret (c_done rfl rfl (Ret.b (by simp only [rightKey]; simp_all <;> omega) (x2.trans x8)))))
 refine qv (.bool false) (fun _ x' => x_move rfl rfl) ?_
 refine qk rfl rfl (qk rfl rfl (qk rfl rfl (qv (.bool false) (fun _ x' => x_pick_f rfl rfl rfl) ?_)))
 refine qv (.bool false) (fun _ x' => x_assign rfl rfl) ?_
 exact q_nil (fun w9 x10 => t_norm (c_ret (c_done rfl rfl (Ret.b (by simp only [rightKey]; simp_all <;> omega) (x2.trans x10)))))
theorem D_rightKey (w : World) (a : ByteArray) :
    Calls Try.prog 71 #[.string a] w (Ret w (.bool (rightKey a))) := by
 refine c_enter (n := 11) Try.func71 rfl rfl rfl ?_
 refine c_seq (c_quiet (qv (.bool false) (fun _ x' => x_assign rfl rfl) ?_))
 refine q_nil (fun w1 x2 => t_norm (c_seq (c_quiet (qv (.string a) (fun _ x' => x_move rfl rfl) ?_))))
 refine qv (iJ (a.size : Int)) (fun _ x' => x_len_string str_9 rfl rfl) ?_
 refine q_bool (b := decide ((a.size : Int) > 0)) rfl rfl (fun _ x' => x_gtr rfl rfl rfl) (fun c3 => ?_) (fun c3 => ?_)
 ·refine qv (.bool true) (fun _ x' => x_move rfl rfl) ?_
  refine qv (.string a) (fun _ x' => x_move rfl rfl) ?_
  refine qv (iJ (a.size : Int)) (fun _ x' => x_len_string str_9 rfl rfl) ?_
  refine q_bool (b := decide ((a.size : Int) < 9)) rfl rfl (fun _ x' => x_lss rfl rfl rfl) (fun c4 => ?_) (fun c4 => ?_)
  ·refine qv (.bool true) (fun _ x' => x_pick_t rfl rfl rfl) ?_
   refine qv (.bool true) (fun _ x' => x_assign rfl rfl) ?_
   exact q_nil (fun w5 x6 => t_norm (c_ret (c_done rfl rfl (Ret.b (by simp only [rightKey]; simp_all <;> omega) (x2.trans x6)))))
  refine qv (.bool false) (fun _ x' => x_pick_t rfl rfl rfl) ?_
  refine qv (.bool false) (fun _ x' => x_assign rfl rfl) ?_
  exact q_nil (fun w7 x8 => t_norm (c_ret (c_done rfl rfl (Ret.b (by simp only [rightKey]; simp_all <;> omega) (x2.trans x8)))))
 refine qv (.bool false) (fun _ x' => x_move rfl rfl) ?_
 refine qk rfl rfl (qk rfl rfl (qk rfl rfl (qv (.bool false) (fun _ x' => x_pick_f rfl rfl rfl) ?_)))
 refine qv (.bool false) (fun _ x' => x_assign rfl rfl) ?_
 exact q_nil (fun w9 x10 => t_norm (c_ret (c_done rfl rfl (Ret.b (by simp only [rightKey]; simp_all <;> omega) (x2.trans x10)))))
end Go.Proofs.Ytadeigpphklmfaa
