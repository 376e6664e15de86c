/- A walk through the code of layers below, or of layer 13. -/
import Derived.Test.YtgamfmkefipngaaRfa
import Derived.Test.YtgamfmkefipngaaDrs
import Derived.Test.YtgamfmkefipngaaPan
import Derived.Test.YtgamfmkefipngaaA8
namespace Go.Proofs.Ytgamfmkefipngaa
open Go.RowKit Go.Eng
set_option linter.unusedVariables false
set_option linter.unusedSimpArgs false
theorem C_sizes (w : World) (f : Int) :
    Calls Try.prog 53 #[.int .i64 f] w (Ret w (.agg #[.int .i64 (sizeF f), .int .i64 (slowF f), .int .i64 (fastF f)])) := by
 refine c_enter (n := 18) Try.func53 rfl rfl rfl ?_
 refine c_seq (c_plain (p_alloc (cs := [iJ 0, iJ 0, iJ 0]) rfl rfl rfl zero_96 rfl (fun w1 b2 x3 z4 => ?_)))
 refine p_nil (t_norm (c_seq (c_seq (c_quiet (qv (iJ f) (fun _ x' => x_move rfl rfl) ?_)))))
 refine q_bool (b := decide (f < 1)) rfl rfl (fun _ x' => x_lss rfl rfl rfl) (fun c5 => ?_) (fun c5 => ?_)
 ·have c5' := of_decide_eq_true c5
  refine qv (.bool true) (fun _ x' => x_move rfl rfl) ?_
  refine qk rfl rfl (qk rfl rfl (qv (.bool true) (fun _ x' => x_pick_t rfl rfl rfl) ?_))
  refine q_nil (fun w6 x7 => t_norm (c_true rfl (c_seq (c_plain (pv (.agg #[iJ 0, iJ 0, iJ 0]) (x_build0a zero_96 bld_96 rfl) ?_)))))
  refine p_store (v := .agg #[iJ 0, iJ 0, iJ 0]) (vs := [iJ 0, iJ 0, iJ 0]) (cs' := [iJ 0, iJ 0, iJ 0]) rfl rfl rfl rfl rfl rfl (b2.ext x7) size_96 rfl rfl rfl (fun w8 b9 s10 => ?_)
  refine p_nil (t_norm (c_ret (t_ret ?_)))
  have eq : Value.agg #[iJ 0, iJ 0, iJ 0] = .agg #[iJ (sizeF f), iJ (slowF f), iJ (fastF f)] := by
   have e_sizeF : sizeF f = 0 := by unfold sizeF; split <;> omega
   have e_slowF : slowF f = 0 := by unfold slowF; split <;> omega
   have e_fastF : fastF f = 0 := by unfold fastF; split <;> omega
   rw [e_sizeF, e_slowF, e_fastF]
  exact c_doneC rfl rfl (b9.agg (vs := [iJ 0, iJ 0, iJ 0]) agg_96_3 rfl) ⟨congrArg Ending.returned eq, ((x3.trans x7).stored (Nat.le_refl _) s10)⟩
 have c5' := of_decide_eq_false c5
 refine qv (.bool false) (fun _ x' => x_move rfl rfl) ?_
 refine qv (iJ f) (fun _ x' => x_move rfl rfl) ?_
 refine q_bool (b := decide (f > 3)) rfl rfl (fun _ x' => x_gtr rfl rfl rfl) (fun c11 => ?_) (fun c11 => ?_)
 ·have c11' := of_decide_eq_true c11
  refine qv (.bool true) (fun _ x' => x_pick_f rfl rfl rfl) ?_
  refine q_nil (fun w12 x13 => t_norm (c_true rfl (c_seq (c_plain (pv (.agg #[iJ 0, iJ 0, iJ 0]) (x_build0a zero_96 bld_96 rfl) ?_)))))
  refine p_store (v := .agg #[iJ 0, iJ 0, iJ 0]) (vs := [iJ 0, iJ 0, iJ 0]) (cs' := [iJ 0, iJ 0, iJ 0]) rfl rfl rfl rfl rfl rfl (b2.ext x13) size_96 rfl rfl rfl (fun w14 b15 s16 => ?_)
  refine p_nil (t_norm (c_ret (t_ret ?_)))
  have eq : Value.agg #[iJ 0, iJ 0, iJ 0] = .agg #[iJ (sizeF f), iJ (slowF f), iJ (fastF f)] := by
   have e_sizeF : sizeF f = 0 := by unfold sizeF; split <;> omega
   have e_slowF : slowF f = 0 := by unfold slowF; split <;> omega
   have e_fastF : fastF f = 0 := by unfold fastF; split <;> omega
   rw [e_sizeF, e_slowF, e_fastF]
  exact c_doneC rfl rfl (b15.agg (vs := [iJ 0, iJ 0, iJ 0]) agg_96_3 rfl) ⟨congrArg Ending.returned eq, ((x3.trans x13).stored (Nat.le_refl _) s16)⟩
 have c11' := of_decide_eq_false c11
 refine qv (.bool false) (fun _ x' => x_pick_f rfl rfl rfl) ?_
 refine q_nil (fun w17 x18 => t_norm (c_false rfl (c_skip (t_norm (c_seq (c_plain (pv (iJ f) (x_move rfl rfl) ?_)))))))
 refine pv (iJ (2 * f)) (x_mul rfl rfl rfl (wrap_of (by omega) (by omega))) ?_
 refine pv (iJ ((2 * f) + 1)) (x_add rfl rfl rfl (wrap_of (by omega) (by omega))) ?_
 refine pv (iJ f) (x_move rfl rfl) ?_
 refine pv (iJ (f + 1)) (x_add rfl rfl rfl (wrap_of (by omega) (by omega))) ?_
 refine pv (iJ f) (x_move rfl rfl) ?_
 refine pv (iJ (2 * f)) (x_mul rfl rfl rfl (wrap_of (by omega) (by omega))) ?_
 refine pv (.agg #[iJ ((2 * f) + 1), iJ (f + 1), iJ (2 * f)]) (x_buildA (z := [iJ 0, iJ 0, iJ 0]) (r := [iJ ((2 * f) + 1), iJ (f + 1), iJ (2 * f)]) zero_96 arr_96 rfl (partsI3 rfl rfl rfl) (fill_cons (vs := [iJ ((2 * f) + 1)]) (cs' := [iJ ((2 * f) + 1), iJ 0, iJ 0]) rfl rfl rfl rfl rfl (fill_cons (vs := [iJ (f + 1)]) (cs' := [iJ ((2 * f) + 1), iJ (f + 1), iJ 0]) rfl rfl rfl rfl rfl (fill_cons (vs := [iJ (2 * f)]) (cs' := [iJ ((2 * f) + 1), iJ (f + 1), iJ (2 * f)]) rfl rfl rfl rfl rfl (fill_nil))))) ?_
 refine p_store (v := .agg #[iJ ((2 * f) + 1), iJ (f + 1), iJ (2 * f)]) (vs := [iJ ((2 * f) + 1), iJ (f + 1), iJ (2 * f)]) (cs' := [iJ ((2 * f) + 1), iJ (f + 1), iJ (2 * f)]) rfl rfl rfl rfl rfl rfl (b2.ext x18) size_96 rfl rfl rfl (fun w19 b20 s21 => ?_)
 refine p_nil (t_norm (c_ret ?_))
 have eq : Value.agg #[iJ ((2 * f) + 1), iJ (f + 1), iJ (2 * f)] = .agg #[iJ (sizeF f), iJ (slowF f), iJ (fastF f)] := by
  have e_sizeF : sizeF f = (2 * f) + 1 := by unfold sizeF; split <;> omega
  have e_slowF : slowF f = f + 1 := by unfold slowF; split <;> omega
  have e_fastF : fastF f = 2 * f := by unfold fastF; split <;> omega
  rw [e_sizeF, e_slowF, e_fastF]
 exact c_doneC rfl rfl (b20.agg (vs := [iJ ((2 * f) + 1), iJ (f + 1), iJ (2 * f)]) agg_96_3 rfl) ⟨congrArg Ending.returned eq, ((x3.trans x18).stored (Nat.le_refl _) s21)⟩
theorem C_size (w : World) (f : Int) :
    Calls Try.prog 42 #[.int .i64 f] w (Ret w (.int .i64 (sizeF f))) := by
 refine c_enter (n := 6) Try.func42 rfl rfl rfl ?_
 refine c_seq (c_quiet (qv (iJ 0) (fun _ x' => x_assign rfl rfl) ?_))
 refine q_nil (fun w1 x2 => t_norm (c_seq (c_quiet (qv (iJ f) (fun _ x' => x_move rfl rfl) ?_))))
 refine q_call (vs := #[iJ f]) fn_53 rfl rfl rfl (args1 rfl) (v := .agg #[iJ (sizeF f), iJ (slowF f), iJ (fastF f)]) (fun _ x' => C_sizes _ f) ?_
 refine qv (iJ (sizeF f)) (fun _ x' => x_index_array arr_96 rfl rfl rfl (by decide) (by decide) rfl) ?_
 refine qv (iJ (sizeF f)) (fun _ x' => x_assign rfl rfl) ?_
 exact q_nil (fun w3 x4 => t_norm (c_ret (c_done rfl rfl (Ret.i (rfl) (x2.trans x4)))))
theorem C_slow (w : World) (f : Int) :
    Calls Try.prog 45 #[.int .i64 f] w (Ret w (.int .i64 (slowF f))) := by
 refine c_enter (n := 6) Try.func45 rfl rfl rfl ?_
 refine c_seq (c_quiet (qv (iJ 0) (fun _ x' => x_assign rfl rfl) ?_))
 refine q_nil (fun w1 x2 => t_norm (c_seq (c_quiet (qv (iJ f) (fun _ x' => x_move rfl rfl) ?_))))
 refine q_call (vs := #[iJ f]) fn_53 rfl rfl rfl (args1 rfl) (v := .agg #[iJ (sizeF f), iJ (slowF f), iJ (fastF f)]) (fun _ x' => C_sizes _ f) ?_
 refine qv (iJ (slowF f)) (fun _ x' => x_index_array arr_96 rfl rfl rfl (by decide) (by decide) rfl) ?_
 refine qv (iJ (slowF f)) (fun _ x' => x_assign rfl rfl) ?_
 exact q_nil (fun w3 x4 => t_norm (c_ret (c_done rfl rfl (Ret.i (rfl) (x2.trans x4)))))
theorem D_size (w : World) (f : Int) :
    Calls Try.prog 16 #[.int .i64 f] w (Ret w (.int .i64 (sizeF f))) := by
 refine c_enter (n := 16) Try.func16 rfl rfl rfl ?_
 refine c_seq (c_quiet (qv (iJ 0) (fun _ x' => x_assign rfl rfl) ?_))
 refine q_nil (fun w1 x2 => t_norm (c_seq (c_seq (c_quiet (qv (iJ f) (fun _ x' => x_move rfl rfl) ?_)))))
 refine q_bool (b := decide (f = 1)) rfl rfl (fun _ x' => x_eql rfl rfl rfl) (fun c3 => ?_) (fun c3 => ?_)
 ·have c3' := of_decide_eq_true c3
  refine qv (.bool true) (fun _ x' => x_move rfl rfl) ?_
  refine qk rfl rfl (qk rfl rfl (qv (.bool true) (fun _ x' => x_pick_t rfl rfl rfl) ?_))
  refine qv (.bool true) (fun _ x' => x_move rfl rfl) ?_
  refine qk rfl rfl (qk rfl rfl (qv (.bool true) (fun _ x' => x_pick_t rfl rfl rfl) ?_))
  refine q_nil (fun w4 x5 => t_norm (c_true rfl (c_seq (c_quiet (qv (iJ f) (fun _ x' => x_move rfl rfl) ?_)))))
  refine qv (iJ (2 * f)) (fun _ x' => x_mul rfl rfl rfl (wrap_of (by omega) (by omega))) ?_
  refine qv (iJ ((2 * f) + 1)) (fun _ x' => x_add rfl rfl rfl (wrap_of (by omega) (by omega))) ?_
  refine qv (iJ ((2 * f) + 1)) (fun _ x' => x_assign rfl rfl) ?_
  exact q_nil (fun w6 x7 => t_norm (c_ret (t_ret (c_done rfl rfl (Ret.i (by unfold sizeF; split <;> omega) ((x2.trans x5).trans x7))))))
 have c3' := of_decide_eq_false c3
 refine qv (.bool false) (fun _ x' => x_move rfl rfl) ?_
 refine qv (iJ f) (fun _ x' => x_move rfl rfl) ?_
 refine q_bool (b := decide (f = 2)) rfl rfl (fun _ x' => x_eql rfl rfl rfl) (fun c8 => ?_) (fun c8 => ?_)
 ·have c8' := of_decide_eq_true c8
  refine qv (.bool true) (fun _ x' => x_pick_f rfl rfl rfl) ?_
  refine qv (.bool true) (fun _ x' => x_move rfl rfl) ?_
  refine qk rfl rfl (qk rfl rfl (qv (.bool true) (fun _ x' => x_pick_t rfl rfl rfl) ?_))
  refine q_nil (fun w9 x10 => t_norm (c_true rfl (c_seq (c_quiet (qv (iJ f) (fun _ x' => x_move rfl rfl) ?_)))))
  refine qv (iJ (2 * f)) (fun _ x' => x_mul rfl rfl rfl (wrap_of (by omega) (by omega))) ?_
  refine qv (iJ ((2 * f) + 1)) (fun _ x' => x_add rfl rfl rfl (wrap_of (by omega) (by omega))) ?_
  refine qv (iJ ((2 * f) + 1)) (fun _ x' => x_assign rfl rfl) ?_
  exact q_nil (fun w11 x12 => t_norm (c_ret (t_ret (c_done rfl rfl (Ret.i (by unfold sizeF; split <;> omega) ((x2.trans x10).trans x12))))))
 have c8' := of_decide_eq_false c8
 refine qv (.bool false) (fun _ x' => x_pick_f rfl rfl rfl) ?_
 refine qv (.bool false) (fun _ x' => x_move rfl rfl) ?_
 refine qv (iJ f) (fun _ x' => x_move rfl rfl) ?_
 refine q_bool (b := decide (f = 3)) rfl rfl (fun _ x' => x_eql rfl rfl rfl) (fun c13 => ?_) (fun c13 => ?_)
 ·have c13' := of_decide_eq_true c13
  refine qv (.bool true) (fun _ x' => x_pick_f rfl rfl rfl) ?_
  refine q_nil (fun w14 x15 => t_norm (c_true rfl (c_seq (c_quiet (qv (iJ f) (fun _ x' => x_move rfl rfl) ?_)))))
  refine qv (iJ (2 * f)) (fun _ x' => x_mul rfl rfl rfl (wrap_of (by omega) (by omega))) ?_
  refine qv (iJ ((2 * f) + 1)) (fun _ x' => x_add rfl rfl rfl (wrap_of (by omega) (by omega))) ?_
  refine qv (iJ ((2 * f) + 1)) (fun _ x' => x_assign rfl rfl) ?_
  exact q_nil (fun w16 x17 => t_norm (c_ret (t_ret (c_done rfl rfl (Ret.i (by unfold sizeF; split <;> omega) ((x2.trans x15).trans x17))))))
 have c13' := of_decide_eq_false c13
 refine qv (.bool false) (fun _ x' => x_pick_f rfl rfl rfl) ?_
 refine q_nil (fun w18 x19 => t_norm (c_false rfl (c_skip (t_norm (c_seq (c_quiet (qv (iJ 0) (fun _ x' => x_assign rfl rfl) ?_)))))))
 exact q_nil (fun w20 x21 => t_norm (c_ret (c_done rfl rfl (Ret.i (by unfold sizeF; split <;> omega) ((x2.trans x19).trans x21)))))
theorem D_slow (w : World) (f : Int) :
    Calls Try.prog 40 #[.int .i64 f] w (Ret w (.int .i64 (slowF f))) := by
 refine c_enter (n := 8) Try.func40 rfl rfl rfl ?_
 refine c_seq (c_quiet (qv (iJ 0) (fun _ x' => x_assign rfl rfl) ?_))
 refine q_nil (fun w1 x2 => t_norm (c_seq (c_seq (c_quiet (qv (iJ f) (fun _ x' => x_move rfl rfl) ?_)))))
 refine q_call (vs := #[iJ f]) fn_16 rfl rfl rfl (args1 rfl) (v := iJ (sizeF f)) (fun _ x' => D_size _ f) ?_
 refine q_bool (b := decide (sizeF f = 0)) rfl rfl (fun _ x' => x_eql rfl rfl rfl) (fun c3 => ?_) (fun c3 => ?_)
 ·have c3' := of_decide_eq_true c3
  refine q_nil (fun w4 x5 => t_norm (c_true rfl (c_seq (c_quiet (qv (iJ 0) (fun _ x' => x_assign rfl rfl) ?_)))))
  exact q_nil (fun w6 x7 => t_norm (c_ret (t_ret (c_done rfl rfl (Ret.i (by unfold sizeF at *; unfold slowF; split <;> omega) ((x2.trans x5).trans x7))))))
 have c3' := of_decide_eq_false c3
 have hs := size_low c3'
 refine q_nil (fun w8 x9 => t_norm (c_false rfl (c_skip (t_norm (c_seq (c_quiet (qv (iJ f) (fun _ x' => x_move rfl rfl) ?_)))))))
 refine qv (iJ (f + 1)) (fun _ x' => x_add rfl rfl rfl (wrap_of (by omega) (by omega))) ?_
 refine qv (iJ (f + 1)) (fun _ x' => x_assign rfl rfl) ?_
 exact q_nil (fun w10 x11 => t_norm (c_ret (c_done rfl rfl (Ret.i (by unfold sizeF at *; unfold slowF; split <;> omega) ((x2.trans x9).trans x11)))))
theorem C_quick (w : World) (v : Vt) :
    Calls Try.prog 30 #[vVt v] w (Ret w (.bool (quick v))) := by
 refine c_enter (n := 19) Try.func30 rfl rfl rfl ?_
 refine c_seq (c_plain (p_box rfl rfl rfl rfl (fun w1 b2 x3 z4 => ?_)))
 refine pv (.bool false) (x_assign rfl rfl) ?_
 refine p_nil (t_norm (c_seq (c_quiet (qv (.pointer (some (⟨w.heap.size, 1, none⟩))) (fun _ x' => x_fieldAddr fld_63_1 rfl rfl rfl) ?_))))
 refine qv (.pointer (some (⟨w.heap.size, 3, none⟩))) (fun _ x' => x_fieldAddr fld_40_1 rfl rfl rfl) ?_
 refine qv (iJ v.r.status) (fun _ x' => x_load rfl rfl ((b2.ext x').one one_3 rfl)) ?_
 refine q_bool (b := decide (v.r.status = 1)) rfl rfl (fun _ x' => x_eql rfl rfl rfl) (fun c5 => ?_) (fun c5 => ?_)
 ·refine qv (.bool true) (fun _ x' => x_move rfl rfl) ?_
  refine qv (.pointer (some (⟨w.heap.size, 1, none⟩))) (fun _ x' => x_fieldAddr fld_63_1 rfl rfl rfl) ?_
  refine qv (.pointer (some (⟨w.heap.size, 6, none⟩))) (fun _ x' => x_fieldAddr fld_40_3 rfl rfl rfl) ?_
  refine qv (.agg #[iJ v.r.ballot.number, iJ v.r.ballot.replica]) (fun _ x' => x_load rfl rfl ((b2.ext x').agg (vs := [iJ v.r.ballot.number, iJ v.r.ballot.replica]) agg_28_2 rfl)) ?_
  refine qv (.agg #[iJ 0, iJ 0]) (fun _ x' => x_build0 zero_28 bld_28 rfl) ?_
  refine q_bool (b := decide (v.r.ballot = (⟨0, 0⟩ : Bal))) rfl rfl (fun _ x' => x_eqBal ints2_28 rfl rfl rfl) (fun c6 => ?_) (fun c6 => ?_)
  ·refine qv (.bool true) (fun _ x' => x_pick_t rfl rfl rfl) ?_
   refine qv (.bool true) (fun _ x' => x_move rfl rfl) ?_
   refine qv (.pointer (some (⟨w.heap.size, 1, none⟩))) (fun _ x' => x_fieldAddr fld_63_1 rfl rfl rfl) ?_
   refine qv (.pointer (some (⟨w.heap.size, 25, none⟩))) (fun _ x' => x_fieldAddr fld_40_7 rfl rfl rfl) ?_
   refine q_bool (b := v.r.kept) rfl rfl (fun _ x' => x_load rfl rfl ((b2.ext x').one one_4 rfl)) (fun c7 => ?_) (fun c7 => ?_)
   ·refine qv (.bool true) (fun _ x' => x_pick_t rfl rfl rfl) ?_
    refine qv (.bool true) (fun _ x' => x_assign rfl rfl) ?_
    exact q_nil (fun w8 x9 => t_norm (c_ret (c_done rfl rfl (Ret.b (by simp_all [quick]) (x3.trans x9)))))
   refine qv (.bool false) (fun _ x' => x_pick_t rfl rfl rfl) ?_
   refine qv (.bool false) (fun _ x' => x_assign rfl rfl) ?_
   exact q_nil (fun w10 x11 => t_norm (c_ret (c_done rfl rfl (Ret.b (by simp_all [quick]) (x3.trans x11)))))
  refine qv (.bool false) (fun _ x' => x_pick_t rfl rfl rfl) ?_
  refine qv (.bool false) (fun _ x' => x_move rfl rfl) ?_
  refine qk rfl rfl (qk rfl rfl (qk rfl rfl (qv (.bool false) (fun _ x' => x_pick_f rfl rfl rfl) ?_)))
  refine qv (.bool false) (fun _ x' => x_assign rfl rfl) ?_
  exact q_nil (fun w12 x13 => t_norm (c_ret (c_done rfl rfl (Ret.b (by simp_all [quick]) (x3.trans x13)))))
 refine qv (.bool false) (fun _ x' => x_move rfl rfl) ?_
 refine qk rfl rfl (qk rfl rfl (qk rfl rfl (qk rfl rfl (qk rfl rfl (qv (.bool false) (fun _ x' => x_pick_f rfl rfl rfl) ?_)))))
 refine qv (.bool false) (fun _ x' => x_move rfl rfl) ?_
 refine qk rfl rfl (qk rfl rfl (qk rfl rfl (qv (.bool false) (fun _ x' => x_pick_f rfl rfl rfl) ?_)))
 refine qv (.bool false) (fun _ x' => x_assign rfl rfl) ?_
 exact q_nil (fun w14 x15 => t_norm (c_ret (c_done rfl rfl (Ret.b (by simp_all [quick]) (x3.trans x15)))))
theorem C_ofS (w : World) (v : Vt) (k : Int) (gb : Nat) (hb : Box w gb 3 [.int .i64 k]) :
    Calls Try.prog 27 #[vVt v, .pointer (some (⟨gb, 0, none⟩))] w (Ret w (.bool (ofS k v))) := by
 refine c_enter (n := 9) Try.func27 rfl rfl rfl ?_
 refine c_seq (c_plain (p_box rfl rfl rfl rfl (fun w1 b2 x3 z4 => ?_)))
 refine pv (.bool false) (x_assign rfl rfl) ?_
 refine p_nil (t_norm (c_seq (c_quiet (qv (.pointer (some (⟨w.heap.size, 1, none⟩))) (fun _ x' => x_fieldAddr fld_63_1 rfl rfl rfl) ?_))))
 refine qv (.pointer (some (⟨w.heap.size, 3, none⟩))) (fun _ x' => x_fieldAddr fld_40_1 rfl rfl rfl) ?_
 refine qv (iJ v.r.status) (fun _ x' => x_load rfl rfl ((b2.ext x').one one_3 rfl)) ?_
 refine qv (iJ k) (fun _ x' => x_load rfl rfl (((hb.ext x3).ext x').one one_3 rfl)) ?_
 refine q_bool (b := decide (v.r.status = k)) rfl rfl (fun _ x' => x_eql rfl rfl rfl) (fun c5 => ?_) (fun c5 => ?_)
 ·refine qv (.bool true) (fun _ x' => x_assign rfl rfl) ?_
  exact q_nil (fun w6 x7 => t_norm (c_ret (c_done rfl rfl (Ret.b (by simp_all [ofS]) (x3.trans x7)))))
 refine qv (.bool false) (fun _ x' => x_assign rfl rfl) ?_
 exact q_nil (fun w8 x9 => t_norm (c_ret (c_done rfl rfl (Ret.b (by simp_all [ofS]) (x3.trans x9)))))
end Go.Proofs.Ytgamfmkefipngaa
