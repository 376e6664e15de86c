/- A walk through the code of layers below, or of layer 10. -/
import Derived.Test.YtadeigpphklmfaaDos
import Derived.Test.YtadeigpphklmfaaDrs
import Derived.Test.YtadeigpphklmfaaPan
import Derived.Test.YtadeigpphklmfaaA5
namespace Go.Proofs.Ytadeigpphklmfaa
open Go.RowKit Go.Eng
set_option linter.unusedVariables false
set_option linter.unusedSimpArgs false
set_option maxHeartbeats 4000000 in
theorem D_rightCmd (w : World) (a : Cmd) (pa : Ptr) (ha : CmdAt w a pa) (hs : Slim a) :
    Calls Try.prog 47 #[vCmd a pa] w (Ret w (.bool (rightCmd a))) := by
 have hs1 := hs.1
 have hs2 := hs.2
 have hst := stp_low (s := a.stp)
 refine c_enter (n := 170) Try.func47 rfl rfl rfl ?_
 refine c_seq (c_plain (p_box rfl rfl rfl rfl (fun w1 b2 x3 z4 => ?_)))
 refine pv (.bool false) (x_assign rfl rfl) ?_
 refine p_nil (t_norm (c_seq (c_seq (c_quiet (qv (pJ w.heap.size) (fun _ x' => x_fieldAddr fld_37_0 rfl rfl rfl) ?_)))))
 refine qv (iJ a.kind) (fun _ x' => x_load rfl rfl ((b2.ext x').one one_3 rfl)) ?_
 refine q_bool (b := decide (a.kind = 0)) rfl rfl (fun _ x' => x_eql rfl rfl rfl) (fun c5 => ?_) (fun c5 => ?_)
 ·refine q_nil (fun w6 x7 => t_norm (c_true rfl (c_seq (c_quiet (qv (.pointer (some (⟨w.heap.size, 1, none⟩))) (fun _ x' => x_fieldAddr fld_37_1 rfl rfl rfl) ?_)))))
  refine qv (.agg #[iJ a.txn.client, iJ a.txn.number]) (fun _ x' => x_load rfl rfl (((b2.ext x7).ext x').agg (vs := [iJ a.txn.client, iJ a.txn.number]) agg_31_2 rfl)) ?_
  refine qv (.agg #[iJ 0, iJ 0]) (fun _ x' => x_build0 zero_31 bld_31 rfl) ?_
  refine q_bool (b := decide (a.txn = (⟨0, 0⟩ : Txn))) rfl rfl (fun _ x' => x_eqTxn ints2_31 rfl rfl rfl) (fun c8 => ?_) (fun c8 => ?_)
  ·refine qv (.bool true) (fun _ x' => x_move rfl rfl) ?_
   refine qv (.pointer (some (⟨w.heap.size, 3, none⟩))) (fun _ x' => x_fieldAddr fld_37_2 rfl rfl rfl) ?_
   refine qv (.agg #[iJ a.stp.time, iJ a.stp.client]) (fun _ x' => x_load rfl rfl (((b2.ext x7).ext x').agg (vs := [iJ a.stp.time, iJ a.stp.client]) agg_33_2 rfl)) ?_
   refine qv (.agg #[iJ 0, iJ 0]) (fun _ x' => x_build0 zero_33 bld_33 rfl) ?_
   refine q_bool (b := decide (a.stp = (⟨0, 0⟩ : Stp))) rfl rfl (fun _ x' => x_eqStp ints2_33 rfl rfl rfl) (fun c9 => ?_) (fun c9 => ?_)
   ·refine qv (.bool true) (fun _ x' => x_pick_t rfl rfl rfl) ?_
    refine qv (.bool true) (fun _ x' => x_move rfl rfl) ?_
    refine qv (.pointer (some (⟨w.heap.size, 5, none⟩))) (fun _ x' => x_fieldAddr fld_37_3 rfl rfl rfl) ?_
    refine qv (iJ a.shards) (fun _ x' => x_load rfl rfl (((b2.ext x7).ext x').one one_3 rfl)) ?_
    refine q_bool (b := decide (a.shards = 0)) rfl rfl (fun _ x' => x_eql rfl rfl rfl) (fun c10 => ?_) (fun c10 => ?_)
    ·refine qv (.bool true) (fun _ x' => x_pick_t rfl rfl rfl) ?_
     refine qv (.bool true) (fun _ x' => x_move rfl rfl) ?_
     refine qv (.pointer (some (⟨w.heap.size, 6, none⟩))) (fun _ x' => x_fieldAddr fld_37_4 rfl rfl rfl) ?_
     refine qv (.slice pa.A a.reads.length pa.n) (fun _ x' => x_load rfl rfl (((b2.ext x7).ext x').one one_34 rfl)) ?_
     refine qv (iJ (a.reads.length : Int)) (fun _ x' => x_len_slice sl_34 rfl rfl) ?_
     refine q_bool (b := decide ((a.reads.length : Int) = 0)) rfl rfl (fun _ x' => x_eql rfl rfl rfl) (fun c11 => ?_) (fun c11 => ?_)
     ·refine qv (.bool true) (fun _ x' => x_pick_t rfl rfl rfl) ?_
      refine qv (.bool true) (fun _ x' => x_move rfl rfl) ?_
      refine qv (.pointer (some (⟨w.heap.size, 7, none⟩))) (fun _ x' => x_fieldAddr fld_37_5 rfl rfl rfl) ?_
      refine qv (.slice pa.B a.writes.length pa.m) (fun _ x' => x_load rfl rfl (((b2.ext x7).ext x').one one_35 rfl)) ?_
      refine qv (iJ (a.writes.length : Int)) (fun _ x' => x_len_slice sl_35 rfl rfl) ?_
      refine q_bool (b := decide ((a.writes.length : Int) = 0)) rfl rfl (fun _ x' => x_eql rfl rfl rfl) (fun c12 => ?_) (fun c12 => ?_)
      ·refine qv (.bool true) (fun _ x' => x_pick_t rfl rfl rfl) ?_
       refine qv (.bool true) (fun _ x' => x_move rfl rfl) ?_
       refine qv (.pointer (some (⟨w.heap.size, 8, none⟩))) (fun _ x' => x_fieldAddr fld_37_6 rfl rfl rfl) ?_
       refine q_bool (b := a.commit) rfl rfl (fun _ x' => x_load rfl rfl (((b2.ext x7).ext x').one one_4 rfl)) (fun c13 => ?_) (fun c13 => ?_)
       ·refine qv (.bool false) (fun _ x' => x_not (b := true) rfl rfl) ?_
        refine qv (.bool false) (fun _ x' => x_pick_t rfl rfl rfl) ?_
        refine qv (.bool false) (fun _ x' => x_assign rfl rfl) ?_
        exact q_nil (fun w14 x15 => t_norm (c_ret (t_ret (c_done rfl rfl (Ret.b (by clear ha; simp_all [rightCmd] <;> (intro h; subst h; simp_all)) ((x3.trans x7).trans x15))))))
       refine qv (.bool true) (fun _ x' => x_not (b := false) rfl rfl) ?_
       refine qv (.bool true) (fun _ x' => x_pick_t rfl rfl rfl) ?_
       refine qv (.bool true) (fun _ x' => x_assign rfl rfl) ?_
       exact q_nil (fun w16 x17 => t_norm (c_ret (t_ret (c_done rfl rfl (Ret.b (by obtain ⟨k, x, s, n, r, w, c⟩ := a; clear ha; simp_all [rightCmd]) ((x3.trans x7).trans x17))))))
      refine qv (.bool false) (fun _ x' => x_pick_t rfl rfl rfl) ?_
      refine qv (.bool false) (fun _ x' => x_move rfl rfl) ?_
      refine qk rfl rfl (qk rfl rfl (qk rfl rfl (qv (.bool false) (fun _ x' => x_pick_f rfl rfl rfl) ?_)))
      refine qv (.bool false) (fun _ x' => x_assign rfl rfl) ?_
      exact q_nil (fun w18 x19 => t_norm (c_ret (t_ret (c_done rfl rfl (Ret.b (by clear ha; simp_all [rightCmd] <;> (intro h; subst h; simp_all)) ((x3.trans x7).trans x19))))))
     refine qv (.bool false) (fun _ x' => x_pick_t rfl rfl rfl) ?_
     refine qv (.bool false) (fun _ x' => x_move rfl rfl) ?_
     refine qk rfl rfl (qk rfl rfl (qk rfl rfl (qk rfl rfl (qv (.bool false) (fun _ x' => x_pick_f rfl rfl rfl) ?_))))
     refine qv (.bool false) (fun _ x' => x_move rfl rfl) ?_
     refine qk rfl rfl (qk rfl rfl (qk rfl rfl (qv (.bool false) (fun _ x' => x_pick_f rfl rfl rfl) ?_)))
     refine qv (.bool false) (fun _ x' => x_assign rfl rfl) ?_
     exact q_nil (fun w20 x21 => t_norm (c_ret (t_ret (c_done rfl rfl (Ret.b (by clear ha; simp_all [rightCmd] <;> (intro h; subst h; simp_all)) ((x3.trans x7).trans x21))))))
    refine qv (.bool false) (fun _ x' => x_pick_t rfl rfl rfl) ?_
    refine qv (.bool false) (fun _ x' => x_move rfl rfl) ?_
    refine qk rfl rfl (qk rfl rfl (qk rfl rfl (qk rfl rfl (qv (.bool false) (fun _ x' => x_pick_f rfl rfl rfl) ?_))))
    refine qv (.bool false) (fun _ x' => x_move rfl rfl) ?_
    refine qk rfl rfl (qk rfl rfl (qk rfl rfl (qk rfl rfl (qv (.bool false) (fun _ x' => x_pick_f rfl rfl rfl) ?_))))
    refine qv (.bool false) (fun _ x' => x_move rfl rfl) ?_
    refine qk rfl rfl (qk rfl rfl (qk rfl rfl (qv (.bool false) (fun _ x' => x_pick_f rfl rfl rfl) ?_)))
    refine qv (.bool false) (fun _ x' => x_assign rfl rfl) ?_
    exact q_nil (fun w22 x23 => t_norm (c_ret (t_ret (c_done rfl rfl (Ret.b (by clear ha; simp_all [rightCmd] <;> (intro h; subst h; simp_all)) ((x3.trans x7).trans x23))))))
   refine qv (.bool false) (fun _ x' => x_pick_t rfl rfl rfl) ?_
   refine qv (.bool false) (fun _ x' => x_move rfl rfl) ?_
   refine qk rfl rfl (qk rfl rfl (qk rfl rfl (qv (.bool false) (fun _ x' => x_pick_f rfl rfl rfl) ?_)))
   refine qv (.bool false) (fun _ x' => x_move rfl rfl) ?_
   refine qk rfl rfl (qk rfl rfl (qk rfl rfl (qk rfl rfl (qv (.bool false) (fun _ x' => x_pick_f rfl rfl rfl) ?_))))
   refine qv (.bool false) (fun _ x' => x_move rfl rfl) ?_
   refine qk rfl rfl (qk rfl rfl (qk rfl rfl (qk rfl rfl (qv (.bool false) (fun _ x' => x_pick_f rfl rfl rfl) ?_))))
   refine qv (.bool false) (fun _ x' => x_move rfl rfl) ?_
   refine qk rfl rfl (qk rfl rfl (qk rfl rfl (qv (.bool false) (fun _ x' => x_pick_f rfl rfl rfl) ?_)))
   refine qv (.bool false) (fun _ x' => x_assign rfl rfl) ?_
   exact q_nil (fun w24 x25 => t_norm (c_ret (t_ret (c_done rfl rfl (Ret.b (by clear ha; simp_all [rightCmd] <;> (intro h; subst h; simp_all)) ((x3.trans x7).trans x25))))))
  refine qv (.bool false) (fun _ x' => x_move rfl rfl) ?_
  refine qk rfl rfl (qk rfl rfl (qk rfl rfl (qk rfl rfl (qv (.bool false) (fun _ x' => x_pick_f rfl rfl rfl) ?_))))
  refine qv (.bool false) (fun _ x' => x_move rfl rfl) ?_
  refine qk rfl rfl (qk rfl rfl (qk rfl rfl (qv (.bool false) (fun _ x' => x_pick_f rfl rfl rfl) ?_)))
  refine qv (.bool false) (fun _ x' => x_move rfl rfl) ?_
  refine qk rfl rfl (qk rfl rfl (qk rfl rfl (qk rfl rfl (qv (.bool false) (fun _ x' => x_pick_f rfl rfl rfl) ?_))))
  refine qv (.bool false) (fun _ x' => x_move rfl rfl) ?_
  refine qk rfl rfl (qk rfl rfl (qk rfl rfl (qk rfl rfl (qv (.bool false) (fun _ x' => x_pick_f rfl rfl rfl) ?_))))
  refine qv (.bool false) (fun _ x' => x_move rfl rfl) ?_
  refine qk rfl rfl (qk rfl rfl (qk rfl rfl (qv (.bool false) (fun _ x' => x_pick_f rfl rfl rfl) ?_)))
  refine qv (.bool false) (fun _ x' => x_assign rfl rfl) ?_
  exact q_nil (fun w26 x27 => t_norm (c_ret (t_ret (c_done rfl rfl (Ret.b (by clear ha; simp_all [rightCmd] <;> (intro h; subst h; simp_all)) ((x3.trans x7).trans x27))))))
 refine q_nil (fun w28 x29 => t_norm (c_false rfl (c_skip (t_norm (c_seq (c_seq (c_quiet (qv (pJ w.heap.size) (fun _ x' => x_fieldAddr fld_37_0 rfl rfl rfl) ?_))))))))
 refine qv (iJ a.kind) (fun _ x' => x_load rfl rfl (((b2.ext x29).ext x').one one_3 rfl)) ?_
 refine q_bool (b := decide (a.kind ≠ 1)) rfl rfl (fun _ x' => x_neq rfl rfl rfl) (fun c30 => ?_) (fun c30 => ?_)
 ·refine qv (.bool true) (fun _ x' => x_move rfl rfl) ?_
  refine qv (pJ w.heap.size) (fun _ x' => x_fieldAddr fld_37_0 rfl rfl rfl) ?_
  refine qv (iJ a.kind) (fun _ x' => x_load rfl rfl (((b2.ext x29).ext x').one one_3 rfl)) ?_
  refine q_bool (b := decide (a.kind ≠ 2)) rfl rfl (fun _ x' => x_neq rfl rfl rfl) (fun c31 => ?_) (fun c31 => ?_)
  ·refine qv (.bool true) (fun _ x' => x_pick_t rfl rfl rfl) ?_
   refine qv (.bool true) (fun _ x' => x_move rfl rfl) ?_
   refine qk rfl rfl (qk rfl rfl (qk rfl rfl (qk rfl rfl (qk rfl rfl (qk rfl rfl (qk rfl rfl (qv (.bool true) (fun _ x' => x_pick_t rfl rfl rfl) ?_)))))))
   refine q_nil (fun w32 x33 => t_norm (c_true rfl (c_seq (c_quiet (qv (.bool false) (fun _ x' => x_assign rfl rfl) ?_)))))
   exact q_nil (fun w34 x35 => t_norm (c_ret (t_ret (c_done rfl rfl (Ret.b ((rightCmd_head (by simpa using c5) (by clear ha; simp only [empty_len] at *; simp_all [-List.length_eq_zero_iff] <;> first | omega | (intros; omega) | (intros; simp_all [-List.length_eq_zero_iff] <;> omega))).symm) (((x3.trans x29).trans x33).trans x35))))))
  refine qv (.bool false) (fun _ x' => x_pick_t rfl rfl rfl) ?_
  refine qv (.bool false) (fun _ x' => x_move rfl rfl) ?_
  refine qv (pJ w.heap.size) (fun _ x' => x_fieldAddr fld_37_0 rfl rfl rfl) ?_
  refine qv (iJ a.kind) (fun _ x' => x_load rfl rfl (((b2.ext x29).ext x').one one_3 rfl)) ?_
  refine q_bool (b := decide (a.kind = 1)) rfl rfl (fun _ x' => x_eql rfl rfl rfl) (fun c36 => ?_) (fun c36 => ?_)
  ·refine qv (.bool true) (fun _ x' => x_move rfl rfl) ?_
   refine qv (.pointer (some (⟨w.heap.size, 8, none⟩))) (fun _ x' => x_fieldAddr fld_37_6 rfl rfl rfl) ?_
   refine q_bool (b := a.commit) rfl rfl (fun _ x' => x_load rfl rfl (((b2.ext x29).ext x').one one_4 rfl)) (fun c37 => ?_) (fun c37 => ?_)
   ·refine qv (.bool true) (fun _ x' => x_pick_t rfl rfl rfl) ?_
    refine qv (.bool true) (fun _ x' => x_pick_f rfl rfl rfl) ?_
    refine q_nil (fun w38 x39 => t_norm (c_true rfl (c_seq (c_quiet (qv (.bool false) (fun _ x' => x_assign rfl rfl) ?_)))))
    exact q_nil (fun w40 x41 => t_norm (c_ret (t_ret (c_done rfl rfl (Ret.b ((rightCmd_head (by simpa using c5) (by clear ha; simp only [empty_len] at *; simp_all [-List.length_eq_zero_iff] <;> first | omega | (intros; omega) | (intros; simp_all [-List.length_eq_zero_iff] <;> omega))).symm) (((x3.trans x29).trans x39).trans x41))))))
   refine qv (.bool false) (fun _ x' => x_pick_t rfl rfl rfl) ?_
   refine qv (.bool false) (fun _ x' => x_pick_f rfl rfl rfl) ?_
   refine q_nil (fun w42 x43 => t_norm (c_false rfl (c_skip (t_norm (c_seq (c_seq (c_quiet (qv (.pointer (some (⟨w.heap.size, 1, none⟩))) (fun _ x' => x_fieldAddr fld_37_1 rfl rfl rfl) ?_))))))))
   refine qv (.agg #[iJ a.txn.client, iJ a.txn.number]) (fun _ x' => x_load rfl rfl ((((b2.ext x29).ext x43).ext x').agg (vs := [iJ a.txn.client, iJ a.txn.number]) agg_31_2 rfl)) ?_
   refine q_callb (b := rightTxn a.txn) (vs := #[.agg #[iJ a.txn.client, iJ a.txn.number]]) fn_58 rfl rfl rfl (args1 rfl) (fun _ x' => D_rightTxn _ a.txn) (fun c44 => ?_) (fun c44 => ?_)
   ·refine qv (.bool false) (fun _ x' => x_not (b := true) rfl rfl) ?_
    refine qv (.bool false) (fun _ x' => x_move rfl rfl) ?_
    refine qv (.pointer (some (⟨w.heap.size, 3, none⟩))) (fun _ x' => x_fieldAddr fld_37_2 rfl rfl rfl) ?_
    refine qv (.agg #[iJ a.stp.time, iJ a.stp.client]) (fun _ x' => x_load rfl rfl ((((b2.ext x29).ext x43).ext x').agg (vs := [iJ a.stp.time, iJ a.stp.client]) agg_33_2 rfl)) ?_
    refine q_callb (b := rightStp a.stp) (vs := #[.agg #[iJ a.stp.time, iJ a.stp.client]]) fn_59 rfl rfl rfl (args1 rfl) (fun _ x' => D_rightStp _ a.stp) (fun c45 => ?_) (fun c45 => ?_)
    ·refine qv (.bool false) (fun _ x' => x_not (b := true) rfl rfl) ?_
     refine qv (.bool false) (fun _ x' => x_pick_f rfl rfl rfl) ?_
     refine qv (.bool false) (fun _ x' => x_move rfl rfl) ?_
     refine qv (.pointer (some (⟨w.heap.size, 3, none⟩))) (fun _ x' => x_fieldAddr fld_37_2 rfl rfl rfl) ?_
     refine qv (.pointer (some (⟨w.heap.size, 3, none⟩))) (fun _ x' => x_fieldAddr fld_33_0 rfl rfl rfl) ?_
     refine qv (iJ a.stp.time) (fun _ x' => x_load rfl rfl ((((b2.ext x29).ext x43).ext x').one one_3 rfl)) ?_
     refine q_bool (b := decide (a.stp.time = 0)) rfl rfl (fun _ x' => x_eql rfl rfl rfl) (fun c46 => ?_) (fun c46 => ?_)
     ·refine qv (.bool true) (fun _ x' => x_pick_f rfl rfl rfl) ?_
      refine qv (.bool true) (fun _ x' => x_move rfl rfl) ?_
      refine qk rfl rfl (qk rfl rfl (qk rfl rfl (qk rfl rfl (qk rfl rfl (qk rfl rfl (qk rfl rfl (qv (.bool true) (fun _ x' => x_pick_t rfl rfl rfl) ?_)))))))
      refine q_nil (fun w47 x48 => t_norm (c_true rfl (c_seq (c_quiet (qv (.bool false) (fun _ x' => x_assign rfl rfl) ?_)))))
      exact q_nil (fun w49 x50 => t_norm (c_ret (t_ret (c_done rfl rfl (Ret.b ((rightCmd_head (by simpa using c5) (by clear ha; simp only [empty_len] at *; simp_all [-List.length_eq_zero_iff] <;> first | omega | (intros; omega) | (intros; simp_all [-List.length_eq_zero_iff] <;> omega))).symm) ((((x3.trans x29).trans x43).trans x48).trans x50))))))
     refine qv (.bool false) (fun _ x' => x_pick_f rfl rfl rfl) ?_
     refine qv (.bool false) (fun _ x' => x_move rfl rfl) ?_
     refine qv (.pointer (some (⟨w.heap.size, 3, none⟩))) (fun _ x' => x_fieldAddr fld_37_2 rfl rfl rfl) ?_
     refine qv (.pointer (some (⟨w.heap.size, 4, none⟩))) (fun _ x' => x_fieldAddr fld_33_1 rfl rfl rfl) ?_
     refine qv (iJ a.stp.client) (fun _ x' => x_load rfl rfl ((((b2.ext x29).ext x43).ext x').one one_3 rfl)) ?_
     refine qv (.pointer (some (⟨w.heap.size, 1, none⟩))) (fun _ x' => x_fieldAddr fld_37_1 rfl rfl rfl) ?_
     refine qv (.pointer (some (⟨w.heap.size, 1, none⟩))) (fun _ x' => x_fieldAddr fld_31_0 rfl rfl rfl) ?_
     refine qv (iJ a.txn.client) (fun _ x' => x_load rfl rfl ((((b2.ext x29).ext x43).ext x').one one_3 rfl)) ?_
     refine q_bool (b := decide (a.stp.client ≠ a.txn.client)) rfl rfl (fun _ x' => x_neq rfl rfl rfl) (fun c51 => ?_) (fun c51 => ?_)
     ·refine qv (.bool true) (fun _ x' => x_pick_f rfl rfl rfl) ?_
      refine q_nil (fun w52 x53 => t_norm (c_true rfl (c_seq (c_quiet (qv (.bool false) (fun _ x' => x_assign rfl rfl) ?_)))))
      exact q_nil (fun w54 x55 => t_norm (c_ret (t_ret (c_done rfl rfl (Ret.b ((rightCmd_head (by simpa using c5) (by clear ha; simp only [empty_len] at *; simp_all [-List.length_eq_zero_iff] <;> first | omega | (intros; omega) | (intros; simp_all [-List.length_eq_zero_iff] <;> omega))).symm) ((((x3.trans x29).trans x43).trans x53).trans x55))))))
     refine qv (.bool false) (fun _ x' => x_pick_f rfl rfl rfl) ?_
     refine q_nil (fun w56 x57 => t_norm (c_false rfl (c_skip (t_norm (c_seq (c_seq (c_quiet (qv (.pointer (some (⟨w.heap.size, 5, none⟩))) (fun _ x' => x_fieldAddr fld_37_3 rfl rfl rfl) ?_))))))))
     refine qv (iJ a.shards) (fun _ x' => x_load rfl rfl (((((b2.ext x29).ext x43).ext x57).ext x').one one_3 rfl)) ?_
     refine q_bool (b := decide (a.shards ≤ 0)) rfl rfl (fun _ x' => x_leq rfl rfl rfl) (fun c58 => ?_) (fun c58 => ?_)
     ·refine qv (.bool true) (fun _ x' => x_move rfl rfl) ?_
      refine qk rfl rfl (qk rfl rfl (qk rfl rfl (qv (.bool true) (fun _ x' => x_pick_t rfl rfl rfl) ?_)))
      refine qv (.bool true) (fun _ x' => x_move rfl rfl) ?_
      refine qk rfl rfl (qk rfl rfl (qk rfl rfl (qk rfl rfl (qk rfl rfl (qk rfl rfl (qk rfl rfl (qk rfl rfl (qk rfl rfl (qk rfl rfl (qv (.bool true) (fun _ x' => x_pick_t rfl rfl rfl) ?_))))))))))
      refine q_nil (fun w59 x60 => t_norm (c_true rfl (c_seq (c_quiet (qv (.bool false) (fun _ x' => x_assign rfl rfl) ?_)))))
      exact q_nil (fun w61 x62 => t_norm (c_ret (t_ret (c_done rfl rfl (Ret.b ((rightCmd_head (by simpa using c5) (by clear ha; simp only [empty_len] at *; simp_all [-List.length_eq_zero_iff] <;> first | omega | (intros; omega) | (intros; simp_all [-List.length_eq_zero_iff] <;> omega))).symm) (((((x3.trans x29).trans x43).trans x57).trans x60).trans x62))))))
     refine qv (.bool false) (fun _ x' => x_move rfl rfl) ?_
     refine qv (.pointer (some (⟨w.heap.size, 5, none⟩))) (fun _ x' => x_fieldAddr fld_37_3 rfl rfl rfl) ?_
     refine qv (iJ a.shards) (fun _ x' => x_load rfl rfl (((((b2.ext x29).ext x43).ext x57).ext x').one one_3 rfl)) ?_
     refine q_bool (b := decide (a.shards ≥ 16)) rfl rfl (fun _ x' => x_geq rfl rfl rfl) (fun c63 => ?_) (fun c63 => ?_)
     ·refine qv (.bool true) (fun _ x' => x_pick_f rfl rfl rfl) ?_
      refine qv (.bool true) (fun _ x' => x_move rfl rfl) ?_
      refine qk rfl rfl (qk rfl rfl (qk rfl rfl (qk rfl rfl (qk rfl rfl (qk rfl rfl (qk rfl rfl (qk rfl rfl (qk rfl rfl (qk rfl rfl (qv (.bool true) (fun _ x' => x_pick_t rfl rfl rfl) ?_))))))))))
      refine q_nil (fun w64 x65 => t_norm (c_true rfl (c_seq (c_quiet (qv (.bool false) (fun _ x' => x_assign rfl rfl) ?_)))))
      exact q_nil (fun w66 x67 => t_norm (c_ret (t_ret (c_done rfl rfl (Ret.b ((rightCmd_head (by simpa using c5) (by clear ha; simp only [empty_len] at *; simp_all [-List.length_eq_zero_iff] <;> first | omega | (intros; omega) | (intros; simp_all [-List.length_eq_zero_iff] <;> omega))).symm) (((((x3.trans x29).trans x43).trans x57).trans x65).trans x67))))))
     refine qv (.bool false) (fun _ x' => x_pick_f rfl rfl rfl) ?_
     refine qv (.bool false) (fun _ x' => x_move rfl rfl) ?_
     refine qv (.pointer (some (⟨w.heap.size, 6, none⟩))) (fun _ x' => x_fieldAddr fld_37_4 rfl rfl rfl) ?_
     refine qv (.slice pa.A a.reads.length pa.n) (fun _ x' => x_load rfl rfl (((((b2.ext x29).ext x43).ext x57).ext x').one one_34 rfl)) ?_
     refine qv (iJ (a.reads.length : Int)) (fun _ x' => x_len_slice sl_34 rfl rfl) ?_
     refine q_bool (b := decide ((a.reads.length : Int) = 0)) rfl rfl (fun _ x' => x_eql rfl rfl rfl) (fun c68 => ?_) (fun c68 => ?_)
     ·refine qv (.bool true) (fun _ x' => x_move rfl rfl) ?_
      refine qv (.pointer (some (⟨w.heap.size, 7, none⟩))) (fun _ x' => x_fieldAddr fld_37_5 rfl rfl rfl) ?_
      refine qv (.slice pa.B a.writes.length pa.m) (fun _ x' => x_load rfl rfl (((((b2.ext x29).ext x43).ext x57).ext x').one one_35 rfl)) ?_
      refine qv (iJ (a.writes.length : Int)) (fun _ x' => x_len_slice sl_35 rfl rfl) ?_
      refine q_bool (b := decide ((a.writes.length : Int) = 0)) rfl rfl (fun _ x' => x_eql rfl rfl rfl) (fun c69 => ?_) (fun c69 => ?_)
      ·refine qv (.bool true) (fun _ x' => x_pick_t rfl rfl rfl) ?_
       refine qv (.bool true) (fun _ x' => x_pick_f rfl rfl rfl) ?_
       refine q_nil (fun w70 x71 => t_norm (c_true rfl (c_seq (c_quiet (qv (.bool false) (fun _ x' => x_assign rfl rfl) ?_)))))
       exact q_nil (fun w72 x73 => t_norm (c_ret (t_ret (c_done rfl rfl (Ret.b ((rightCmd_head (by simpa using c5) (by clear ha; simp only [empty_len] at *; simp_all [-List.length_eq_zero_iff] <;> first | omega | (intros; omega) | (intros; simp_all [-List.length_eq_zero_iff] <;> omega))).symm) (((((x3.trans x29).trans x43).trans x57).trans x71).trans x73))))))
      refine qv (.bool false) (fun _ x' => x_pick_t rfl rfl rfl) ?_
      refine qv (.bool false) (fun _ x' => x_pick_f rfl rfl rfl) ?_
      refine q_nil (fun w74 x75 => t_norm (c_false rfl (c_skip (t_norm (c_seq (c_quiet (qv (.slice none 0 0) (fun _ x' => x_assign rfl rfl) ?_)))))))
      refine q_nil (fun w76 x77 => t_norm (c_seq (c_seq (c_quiet (qv (iJ 0) (fun _ x' => x_assign rfl rfl) ?_)))))
      refine q_nil (fun w78 x79 => t_norm (c_block (c_loop (fun ρ w88 => ∃ k80 : Nat, ∃ A83 : Option Addr, ∃ c84 : Nat, k80 ≤ a.reads.length ∧ (a.reads.take k80).all (oldRd a) = true ∧ World.ownsRow w88 w78.heap.size 9 1 (.slice A83 k80 c84) k80 (((a.reads.map (·.key)).take k80).flatMap fStr) ∧ k80 ≤ c84 ∧ c84 ≤ 9223372036854775807 ∧ ρ 1 = pJ w.heap.size ∧ ρ 3 = .slice A83 k80 c84 ∧ ρ 4 = iJ (k80 : Int) ∧ Ext w78 w88) (fun ρ _ => a.reads.length - (intOf (ρ 4)).toNat) ⟨0, none, 0, Nat.zero_le _, rfl, own_nil _ _ _ _, Nat.le_refl _, Nat.zero_le _, rfl, rfl, rfl, Ext.refl _⟩ ?_)))
      rintro ρ w88 ⟨k80, A83, c84, hk81, hi82, ho85, h86, h87, e90, e91, e92, x89⟩
      by_cases hl93 : k80 < a.reads.length
      ·obtain ⟨y94, hx95⟩ := some_of (l := a.reads) (k := k80) (by omega)
       obtain ⟨ad96, cs97, eA98, hK99, hE100⟩ := ha.reads k80 y94 hx95
       have hK99' : cs97 = [.string y94.key, iJ y94.ver.time, iJ y94.ver.client] := hK99
       subst hK99'
       refine c_seq (c_seq (c_quiet (qv (iJ (k80 : Int)) (fun _ x' => x_move rfl e92) ?_)))
       refine qv (.pointer (some (⟨w.heap.size, 6, none⟩))) (fun _ x' => x_fieldAddr fld_37_4 rfl e90 rfl) ?_
       refine qv (.slice pa.A a.reads.length pa.n) (fun _ x' => x_load rfl rfl (((((((((b2.ext x29).ext x43).ext x57).ext x75).ext x77).ext x79).ext x89).ext x').one one_34 rfl)) ?_
       refine qv (iJ (a.reads.length : Int)) (fun _ x' => x_len_slice sl_34 rfl rfl) ?_
       refine qv (.bool true) (fun _ x' => yb (x_lss rfl rfl rfl) (decide_eq_true (by omega))) ?_
       refine q_nil (fun w102 x103 => t_norm (c_true rfl (c_skip (t_norm (c_seq (c_block (c_seq (c_seq (c_draw mixed (by kernel_rfl) (qv (.pointer (some (⟨w.heap.size, 6, none⟩))) (fun _ x' => x_fieldAddr fld_37_4 rfl e90 rfl) ?_))))))))))
       refine qv (.slice pa.A a.reads.length pa.n) (fun _ x' => x_load rfl rfl ((((((((((b2.ext x29).ext x43).ext x57).ext x75).ext x77).ext x79).ext x89).ext x103).ext x').one one_34 rfl)) ?_
       refine qv (iJ (k80 : Int)) (fun _ x' => x_move rfl e92) ?_
       refine qv (.pointer (some (ad96.add (k80 * 3)))) (fun _ x' => x_indexAddr sl_34 rfl rfl eA98 rfl (by omega) (by omega) rfl) ?_
       refine qv (.pointer (some ((ad96.add (k80 * 3)).add 1))) (fun _ x' => x_fieldAddr fld_78_1 rfl rfl rfl) ?_
       refine qv (.agg #[iJ y94.ver.time, iJ y94.ver.client]) (fun _ x' => x_load rfl rfl (((((((((((hE100.ext x3).ext x29).ext x43).ext x57).ext x75).ext x77).ext x79).ext x89).ext x103).ext x').agg (vs := [iJ y94.ver.time, iJ y94.ver.client]) agg_33_2 1 rfl rfl)) ?_
       refine q_callb (b := rightStp y94.ver) (vs := #[.agg #[iJ y94.ver.time, iJ y94.ver.client]]) fn_59 rfl rfl rfl (args1 rfl) (fun _ x' => D_rightStp _ y94.ver) (fun c104 => ?_) (fun c104 => ?_)
       ·refine qv (.bool false) (fun _ x' => x_not (b := true) rfl rfl) ?_
        refine qv (.bool false) (fun _ x' => x_move rfl rfl) ?_
        refine qv (.pointer (some (⟨w.heap.size, 6, none⟩))) (fun _ x' => x_fieldAddr fld_37_4 rfl e90 rfl) ?_
        refine qv (.slice pa.A a.reads.length pa.n) (fun _ x' => x_load rfl rfl ((((((((((b2.ext x29).ext x43).ext x57).ext x75).ext x77).ext x79).ext x89).ext x103).ext x').one one_34 rfl)) ?_
        refine qv (iJ (k80 : Int)) (fun _ x' => x_move rfl e92) ?_
        refine qv (.pointer (some (ad96.add (k80 * 3)))) (fun _ x' => x_indexAddr sl_34 rfl rfl eA98 rfl (by omega) (by omega) rfl) ?_
        refine qv (.pointer (some ((ad96.add (k80 * 3)).add 1))) (fun _ x' => x_fieldAddr fld_78_1 rfl rfl rfl) ?_
        refine qv (.agg #[iJ y94.ver.time, iJ y94.ver.client]) (fun _ x' => x_load rfl rfl (((((((((((hE100.ext x3).ext x29).ext x43).ext x57).ext x75).ext x77).ext x79).ext x89).ext x103).ext x').agg (vs := [iJ y94.ver.time, iJ y94.ver.client]) agg_33_2 1 rfl rfl)) ?_
        refine qv (.pointer (some (⟨w.heap.size, 3, none⟩))) (fun _ x' => x_fieldAddr fld_37_2 rfl e90 rfl) ?_
        refine qv (.agg #[iJ a.stp.time, iJ a.stp.client]) (fun _ x' => x_load rfl rfl ((((((((((b2.ext x29).ext x43).ext x57).ext x75).ext x77).ext x79).ext x89).ext x103).ext x').agg (vs := [iJ a.stp.time, iJ a.stp.client]) agg_33_2 rfl)) ?_
        refine q_callb (b := decide (cmpStp y94.ver a.stp < 0)) (vs := #[.agg #[iJ y94.ver.time, iJ y94.ver.client], .agg #[iJ a.stp.time, iJ a.stp.client]]) fn_60 rfl rfl rfl (args2 rfl rfl) (fun _ x' => D_before _ y94.ver a.stp) (fun c105 => ?_) (fun c105 => ?_)
        ·refine qv (.bool false) (fun _ x' => x_not (b := true) rfl rfl) ?_
         refine qv (.bool false) (fun _ x' => x_pick_f rfl rfl rfl) ?_
         refine q_nil (fun w106 x107 => t_norm (c_false rfl (c_skip (t_norm (c_plain (pv (.slice A83 k80 c84) (x_move rfl e91) ?_))))))
         refine pv (.pointer (some (⟨w.heap.size, 6, none⟩))) (x_fieldAddr fld_37_4 rfl e90 rfl) ?_
         refine pv (.slice pa.A a.reads.length pa.n) (x_load rfl rfl ((((((((((b2.ext x29).ext x43).ext x57).ext x75).ext x77).ext x79).ext x89).ext x103).ext x107).one one_34 rfl)) ?_
         refine pv (iJ (k80 : Int)) (x_move rfl e92) ?_
         refine pv (.pointer (some (ad96.add (k80 * 3)))) (x_indexAddr sl_34 rfl rfl eA98 rfl (by omega) (by omega) rfl) ?_
         refine pv (.pointer (some (ad96.add (k80 * 3)))) (x_fieldAddr fld_78_0 rfl rfl rfl) ?_
         refine pv (.string y94.key) (x_load rfl rfl (((((((((((hE100.ext x3).ext x29).ext x43).ext x57).ext x75).ext x77).ext x79).ext x89).ext x103).ext x107).one one_9 0 rfl rfl)) ?_
         refine p_buildSlice (cs := [.string y94.key]) el_104 rfl rfl rfl (parts1 rfl) (by decide) (by decide) (fill_ok [.string y94.key] [.string y94.key] rfl rfl) (fun w108 b109 x110 z111 => ?_)
         refine p_appendK (B := w78.heap.size) (k := k80) (m := 1) (cs := (((a.reads.map (·.key)).take k80).flatMap fStr)) (news := [.string y94.key]) (ad := ⟨w106.heap.size, 0, none⟩) el_104 rfl rfl rfl rfl (own_ext ho85 ((x103.trans x107).trans x110)) rfl rfl b109.put rfl (by omega) (by omega) (((x89.trans x103).trans x107).trans x110).size (fun A115 c116 w112 o113 kp114 h117 h118 => ?_)
         refine pv (.slice A115 (k80 + 1) c116) (x_assign rfl rfl) ?_
         refine p_nil (b_norm (t_norm (c_quiet (qv (iJ (k80 : Int)) (fun _ x' => x_move rfl e92) ?_))))
         refine qv (iJ ((k80 : Int) + 1)) (fun _ x' => x_add rfl rfl rfl (wrap_of (by omega) (by omega))) ?_
         refine qv (iJ ((k80 : Int) + 1)) (fun _ x' => x_assign rfl rfl) ?_
         exact q_nil (fun w119 x120 => t_norm (⟨_, rfl, ⟨k80 + 1, A115, c116, by omega, all_step (p := oldRd a) hi82 hx95 (by simp_all [oldRd]), (by rw [← flat_step (map_of (g := fun z => z.key) hx95)]; exact (own_ext o113 x120)), h117, h118, e90, rfl, rfl, (((((x89.trans x103).trans x107).trans x110).below (Nat.le_refl _) kp114.below).trans x120)⟩, meas_up e92 hl93⟩))
        refine qv (.bool true) (fun _ x' => x_not (b := false) rfl rfl) ?_
        refine qv (.bool true) (fun _ x' => x_pick_f rfl rfl rfl) ?_
        refine q_nil (fun w121 x122 => t_norm (c_true rfl (c_seq (c_quiet (qv (.bool false) (fun _ x' => x_assign rfl rfl) ?_)))))
        exact q_nil (fun w123 x124 => t_norm (c_ret (t_ret (b_ret (t_ret (t_ret (b_ret (t_ret (c_done rfl rfl (Ret.b ((rightCmd_reads (by simpa using c5) (all_fail (p := oldRd a) hx95 (by simp only [oldRd]; simp_all))).symm) ((((((((((x3.trans x29).trans x43).trans x57).trans x75).trans x77).trans x79).trans x89).trans x103).trans x122).trans x124)))))))))))
       refine qv (.bool true) (fun _ x' => x_not (b := false) rfl rfl) ?_
       refine qv (.bool true) (fun _ x' => x_move rfl rfl) ?_
       refine qk rfl rfl (qk rfl rfl (qk rfl rfl (qk rfl rfl (qk rfl rfl (qk rfl rfl (qk rfl rfl (qk rfl rfl (qk rfl rfl (qk rfl rfl (qv (.bool true) (fun _ x' => x_pick_t rfl rfl rfl) ?_))))))))))
       refine q_nil (fun w125 x126 => t_norm (c_true rfl (c_seq (c_quiet (qv (.bool false) (fun _ x' => x_assign rfl rfl) ?_)))))
       exact q_nil (fun w127 x128 => t_norm (c_ret (t_ret (b_ret (t_ret (t_ret (b_ret (t_ret (c_done rfl rfl (Ret.b ((rightCmd_reads (by simpa using c5) (all_fail (p := oldRd a) hx95 (by simp only [oldRd]; simp_all))).symm) ((((((((((x3.trans x29).trans x43).trans x57).trans x75).trans x77).trans x79).trans x89).trans x103).trans x126).trans x128)))))))))))
      have hr129 := own_lies (d := kStr) (xs := a.reads.map (·.key)) (by rw [show (a.reads.map (·.key)) = (a.reads.map (·.key)).take k80 from by rw [List.take_of_length_le (by simp; omega)]]; exact ho85) (by simp; omega) (fun _ => rfl) (fun _ => rfl)
      have he130 : k80 = (a.reads.map (·.key)).length := by simp; omega
      refine c_seq (c_seq (c_quiet (qv (iJ (k80 : Int)) (fun _ x' => x_move rfl e92) ?_)))
      refine qv (.pointer (some (⟨w.heap.size, 6, none⟩))) (fun _ x' => x_fieldAddr fld_37_4 rfl e90 rfl) ?_
      refine qv (.slice pa.A a.reads.length pa.n) (fun _ x' => x_load rfl rfl (((((((((b2.ext x29).ext x43).ext x57).ext x75).ext x77).ext x79).ext x89).ext x').one one_34 rfl)) ?_
      refine qv (iJ (a.reads.length : Int)) (fun _ x' => x_len_slice sl_34 rfl rfl) ?_
      refine qv (.bool false) (fun _ x' => yb (x_lss rfl rfl rfl) (decide_eq_false (by omega))) ?_
      refine q_nil (fun w131 x132 => t_norm (c_false rfl (c_exit (t_exit (t_exit (b_exit (t_norm (c_seq (c_quiet (qv (.slice none 0 0) (fun _ x' => x_assign rfl rfl) ?_))))))))))
      refine q_nil (fun w133 x134 => t_norm (c_seq (c_seq (c_quiet (qv (iJ 0) (fun _ x' => x_assign rfl rfl) ?_)))))
      refine q_nil (fun w135 x136 => t_norm (c_block (c_loop (fun ρ w145 => ∃ k137 : Nat, ∃ A140 : Option Addr, ∃ c141 : Nat, k137 ≤ a.writes.length ∧ (a.writes.take k137).all (fun x : Wr => decide (x.val.size ≤ 8)) = true ∧ World.ownsRow w145 w135.heap.size 9 1 (.slice A140 k137 c141) k137 (((a.writes.map (·.key)).take k137).flatMap fStr) ∧ k137 ≤ c141 ∧ c141 ≤ 9223372036854775807 ∧ ρ 1 = pJ w.heap.size ∧ ρ 3 = .slice A83 k80 c84 ∧ ρ 5 = .slice A140 k137 c141 ∧ ρ 6 = iJ (k137 : Int) ∧ Ext w135 w145) (fun ρ _ => a.writes.length - (intOf (ρ 6)).toNat) ⟨0, none, 0, Nat.zero_le _, rfl, own_nil _ _ _ _, Nat.le_refl _, Nat.zero_le _, e90, e91, rfl, rfl, Ext.refl _⟩ ?_)))
      rintro ρ w145 ⟨k137, A140, c141, hk138, hi139, ho142, h143, h144, e147, e148, e149, e150, x146⟩
      by_cases hl151 : k137 < a.writes.length
      ·obtain ⟨y152, hx153⟩ := some_of (l := a.writes) (k := k137) (by omega)
       obtain ⟨ad154, cs155, eA156, hK157, hE158⟩ := ha.writes k137 y152 hx153
       have hK157' : cs155 = [.string y152.key, .string y152.val] := hK157
       subst hK157'
       refine c_seq (c_seq (c_quiet (qv (iJ (k137 : Int)) (fun _ x' => x_move rfl e150) ?_)))
       refine qv (.pointer (some (⟨w.heap.size, 7, none⟩))) (fun _ x' => x_fieldAddr fld_37_5 rfl e147 rfl) ?_
       refine qv (.slice pa.B a.writes.length pa.m) (fun _ x' => x_load rfl rfl (((((((((((((b2.ext x29).ext x43).ext x57).ext x75).ext x77).ext x79).ext x89).ext x132).ext x134).ext x136).ext x146).ext x').one one_35 rfl)) ?_
       refine qv (iJ (a.writes.length : Int)) (fun _ x' => x_len_slice sl_35 rfl rfl) ?_
       refine qv (.bool true) (fun _ x' => yb (x_lss rfl rfl rfl) (decide_eq_true (by omega))) ?_
       refine q_nil (fun w160 x161 => t_norm (c_true rfl (c_skip (t_norm (c_seq (c_block (c_seq (c_seq (c_quiet (qv (.pointer (some (⟨w.heap.size, 7, none⟩))) (fun _ x' => x_fieldAddr fld_37_5 rfl e147 rfl) ?_))))))))))
       refine qv (.slice pa.B a.writes.length pa.m) (fun _ x' => x_load rfl rfl ((((((((((((((b2.ext x29).ext x43).ext x57).ext x75).ext x77).ext x79).ext x89).ext x132).ext x134).ext x136).ext x146).ext x161).ext x').one one_35 rfl)) ?_
       refine qv (iJ (k137 : Int)) (fun _ x' => x_move rfl e150) ?_
       refine qv (.pointer (some (ad154.add (k137 * 2)))) (fun _ x' => x_indexAddr sl_35 rfl rfl eA156 rfl (by omega) (by omega) rfl) ?_
       refine qv (.pointer (some ((ad154.add (k137 * 2)).add 1))) (fun _ x' => x_fieldAddr fld_80_1 rfl rfl rfl) ?_
       refine qv (.string y152.val) (fun _ x' => x_load rfl rfl (((((((((((((((hE158.ext x3).ext x29).ext x43).ext x57).ext x75).ext x77).ext x79).ext x89).ext x132).ext x134).ext x136).ext x146).ext x161).ext x').one one_9 1 rfl rfl)) ?_
       refine qv (iJ (y152.val.size : Int)) (fun _ x' => x_len_string str_9 rfl rfl) ?_
       refine q_bool (b := decide ((y152.val.size : Int) > 8)) rfl rfl (fun _ x' => x_gtr rfl rfl rfl) (fun c162 => ?_) (fun c162 => ?_)
       ·refine q_nil (fun w163 x164 => t_norm (c_true rfl (c_seq (c_quiet (qv (.bool false) (fun _ x' => x_assign rfl rfl) ?_)))))
        exact q_nil (fun w165 x166 => t_norm (c_ret (t_ret (b_ret (t_ret (t_ret (b_ret (t_ret (c_done rfl rfl (Ret.b ((rightCmd_writes (by simpa using c5) (all_fail (p := fun x : Wr => decide (x.val.size ≤ 8)) hx153 (by simp_all <;> omega))).symm) ((((((((((((((x3.trans x29).trans x43).trans x57).trans x75).trans x77).trans x79).trans x89).trans x132).trans x134).trans x136).trans x146).trans x161).trans x164).trans x166)))))))))))
       refine q_nil (fun w167 x168 => t_norm (c_false rfl (c_skip (t_norm (c_plain (pv (.slice A140 k137 c141) (x_move rfl e149) ?_))))))
       refine pv (.pointer (some (⟨w.heap.size, 7, none⟩))) (x_fieldAddr fld_37_5 rfl e147 rfl) ?_
       refine pv (.slice pa.B a.writes.length pa.m) (x_load rfl rfl ((((((((((((((b2.ext x29).ext x43).ext x57).ext x75).ext x77).ext x79).ext x89).ext x132).ext x134).ext x136).ext x146).ext x161).ext x168).one one_35 rfl)) ?_
       refine pv (iJ (k137 : Int)) (x_move rfl e150) ?_
       refine pv (.pointer (some (ad154.add (k137 * 2)))) (x_indexAddr sl_35 rfl rfl eA156 rfl (by omega) (by omega) rfl) ?_
       refine pv (.pointer (some (ad154.add (k137 * 2)))) (x_fieldAddr fld_80_0 rfl rfl rfl) ?_
       refine pv (.string y152.key) (x_load rfl rfl (((((((((((((((hE158.ext x3).ext x29).ext x43).ext x57).ext x75).ext x77).ext x79).ext x89).ext x132).ext x134).ext x136).ext x146).ext x161).ext x168).one one_9 0 rfl rfl)) ?_
       refine p_buildSlice (cs := [.string y152.key]) el_104 rfl rfl rfl (parts1 rfl) (by decide) (by decide) (fill_ok [.string y152.key] [.string y152.key] rfl rfl) (fun w169 b170 x171 z172 => ?_)
       refine p_appendK (B := w135.heap.size) (k := k137) (m := 1) (cs := (((a.writes.map (·.key)).take k137).flatMap fStr)) (news := [.string y152.key]) (ad := ⟨w167.heap.size, 0, none⟩) el_104 rfl rfl rfl rfl (own_ext ho142 ((x161.trans x168).trans x171)) rfl rfl b170.put rfl (by omega) (by omega) (((x146.trans x161).trans x168).trans x171).size (fun A176 c177 w173 o174 kp175 h178 h179 => ?_)
       refine pv (.slice A176 (k137 + 1) c177) (x_assign rfl rfl) ?_
       refine p_nil (b_norm (t_norm (c_quiet (qv (iJ (k137 : Int)) (fun _ x' => x_move rfl e150) ?_))))
       refine qv (iJ ((k137 : Int) + 1)) (fun _ x' => x_add rfl rfl rfl (wrap_of (by omega) (by omega))) ?_
       refine qv (iJ ((k137 : Int) + 1)) (fun _ x' => x_assign rfl rfl) ?_
       exact q_nil (fun w180 x181 => t_norm (⟨_, rfl, ⟨k137 + 1, A176, c177, by omega, all_step (p := fun x : Wr => decide (x.val.size ≤ 8)) hi139 hx153 (by simp_all <;> omega), (by rw [← flat_step (map_of (g := fun z => z.key) hx153)]; exact (own_ext o174 x181)), h178, h179, e147, e148, rfl, rfl, (((((x146.trans x161).trans x168).trans x171).below (Nat.le_refl _) kp175.below).trans x181)⟩, meas_up e150 hl151⟩))
      have hr182 := own_lies (d := kStr) (xs := a.writes.map (·.key)) (by rw [show (a.writes.map (·.key)) = (a.writes.map (·.key)).take k137 from by rw [List.take_of_length_le (by simp; omega)]]; exact ho142) (by simp; omega) (fun _ => rfl) (fun _ => rfl)
      have he183 : k137 = (a.writes.map (·.key)).length := by simp; omega
      refine c_seq (c_seq (c_quiet (qv (iJ (k137 : Int)) (fun _ x' => x_move rfl e150) ?_)))
      refine qv (.pointer (some (⟨w.heap.size, 7, none⟩))) (fun _ x' => x_fieldAddr fld_37_5 rfl e147 rfl) ?_
      refine qv (.slice pa.B a.writes.length pa.m) (fun _ x' => x_load rfl rfl (((((((((((((b2.ext x29).ext x43).ext x57).ext x75).ext x77).ext x79).ext x89).ext x132).ext x134).ext x136).ext x146).ext x').one one_35 rfl)) ?_
      refine qv (iJ (a.writes.length : Int)) (fun _ x' => x_len_slice sl_35 rfl rfl) ?_
      refine qv (.bool false) (fun _ x' => yb (x_lss rfl rfl rfl) (decide_eq_false (by omega))) ?_
      refine q_nil (fun w184 x185 => t_norm (c_false rfl (c_exit (t_exit (t_exit (b_exit (t_norm (c_seq (c_quiet (qv (.slice A83 k80 c84) (fun _ x' => x_move rfl e148) ?_))))))))))
      refine q_callb (b := rightKeys (a.reads.map (·.key))) (vs := #[.slice A83 k80 c84]) fn_61 rfl rfl rfl (args1 rfl) (fun _ x' => D_rightKeys _ _ _ _ (a.reads.map (·.key)) he130 ((((((hr129.ext x132).ext x134).ext x136).ext x146).ext x185).ext x') (by simp; omega)) (fun c186 => ?_) (fun c186 => ?_)
      ·refine qv (.bool true) (fun _ x' => x_move rfl rfl) ?_
       refine qv (.slice A140 k137 c141) (fun _ x' => x_move rfl e149) ?_
       refine q_callb (b := rightKeys (a.writes.map (·.key))) (vs := #[.slice A140 k137 c141]) fn_61 rfl rfl rfl (args1 rfl) (fun _ x' => D_rightKeys _ _ _ _ (a.writes.map (·.key)) he183 ((hr182.ext x185).ext x') (by simp; omega)) (fun c187 => ?_) (fun c187 => ?_)
       ·refine qv (.bool true) (fun _ x' => x_pick_t rfl rfl rfl) ?_
        refine qv (.bool true) (fun _ x' => x_assign rfl rfl) ?_
        exact q_nil (fun w188 x189 => t_norm (c_ret (c_done rfl rfl (Ret.b (rightCmd_end (by simpa using c5) (all_end hi82 hl93) (all_end hi139 hl151) c186 (fun _ => c187) (fun h => by cases h) (by clear ha; simp only [empty_len] at *; simp_all [-List.length_eq_zero_iff] <;> first | omega | (intros; omega) | (intros; simp_all [-List.length_eq_zero_iff] <;> omega))) (((((((((((((x3.trans x29).trans x43).trans x57).trans x75).trans x77).trans x79).trans x89).trans x132).trans x134).trans x136).trans x146).trans x185).trans x189)))))
       refine qv (.bool false) (fun _ x' => x_pick_t rfl rfl rfl) ?_
       refine qv (.bool false) (fun _ x' => x_assign rfl rfl) ?_
       exact q_nil (fun w190 x191 => t_norm (c_ret (c_done rfl rfl (Ret.b (rightCmd_end (by simpa using c5) (all_end hi82 hl93) (all_end hi139 hl151) c186 (fun _ => c187) (fun h => by cases h) (by clear ha; simp only [empty_len] at *; simp_all [-List.length_eq_zero_iff] <;> first | omega | (intros; omega) | (intros; simp_all [-List.length_eq_zero_iff] <;> omega))) (((((((((((((x3.trans x29).trans x43).trans x57).trans x75).trans x77).trans x79).trans x89).trans x132).trans x134).trans x136).trans x146).trans x185).trans x191)))))
      refine qv (.bool false) (fun _ x' => x_move rfl rfl) ?_
      refine qk rfl rfl (qk rfl rfl (qv (.bool false) (fun _ x' => x_pick_f rfl rfl rfl) ?_))
      refine qv (.bool false) (fun _ x' => x_assign rfl rfl) ?_
      exact q_nil (fun w192 x193 => t_norm (c_ret (c_done rfl rfl (Ret.b (rightCmd_end (by simpa using c5) (all_end hi82 hl93) (all_end hi139 hl151) c186 (fun h => by cases h) (fun _ => rfl) (by clear ha; simp only [empty_len] at *; simp_all [-List.length_eq_zero_iff] <;> first | omega | (intros; omega) | (intros; simp_all [-List.length_eq_zero_iff] <;> omega))) (((((((((((((x3.trans x29).trans x43).trans x57).trans x75).trans x77).trans x79).trans x89).trans x132).trans x134).trans x136).trans x146).trans x185).trans x193)))))
     refine qv (.bool false) (fun _ x' => x_move rfl rfl) ?_
     refine qk rfl rfl (qk rfl rfl (qk rfl rfl (qk rfl rfl (qv (.bool false) (fun _ x' => x_pick_f rfl rfl rfl) ?_))))
     refine qv (.bool false) (fun _ x' => x_pick_f rfl rfl rfl) ?_
     refine q_nil (fun w194 x195 => t_norm (c_false rfl (c_skip (t_norm (c_seq (c_quiet (qv (.slice none 0 0) (fun _ x' => x_assign rfl rfl) ?_)))))))
     refine q_nil (fun w196 x197 => t_norm (c_seq (c_seq (c_quiet (qv (iJ 0) (fun _ x' => x_assign rfl rfl) ?_)))))
     refine q_nil (fun w198 x199 => t_norm (c_block (c_loop (fun ρ w208 => ∃ k200 : Nat, ∃ A203 : Option Addr, ∃ c204 : Nat, k200 ≤ a.reads.length ∧ (a.reads.take k200).all (oldRd a) = true ∧ World.ownsRow w208 w198.heap.size 9 1 (.slice A203 k200 c204) k200 (((a.reads.map (·.key)).take k200).flatMap fStr) ∧ k200 ≤ c204 ∧ c204 ≤ 9223372036854775807 ∧ ρ 1 = pJ w.heap.size ∧ ρ 3 = .slice A203 k200 c204 ∧ ρ 4 = iJ (k200 : Int) ∧ Ext w198 w208) (fun ρ _ => a.reads.length - (intOf (ρ 4)).toNat) ⟨0, none, 0, Nat.zero_le _, rfl, own_nil _ _ _ _, Nat.le_refl _, Nat.zero_le _, rfl, rfl, rfl, Ext.refl _⟩ ?_)))
     rintro ρ w208 ⟨k200, A203, c204, hk201, hi202, ho205, h206, h207, e210, e211, e212, x209⟩
     by_cases hl213 : k200 < a.reads.length
     ·obtain ⟨y214, hx215⟩ := some_of (l := a.reads) (k := k200) (by omega)
      obtain ⟨ad216, cs217, eA218, hK219, hE220⟩ := ha.reads k200 y214 hx215
      have hK219' : cs217 = [.string y214.key, iJ y214.ver.time, iJ y214.ver.client] := hK219
      subst hK219'
      refine c_seq (c_seq (c_quiet (qv (iJ (k200 : Int)) (fun _ x' => x_move rfl e212) ?_)))
      refine qv (.pointer (some (⟨w.heap.size, 6, none⟩))) (fun _ x' => x_fieldAddr fld_37_4 rfl e210 rfl) ?_
      refine qv (.slice pa.A a.reads.length pa.n) (fun _ x' => x_load rfl rfl (((((((((b2.ext x29).ext x43).ext x57).ext x195).ext x197).ext x199).ext x209).ext x').one one_34 rfl)) ?_
      refine qv (iJ (a.reads.length : Int)) (fun _ x' => x_len_slice sl_34 rfl rfl) ?_
      refine qv (.bool true) (fun _ x' => yb (x_lss rfl rfl rfl) (decide_eq_true (by omega))) ?_
      refine q_nil (fun w222 x223 => t_norm (c_true rfl (c_skip (t_norm (c_seq (c_block (c_seq (c_seq (c_draw mixed (by kernel_rfl) (qv (.pointer (some (⟨w.heap.size, 6, none⟩))) (fun _ x' => x_fieldAddr fld_37_4 rfl e210 rfl) ?_))))))))))
      refine qv (.slice pa.A a.reads.length pa.n) (fun _ x' => x_load rfl rfl ((((((((((b2.ext x29).ext x43).ext x57).ext x195).ext x197).ext x199).ext x209).ext x223).ext x').one one_34 rfl)) ?_
      refine qv (iJ (k200 : Int)) (fun _ x' => x_move rfl e212) ?_
      refine qv (.pointer (some (ad216.add (k200 * 3)))) (fun _ x' => x_indexAddr sl_34 rfl rfl eA218 rfl (by omega) (by omega) rfl) ?_
      refine qv (.pointer (some ((ad216.add (k200 * 3)).add 1))) (fun _ x' => x_fieldAddr fld_78_1 rfl rfl rfl) ?_
      refine qv (.agg #[iJ y214.ver.time, iJ y214.ver.client]) (fun _ x' => x_load rfl rfl (((((((((((hE220.ext x3).ext x29).ext x43).ext x57).ext x195).ext x197).ext x199).ext x209).ext x223).ext x').agg (vs := [iJ y214.ver.time, iJ y214.ver.client]) agg_33_2 1 rfl rfl)) ?_
      refine q_callb (b := rightStp y214.ver) (vs := #[.agg #[iJ y214.ver.time, iJ y214.ver.client]]) fn_59 rfl rfl rfl (args1 rfl) (fun _ x' => D_rightStp _ y214.ver) (fun c224 => ?_) (fun c224 => ?_)
      ·refine qv (.bool false) (fun _ x' => x_not (b := true) rfl rfl) ?_
       refine qv (.bool false) (fun _ x' => x_move rfl rfl) ?_
       refine qv (.pointer (some (⟨w.heap.size, 6, none⟩))) (fun _ x' => x_fieldAddr fld_37_4 rfl e210 rfl) ?_
       refine qv (.slice pa.A a.reads.length pa.n) (fun _ x' => x_load rfl rfl ((((((((((b2.ext x29).ext x43).ext x57).ext x195).ext x197).ext x199).ext x209).ext x223).ext x').one one_34 rfl)) ?_
       refine qv (iJ (k200 : Int)) (fun _ x' => x_move rfl e212) ?_
       refine qv (.pointer (some (ad216.add (k200 * 3)))) (fun _ x' => x_indexAddr sl_34 rfl rfl eA218 rfl (by omega) (by omega) rfl) ?_
       refine qv (.pointer (some ((ad216.add (k200 * 3)).add 1))) (fun _ x' => x_fieldAddr fld_78_1 rfl rfl rfl) ?_
       refine qv (.agg #[iJ y214.ver.time, iJ y214.ver.client]) (fun _ x' => x_load rfl rfl (((((((((((hE220.ext x3).ext x29).ext x43).ext x57).ext x195).ext x197).ext x199).ext x209).ext x223).ext x').agg (vs := [iJ y214.ver.time, iJ y214.ver.client]) agg_33_2 1 rfl rfl)) ?_
       refine qv (.pointer (some (⟨w.heap.size, 3, none⟩))) (fun _ x' => x_fieldAddr fld_37_2 rfl e210 rfl) ?_
       refine qv (.agg #[iJ a.stp.time, iJ a.stp.client]) (fun _ x' => x_load rfl rfl ((((((((((b2.ext x29).ext x43).ext x57).ext x195).ext x197).ext x199).ext x209).ext x223).ext x').agg (vs := [iJ a.stp.time, iJ a.stp.client]) agg_33_2 rfl)) ?_
       refine q_callb (b := decide (cmpStp y214.ver a.stp < 0)) (vs := #[.agg #[iJ y214.ver.time, iJ y214.ver.client], .agg #[iJ a.stp.time, iJ a.stp.client]]) fn_60 rfl rfl rfl (args2 rfl rfl) (fun _ x' => D_before _ y214.ver a.stp) (fun c225 => ?_) (fun c225 => ?_)
       ·refine qv (.bool false) (fun _ x' => x_not (b := true) rfl rfl) ?_
        refine qv (.bool false) (fun _ x' => x_pick_f rfl rfl rfl) ?_
        refine q_nil (fun w226 x227 => t_norm (c_false rfl (c_skip (t_norm (c_plain (pv (.slice A203 k200 c204) (x_move rfl e211) ?_))))))
        refine pv (.pointer (some (⟨w.heap.size, 6, none⟩))) (x_fieldAddr fld_37_4 rfl e210 rfl) ?_
        refine pv (.slice pa.A a.reads.length pa.n) (x_load rfl rfl ((((((((((b2.ext x29).ext x43).ext x57).ext x195).ext x197).ext x199).ext x209).ext x223).ext x227).one one_34 rfl)) ?_
        refine pv (iJ (k200 : Int)) (x_move rfl e212) ?_
        refine pv (.pointer (some (ad216.add (k200 * 3)))) (x_indexAddr sl_34 rfl rfl eA218 rfl (by omega) (by omega) rfl) ?_
        refine pv (.pointer (some (ad216.add (k200 * 3)))) (x_fieldAddr fld_78_0 rfl rfl rfl) ?_
        refine pv (.string y214.key) (x_load rfl rfl (((((((((((hE220.ext x3).ext x29).ext x43).ext x57).ext x195).ext x197).ext x199).ext x209).ext x223).ext x227).one one_9 0 rfl rfl)) ?_
        refine p_buildSlice (cs := [.string y214.key]) el_104 rfl rfl rfl (parts1 rfl) (by decide) (by decide) (fill_ok [.string y214.key] [.string y214.key] rfl rfl) (fun w228 b229 x230 z231 => ?_)
        refine p_appendK (B := w198.heap.size) (k := k200) (m := 1) (cs := (((a.reads.map (·.key)).take k200).flatMap fStr)) (news := [.string y214.key]) (ad := ⟨w226.heap.size, 0, none⟩) el_104 rfl rfl rfl rfl (own_ext ho205 ((x223.trans x227).trans x230)) rfl rfl b229.put rfl (by omega) (by omega) (((x209.trans x223).trans x227).trans x230).size (fun A235 c236 w232 o233 kp234 h237 h238 => ?_)
        refine pv (.slice A235 (k200 + 1) c236) (x_assign rfl rfl) ?_
        refine p_nil (b_norm (t_norm (c_quiet (qv (iJ (k200 : Int)) (fun _ x' => x_move rfl e212) ?_))))
        refine qv (iJ ((k200 : Int) + 1)) (fun _ x' => x_add rfl rfl rfl (wrap_of (by omega) (by omega))) ?_
        refine qv (iJ ((k200 : Int) + 1)) (fun _ x' => x_assign rfl rfl) ?_
        exact q_nil (fun w239 x240 => t_norm (⟨_, rfl, ⟨k200 + 1, A235, c236, by omega, all_step (p := oldRd a) hi202 hx215 (by simp_all [oldRd]), (by rw [← flat_step (map_of (g := fun z => z.key) hx215)]; exact (own_ext o233 x240)), h237, h238, e210, rfl, rfl, (((((x209.trans x223).trans x227).trans x230).below (Nat.le_refl _) kp234.below).trans x240)⟩, meas_up e212 hl213⟩))
       refine qv (.bool true) (fun _ x' => x_not (b := false) rfl rfl) ?_
       refine qv (.bool true) (fun _ x' => x_pick_f rfl rfl rfl) ?_
       refine q_nil (fun w241 x242 => t_norm (c_true rfl (c_seq (c_quiet (qv (.bool false) (fun _ x' => x_assign rfl rfl) ?_)))))
       exact q_nil (fun w243 x244 => t_norm (c_ret (t_ret (b_ret (t_ret (t_ret (b_ret (t_ret (c_done rfl rfl (Ret.b ((rightCmd_reads (by simpa using c5) (all_fail (p := oldRd a) hx215 (by simp only [oldRd]; simp_all))).symm) ((((((((((x3.trans x29).trans x43).trans x57).trans x195).trans x197).trans x199).trans x209).trans x223).trans x242).trans x244)))))))))))
      refine qv (.bool true) (fun _ x' => x_not (b := false) rfl rfl) ?_
      refine qv (.bool true) (fun _ x' => x_move rfl rfl) ?_
      refine qk rfl rfl (qk rfl rfl (qk rfl rfl (qk rfl rfl (qk rfl rfl (qk rfl rfl (qk rfl rfl (qk rfl rfl (qk rfl rfl (qk rfl rfl (qv (.bool true) (fun _ x' => x_pick_t rfl rfl rfl) ?_))))))))))
      refine q_nil (fun w245 x246 => t_norm (c_true rfl (c_seq (c_quiet (qv (.bool false) (fun _ x' => x_assign rfl rfl) ?_)))))
      exact q_nil (fun w247 x248 => t_norm (c_ret (t_ret (b_ret (t_ret (t_ret (b_ret (t_ret (c_done rfl rfl (Ret.b ((rightCmd_reads (by simpa using c5) (all_fail (p := oldRd a) hx215 (by simp only [oldRd]; simp_all))).symm) ((((((((((x3.trans x29).trans x43).trans x57).trans x195).trans x197).trans x199).trans x209).trans x223).trans x246).trans x248)))))))))))
     have hr249 := own_lies (d := kStr) (xs := a.reads.map (·.key)) (by rw [show (a.reads.map (·.key)) = (a.reads.map (·.key)).take k200 from by rw [List.take_of_length_le (by simp; omega)]]; exact ho205) (by simp; omega) (fun _ => rfl) (fun _ => rfl)
     have he250 : k200 = (a.reads.map (·.key)).length := by simp; omega
     refine c_seq (c_seq (c_quiet (qv (iJ (k200 : Int)) (fun _ x' => x_move rfl e212) ?_)))
     refine qv (.pointer (some (⟨w.heap.size, 6, none⟩))) (fun _ x' => x_fieldAddr fld_37_4 rfl e210 rfl) ?_
     refine qv (.slice pa.A a.reads.length pa.n) (fun _ x' => x_load rfl rfl (((((((((b2.ext x29).ext x43).ext x57).ext x195).ext x197).ext x199).ext x209).ext x').one one_34 rfl)) ?_
     refine qv (iJ (a.reads.length : Int)) (fun _ x' => x_len_slice sl_34 rfl rfl) ?_
     refine qv (.bool false) (fun _ x' => yb (x_lss rfl rfl rfl) (decide_eq_false (by omega))) ?_
     refine q_nil (fun w251 x252 => t_norm (c_false rfl (c_exit (t_exit (t_exit (b_exit (t_norm (c_seq (c_quiet (qv (.slice none 0 0) (fun _ x' => x_assign rfl rfl) ?_))))))))))
     refine q_nil (fun w253 x254 => t_norm (c_seq (c_seq (c_quiet (qv (iJ 0) (fun _ x' => x_assign rfl rfl) ?_)))))
     refine q_nil (fun w255 x256 => t_norm (c_block (c_loop (fun ρ w265 => ∃ k257 : Nat, ∃ A260 : Option Addr, ∃ c261 : Nat, k257 ≤ a.writes.length ∧ (a.writes.take k257).all (fun x : Wr => decide (x.val.size ≤ 8)) = true ∧ World.ownsRow w265 w255.heap.size 9 1 (.slice A260 k257 c261) k257 (((a.writes.map (·.key)).take k257).flatMap fStr) ∧ k257 ≤ c261 ∧ c261 ≤ 9223372036854775807 ∧ ρ 1 = pJ w.heap.size ∧ ρ 3 = .slice A203 k200 c204 ∧ ρ 5 = .slice A260 k257 c261 ∧ ρ 6 = iJ (k257 : Int) ∧ Ext w255 w265) (fun ρ _ => a.writes.length - (intOf (ρ 6)).toNat) ⟨0, none, 0, Nat.zero_le _, rfl, own_nil _ _ _ _, Nat.le_refl _, Nat.zero_le _, e210, e211, rfl, rfl, Ext.refl _⟩ ?_)))
     rintro ρ w265 ⟨k257, A260, c261, hk258, hi259, ho262, h263, h264, e267, e268, e269, e270, x266⟩
     by_cases hl271 : k257 < a.writes.length
     ·obtain ⟨y272, hx273⟩ := some_of (l := a.writes) (k := k257) (by omega)
      obtain ⟨ad274, cs275, eA276, hK277, hE278⟩ := ha.writes k257 y272 hx273
      have hK277' : cs275 = [.string y272.key, .string y272.val] := hK277
      subst hK277'
      refine c_seq (c_seq (c_quiet (qv (iJ (k257 : Int)) (fun _ x' => x_move rfl e270) ?_)))
      refine qv (.pointer (some (⟨w.heap.size, 7, none⟩))) (fun _ x' => x_fieldAddr fld_37_5 rfl e267 rfl) ?_
      refine qv (.slice pa.B a.writes.length pa.m) (fun _ x' => x_load rfl rfl (((((((((((((b2.ext x29).ext x43).ext x57).ext x195).ext x197).ext x199).ext x209).ext x252).ext x254).ext x256).ext x266).ext x').one one_35 rfl)) ?_
      refine qv (iJ (a.writes.length : Int)) (fun _ x' => x_len_slice sl_35 rfl rfl) ?_
      refine qv (.bool true) (fun _ x' => yb (x_lss rfl rfl rfl) (decide_eq_true (by omega))) ?_
      refine q_nil (fun w280 x281 => t_norm (c_true rfl (c_skip (t_norm (c_seq (c_block (c_seq (c_seq (c_quiet (qv (.pointer (some (⟨w.heap.size, 7, none⟩))) (fun _ x' => x_fieldAddr fld_37_5 rfl e267 rfl) ?_))))))))))
      refine qv (.slice pa.B a.writes.length pa.m) (fun _ x' => x_load rfl rfl ((((((((((((((b2.ext x29).ext x43).ext x57).ext x195).ext x197).ext x199).ext x209).ext x252).ext x254).ext x256).ext x266).ext x281).ext x').one one_35 rfl)) ?_
      refine qv (iJ (k257 : Int)) (fun _ x' => x_move rfl e270) ?_
      refine qv (.pointer (some (ad274.add (k257 * 2)))) (fun _ x' => x_indexAddr sl_35 rfl rfl eA276 rfl (by omega) (by omega) rfl) ?_
      refine qv (.pointer (some ((ad274.add (k257 * 2)).add 1))) (fun _ x' => x_fieldAddr fld_80_1 rfl rfl rfl) ?_
      refine qv (.string y272.val) (fun _ x' => x_load rfl rfl (((((((((((((((hE278.ext x3).ext x29).ext x43).ext x57).ext x195).ext x197).ext x199).ext x209).ext x252).ext x254).ext x256).ext x266).ext x281).ext x').one one_9 1 rfl rfl)) ?_
      refine qv (iJ (y272.val.size : Int)) (fun _ x' => x_len_string str_9 rfl rfl) ?_
      refine q_bool (b := decide ((y272.val.size : Int) > 8)) rfl rfl (fun _ x' => x_gtr rfl rfl rfl) (fun c282 => ?_) (fun c282 => ?_)
      ·refine q_nil (fun w283 x284 => t_norm (c_true rfl (c_seq (c_quiet (qv (.bool false) (fun _ x' => x_assign rfl rfl) ?_)))))
       exact q_nil (fun w285 x286 => t_norm (c_ret (t_ret (b_ret (t_ret (t_ret (b_ret (t_ret (c_done rfl rfl (Ret.b ((rightCmd_writes (by simpa using c5) (all_fail (p := fun x : Wr => decide (x.val.size ≤ 8)) hx273 (by simp_all <;> omega))).symm) ((((((((((((((x3.trans x29).trans x43).trans x57).trans x195).trans x197).trans x199).trans x209).trans x252).trans x254).trans x256).trans x266).trans x281).trans x284).trans x286)))))))))))
      refine q_nil (fun w287 x288 => t_norm (c_false rfl (c_skip (t_norm (c_plain (pv (.slice A260 k257 c261) (x_move rfl e269) ?_))))))
      refine pv (.pointer (some (⟨w.heap.size, 7, none⟩))) (x_fieldAddr fld_37_5 rfl e267 rfl) ?_
      refine pv (.slice pa.B a.writes.length pa.m) (x_load rfl rfl ((((((((((((((b2.ext x29).ext x43).ext x57).ext x195).ext x197).ext x199).ext x209).ext x252).ext x254).ext x256).ext x266).ext x281).ext x288).one one_35 rfl)) ?_
      refine pv (iJ (k257 : Int)) (x_move rfl e270) ?_
      refine pv (.pointer (some (ad274.add (k257 * 2)))) (x_indexAddr sl_35 rfl rfl eA276 rfl (by omega) (by omega) rfl) ?_
      refine pv (.pointer (some (ad274.add (k257 * 2)))) (x_fieldAddr fld_80_0 rfl rfl rfl) ?_
      refine pv (.string y272.key) (x_load rfl rfl (((((((((((((((hE278.ext x3).ext x29).ext x43).ext x57).ext x195).ext x197).ext x199).ext x209).ext x252).ext x254).ext x256).ext x266).ext x281).ext x288).one one_9 0 rfl rfl)) ?_
      refine p_buildSlice (cs := [.string y272.key]) el_104 rfl rfl rfl (parts1 rfl) (by decide) (by decide) (fill_ok [.string y272.key] [.string y272.key] rfl rfl) (fun w289 b290 x291 z292 => ?_)
      refine p_appendK (B := w255.heap.size) (k := k257) (m := 1) (cs := (((a.writes.map (·.key)).take k257).flatMap fStr)) (news := [.string y272.key]) (ad := ⟨w287.heap.size, 0, none⟩) el_104 rfl rfl rfl rfl (own_ext ho262 ((x281.trans x288).trans x291)) rfl rfl b290.put rfl (by omega) (by omega) (((x266.trans x281).trans x288).trans x291).size (fun A296 c297 w293 o294 kp295 h298 h299 => ?_)
      refine pv (.slice A296 (k257 + 1) c297) (x_assign rfl rfl) ?_
      refine p_nil (b_norm (t_norm (c_quiet (qv (iJ (k257 : Int)) (fun _ x' => x_move rfl e270) ?_))))
      refine qv (iJ ((k257 : Int) + 1)) (fun _ x' => x_add rfl rfl rfl (wrap_of (by omega) (by omega))) ?_
      refine qv (iJ ((k257 : Int) + 1)) (fun _ x' => x_assign rfl rfl) ?_
      exact q_nil (fun w300 x301 => t_norm (⟨_, rfl, ⟨k257 + 1, A296, c297, by omega, all_step (p := fun x : Wr => decide (x.val.size ≤ 8)) hi259 hx273 (by simp_all <;> omega), (by rw [← flat_step (map_of (g := fun z => z.key) hx273)]; exact (own_ext o294 x301)), h298, h299, e267, e268, rfl, rfl, (((((x266.trans x281).trans x288).trans x291).below (Nat.le_refl _) kp295.below).trans x301)⟩, meas_up e270 hl271⟩))
     have hr302 := own_lies (d := kStr) (xs := a.writes.map (·.key)) (by rw [show (a.writes.map (·.key)) = (a.writes.map (·.key)).take k257 from by rw [List.take_of_length_le (by simp; omega)]]; exact ho262) (by simp; omega) (fun _ => rfl) (fun _ => rfl)
     have he303 : k257 = (a.writes.map (·.key)).length := by simp; omega
     refine c_seq (c_seq (c_quiet (qv (iJ (k257 : Int)) (fun _ x' => x_move rfl e270) ?_)))
     refine qv (.pointer (some (⟨w.heap.size, 7, none⟩))) (fun _ x' => x_fieldAddr fld_37_5 rfl e267 rfl) ?_
     refine qv (.slice pa.B a.writes.length pa.m) (fun _ x' => x_load rfl rfl (((((((((((((b2.ext x29).ext x43).ext x57).ext x195).ext x197).ext x199).ext x209).ext x252).ext x254).ext x256).ext x266).ext x').one one_35 rfl)) ?_
     refine qv (iJ (a.writes.length : Int)) (fun _ x' => x_len_slice sl_35 rfl rfl) ?_
     refine qv (.bool false) (fun _ x' => yb (x_lss rfl rfl rfl) (decide_eq_false (by omega))) ?_
     refine q_nil (fun w304 x305 => t_norm (c_false rfl (c_exit (t_exit (t_exit (b_exit (t_norm (c_seq (c_quiet (qv (.slice A203 k200 c204) (fun _ x' => x_move rfl e268) ?_))))))))))
     refine q_callb (b := rightKeys (a.reads.map (·.key))) (vs := #[.slice A203 k200 c204]) fn_61 rfl rfl rfl (args1 rfl) (fun _ x' => D_rightKeys _ _ _ _ (a.reads.map (·.key)) he250 ((((((hr249.ext x252).ext x254).ext x256).ext x266).ext x305).ext x') (by simp; omega)) (fun c306 => ?_) (fun c306 => ?_)
     ·refine qv (.bool true) (fun _ x' => x_move rfl rfl) ?_
      refine qv (.slice A260 k257 c261) (fun _ x' => x_move rfl e269) ?_
      refine q_callb (b := rightKeys (a.writes.map (·.key))) (vs := #[.slice A260 k257 c261]) fn_61 rfl rfl rfl (args1 rfl) (fun _ x' => D_rightKeys _ _ _ _ (a.writes.map (·.key)) he303 ((hr302.ext x305).ext x') (by simp; omega)) (fun c307 => ?_) (fun c307 => ?_)
      ·refine qv (.bool true) (fun _ x' => x_pick_t rfl rfl rfl) ?_
       refine qv (.bool true) (fun _ x' => x_assign rfl rfl) ?_
       exact q_nil (fun w308 x309 => t_norm (c_ret (c_done rfl rfl (Ret.b (rightCmd_end (by simpa using c5) (all_end hi202 hl213) (all_end hi259 hl271) c306 (fun _ => c307) (fun h => by cases h) (by clear ha; simp only [empty_len] at *; simp_all [-List.length_eq_zero_iff] <;> first | omega | (intros; omega) | (intros; simp_all [-List.length_eq_zero_iff] <;> omega))) (((((((((((((x3.trans x29).trans x43).trans x57).trans x195).trans x197).trans x199).trans x209).trans x252).trans x254).trans x256).trans x266).trans x305).trans x309)))))
      refine qv (.bool false) (fun _ x' => x_pick_t rfl rfl rfl) ?_
      refine qv (.bool false) (fun _ x' => x_assign rfl rfl) ?_
      exact q_nil (fun w310 x311 => t_norm (c_ret (c_done rfl rfl (Ret.b (rightCmd_end (by simpa using c5) (all_end hi202 hl213) (all_end hi259 hl271) c306 (fun _ => c307) (fun h => by cases h) (by clear ha; simp only [empty_len] at *; simp_all [-List.length_eq_zero_iff] <;> first | omega | (intros; omega) | (intros; simp_all [-List.length_eq_zero_iff] <;> omega))) (((((((((((((x3.trans x29).trans x43).trans x57).trans x195).trans x197).trans x199).trans x209).trans x252).trans x254).trans x256).trans x266).trans x305).trans x311)))))
     refine qv (.bool false) (fun _ x' => x_move rfl rfl) ?_
     refine qk rfl rfl (qk rfl rfl (qv (.bool false) (fun _ x' => x_pick_f rfl rfl rfl) ?_))
     refine qv (.bool false) (fun _ x' => x_assign rfl rfl) ?_
     exact q_nil (fun w312 x313 => t_norm (c_ret (c_done rfl rfl (Ret.b (rightCmd_end (by simpa using c5) (all_end hi202 hl213) (all_end hi259 hl271) c306 (fun h => by cases h) (fun _ => rfl) (by clear ha; simp only [empty_len] at *; simp_all [-List.length_eq_zero_iff] <;> first | omega | (intros; omega) | (intros; simp_all [-List.length_eq_zero_iff] <;> omega))) (((((((((((((x3.trans x29).trans x43).trans x57).trans x195).trans x197).trans x199).trans x209).trans x252).trans x254).trans x256).trans x266).trans x305).trans x313)))))
    refine qv (.bool true) (fun _ x' => x_not (b := false) rfl rfl) ?_
    refine qv (.bool true) (fun _ x' => x_pick_f rfl rfl rfl) ?_
    refine qv (.bool true) (fun _ x' => x_move rfl rfl) ?_
    refine qk rfl rfl (qk rfl rfl (qk rfl rfl (qk rfl rfl (qv (.bool true) (fun _ x' => x_pick_t rfl rfl rfl) ?_))))
    refine qv (.bool true) (fun _ x' => x_move rfl rfl) ?_
    refine qk rfl rfl (qk rfl rfl (qk rfl rfl (qk rfl rfl (qk rfl rfl (qk rfl rfl (qk rfl rfl (qv (.bool true) (fun _ x' => x_pick_t rfl rfl rfl) ?_)))))))
    refine q_nil (fun w314 x315 => t_norm (c_true rfl (c_seq (c_quiet (qv (.bool false) (fun _ x' => x_assign rfl rfl) ?_)))))
    exact q_nil (fun w316 x317 => t_norm (c_ret (t_ret (c_done rfl rfl (Ret.b ((rightCmd_head (by simpa using c5) (by clear ha; simp only [empty_len] at *; simp_all [-List.length_eq_zero_iff] <;> first | omega | (intros; omega) | (intros; simp_all [-List.length_eq_zero_iff] <;> omega))).symm) ((((x3.trans x29).trans x43).trans x315).trans x317))))))
   refine qv (.bool true) (fun _ x' => x_not (b := false) rfl rfl) ?_
   refine qv (.bool true) (fun _ x' => x_move rfl rfl) ?_
   refine qk rfl rfl (qk rfl rfl (qk rfl rfl (qk rfl rfl (qv (.bool true) (fun _ x' => x_pick_t rfl rfl rfl) ?_))))
   refine qv (.bool true) (fun _ x' => x_move rfl rfl) ?_
   refine qk rfl rfl (qk rfl rfl (qk rfl rfl (qk rfl rfl (qv (.bool true) (fun _ x' => x_pick_t rfl rfl rfl) ?_))))
   refine qv (.bool true) (fun _ x' => x_move rfl rfl) ?_
   refine qk rfl rfl (qk rfl rfl (qk rfl rfl (qk rfl rfl (qk rfl rfl (qk rfl rfl (qk rfl rfl (qv (.bool true) (fun _ x' => x_pick_t rfl rfl rfl) ?_)))))))
   refine q_nil (fun w318 x319 => t_norm (c_true rfl (c_seq (c_quiet (qv (.bool false) (fun _ x' => x_assign rfl rfl) ?_)))))
   exact q_nil (fun w320 x321 => t_norm (c_ret (t_ret (c_done rfl rfl (Ret.b ((rightCmd_head (by simpa using c5) (by clear ha; simp only [empty_len] at *; simp_all [-List.length_eq_zero_iff] <;> first | omega | (intros; omega) | (intros; simp_all [-List.length_eq_zero_iff] <;> omega))).symm) ((((x3.trans x29).trans x43).trans x319).trans x321))))))
  refine qv (.bool false) (fun _ x' => x_move rfl rfl) ?_
  refine qk rfl rfl (qk rfl rfl (qv (.bool false) (fun _ x' => x_pick_f rfl rfl rfl) ?_))
  refine qv (.bool false) (fun _ x' => x_pick_f rfl rfl rfl) ?_
  refine q_nil (fun w322 x323 => t_norm (c_false rfl (c_skip (t_norm (c_seq (c_seq (c_quiet (qv (.pointer (some (⟨w.heap.size, 1, none⟩))) (fun _ x' => x_fieldAddr fld_37_1 rfl rfl rfl) ?_))))))))
  refine qv (.agg #[iJ a.txn.client, iJ a.txn.number]) (fun _ x' => x_load rfl rfl ((((b2.ext x29).ext x323).ext x').agg (vs := [iJ a.txn.client, iJ a.txn.number]) agg_31_2 rfl)) ?_
  refine q_callb (b := rightTxn a.txn) (vs := #[.agg #[iJ a.txn.client, iJ a.txn.number]]) fn_58 rfl rfl rfl (args1 rfl) (fun _ x' => D_rightTxn _ a.txn) (fun c324 => ?_) (fun c324 => ?_)
  ·refine qv (.bool false) (fun _ x' => x_not (b := true) rfl rfl) ?_
   refine qv (.bool false) (fun _ x' => x_move rfl rfl) ?_
   refine qv (.pointer (some (⟨w.heap.size, 3, none⟩))) (fun _ x' => x_fieldAddr fld_37_2 rfl rfl rfl) ?_
   refine qv (.agg #[iJ a.stp.time, iJ a.stp.client]) (fun _ x' => x_load rfl rfl ((((b2.ext x29).ext x323).ext x').agg (vs := [iJ a.stp.time, iJ a.stp.client]) agg_33_2 rfl)) ?_
   refine q_callb (b := rightStp a.stp) (vs := #[.agg #[iJ a.stp.time, iJ a.stp.client]]) fn_59 rfl rfl rfl (args1 rfl) (fun _ x' => D_rightStp _ a.stp) (fun c325 => ?_) (fun c325 => ?_)
   ·refine qv (.bool false) (fun _ x' => x_not (b := true) rfl rfl) ?_
    refine qv (.bool false) (fun _ x' => x_pick_f rfl rfl rfl) ?_
    refine qv (.bool false) (fun _ x' => x_move rfl rfl) ?_
    refine qv (.pointer (some (⟨w.heap.size, 3, none⟩))) (fun _ x' => x_fieldAddr fld_37_2 rfl rfl rfl) ?_
    refine qv (.pointer (some (⟨w.heap.size, 3, none⟩))) (fun _ x' => x_fieldAddr fld_33_0 rfl rfl rfl) ?_
    refine qv (iJ a.stp.time) (fun _ x' => x_load rfl rfl ((((b2.ext x29).ext x323).ext x').one one_3 rfl)) ?_
    refine q_bool (b := decide (a.stp.time = 0)) rfl rfl (fun _ x' => x_eql rfl rfl rfl) (fun c326 => ?_) (fun c326 => ?_)
    ·refine qv (.bool true) (fun _ x' => x_pick_f rfl rfl rfl) ?_
     refine qv (.bool true) (fun _ x' => x_move rfl rfl) ?_
     refine qk rfl rfl (qk rfl rfl (qk rfl rfl (qk rfl rfl (qk rfl rfl (qk rfl rfl (qk rfl rfl (qv (.bool true) (fun _ x' => x_pick_t rfl rfl rfl) ?_)))))))
     refine q_nil (fun w327 x328 => t_norm (c_true rfl (c_seq (c_quiet (qv (.bool false) (fun _ x' => x_assign rfl rfl) ?_)))))
     exact q_nil (fun w329 x330 => t_norm (c_ret (t_ret (c_done rfl rfl (Ret.b ((rightCmd_head (by simpa using c5) (by clear ha; simp only [empty_len] at *; simp_all [-List.length_eq_zero_iff] <;> first | omega | (intros; omega) | (intros; simp_all [-List.length_eq_zero_iff] <;> omega))).symm) ((((x3.trans x29).trans x323).trans x328).trans x330))))))
    refine qv (.bool false) (fun _ x' => x_pick_f rfl rfl rfl) ?_
    refine qv (.bool false) (fun _ x' => x_move rfl rfl) ?_
    refine qv (.pointer (some (⟨w.heap.size, 3, none⟩))) (fun _ x' => x_fieldAddr fld_37_2 rfl rfl rfl) ?_
    refine qv (.pointer (some (⟨w.heap.size, 4, none⟩))) (fun _ x' => x_fieldAddr fld_33_1 rfl rfl rfl) ?_
    refine qv (iJ a.stp.client) (fun _ x' => x_load rfl rfl ((((b2.ext x29).ext x323).ext x').one one_3 rfl)) ?_
    refine qv (.pointer (some (⟨w.heap.size, 1, none⟩))) (fun _ x' => x_fieldAddr fld_37_1 rfl rfl rfl) ?_
    refine qv (.pointer (some (⟨w.heap.size, 1, none⟩))) (fun _ x' => x_fieldAddr fld_31_0 rfl rfl rfl) ?_
    refine qv (iJ a.txn.client) (fun _ x' => x_load rfl rfl ((((b2.ext x29).ext x323).ext x').one one_3 rfl)) ?_
    refine q_bool (b := decide (a.stp.client ≠ a.txn.client)) rfl rfl (fun _ x' => x_neq rfl rfl rfl) (fun c331 => ?_) (fun c331 => ?_)
    ·refine qv (.bool true) (fun _ x' => x_pick_f rfl rfl rfl) ?_
     refine q_nil (fun w332 x333 => t_norm (c_true rfl (c_seq (c_quiet (qv (.bool false) (fun _ x' => x_assign rfl rfl) ?_)))))
     exact q_nil (fun w334 x335 => t_norm (c_ret (t_ret (c_done rfl rfl (Ret.b ((rightCmd_head (by simpa using c5) (by clear ha; simp only [empty_len] at *; simp_all [-List.length_eq_zero_iff] <;> first | omega | (intros; omega) | (intros; simp_all [-List.length_eq_zero_iff] <;> omega))).symm) ((((x3.trans x29).trans x323).trans x333).trans x335))))))
    refine qv (.bool false) (fun _ x' => x_pick_f rfl rfl rfl) ?_
    refine q_nil (fun w336 x337 => t_norm (c_false rfl (c_skip (t_norm (c_seq (c_seq (c_quiet (qv (.pointer (some (⟨w.heap.size, 5, none⟩))) (fun _ x' => x_fieldAddr fld_37_3 rfl rfl rfl) ?_))))))))
    refine qv (iJ a.shards) (fun _ x' => x_load rfl rfl (((((b2.ext x29).ext x323).ext x337).ext x').one one_3 rfl)) ?_
    refine q_bool (b := decide (a.shards ≤ 0)) rfl rfl (fun _ x' => x_leq rfl rfl rfl) (fun c338 => ?_) (fun c338 => ?_)
    ·refine qv (.bool true) (fun _ x' => x_move rfl rfl) ?_
     refine qk rfl rfl (qk rfl rfl (qk rfl rfl (qv (.bool true) (fun _ x' => x_pick_t rfl rfl rfl) ?_)))
     refine qv (.bool true) (fun _ x' => x_move rfl rfl) ?_
     refine qk rfl rfl (qk rfl rfl (qk rfl rfl (qk rfl rfl (qk rfl rfl (qk rfl rfl (qk rfl rfl (qk rfl rfl (qk rfl rfl (qk rfl rfl (qv (.bool true) (fun _ x' => x_pick_t rfl rfl rfl) ?_))))))))))
     refine q_nil (fun w339 x340 => t_norm (c_true rfl (c_seq (c_quiet (qv (.bool false) (fun _ x' => x_assign rfl rfl) ?_)))))
     exact q_nil (fun w341 x342 => t_norm (c_ret (t_ret (c_done rfl rfl (Ret.b ((rightCmd_head (by simpa using c5) (by clear ha; simp only [empty_len] at *; simp_all [-List.length_eq_zero_iff] <;> first | omega | (intros; omega) | (intros; simp_all [-List.length_eq_zero_iff] <;> omega))).symm) (((((x3.trans x29).trans x323).trans x337).trans x340).trans x342))))))
    refine qv (.bool false) (fun _ x' => x_move rfl rfl) ?_
    refine qv (.pointer (some (⟨w.heap.size, 5, none⟩))) (fun _ x' => x_fieldAddr fld_37_3 rfl rfl rfl) ?_
    refine qv (iJ a.shards) (fun _ x' => x_load rfl rfl (((((b2.ext x29).ext x323).ext x337).ext x').one one_3 rfl)) ?_
    refine q_bool (b := decide (a.shards ≥ 16)) rfl rfl (fun _ x' => x_geq rfl rfl rfl) (fun c343 => ?_) (fun c343 => ?_)
    ·refine qv (.bool true) (fun _ x' => x_pick_f rfl rfl rfl) ?_
     refine qv (.bool true) (fun _ x' => x_move rfl rfl) ?_
     refine qk rfl rfl (qk rfl rfl (qk rfl rfl (qk rfl rfl (qk rfl rfl (qk rfl rfl (qk rfl rfl (qk rfl rfl (qk rfl rfl (qk rfl rfl (qv (.bool true) (fun _ x' => x_pick_t rfl rfl rfl) ?_))))))))))
     refine q_nil (fun w344 x345 => t_norm (c_true rfl (c_seq (c_quiet (qv (.bool false) (fun _ x' => x_assign rfl rfl) ?_)))))
     exact q_nil (fun w346 x347 => t_norm (c_ret (t_ret (c_done rfl rfl (Ret.b ((rightCmd_head (by simpa using c5) (by clear ha; simp only [empty_len] at *; simp_all [-List.length_eq_zero_iff] <;> first | omega | (intros; omega) | (intros; simp_all [-List.length_eq_zero_iff] <;> omega))).symm) (((((x3.trans x29).trans x323).trans x337).trans x345).trans x347))))))
    refine qv (.bool false) (fun _ x' => x_pick_f rfl rfl rfl) ?_
    refine qv (.bool false) (fun _ x' => x_move rfl rfl) ?_
    refine qv (.pointer (some (⟨w.heap.size, 6, none⟩))) (fun _ x' => x_fieldAddr fld_37_4 rfl rfl rfl) ?_
    refine qv (.slice pa.A a.reads.length pa.n) (fun _ x' => x_load rfl rfl (((((b2.ext x29).ext x323).ext x337).ext x').one one_34 rfl)) ?_
    refine qv (iJ (a.reads.length : Int)) (fun _ x' => x_len_slice sl_34 rfl rfl) ?_
    refine q_bool (b := decide ((a.reads.length : Int) = 0)) rfl rfl (fun _ x' => x_eql rfl rfl rfl) (fun c348 => ?_) (fun c348 => ?_)
    ·refine qv (.bool true) (fun _ x' => x_move rfl rfl) ?_
     refine qv (.pointer (some (⟨w.heap.size, 7, none⟩))) (fun _ x' => x_fieldAddr fld_37_5 rfl rfl rfl) ?_
     refine qv (.slice pa.B a.writes.length pa.m) (fun _ x' => x_load rfl rfl (((((b2.ext x29).ext x323).ext x337).ext x').one one_35 rfl)) ?_
     refine qv (iJ (a.writes.length : Int)) (fun _ x' => x_len_slice sl_35 rfl rfl) ?_
     refine q_bool (b := decide ((a.writes.length : Int) = 0)) rfl rfl (fun _ x' => x_eql rfl rfl rfl) (fun c349 => ?_) (fun c349 => ?_)
     ·refine qv (.bool true) (fun _ x' => x_pick_t rfl rfl rfl) ?_
      refine qv (.bool true) (fun _ x' => x_pick_f rfl rfl rfl) ?_
      refine q_nil (fun w350 x351 => t_norm (c_true rfl (c_seq (c_quiet (qv (.bool false) (fun _ x' => x_assign rfl rfl) ?_)))))
      exact q_nil (fun w352 x353 => t_norm (c_ret (t_ret (c_done rfl rfl (Ret.b ((rightCmd_head (by simpa using c5) (by clear ha; simp only [empty_len] at *; simp_all [-List.length_eq_zero_iff] <;> first | omega | (intros; omega) | (intros; simp_all [-List.length_eq_zero_iff] <;> omega))).symm) (((((x3.trans x29).trans x323).trans x337).trans x351).trans x353))))))
     refine qv (.bool false) (fun _ x' => x_pick_t rfl rfl rfl) ?_
     refine qv (.bool false) (fun _ x' => x_pick_f rfl rfl rfl) ?_
     refine q_nil (fun w354 x355 => t_norm (c_false rfl (c_skip (t_norm (c_seq (c_quiet (qv (.slice none 0 0) (fun _ x' => x_assign rfl rfl) ?_)))))))
     refine q_nil (fun w356 x357 => t_norm (c_seq (c_seq (c_quiet (qv (iJ 0) (fun _ x' => x_assign rfl rfl) ?_)))))
     refine q_nil (fun w358 x359 => t_norm (c_block (c_loop (fun ρ w368 => ∃ k360 : Nat, ∃ A363 : Option Addr, ∃ c364 : Nat, k360 ≤ a.reads.length ∧ (a.reads.take k360).all (oldRd a) = true ∧ World.ownsRow w368 w358.heap.size 9 1 (.slice A363 k360 c364) k360 (((a.reads.map (·.key)).take k360).flatMap fStr) ∧ k360 ≤ c364 ∧ c364 ≤ 9223372036854775807 ∧ ρ 1 = pJ w.heap.size ∧ ρ 3 = .slice A363 k360 c364 ∧ ρ 4 = iJ (k360 : Int) ∧ Ext w358 w368) (fun ρ _ => a.reads.length - (intOf (ρ 4)).toNat) ⟨0, none, 0, Nat.zero_le _, rfl, own_nil _ _ _ _, Nat.le_refl _, Nat.zero_le _, rfl, rfl, rfl, Ext.refl _⟩ ?_)))
     rintro ρ w368 ⟨k360, A363, c364, hk361, hi362, ho365, h366, h367, e370, e371, e372, x369⟩
     by_cases hl373 : k360 < a.reads.length
     ·obtain ⟨y374, hx375⟩ := some_of (l := a.reads) (k := k360) (by omega)
      obtain ⟨ad376, cs377, eA378, hK379, hE380⟩ := ha.reads k360 y374 hx375
      have hK379' : cs377 = [.string y374.key, iJ y374.ver.time, iJ y374.ver.client] := hK379
      subst hK379'
      refine c_seq (c_seq (c_quiet (qv (iJ (k360 : Int)) (fun _ x' => x_move rfl e372) ?_)))
      refine qv (.pointer (some (⟨w.heap.size, 6, none⟩))) (fun _ x' => x_fieldAddr fld_37_4 rfl e370 rfl) ?_
      refine qv (.slice pa.A a.reads.length pa.n) (fun _ x' => x_load rfl rfl (((((((((b2.ext x29).ext x323).ext x337).ext x355).ext x357).ext x359).ext x369).ext x').one one_34 rfl)) ?_
      refine qv (iJ (a.reads.length : Int)) (fun _ x' => x_len_slice sl_34 rfl rfl) ?_
      refine qv (.bool true) (fun _ x' => yb (x_lss rfl rfl rfl) (decide_eq_true (by omega))) ?_
      refine q_nil (fun w382 x383 => t_norm (c_true rfl (c_skip (t_norm (c_seq (c_block (c_seq (c_seq (c_draw mixed (by kernel_rfl) (qv (.pointer (some (⟨w.heap.size, 6, none⟩))) (fun _ x' => x_fieldAddr fld_37_4 rfl e370 rfl) ?_))))))))))
      refine qv (.slice pa.A a.reads.length pa.n) (fun _ x' => x_load rfl rfl ((((((((((b2.ext x29).ext x323).ext x337).ext x355).ext x357).ext x359).ext x369).ext x383).ext x').one one_34 rfl)) ?_
      refine qv (iJ (k360 : Int)) (fun _ x' => x_move rfl e372) ?_
      refine qv (.pointer (some (ad376.add (k360 * 3)))) (fun _ x' => x_indexAddr sl_34 rfl rfl eA378 rfl (by omega) (by omega) rfl) ?_
      refine qv (.pointer (some ((ad376.add (k360 * 3)).add 1))) (fun _ x' => x_fieldAddr fld_78_1 rfl rfl rfl) ?_
      refine qv (.agg #[iJ y374.ver.time, iJ y374.ver.client]) (fun _ x' => x_load rfl rfl (((((((((((hE380.ext x3).ext x29).ext x323).ext x337).ext x355).ext x357).ext x359).ext x369).ext x383).ext x').agg (vs := [iJ y374.ver.time, iJ y374.ver.client]) agg_33_2 1 rfl rfl)) ?_
      refine q_callb (b := rightStp y374.ver) (vs := #[.agg #[iJ y374.ver.time, iJ y374.ver.client]]) fn_59 rfl rfl rfl (args1 rfl) (fun _ x' => D_rightStp _ y374.ver) (fun c384 => ?_) (fun c384 => ?_)
      ·refine qv (.bool false) (fun _ x' => x_not (b := true) rfl rfl) ?_
       refine qv (.bool false) (fun _ x' => x_move rfl rfl) ?_
       refine qv (.pointer (some (⟨w.heap.size, 6, none⟩))) (fun _ x' => x_fieldAddr fld_37_4 rfl e370 rfl) ?_
       refine qv (.slice pa.A a.reads.length pa.n) (fun _ x' => x_load rfl rfl ((((((((((b2.ext x29).ext x323).ext x337).ext x355).ext x357).ext x359).ext x369).ext x383).ext x').one one_34 rfl)) ?_
       refine qv (iJ (k360 : Int)) (fun _ x' => x_move rfl e372) ?_
       refine qv (.pointer (some (ad376.add (k360 * 3)))) (fun _ x' => x_indexAddr sl_34 rfl rfl eA378 rfl (by omega) (by omega) rfl) ?_
       refine qv (.pointer (some ((ad376.add (k360 * 3)).add 1))) (fun _ x' => x_fieldAddr fld_78_1 rfl rfl rfl) ?_
       refine qv (.agg #[iJ y374.ver.time, iJ y374.ver.client]) (fun _ x' => x_load rfl rfl (((((((((((hE380.ext x3).ext x29).ext x323).ext x337).ext x355).ext x357).ext x359).ext x369).ext x383).ext x').agg (vs := [iJ y374.ver.time, iJ y374.ver.client]) agg_33_2 1 rfl rfl)) ?_
       refine qv (.pointer (some (⟨w.heap.size, 3, none⟩))) (fun _ x' => x_fieldAddr fld_37_2 rfl e370 rfl) ?_
       refine qv (.agg #[iJ a.stp.time, iJ a.stp.client]) (fun _ x' => x_load rfl rfl ((((((((((b2.ext x29).ext x323).ext x337).ext x355).ext x357).ext x359).ext x369).ext x383).ext x').agg (vs := [iJ a.stp.time, iJ a.stp.client]) agg_33_2 rfl)) ?_
       refine q_callb (b := decide (cmpStp y374.ver a.stp < 0)) (vs := #[.agg #[iJ y374.ver.time, iJ y374.ver.client], .agg #[iJ a.stp.time, iJ a.stp.client]]) fn_60 rfl rfl rfl (args2 rfl rfl) (fun _ x' => D_before _ y374.ver a.stp) (fun c385 => ?_) (fun c385 => ?_)
       ·refine qv (.bool false) (fun _ x' => x_not (b := true) rfl rfl) ?_
        refine qv (.bool false) (fun _ x' => x_pick_f rfl rfl rfl) ?_
        refine q_nil (fun w386 x387 => t_norm (c_false rfl (c_skip (t_norm (c_plain (pv (.slice A363 k360 c364) (x_move rfl e371) ?_))))))
        refine pv (.pointer (some (⟨w.heap.size, 6, none⟩))) (x_fieldAddr fld_37_4 rfl e370 rfl) ?_
        refine pv (.slice pa.A a.reads.length pa.n) (x_load rfl rfl ((((((((((b2.ext x29).ext x323).ext x337).ext x355).ext x357).ext x359).ext x369).ext x383).ext x387).one one_34 rfl)) ?_
        refine pv (iJ (k360 : Int)) (x_move rfl e372) ?_
        refine pv (.pointer (some (ad376.add (k360 * 3)))) (x_indexAddr sl_34 rfl rfl eA378 rfl (by omega) (by omega) rfl) ?_
        refine pv (.pointer (some (ad376.add (k360 * 3)))) (x_fieldAddr fld_78_0 rfl rfl rfl) ?_
        refine pv (.string y374.key) (x_load rfl rfl (((((((((((hE380.ext x3).ext x29).ext x323).ext x337).ext x355).ext x357).ext x359).ext x369).ext x383).ext x387).one one_9 0 rfl rfl)) ?_
        refine p_buildSlice (cs := [.string y374.key]) el_104 rfl rfl rfl (parts1 rfl) (by decide) (by decide) (fill_ok [.string y374.key] [.string y374.key] rfl rfl) (fun w388 b389 x390 z391 => ?_)
        refine p_appendK (B := w358.heap.size) (k := k360) (m := 1) (cs := (((a.reads.map (·.key)).take k360).flatMap fStr)) (news := [.string y374.key]) (ad := ⟨w386.heap.size, 0, none⟩) el_104 rfl rfl rfl rfl (own_ext ho365 ((x383.trans x387).trans x390)) rfl rfl b389.put rfl (by omega) (by omega) (((x369.trans x383).trans x387).trans x390).size (fun A395 c396 w392 o393 kp394 h397 h398 => ?_)
        refine pv (.slice A395 (k360 + 1) c396) (x_assign rfl rfl) ?_
        refine p_nil (b_norm (t_norm (c_quiet (qv (iJ (k360 : Int)) (fun _ x' => x_move rfl e372) ?_))))
        refine qv (iJ ((k360 : Int) + 1)) (fun _ x' => x_add rfl rfl rfl (wrap_of (by omega) (by omega))) ?_
        refine qv (iJ ((k360 : Int) + 1)) (fun _ x' => x_assign rfl rfl) ?_
        exact q_nil (fun w399 x400 => t_norm (⟨_, rfl, ⟨k360 + 1, A395, c396, by omega, all_step (p := oldRd a) hi362 hx375 (by simp_all [oldRd]), (by rw [← flat_step (map_of (g := fun z => z.key) hx375)]; exact (own_ext o393 x400)), h397, h398, e370, rfl, rfl, (((((x369.trans x383).trans x387).trans x390).below (Nat.le_refl _) kp394.below).trans x400)⟩, meas_up e372 hl373⟩))
       refine qv (.bool true) (fun _ x' => x_not (b := false) rfl rfl) ?_
       refine qv (.bool true) (fun _ x' => x_pick_f rfl rfl rfl) ?_
       refine q_nil (fun w401 x402 => t_norm (c_true rfl (c_seq (c_quiet (qv (.bool false) (fun _ x' => x_assign rfl rfl) ?_)))))
       exact q_nil (fun w403 x404 => t_norm (c_ret (t_ret (b_ret (t_ret (t_ret (b_ret (t_ret (c_done rfl rfl (Ret.b ((rightCmd_reads (by simpa using c5) (all_fail (p := oldRd a) hx375 (by simp only [oldRd]; simp_all))).symm) ((((((((((x3.trans x29).trans x323).trans x337).trans x355).trans x357).trans x359).trans x369).trans x383).trans x402).trans x404)))))))))))
      refine qv (.bool true) (fun _ x' => x_not (b := false) rfl rfl) ?_
      refine qv (.bool true) (fun _ x' => x_move rfl rfl) ?_
      refine qk rfl rfl (qk rfl rfl (qk rfl rfl (qk rfl rfl (qk rfl rfl (qk rfl rfl (qk rfl rfl (qk rfl rfl (qk rfl rfl (qk rfl rfl (qv (.bool true) (fun _ x' => x_pick_t rfl rfl rfl) ?_))))))))))
      refine q_nil (fun w405 x406 => t_norm (c_true rfl (c_seq (c_quiet (qv (.bool false) (fun _ x' => x_assign rfl rfl) ?_)))))
      exact q_nil (fun w407 x408 => t_norm (c_ret (t_ret (b_ret (t_ret (t_ret (b_ret (t_ret (c_done rfl rfl (Ret.b ((rightCmd_reads (by simpa using c5) (all_fail (p := oldRd a) hx375 (by simp only [oldRd]; simp_all))).symm) ((((((((((x3.trans x29).trans x323).trans x337).trans x355).trans x357).trans x359).trans x369).trans x383).trans x406).trans x408)))))))))))
     have hr409 := own_lies (d := kStr) (xs := a.reads.map (·.key)) (by rw [show (a.reads.map (·.key)) = (a.reads.map (·.key)).take k360 from by rw [List.take_of_length_le (by simp; omega)]]; exact ho365) (by simp; omega) (fun _ => rfl) (fun _ => rfl)
     have he410 : k360 = (a.reads.map (·.key)).length := by simp; omega
     refine c_seq (c_seq (c_quiet (qv (iJ (k360 : Int)) (fun _ x' => x_move rfl e372) ?_)))
     refine qv (.pointer (some (⟨w.heap.size, 6, none⟩))) (fun _ x' => x_fieldAddr fld_37_4 rfl e370 rfl) ?_
     refine qv (.slice pa.A a.reads.length pa.n) (fun _ x' => x_load rfl rfl (((((((((b2.ext x29).ext x323).ext x337).ext x355).ext x357).ext x359).ext x369).ext x').one one_34 rfl)) ?_
     refine qv (iJ (a.reads.length : Int)) (fun _ x' => x_len_slice sl_34 rfl rfl) ?_
     refine qv (.bool false) (fun _ x' => yb (x_lss rfl rfl rfl) (decide_eq_false (by omega))) ?_
     refine q_nil (fun w411 x412 => t_norm (c_false rfl (c_exit (t_exit (t_exit (b_exit (t_norm (c_seq (c_quiet (qv (.slice none 0 0) (fun _ x' => x_assign rfl rfl) ?_))))))))))
     refine q_nil (fun w413 x414 => t_norm (c_seq (c_seq (c_quiet (qv (iJ 0) (fun _ x' => x_assign rfl rfl) ?_)))))
     refine q_nil (fun w415 x416 => t_norm (c_block (c_loop (fun ρ w425 => ∃ k417 : Nat, ∃ A420 : Option Addr, ∃ c421 : Nat, k417 ≤ a.writes.length ∧ (a.writes.take k417).all (fun x : Wr => decide (x.val.size ≤ 8)) = true ∧ World.ownsRow w425 w415.heap.size 9 1 (.slice A420 k417 c421) k417 (((a.writes.map (·.key)).take k417).flatMap fStr) ∧ k417 ≤ c421 ∧ c421 ≤ 9223372036854775807 ∧ ρ 1 = pJ w.heap.size ∧ ρ 3 = .slice A363 k360 c364 ∧ ρ 5 = .slice A420 k417 c421 ∧ ρ 6 = iJ (k417 : Int) ∧ Ext w415 w425) (fun ρ _ => a.writes.length - (intOf (ρ 6)).toNat) ⟨0, none, 0, Nat.zero_le _, rfl, own_nil _ _ _ _, Nat.le_refl _, Nat.zero_le _, e370, e371, rfl, rfl, Ext.refl _⟩ ?_)))
     rintro ρ w425 ⟨k417, A420, c421, hk418, hi419, ho422, h423, h424, e427, e428, e429, e430, x426⟩
     by_cases hl431 : k417 < a.writes.length
     ·obtain ⟨y432, hx433⟩ := some_of (l := a.writes) (k := k417) (by omega)
      obtain ⟨ad434, cs435, eA436, hK437, hE438⟩ := ha.writes k417 y432 hx433
      have hK437' : cs435 = [.string y432.key, .string y432.val] := hK437
      subst hK437'
      refine c_seq (c_seq (c_quiet (qv (iJ (k417 : Int)) (fun _ x' => x_move rfl e430) ?_)))
      refine qv (.pointer (some (⟨w.heap.size, 7, none⟩))) (fun _ x' => x_fieldAddr fld_37_5 rfl e427 rfl) ?_
      refine qv (.slice pa.B a.writes.length pa.m) (fun _ x' => x_load rfl rfl (((((((((((((b2.ext x29).ext x323).ext x337).ext x355).ext x357).ext x359).ext x369).ext x412).ext x414).ext x416).ext x426).ext x').one one_35 rfl)) ?_
      refine qv (iJ (a.writes.length : Int)) (fun _ x' => x_len_slice sl_35 rfl rfl) ?_
      refine qv (.bool true) (fun _ x' => yb (x_lss rfl rfl rfl) (decide_eq_true (by omega))) ?_
      refine q_nil (fun w440 x441 => t_norm (c_true rfl (c_skip (t_norm (c_seq (c_block (c_seq (c_seq (c_quiet (qv (.pointer (some (⟨w.heap.size, 7, none⟩))) (fun _ x' => x_fieldAddr fld_37_5 rfl e427 rfl) ?_))))))))))
      refine qv (.slice pa.B a.writes.length pa.m) (fun _ x' => x_load rfl rfl ((((((((((((((b2.ext x29).ext x323).ext x337).ext x355).ext x357).ext x359).ext x369).ext x412).ext x414).ext x416).ext x426).ext x441).ext x').one one_35 rfl)) ?_
      refine qv (iJ (k417 : Int)) (fun _ x' => x_move rfl e430) ?_
      refine qv (.pointer (some (ad434.add (k417 * 2)))) (fun _ x' => x_indexAddr sl_35 rfl rfl eA436 rfl (by omega) (by omega) rfl) ?_
      refine qv (.pointer (some ((ad434.add (k417 * 2)).add 1))) (fun _ x' => x_fieldAddr fld_80_1 rfl rfl rfl) ?_
      refine qv (.string y432.val) (fun _ x' => x_load rfl rfl (((((((((((((((hE438.ext x3).ext x29).ext x323).ext x337).ext x355).ext x357).ext x359).ext x369).ext x412).ext x414).ext x416).ext x426).ext x441).ext x').one one_9 1 rfl rfl)) ?_
      refine qv (iJ (y432.val.size : Int)) (fun _ x' => x_len_string str_9 rfl rfl) ?_
      refine q_bool (b := decide ((y432.val.size : Int) > 8)) rfl rfl (fun _ x' => x_gtr rfl rfl rfl) (fun c442 => ?_) (fun c442 => ?_)
      ·refine q_nil (fun w443 x444 => t_norm (c_true rfl (c_seq (c_quiet (qv (.bool false) (fun _ x' => x_assign rfl rfl) ?_)))))
       exact q_nil (fun w445 x446 => t_norm (c_ret (t_ret (b_ret (t_ret (t_ret (b_ret (t_ret (c_done rfl rfl (Ret.b ((rightCmd_writes (by simpa using c5) (all_fail (p := fun x : Wr => decide (x.val.size ≤ 8)) hx433 (by simp_all <;> omega))).symm) ((((((((((((((x3.trans x29).trans x323).trans x337).trans x355).trans x357).trans x359).trans x369).trans x412).trans x414).trans x416).trans x426).trans x441).trans x444).trans x446)))))))))))
      refine q_nil (fun w447 x448 => t_norm (c_false rfl (c_skip (t_norm (c_plain (pv (.slice A420 k417 c421) (x_move rfl e429) ?_))))))
      refine pv (.pointer (some (⟨w.heap.size, 7, none⟩))) (x_fieldAddr fld_37_5 rfl e427 rfl) ?_
      refine pv (.slice pa.B a.writes.length pa.m) (x_load rfl rfl ((((((((((((((b2.ext x29).ext x323).ext x337).ext x355).ext x357).ext x359).ext x369).ext x412).ext x414).ext x416).ext x426).ext x441).ext x448).one one_35 rfl)) ?_
      refine pv (iJ (k417 : Int)) (x_move rfl e430) ?_
      refine pv (.pointer (some (ad434.add (k417 * 2)))) (x_indexAddr sl_35 rfl rfl eA436 rfl (by omega) (by omega) rfl) ?_
      refine pv (.pointer (some (ad434.add (k417 * 2)))) (x_fieldAddr fld_80_0 rfl rfl rfl) ?_
      refine pv (.string y432.key) (x_load rfl rfl (((((((((((((((hE438.ext x3).ext x29).ext x323).ext x337).ext x355).ext x357).ext x359).ext x369).ext x412).ext x414).ext x416).ext x426).ext x441).ext x448).one one_9 0 rfl rfl)) ?_
      refine p_buildSlice (cs := [.string y432.key]) el_104 rfl rfl rfl (parts1 rfl) (by decide) (by decide) (fill_ok [.string y432.key] [.string y432.key] rfl rfl) (fun w449 b450 x451 z452 => ?_)
      refine p_appendK (B := w415.heap.size) (k := k417) (m := 1) (cs := (((a.writes.map (·.key)).take k417).flatMap fStr)) (news := [.string y432.key]) (ad := ⟨w447.heap.size, 0, none⟩) el_104 rfl rfl rfl rfl (own_ext ho422 ((x441.trans x448).trans x451)) rfl rfl b450.put rfl (by omega) (by omega) (((x426.trans x441).trans x448).trans x451).size (fun A456 c457 w453 o454 kp455 h458 h459 => ?_)
      refine pv (.slice A456 (k417 + 1) c457) (x_assign rfl rfl) ?_
      refine p_nil (b_norm (t_norm (c_quiet (qv (iJ (k417 : Int)) (fun _ x' => x_move rfl e430) ?_))))
      refine qv (iJ ((k417 : Int) + 1)) (fun _ x' => x_add rfl rfl rfl (wrap_of (by omega) (by omega))) ?_
      refine qv (iJ ((k417 : Int) + 1)) (fun _ x' => x_assign rfl rfl) ?_
      exact q_nil (fun w460 x461 => t_norm (⟨_, rfl, ⟨k417 + 1, A456, c457, by omega, all_step (p := fun x : Wr => decide (x.val.size ≤ 8)) hi419 hx433 (by simp_all <;> omega), (by rw [← flat_step (map_of (g := fun z => z.key) hx433)]; exact (own_ext o454 x461)), h458, h459, e427, e428, rfl, rfl, (((((x426.trans x441).trans x448).trans x451).below (Nat.le_refl _) kp455.below).trans x461)⟩, meas_up e430 hl431⟩))
     have hr462 := own_lies (d := kStr) (xs := a.writes.map (·.key)) (by rw [show (a.writes.map (·.key)) = (a.writes.map (·.key)).take k417 from by rw [List.take_of_length_le (by simp; omega)]]; exact ho422) (by simp; omega) (fun _ => rfl) (fun _ => rfl)
     have he463 : k417 = (a.writes.map (·.key)).length := by simp; omega
     refine c_seq (c_seq (c_quiet (qv (iJ (k417 : Int)) (fun _ x' => x_move rfl e430) ?_)))
     refine qv (.pointer (some (⟨w.heap.size, 7, none⟩))) (fun _ x' => x_fieldAddr fld_37_5 rfl e427 rfl) ?_
     refine qv (.slice pa.B a.writes.length pa.m) (fun _ x' => x_load rfl rfl (((((((((((((b2.ext x29).ext x323).ext x337).ext x355).ext x357).ext x359).ext x369).ext x412).ext x414).ext x416).ext x426).ext x').one one_35 rfl)) ?_
     refine qv (iJ (a.writes.length : Int)) (fun _ x' => x_len_slice sl_35 rfl rfl) ?_
     refine qv (.bool false) (fun _ x' => yb (x_lss rfl rfl rfl) (decide_eq_false (by omega))) ?_
     refine q_nil (fun w464 x465 => t_norm (c_false rfl (c_exit (t_exit (t_exit (b_exit (t_norm (c_seq (c_quiet (qv (.slice A363 k360 c364) (fun _ x' => x_move rfl e428) ?_))))))))))
     refine q_callb (b := rightKeys (a.reads.map (·.key))) (vs := #[.slice A363 k360 c364]) fn_61 rfl rfl rfl (args1 rfl) (fun _ x' => D_rightKeys _ _ _ _ (a.reads.map (·.key)) he410 ((((((hr409.ext x412).ext x414).ext x416).ext x426).ext x465).ext x') (by simp; omega)) (fun c466 => ?_) (fun c466 => ?_)
     ·refine qv (.bool true) (fun _ x' => x_move rfl rfl) ?_
      refine qv (.slice A420 k417 c421) (fun _ x' => x_move rfl e429) ?_
      refine q_callb (b := rightKeys (a.writes.map (·.key))) (vs := #[.slice A420 k417 c421]) fn_61 rfl rfl rfl (args1 rfl) (fun _ x' => D_rightKeys _ _ _ _ (a.writes.map (·.key)) he463 ((hr462.ext x465).ext x') (by simp; omega)) (fun c467 => ?_) (fun c467 => ?_)
      ·refine qv (.bool true) (fun _ x' => x_pick_t rfl rfl rfl) ?_
       refine qv (.bool true) (fun _ x' => x_assign rfl rfl) ?_
       exact q_nil (fun w468 x469 => t_norm (c_ret (c_done rfl rfl (Ret.b (rightCmd_end (by simpa using c5) (all_end hi362 hl373) (all_end hi419 hl431) c466 (fun _ => c467) (fun h => by cases h) (by clear ha; simp only [empty_len] at *; simp_all [-List.length_eq_zero_iff] <;> first | omega | (intros; omega) | (intros; simp_all [-List.length_eq_zero_iff] <;> omega))) (((((((((((((x3.trans x29).trans x323).trans x337).trans x355).trans x357).trans x359).trans x369).trans x412).trans x414).trans x416).trans x426).trans x465).trans x469)))))
      refine qv (.bool false) (fun _ x' => x_pick_t rfl rfl rfl) ?_
      refine qv (.bool false) (fun _ x' => x_assign rfl rfl) ?_
      exact q_nil (fun w470 x471 => t_norm (c_ret (c_done rfl rfl (Ret.b (rightCmd_end (by simpa using c5) (all_end hi362 hl373) (all_end hi419 hl431) c466 (fun _ => c467) (fun h => by cases h) (by clear ha; simp only [empty_len] at *; simp_all [-List.length_eq_zero_iff] <;> first | omega | (intros; omega) | (intros; simp_all [-List.length_eq_zero_iff] <;> omega))) (((((((((((((x3.trans x29).trans x323).trans x337).trans x355).trans x357).trans x359).trans x369).trans x412).trans x414).trans x416).trans x426).trans x465).trans x471)))))
     refine qv (.bool false) (fun _ x' => x_move rfl rfl) ?_
     refine qk rfl rfl (qk rfl rfl (qv (.bool false) (fun _ x' => x_pick_f rfl rfl rfl) ?_))
     refine qv (.bool false) (fun _ x' => x_assign rfl rfl) ?_
     exact q_nil (fun w472 x473 => t_norm (c_ret (c_done rfl rfl (Ret.b (rightCmd_end (by simpa using c5) (all_end hi362 hl373) (all_end hi419 hl431) c466 (fun h => by cases h) (fun _ => rfl) (by clear ha; simp only [empty_len] at *; simp_all [-List.length_eq_zero_iff] <;> first | omega | (intros; omega) | (intros; simp_all [-List.length_eq_zero_iff] <;> omega))) (((((((((((((x3.trans x29).trans x323).trans x337).trans x355).trans x357).trans x359).trans x369).trans x412).trans x414).trans x416).trans x426).trans x465).trans x473)))))
    refine qv (.bool false) (fun _ x' => x_move rfl rfl) ?_
    refine qk rfl rfl (qk rfl rfl (qk rfl rfl (qk rfl rfl (qv (.bool false) (fun _ x' => x_pick_f rfl rfl rfl) ?_))))
    refine qv (.bool false) (fun _ x' => x_pick_f rfl rfl rfl) ?_
    refine q_nil (fun w474 x475 => t_norm (c_false rfl (c_skip (t_norm (c_seq (c_quiet (qv (.slice none 0 0) (fun _ x' => x_assign rfl rfl) ?_)))))))
    refine q_nil (fun w476 x477 => t_norm (c_seq (c_seq (c_quiet (qv (iJ 0) (fun _ x' => x_assign rfl rfl) ?_)))))
    refine q_nil (fun w478 x479 => t_norm (c_block (c_loop (fun ρ w488 => ∃ k480 : Nat, ∃ A483 : Option Addr, ∃ c484 : Nat, k480 ≤ a.reads.length ∧ (a.reads.take k480).all (oldRd a) = true ∧ World.ownsRow w488 w478.heap.size 9 1 (.slice A483 k480 c484) k480 (((a.reads.map (·.key)).take k480).flatMap fStr) ∧ k480 ≤ c484 ∧ c484 ≤ 9223372036854775807 ∧ ρ 1 = pJ w.heap.size ∧ ρ 3 = .slice A483 k480 c484 ∧ ρ 4 = iJ (k480 : Int) ∧ Ext w478 w488) (fun ρ _ => a.reads.length - (intOf (ρ 4)).toNat) ⟨0, none, 0, Nat.zero_le _, rfl, own_nil _ _ _ _, Nat.le_refl _, Nat.zero_le _, rfl, rfl, rfl, Ext.refl _⟩ ?_)))
    rintro ρ w488 ⟨k480, A483, c484, hk481, hi482, ho485, h486, h487, e490, e491, e492, x489⟩
    by_cases hl493 : k480 < a.reads.length
    ·obtain ⟨y494, hx495⟩ := some_of (l := a.reads) (k := k480) (by omega)
     obtain ⟨ad496, cs497, eA498, hK499, hE500⟩ := ha.reads k480 y494 hx495
     have hK499' : cs497 = [.string y494.key, iJ y494.ver.time, iJ y494.ver.client] := hK499
     subst hK499'
     refine c_seq (c_seq (c_quiet (qv (iJ (k480 : Int)) (fun _ x' => x_move rfl e492) ?_)))
     refine qv (.pointer (some (⟨w.heap.size, 6, none⟩))) (fun _ x' => x_fieldAddr fld_37_4 rfl e490 rfl) ?_
     refine qv (.slice pa.A a.reads.length pa.n) (fun _ x' => x_load rfl rfl (((((((((b2.ext x29).ext x323).ext x337).ext x475).ext x477).ext x479).ext x489).ext x').one one_34 rfl)) ?_
     refine qv (iJ (a.reads.length : Int)) (fun _ x' => x_len_slice sl_34 rfl rfl) ?_
     refine qv (.bool true) (fun _ x' => yb (x_lss rfl rfl rfl) (decide_eq_true (by omega))) ?_
     refine q_nil (fun w502 x503 => t_norm (c_true rfl (c_skip (t_norm (c_seq (c_block (c_seq (c_seq (c_draw mixed (by kernel_rfl) (qv (.pointer (some (⟨w.heap.size, 6, none⟩))) (fun _ x' => x_fieldAddr fld_37_4 rfl e490 rfl) ?_))))))))))
     refine qv (.slice pa.A a.reads.length pa.n) (fun _ x' => x_load rfl rfl ((((((((((b2.ext x29).ext x323).ext x337).ext x475).ext x477).ext x479).ext x489).ext x503).ext x').one one_34 rfl)) ?_
     refine qv (iJ (k480 : Int)) (fun _ x' => x_move rfl e492) ?_
     refine qv (.pointer (some (ad496.add (k480 * 3)))) (fun _ x' => x_indexAddr sl_34 rfl rfl eA498 rfl (by omega) (by omega) rfl) ?_
     refine qv (.pointer (some ((ad496.add (k480 * 3)).add 1))) (fun _ x' => x_fieldAddr fld_78_1 rfl rfl rfl) ?_
     refine qv (.agg #[iJ y494.ver.time, iJ y494.ver.client]) (fun _ x' => x_load rfl rfl (((((((((((hE500.ext x3).ext x29).ext x323).ext x337).ext x475).ext x477).ext x479).ext x489).ext x503).ext x').agg (vs := [iJ y494.ver.time, iJ y494.ver.client]) agg_33_2 1 rfl rfl)) ?_
     refine q_callb (b := rightStp y494.ver) (vs := #[.agg #[iJ y494.ver.time, iJ y494.ver.client]]) fn_59 rfl rfl rfl (args1 rfl) (fun _ x' => D_rightStp _ y494.ver) (fun c504 => ?_) (fun c504 => ?_)
     ·refine qv (.bool false) (fun _ x' => x_not (b := true) rfl rfl) ?_
      refine qv (.bool false) (fun _ x' => x_move rfl rfl) ?_
      refine qv (.pointer (some (⟨w.heap.size, 6, none⟩))) (fun _ x' => x_fieldAddr fld_37_4 rfl e490 rfl) ?_
      refine qv (.slice pa.A a.reads.length pa.n) (fun _ x' => x_load rfl rfl ((((((((((b2.ext x29).ext x323).ext x337).ext x475).ext x477).ext x479).ext x489).ext x503).ext x').one one_34 rfl)) ?_
      refine qv (iJ (k480 : Int)) (fun _ x' => x_move rfl e492) ?_
      refine qv (.pointer (some (ad496.add (k480 * 3)))) (fun _ x' => x_indexAddr sl_34 rfl rfl eA498 rfl (by omega) (by omega) rfl) ?_
      refine qv (.pointer (some ((ad496.add (k480 * 3)).add 1))) (fun _ x' => x_fieldAddr fld_78_1 rfl rfl rfl) ?_
      refine qv (.agg #[iJ y494.ver.time, iJ y494.ver.client]) (fun _ x' => x_load rfl rfl (((((((((((hE500.ext x3).ext x29).ext x323).ext x337).ext x475).ext x477).ext x479).ext x489).ext x503).ext x').agg (vs := [iJ y494.ver.time, iJ y494.ver.client]) agg_33_2 1 rfl rfl)) ?_
      refine qv (.pointer (some (⟨w.heap.size, 3, none⟩))) (fun _ x' => x_fieldAddr fld_37_2 rfl e490 rfl) ?_
      refine qv (.agg #[iJ a.stp.time, iJ a.stp.client]) (fun _ x' => x_load rfl rfl ((((((((((b2.ext x29).ext x323).ext x337).ext x475).ext x477).ext x479).ext x489).ext x503).ext x').agg (vs := [iJ a.stp.time, iJ a.stp.client]) agg_33_2 rfl)) ?_
      refine q_callb (b := decide (cmpStp y494.ver a.stp < 0)) (vs := #[.agg #[iJ y494.ver.time, iJ y494.ver.client], .agg #[iJ a.stp.time, iJ a.stp.client]]) fn_60 rfl rfl rfl (args2 rfl rfl) (fun _ x' => D_before _ y494.ver a.stp) (fun c505 => ?_) (fun c505 => ?_)
      ·refine qv (.bool false) (fun _ x' => x_not (b := true) rfl rfl) ?_
       refine qv (.bool false) (fun _ x' => x_pick_f rfl rfl rfl) ?_
       refine q_nil (fun w506 x507 => t_norm (c_false rfl (c_skip (t_norm (c_plain (pv (.slice A483 k480 c484) (x_move rfl e491) ?_))))))
       refine pv (.pointer (some (⟨w.heap.size, 6, none⟩))) (x_fieldAddr fld_37_4 rfl e490 rfl) ?_
       refine pv (.slice pa.A a.reads.length pa.n) (x_load rfl rfl ((((((((((b2.ext x29).ext x323).ext x337).ext x475).ext x477).ext x479).ext x489).ext x503).ext x507).one one_34 rfl)) ?_
       refine pv (iJ (k480 : Int)) (x_move rfl e492) ?_
       refine pv (.pointer (some (ad496.add (k480 * 3)))) (x_indexAddr sl_34 rfl rfl eA498 rfl (by omega) (by omega) rfl) ?_
       refine pv (.pointer (some (ad496.add (k480 * 3)))) (x_fieldAddr fld_78_0 rfl rfl rfl) ?_
       refine pv (.string y494.key) (x_load rfl rfl (((((((((((hE500.ext x3).ext x29).ext x323).ext x337).ext x475).ext x477).ext x479).ext x489).ext x503).ext x507).one one_9 0 rfl rfl)) ?_
       refine p_buildSlice (cs := [.string y494.key]) el_104 rfl rfl rfl (parts1 rfl) (by decide) (by decide) (fill_ok [.string y494.key] [.string y494.key] rfl rfl) (fun w508 b509 x510 z511 => ?_)
       refine p_appendK (B := w478.heap.size) (k := k480) (m := 1) (cs := (((a.reads.map (·.key)).take k480).flatMap fStr)) (news := [.string y494.key]) (ad := ⟨w506.heap.size, 0, none⟩) el_104 rfl rfl rfl rfl (own_ext ho485 ((x503.trans x507).trans x510)) rfl rfl b509.put rfl (by omega) (by omega) (((x489.trans x503).trans x507).trans x510).size (fun A515 c516 w512 o513 kp514 h517 h518 => ?_)
       refine pv (.slice A515 (k480 + 1) c516) (x_assign rfl rfl) ?_
       refine p_nil (b_norm (t_norm (c_quiet (qv (iJ (k480 : Int)) (fun _ x' => x_move rfl e492) ?_))))
       refine qv (iJ ((k480 : Int) + 1)) (fun _ x' => x_add rfl rfl rfl (wrap_of (by omega) (by omega))) ?_
       refine qv (iJ ((k480 : Int) + 1)) (fun _ x' => x_assign rfl rfl) ?_
       exact q_nil (fun w519 x520 => t_norm (⟨_, rfl, ⟨k480 + 1, A515, c516, by omega, all_step (p := oldRd a) hi482 hx495 (by simp_all [oldRd]), (by rw [← flat_step (map_of (g := fun z => z.key) hx495)]; exact (own_ext o513 x520)), h517, h518, e490, rfl, rfl, (((((x489.trans x503).trans x507).trans x510).below (Nat.le_refl _) kp514.below).trans x520)⟩, meas_up e492 hl493⟩))
      refine qv (.bool true) (fun _ x' => x_not (b := false) rfl rfl) ?_
      refine qv (.bool true) (fun _ x' => x_pick_f rfl rfl rfl) ?_
      refine q_nil (fun w521 x522 => t_norm (c_true rfl (c_seq (c_quiet (qv (.bool false) (fun _ x' => x_assign rfl rfl) ?_)))))
      exact q_nil (fun w523 x524 => t_norm (c_ret (t_ret (b_ret (t_ret (t_ret (b_ret (t_ret (c_done rfl rfl (Ret.b ((rightCmd_reads (by simpa using c5) (all_fail (p := oldRd a) hx495 (by simp only [oldRd]; simp_all))).symm) ((((((((((x3.trans x29).trans x323).trans x337).trans x475).trans x477).trans x479).trans x489).trans x503).trans x522).trans x524)))))))))))
     refine qv (.bool true) (fun _ x' => x_not (b := false) rfl rfl) ?_
     refine qv (.bool true) (fun _ x' => x_move rfl rfl) ?_
     refine qk rfl rfl (qk rfl rfl (qk rfl rfl (qk rfl rfl (qk rfl rfl (qk rfl rfl (qk rfl rfl (qk rfl rfl (qk rfl rfl (qk rfl rfl (qv (.bool true) (fun _ x' => x_pick_t rfl rfl rfl) ?_))))))))))
     refine q_nil (fun w525 x526 => t_norm (c_true rfl (c_seq (c_quiet (qv (.bool false) (fun _ x' => x_assign rfl rfl) ?_)))))
     exact q_nil (fun w527 x528 => t_norm (c_ret (t_ret (b_ret (t_ret (t_ret (b_ret (t_ret (c_done rfl rfl (Ret.b ((rightCmd_reads (by simpa using c5) (all_fail (p := oldRd a) hx495 (by simp only [oldRd]; simp_all))).symm) ((((((((((x3.trans x29).trans x323).trans x337).trans x475).trans x477).trans x479).trans x489).trans x503).trans x526).trans x528)))))))))))
    have hr529 := own_lies (d := kStr) (xs := a.reads.map (·.key)) (by rw [show (a.reads.map (·.key)) = (a.reads.map (·.key)).take k480 from by rw [List.take_of_length_le (by simp; omega)]]; exact ho485) (by simp; omega) (fun _ => rfl) (fun _ => rfl)
    have he530 : k480 = (a.reads.map (·.key)).length := by simp; omega
    refine c_seq (c_seq (c_quiet (qv (iJ (k480 : Int)) (fun _ x' => x_move rfl e492) ?_)))
    refine qv (.pointer (some (⟨w.heap.size, 6, none⟩))) (fun _ x' => x_fieldAddr fld_37_4 rfl e490 rfl) ?_
    refine qv (.slice pa.A a.reads.length pa.n) (fun _ x' => x_load rfl rfl (((((((((b2.ext x29).ext x323).ext x337).ext x475).ext x477).ext x479).ext x489).ext x').one one_34 rfl)) ?_
    refine qv (iJ (a.reads.length : Int)) (fun _ x' => x_len_slice sl_34 rfl rfl) ?_
    refine qv (.bool false) (fun _ x' => yb (x_lss rfl rfl rfl) (decide_eq_false (by omega))) ?_
    refine q_nil (fun w531 x532 => t_norm (c_false rfl (c_exit (t_exit (t_exit (b_exit (t_norm (c_seq (c_quiet (qv (.slice none 0 0) (fun _ x' => x_assign rfl rfl) ?_))))))))))
    refine q_nil (fun w533 x534 => t_norm (c_seq (c_seq (c_quiet (qv (iJ 0) (fun _ x' => x_assign rfl rfl) ?_)))))
    refine q_nil (fun w535 x536 => t_norm (c_block (c_loop (fun ρ w545 => ∃ k537 : Nat, ∃ A540 : Option Addr, ∃ c541 : Nat, k537 ≤ a.writes.length ∧ (a.writes.take k537).all (fun x : Wr => decide (x.val.size ≤ 8)) = true ∧ World.ownsRow w545 w535.heap.size 9 1 (.slice A540 k537 c541) k537 (((a.writes.map (·.key)).take k537).flatMap fStr) ∧ k537 ≤ c541 ∧ c541 ≤ 9223372036854775807 ∧ ρ 1 = pJ w.heap.size ∧ ρ 3 = .slice A483 k480 c484 ∧ ρ 5 = .slice A540 k537 c541 ∧ ρ 6 = iJ (k537 : Int) ∧ Ext w535 w545) (fun ρ _ => a.writes.length - (intOf (ρ 6)).toNat) ⟨0, none, 0, Nat.zero_le _, rfl, own_nil _ _ _ _, Nat.le_refl _, Nat.zero_le _, e490, e491, rfl, rfl, Ext.refl _⟩ ?_)))
    rintro ρ w545 ⟨k537, A540, c541, hk538, hi539, ho542, h543, h544, e547, e548, e549, e550, x546⟩
    by_cases hl551 : k537 < a.writes.length
    ·obtain ⟨y552, hx553⟩ := some_of (l := a.writes) (k := k537) (by omega)
     obtain ⟨ad554, cs555, eA556, hK557, hE558⟩ := ha.writes k537 y552 hx553
     have hK557' : cs555 = [.string y552.key, .string y552.val] := hK557
     subst hK557'
     refine c_seq (c_seq (c_quiet (qv (iJ (k537 : Int)) (fun _ x' => x_move rfl e550) ?_)))
     refine qv (.pointer (some (⟨w.heap.size, 7, none⟩))) (fun _ x' => x_fieldAddr fld_37_5 rfl e547 rfl) ?_
     refine qv (.slice pa.B a.writes.length pa.m) (fun _ x' => x_load rfl rfl (((((((((((((b2.ext x29).ext x323).ext x337).ext x475).ext x477).ext x479).ext x489).ext x532).ext x534).ext x536).ext x546).ext x').one one_35 rfl)) ?_
     refine qv (iJ (a.writes.length : Int)) (fun _ x' => x_len_slice sl_35 rfl rfl) ?_
     refine qv (.bool true) (fun _ x' => yb (x_lss rfl rfl rfl) (decide_eq_true (by omega))) ?_
     refine q_nil (fun w560 x561 => t_norm (c_true rfl (c_skip (t_norm (c_seq (c_block (c_seq (c_seq (c_quiet (qv (.pointer (some (⟨w.heap.size, 7, none⟩))) (fun _ x' => x_fieldAddr fld_37_5 rfl e547 rfl) ?_))))))))))
     refine qv (.slice pa.B a.writes.length pa.m) (fun _ x' => x_load rfl rfl ((((((((((((((b2.ext x29).ext x323).ext x337).ext x475).ext x477).ext x479).ext x489).ext x532).ext x534).ext x536).ext x546).ext x561).ext x').one one_35 rfl)) ?_
     refine qv (iJ (k537 : Int)) (fun _ x' => x_move rfl e550) ?_
     refine qv (.pointer (some (ad554.add (k537 * 2)))) (fun _ x' => x_indexAddr sl_35 rfl rfl eA556 rfl (by omega) (by omega) rfl) ?_
     refine qv (.pointer (some ((ad554.add (k537 * 2)).add 1))) (fun _ x' => x_fieldAddr fld_80_1 rfl rfl rfl) ?_
     refine qv (.string y552.val) (fun _ x' => x_load rfl rfl (((((((((((((((hE558.ext x3).ext x29).ext x323).ext x337).ext x475).ext x477).ext x479).ext x489).ext x532).ext x534).ext x536).ext x546).ext x561).ext x').one one_9 1 rfl rfl)) ?_
     refine qv (iJ (y552.val.size : Int)) (fun _ x' => x_len_string str_9 rfl rfl) ?_
     refine q_bool (b := decide ((y552.val.size : Int) > 8)) rfl rfl (fun _ x' => x_gtr rfl rfl rfl) (fun c562 => ?_) (fun c562 => ?_)
     ·refine q_nil (fun w563 x564 => t_norm (c_true rfl (c_seq (c_quiet (qv (.bool false) (fun _ x' => x_assign rfl rfl) ?_)))))
      exact q_nil (fun w565 x566 => t_norm (c_ret (t_ret (b_ret (t_ret (t_ret (b_ret (t_ret (c_done rfl rfl (Ret.b ((rightCmd_writes (by simpa using c5) (all_fail (p := fun x : Wr => decide (x.val.size ≤ 8)) hx553 (by simp_all <;> omega))).symm) ((((((((((((((x3.trans x29).trans x323).trans x337).trans x475).trans x477).trans x479).trans x489).trans x532).trans x534).trans x536).trans x546).trans x561).trans x564).trans x566)))))))))))
     refine q_nil (fun w567 x568 => t_norm (c_false rfl (c_skip (t_norm (c_plain (pv (.slice A540 k537 c541) (x_move rfl e549) ?_))))))
     refine pv (.pointer (some (⟨w.heap.size, 7, none⟩))) (x_fieldAddr fld_37_5 rfl e547 rfl) ?_
     refine pv (.slice pa.B a.writes.length pa.m) (x_load rfl rfl ((((((((((((((b2.ext x29).ext x323).ext x337).ext x475).ext x477).ext x479).ext x489).ext x532).ext x534).ext x536).ext x546).ext x561).ext x568).one one_35 rfl)) ?_
     refine pv (iJ (k537 : Int)) (x_move rfl e550) ?_
     refine pv (.pointer (some (ad554.add (k537 * 2)))) (x_indexAddr sl_35 rfl rfl eA556 rfl (by omega) (by omega) rfl) ?_
     refine pv (.pointer (some (ad554.add (k537 * 2)))) (x_fieldAddr fld_80_0 rfl rfl rfl) ?_
     refine pv (.string y552.key) (x_load rfl rfl (((((((((((((((hE558.ext x3).ext x29).ext x323).ext x337).ext x475).ext x477).ext x479).ext x489).ext x532).ext x534).ext x536).ext x546).ext x561).ext x568).one one_9 0 rfl rfl)) ?_
     refine p_buildSlice (cs := [.string y552.key]) el_104 rfl rfl rfl (parts1 rfl) (by decide) (by decide) (fill_ok [.string y552.key] [.string y552.key] rfl rfl) (fun w569 b570 x571 z572 => ?_)
     refine p_appendK (B := w535.heap.size) (k := k537) (m := 1) (cs := (((a.writes.map (·.key)).take k537).flatMap fStr)) (news := [.string y552.key]) (ad := ⟨w567.heap.size, 0, none⟩) el_104 rfl rfl rfl rfl (own_ext ho542 ((x561.trans x568).trans x571)) rfl rfl b570.put rfl (by omega) (by omega) (((x546.trans x561).trans x568).trans x571).size (fun A576 c577 w573 o574 kp575 h578 h579 => ?_)
     refine pv (.slice A576 (k537 + 1) c577) (x_assign rfl rfl) ?_
     refine p_nil (b_norm (t_norm (c_quiet (qv (iJ (k537 : Int)) (fun _ x' => x_move rfl e550) ?_))))
     refine qv (iJ ((k537 : Int) + 1)) (fun _ x' => x_add rfl rfl rfl (wrap_of (by omega) (by omega))) ?_
     refine qv (iJ ((k537 : Int) + 1)) (fun _ x' => x_assign rfl rfl) ?_
     exact q_nil (fun w580 x581 => t_norm (⟨_, rfl, ⟨k537 + 1, A576, c577, by omega, all_step (p := fun x : Wr => decide (x.val.size ≤ 8)) hi539 hx553 (by simp_all <;> omega), (by rw [← flat_step (map_of (g := fun z => z.key) hx553)]; exact (own_ext o574 x581)), h578, h579, e547, e548, rfl, rfl, (((((x546.trans x561).trans x568).trans x571).below (Nat.le_refl _) kp575.below).trans x581)⟩, meas_up e550 hl551⟩))
    have hr582 := own_lies (d := kStr) (xs := a.writes.map (·.key)) (by rw [show (a.writes.map (·.key)) = (a.writes.map (·.key)).take k537 from by rw [List.take_of_length_le (by simp; omega)]]; exact ho542) (by simp; omega) (fun _ => rfl) (fun _ => rfl)
    have he583 : k537 = (a.writes.map (·.key)).length := by simp; omega
    refine c_seq (c_seq (c_quiet (qv (iJ (k537 : Int)) (fun _ x' => x_move rfl e550) ?_)))
    refine qv (.pointer (some (⟨w.heap.size, 7, none⟩))) (fun _ x' => x_fieldAddr fld_37_5 rfl e547 rfl) ?_
    refine qv (.slice pa.B a.writes.length pa.m) (fun _ x' => x_load rfl rfl (((((((((((((b2.ext x29).ext x323).ext x337).ext x475).ext x477).ext x479).ext x489).ext x532).ext x534).ext x536).ext x546).ext x').one one_35 rfl)) ?_
    refine qv (iJ (a.writes.length : Int)) (fun _ x' => x_len_slice sl_35 rfl rfl) ?_
    refine qv (.bool false) (fun _ x' => yb (x_lss rfl rfl rfl) (decide_eq_false (by omega))) ?_
    refine q_nil (fun w584 x585 => t_norm (c_false rfl (c_exit (t_exit (t_exit (b_exit (t_norm (c_seq (c_quiet (qv (.slice A483 k480 c484) (fun _ x' => x_move rfl e548) ?_))))))))))
    refine q_callb (b := rightKeys (a.reads.map (·.key))) (vs := #[.slice A483 k480 c484]) fn_61 rfl rfl rfl (args1 rfl) (fun _ x' => D_rightKeys _ _ _ _ (a.reads.map (·.key)) he530 ((((((hr529.ext x532).ext x534).ext x536).ext x546).ext x585).ext x') (by simp; omega)) (fun c586 => ?_) (fun c586 => ?_)
    ·refine qv (.bool true) (fun _ x' => x_move rfl rfl) ?_
     refine qv (.slice A540 k537 c541) (fun _ x' => x_move rfl e549) ?_
     refine q_callb (b := rightKeys (a.writes.map (·.key))) (vs := #[.slice A540 k537 c541]) fn_61 rfl rfl rfl (args1 rfl) (fun _ x' => D_rightKeys _ _ _ _ (a.writes.map (·.key)) he583 ((hr582.ext x585).ext x') (by simp; omega)) (fun c587 => ?_) (fun c587 => ?_)
     ·refine qv (.bool true) (fun _ x' => x_pick_t rfl rfl rfl) ?_
      refine qv (.bool true) (fun _ x' => x_assign rfl rfl) ?_
      exact q_nil (fun w588 x589 => t_norm (c_ret (c_done rfl rfl (Ret.b (rightCmd_end (by simpa using c5) (all_end hi482 hl493) (all_end hi539 hl551) c586 (fun _ => c587) (fun h => by cases h) (by clear ha; simp only [empty_len] at *; simp_all [-List.length_eq_zero_iff] <;> first | omega | (intros; omega) | (intros; simp_all [-List.length_eq_zero_iff] <;> omega))) (((((((((((((x3.trans x29).trans x323).trans x337).trans x475).trans x477).trans x479).trans x489).trans x532).trans x534).trans x536).trans x546).trans x585).trans x589)))))
     refine qv (.bool false) (fun _ x' => x_pick_t rfl rfl rfl) ?_
     refine qv (.bool false) (fun _ x' => x_assign rfl rfl) ?_
     exact q_nil (fun w590 x591 => t_norm (c_ret (c_done rfl rfl (Ret.b (rightCmd_end (by simpa using c5) (all_end hi482 hl493) (all_end hi539 hl551) c586 (fun _ => c587) (fun h => by cases h) (by clear ha; simp only [empty_len] at *; simp_all [-List.length_eq_zero_iff] <;> first | omega | (intros; omega) | (intros; simp_all [-List.length_eq_zero_iff] <;> omega))) (((((((((((((x3.trans x29).trans x323).trans x337).trans x475).trans x477).trans x479).trans x489).trans x532).trans x534).trans x536).trans x546).trans x585).trans x591)))))
    refine qv (.bool false) (fun _ x' => x_move rfl rfl) ?_
    refine qk rfl rfl (qk rfl rfl (qv (.bool false) (fun _ x' => x_pick_f rfl rfl rfl) ?_))
    refine qv (.bool false) (fun _ x' => x_assign rfl rfl) ?_
    exact q_nil (fun w592 x593 => t_norm (c_ret (c_done rfl rfl (Ret.b (rightCmd_end (by simpa using c5) (all_end hi482 hl493) (all_end hi539 hl551) c586 (fun h => by cases h) (fun _ => rfl) (by clear ha; simp only [empty_len] at *; simp_all [-List.length_eq_zero_iff] <;> first | omega | (intros; omega) | (intros; simp_all [-List.length_eq_zero_iff] <;> omega))) (((((((((((((x3.trans x29).trans x323).trans x337).trans x475).trans x477).trans x479).trans x489).trans x532).trans x534).trans x536).trans x546).trans x585).trans x593)))))
   refine qv (.bool true) (fun _ x' => x_not (b := false) rfl rfl) ?_
   refine qv (.bool true) (fun _ x' => x_pick_f rfl rfl rfl) ?_
   refine qv (.bool true) (fun _ x' => x_move rfl rfl) ?_
   refine qk rfl rfl (qk rfl rfl (qk rfl rfl (qk rfl rfl (qv (.bool true) (fun _ x' => x_pick_t rfl rfl rfl) ?_))))
   refine qv (.bool true) (fun _ x' => x_move rfl rfl) ?_
   refine qk rfl rfl (qk rfl rfl (qk rfl rfl (qk rfl rfl (qk rfl rfl (qk rfl rfl (qk rfl rfl (qv (.bool true) (fun _ x' => x_pick_t rfl rfl rfl) ?_)))))))
   refine q_nil (fun w594 x595 => t_norm (c_true rfl (c_seq (c_quiet (qv (.bool false) (fun _ x' => x_assign rfl rfl) ?_)))))
   exact q_nil (fun w596 x597 => t_norm (c_ret (t_ret (c_done rfl rfl (Ret.b ((rightCmd_head (by simpa using c5) (by clear ha; simp only [empty_len] at *; simp_all [-List.length_eq_zero_iff] <;> first | omega | (intros; omega) | (intros; simp_all [-List.length_eq_zero_iff] <;> omega))).symm) ((((x3.trans x29).trans x323).trans x595).trans x597))))))
  refine qv (.bool true) (fun _ x' => x_not (b := false) rfl rfl) ?_
  refine qv (.bool true) (fun _ x' => x_move rfl rfl) ?_
  refine qk rfl rfl (qk rfl rfl (qk rfl rfl (qk rfl rfl (qv (.bool true) (fun _ x' => x_pick_t rfl rfl rfl) ?_))))
  refine qv (.bool true) (fun _ x' => x_move rfl rfl) ?_
  refine qk rfl rfl (qk rfl rfl (qk rfl rfl (qk rfl rfl (qv (.bool true) (fun _ x' => x_pick_t rfl rfl rfl) ?_))))
  refine qv (.bool true) (fun _ x' => x_move rfl rfl) ?_
  refine qk rfl rfl (qk rfl rfl (qk rfl rfl (qk rfl rfl (qk rfl rfl (qk rfl rfl (qk rfl rfl (qv (.bool true) (fun _ x' => x_pick_t rfl rfl rfl) ?_)))))))
  refine q_nil (fun w598 x599 => t_norm (c_true rfl (c_seq (c_quiet (qv (.bool false) (fun _ x' => x_assign rfl rfl) ?_)))))
  exact q_nil (fun w600 x601 => t_norm (c_ret (t_ret (c_done rfl rfl (Ret.b ((rightCmd_head (by simpa using c5) (by clear ha; simp only [empty_len] at *; simp_all [-List.length_eq_zero_iff] <;> first | omega | (intros; omega) | (intros; simp_all [-List.length_eq_zero_iff] <;> omega))).symm) ((((x3.trans x29).trans x323).trans x599).trans x601))))))
 refine qv (.bool false) (fun _ x' => x_move rfl rfl) ?_
 refine qk rfl rfl (qk rfl rfl (qk rfl rfl (qv (.bool false) (fun _ x' => x_pick_f rfl rfl rfl) ?_)))
 refine qv (.bool false) (fun _ x' => x_move rfl rfl) ?_
 refine qv (pJ w.heap.size) (fun _ x' => x_fieldAddr fld_37_0 rfl rfl rfl) ?_
 refine qv (iJ a.kind) (fun _ x' => x_load rfl rfl (((b2.ext x29).ext x').one one_3 rfl)) ?_
 refine q_bool (b := decide (a.kind = 1)) rfl rfl (fun _ x' => x_eql rfl rfl rfl) (fun c602 => ?_) (fun c602 => ?_)
 ·refine qv (.bool true) (fun _ x' => x_move rfl rfl) ?_
  refine qv (.pointer (some (⟨w.heap.size, 8, none⟩))) (fun _ x' => x_fieldAddr fld_37_6 rfl rfl rfl) ?_
  refine q_bool (b := a.commit) rfl rfl (fun _ x' => x_load rfl rfl (((b2.ext x29).ext x').one one_4 rfl)) (fun c603 => ?_) (fun c603 => ?_)
  ·refine qv (.bool true) (fun _ x' => x_pick_t rfl rfl rfl) ?_
   refine qv (.bool true) (fun _ x' => x_pick_f rfl rfl rfl) ?_
   refine q_nil (fun w604 x605 => t_norm (c_true rfl (c_seq (c_quiet (qv (.bool false) (fun _ x' => x_assign rfl rfl) ?_)))))
   exact q_nil (fun w606 x607 => t_norm (c_ret (t_ret (c_done rfl rfl (Ret.b ((rightCmd_head (by simpa using c5) (by clear ha; simp only [empty_len] at *; simp_all [-List.length_eq_zero_iff] <;> first | omega | (intros; omega) | (intros; simp_all [-List.length_eq_zero_iff] <;> omega))).symm) (((x3.trans x29).trans x605).trans x607))))))
  refine qv (.bool false) (fun _ x' => x_pick_t rfl rfl rfl) ?_
  refine qv (.bool false) (fun _ x' => x_pick_f rfl rfl rfl) ?_
  refine q_nil (fun w608 x609 => t_norm (c_false rfl (c_skip (t_norm (c_seq (c_seq (c_quiet (qv (.pointer (some (⟨w.heap.size, 1, none⟩))) (fun _ x' => x_fieldAddr fld_37_1 rfl rfl rfl) ?_))))))))
  refine qv (.agg #[iJ a.txn.client, iJ a.txn.number]) (fun _ x' => x_load rfl rfl ((((b2.ext x29).ext x609).ext x').agg (vs := [iJ a.txn.client, iJ a.txn.number]) agg_31_2 rfl)) ?_
  refine q_callb (b := rightTxn a.txn) (vs := #[.agg #[iJ a.txn.client, iJ a.txn.number]]) fn_58 rfl rfl rfl (args1 rfl) (fun _ x' => D_rightTxn _ a.txn) (fun c610 => ?_) (fun c610 => ?_)
  ·refine qv (.bool false) (fun _ x' => x_not (b := true) rfl rfl) ?_
   refine qv (.bool false) (fun _ x' => x_move rfl rfl) ?_
   refine qv (.pointer (some (⟨w.heap.size, 3, none⟩))) (fun _ x' => x_fieldAddr fld_37_2 rfl rfl rfl) ?_
   refine qv (.agg #[iJ a.stp.time, iJ a.stp.client]) (fun _ x' => x_load rfl rfl ((((b2.ext x29).ext x609).ext x').agg (vs := [iJ a.stp.time, iJ a.stp.client]) agg_33_2 rfl)) ?_
   refine q_callb (b := rightStp a.stp) (vs := #[.agg #[iJ a.stp.time, iJ a.stp.client]]) fn_59 rfl rfl rfl (args1 rfl) (fun _ x' => D_rightStp _ a.stp) (fun c611 => ?_) (fun c611 => ?_)
   ·refine qv (.bool false) (fun _ x' => x_not (b := true) rfl rfl) ?_
    refine qv (.bool false) (fun _ x' => x_pick_f rfl rfl rfl) ?_
    refine qv (.bool false) (fun _ x' => x_move rfl rfl) ?_
    refine qv (.pointer (some (⟨w.heap.size, 3, none⟩))) (fun _ x' => x_fieldAddr fld_37_2 rfl rfl rfl) ?_
    refine qv (.pointer (some (⟨w.heap.size, 3, none⟩))) (fun _ x' => x_fieldAddr fld_33_0 rfl rfl rfl) ?_
    refine qv (iJ a.stp.time) (fun _ x' => x_load rfl rfl ((((b2.ext x29).ext x609).ext x').one one_3 rfl)) ?_
    refine q_bool (b := decide (a.stp.time = 0)) rfl rfl (fun _ x' => x_eql rfl rfl rfl) (fun c612 => ?_) (fun c612 => ?_)
    ·refine qv (.bool true) (fun _ x' => x_pick_f rfl rfl rfl) ?_
     refine qv (.bool true) (fun _ x' => x_move rfl rfl) ?_
     refine qk rfl rfl (qk rfl rfl (qk rfl rfl (qk rfl rfl (qk rfl rfl (qk rfl rfl (qk rfl rfl (qv (.bool true) (fun _ x' => x_pick_t rfl rfl rfl) ?_)))))))
     refine q_nil (fun w613 x614 => t_norm (c_true rfl (c_seq (c_quiet (qv (.bool false) (fun _ x' => x_assign rfl rfl) ?_)))))
     exact q_nil (fun w615 x616 => t_norm (c_ret (t_ret (c_done rfl rfl (Ret.b ((rightCmd_head (by simpa using c5) (by clear ha; simp only [empty_len] at *; simp_all [-List.length_eq_zero_iff] <;> first | omega | (intros; omega) | (intros; simp_all [-List.length_eq_zero_iff] <;> omega))).symm) ((((x3.trans x29).trans x609).trans x614).trans x616))))))
    refine qv (.bool false) (fun _ x' => x_pick_f rfl rfl rfl) ?_
    refine qv (.bool false) (fun _ x' => x_move rfl rfl) ?_
    refine qv (.pointer (some (⟨w.heap.size, 3, none⟩))) (fun _ x' => x_fieldAddr fld_37_2 rfl rfl rfl) ?_
    refine qv (.pointer (some (⟨w.heap.size, 4, none⟩))) (fun _ x' => x_fieldAddr fld_33_1 rfl rfl rfl) ?_
    refine qv (iJ a.stp.client) (fun _ x' => x_load rfl rfl ((((b2.ext x29).ext x609).ext x').one one_3 rfl)) ?_
    refine qv (.pointer (some (⟨w.heap.size, 1, none⟩))) (fun _ x' => x_fieldAddr fld_37_1 rfl rfl rfl) ?_
    refine qv (.pointer (some (⟨w.heap.size, 1, none⟩))) (fun _ x' => x_fieldAddr fld_31_0 rfl rfl rfl) ?_
    refine qv (iJ a.txn.client) (fun _ x' => x_load rfl rfl ((((b2.ext x29).ext x609).ext x').one one_3 rfl)) ?_
    refine q_bool (b := decide (a.stp.client ≠ a.txn.client)) rfl rfl (fun _ x' => x_neq rfl rfl rfl) (fun c617 => ?_) (fun c617 => ?_)
    ·refine qv (.bool true) (fun _ x' => x_pick_f rfl rfl rfl) ?_
     refine q_nil (fun w618 x619 => t_norm (c_true rfl (c_seq (c_quiet (qv (.bool false) (fun _ x' => x_assign rfl rfl) ?_)))))
     exact q_nil (fun w620 x621 => t_norm (c_ret (t_ret (c_done rfl rfl (Ret.b ((rightCmd_head (by simpa using c5) (by clear ha; simp only [empty_len] at *; simp_all [-List.length_eq_zero_iff] <;> first | omega | (intros; omega) | (intros; simp_all [-List.length_eq_zero_iff] <;> omega))).symm) ((((x3.trans x29).trans x609).trans x619).trans x621))))))
    refine qv (.bool false) (fun _ x' => x_pick_f rfl rfl rfl) ?_
    refine q_nil (fun w622 x623 => t_norm (c_false rfl (c_skip (t_norm (c_seq (c_seq (c_quiet (qv (.pointer (some (⟨w.heap.size, 5, none⟩))) (fun _ x' => x_fieldAddr fld_37_3 rfl rfl rfl) ?_))))))))
    refine qv (iJ a.shards) (fun _ x' => x_load rfl rfl (((((b2.ext x29).ext x609).ext x623).ext x').one one_3 rfl)) ?_
    refine q_bool (b := decide (a.shards ≤ 0)) rfl rfl (fun _ x' => x_leq rfl rfl rfl) (fun c624 => ?_) (fun c624 => ?_)
    ·refine qv (.bool true) (fun _ x' => x_move rfl rfl) ?_
     refine qk rfl rfl (qk rfl rfl (qk rfl rfl (qv (.bool true) (fun _ x' => x_pick_t rfl rfl rfl) ?_)))
     refine qv (.bool true) (fun _ x' => x_move rfl rfl) ?_
     refine qk rfl rfl (qk rfl rfl (qk rfl rfl (qk rfl rfl (qk rfl rfl (qk rfl rfl (qk rfl rfl (qk rfl rfl (qk rfl rfl (qk rfl rfl (qv (.bool true) (fun _ x' => x_pick_t rfl rfl rfl) ?_))))))))))
     refine q_nil (fun w625 x626 => t_norm (c_true rfl (c_seq (c_quiet (qv (.bool false) (fun _ x' => x_assign rfl rfl) ?_)))))
     exact q_nil (fun w627 x628 => t_norm (c_ret (t_ret (c_done rfl rfl (Ret.b ((rightCmd_head (by simpa using c5) (by clear ha; simp only [empty_len] at *; simp_all [-List.length_eq_zero_iff] <;> first | omega | (intros; omega) | (intros; simp_all [-List.length_eq_zero_iff] <;> omega))).symm) (((((x3.trans x29).trans x609).trans x623).trans x626).trans x628))))))
    refine qv (.bool false) (fun _ x' => x_move rfl rfl) ?_
    refine qv (.pointer (some (⟨w.heap.size, 5, none⟩))) (fun _ x' => x_fieldAddr fld_37_3 rfl rfl rfl) ?_
    refine qv (iJ a.shards) (fun _ x' => x_load rfl rfl (((((b2.ext x29).ext x609).ext x623).ext x').one one_3 rfl)) ?_
    refine q_bool (b := decide (a.shards ≥ 16)) rfl rfl (fun _ x' => x_geq rfl rfl rfl) (fun c629 => ?_) (fun c629 => ?_)
    ·refine qv (.bool true) (fun _ x' => x_pick_f rfl rfl rfl) ?_
     refine qv (.bool true) (fun _ x' => x_move rfl rfl) ?_
     refine qk rfl rfl (qk rfl rfl (qk rfl rfl (qk rfl rfl (qk rfl rfl (qk rfl rfl (qk rfl rfl (qk rfl rfl (qk rfl rfl (qk rfl rfl (qv (.bool true) (fun _ x' => x_pick_t rfl rfl rfl) ?_))))))))))
     refine q_nil (fun w630 x631 => t_norm (c_true rfl (c_seq (c_quiet (qv (.bool false) (fun _ x' => x_assign rfl rfl) ?_)))))
     exact q_nil (fun w632 x633 => t_norm (c_ret (t_ret (c_done rfl rfl (Ret.b ((rightCmd_head (by simpa using c5) (by clear ha; simp only [empty_len] at *; simp_all [-List.length_eq_zero_iff] <;> first | omega | (intros; omega) | (intros; simp_all [-List.length_eq_zero_iff] <;> omega))).symm) (((((x3.trans x29).trans x609).trans x623).trans x631).trans x633))))))
    refine qv (.bool false) (fun _ x' => x_pick_f rfl rfl rfl) ?_
    refine qv (.bool false) (fun _ x' => x_move rfl rfl) ?_
    refine qv (.pointer (some (⟨w.heap.size, 6, none⟩))) (fun _ x' => x_fieldAddr fld_37_4 rfl rfl rfl) ?_
    refine qv (.slice pa.A a.reads.length pa.n) (fun _ x' => x_load rfl rfl (((((b2.ext x29).ext x609).ext x623).ext x').one one_34 rfl)) ?_
    refine qv (iJ (a.reads.length : Int)) (fun _ x' => x_len_slice sl_34 rfl rfl) ?_
    refine q_bool (b := decide ((a.reads.length : Int) = 0)) rfl rfl (fun _ x' => x_eql rfl rfl rfl) (fun c634 => ?_) (fun c634 => ?_)
    ·refine qv (.bool true) (fun _ x' => x_move rfl rfl) ?_
     refine qv (.pointer (some (⟨w.heap.size, 7, none⟩))) (fun _ x' => x_fieldAddr fld_37_5 rfl rfl rfl) ?_
     refine qv (.slice pa.B a.writes.length pa.m) (fun _ x' => x_load rfl rfl (((((b2.ext x29).ext x609).ext x623).ext x').one one_35 rfl)) ?_
     refine qv (iJ (a.writes.length : Int)) (fun _ x' => x_len_slice sl_35 rfl rfl) ?_
     refine q_bool (b := decide ((a.writes.length : Int) = 0)) rfl rfl (fun _ x' => x_eql rfl rfl rfl) (fun c635 => ?_) (fun c635 => ?_)
     ·refine qv (.bool true) (fun _ x' => x_pick_t rfl rfl rfl) ?_
      refine qv (.bool true) (fun _ x' => x_pick_f rfl rfl rfl) ?_
      refine q_nil (fun w636 x637 => t_norm (c_true rfl (c_seq (c_quiet (qv (.bool false) (fun _ x' => x_assign rfl rfl) ?_)))))
      exact q_nil (fun w638 x639 => t_norm (c_ret (t_ret (c_done rfl rfl (Ret.b ((rightCmd_head (by simpa using c5) (by clear ha; simp only [empty_len] at *; simp_all [-List.length_eq_zero_iff] <;> first | omega | (intros; omega) | (intros; simp_all [-List.length_eq_zero_iff] <;> omega))).symm) (((((x3.trans x29).trans x609).trans x623).trans x637).trans x639))))))
     refine qv (.bool false) (fun _ x' => x_pick_t rfl rfl rfl) ?_
     refine qv (.bool false) (fun _ x' => x_pick_f rfl rfl rfl) ?_
     refine q_nil (fun w640 x641 => t_norm (c_false rfl (c_skip (t_norm (c_seq (c_quiet (qv (.slice none 0 0) (fun _ x' => x_assign rfl rfl) ?_)))))))
     refine q_nil (fun w642 x643 => t_norm (c_seq (c_seq (c_quiet (qv (iJ 0) (fun _ x' => x_assign rfl rfl) ?_)))))
     refine q_nil (fun w644 x645 => t_norm (c_block (c_loop (fun ρ w654 => ∃ k646 : Nat, ∃ A649 : Option Addr, ∃ c650 : Nat, k646 ≤ a.reads.length ∧ (a.reads.take k646).all (oldRd a) = true ∧ World.ownsRow w654 w644.heap.size 9 1 (.slice A649 k646 c650) k646 (((a.reads.map (·.key)).take k646).flatMap fStr) ∧ k646 ≤ c650 ∧ c650 ≤ 9223372036854775807 ∧ ρ 1 = pJ w.heap.size ∧ ρ 3 = .slice A649 k646 c650 ∧ ρ 4 = iJ (k646 : Int) ∧ Ext w644 w654) (fun ρ _ => a.reads.length - (intOf (ρ 4)).toNat) ⟨0, none, 0, Nat.zero_le _, rfl, own_nil _ _ _ _, Nat.le_refl _, Nat.zero_le _, rfl, rfl, rfl, Ext.refl _⟩ ?_)))
     rintro ρ w654 ⟨k646, A649, c650, hk647, hi648, ho651, h652, h653, e656, e657, e658, x655⟩
     by_cases hl659 : k646 < a.reads.length
     ·obtain ⟨y660, hx661⟩ := some_of (l := a.reads) (k := k646) (by omega)
      obtain ⟨ad662, cs663, eA664, hK665, hE666⟩ := ha.reads k646 y660 hx661
      have hK665' : cs663 = [.string y660.key, iJ y660.ver.time, iJ y660.ver.client] := hK665
      subst hK665'
      refine c_seq (c_seq (c_quiet (qv (iJ (k646 : Int)) (fun _ x' => x_move rfl e658) ?_)))
      refine qv (.pointer (some (⟨w.heap.size, 6, none⟩))) (fun _ x' => x_fieldAddr fld_37_4 rfl e656 rfl) ?_
      refine qv (.slice pa.A a.reads.length pa.n) (fun _ x' => x_load rfl rfl (((((((((b2.ext x29).ext x609).ext x623).ext x641).ext x643).ext x645).ext x655).ext x').one one_34 rfl)) ?_
      refine qv (iJ (a.reads.length : Int)) (fun _ x' => x_len_slice sl_34 rfl rfl) ?_
      refine qv (.bool true) (fun _ x' => yb (x_lss rfl rfl rfl) (decide_eq_true (by omega))) ?_
      refine q_nil (fun w668 x669 => t_norm (c_true rfl (c_skip (t_norm (c_seq (c_block (c_seq (c_seq (c_draw mixed (by kernel_rfl) (qv (.pointer (some (⟨w.heap.size, 6, none⟩))) (fun _ x' => x_fieldAddr fld_37_4 rfl e656 rfl) ?_))))))))))
      refine qv (.slice pa.A a.reads.length pa.n) (fun _ x' => x_load rfl rfl ((((((((((b2.ext x29).ext x609).ext x623).ext x641).ext x643).ext x645).ext x655).ext x669).ext x').one one_34 rfl)) ?_
      refine qv (iJ (k646 : Int)) (fun _ x' => x_move rfl e658) ?_
      refine qv (.pointer (some (ad662.add (k646 * 3)))) (fun _ x' => x_indexAddr sl_34 rfl rfl eA664 rfl (by omega) (by omega) rfl) ?_
      refine qv (.pointer (some ((ad662.add (k646 * 3)).add 1))) (fun _ x' => x_fieldAddr fld_78_1 rfl rfl rfl) ?_
      refine qv (.agg #[iJ y660.ver.time, iJ y660.ver.client]) (fun _ x' => x_load rfl rfl (((((((((((hE666.ext x3).ext x29).ext x609).ext x623).ext x641).ext x643).ext x645).ext x655).ext x669).ext x').agg (vs := [iJ y660.ver.time, iJ y660.ver.client]) agg_33_2 1 rfl rfl)) ?_
      refine q_callb (b := rightStp y660.ver) (vs := #[.agg #[iJ y660.ver.time, iJ y660.ver.client]]) fn_59 rfl rfl rfl (args1 rfl) (fun _ x' => D_rightStp _ y660.ver) (fun c670 => ?_) (fun c670 => ?_)
      ·refine qv (.bool false) (fun _ x' => x_not (b := true) rfl rfl) ?_
       refine qv (.bool false) (fun _ x' => x_move rfl rfl) ?_
       refine qv (.pointer (some (⟨w.heap.size, 6, none⟩))) (fun _ x' => x_fieldAddr fld_37_4 rfl e656 rfl) ?_
       refine qv (.slice pa.A a.reads.length pa.n) (fun _ x' => x_load rfl rfl ((((((((((b2.ext x29).ext x609).ext x623).ext x641).ext x643).ext x645).ext x655).ext x669).ext x').one one_34 rfl)) ?_
       refine qv (iJ (k646 : Int)) (fun _ x' => x_move rfl e658) ?_
       refine qv (.pointer (some (ad662.add (k646 * 3)))) (fun _ x' => x_indexAddr sl_34 rfl rfl eA664 rfl (by omega) (by omega) rfl) ?_
       refine qv (.pointer (some ((ad662.add (k646 * 3)).add 1))) (fun _ x' => x_fieldAddr fld_78_1 rfl rfl rfl) ?_
       refine qv (.agg #[iJ y660.ver.time, iJ y660.ver.client]) (fun _ x' => x_load rfl rfl (((((((((((hE666.ext x3).ext x29).ext x609).ext x623).ext x641).ext x643).ext x645).ext x655).ext x669).ext x').agg (vs := [iJ y660.ver.time, iJ y660.ver.client]) agg_33_2 1 rfl rfl)) ?_
       refine qv (.pointer (some (⟨w.heap.size, 3, none⟩))) (fun _ x' => x_fieldAddr fld_37_2 rfl e656 rfl) ?_
       refine qv (.agg #[iJ a.stp.time, iJ a.stp.client]) (fun _ x' => x_load rfl rfl ((((((((((b2.ext x29).ext x609).ext x623).ext x641).ext x643).ext x645).ext x655).ext x669).ext x').agg (vs := [iJ a.stp.time, iJ a.stp.client]) agg_33_2 rfl)) ?_
       refine q_callb (b := decide (cmpStp y660.ver a.stp < 0)) (vs := #[.agg #[iJ y660.ver.time, iJ y660.ver.client], .agg #[iJ a.stp.time, iJ a.stp.client]]) fn_60 rfl rfl rfl (args2 rfl rfl) (fun _ x' => D_before _ y660.ver a.stp) (fun c671 => ?_) (fun c671 => ?_)
       ·refine qv (.bool false) (fun _ x' => x_not (b := true) rfl rfl) ?_
        refine qv (.bool false) (fun _ x' => x_pick_f rfl rfl rfl) ?_
        refine q_nil (fun w672 x673 => t_norm (c_false rfl (c_skip (t_norm (c_plain (pv (.slice A649 k646 c650) (x_move rfl e657) ?_))))))
        refine pv (.pointer (some (⟨w.heap.size, 6, none⟩))) (x_fieldAddr fld_37_4 rfl e656 rfl) ?_
        refine pv (.slice pa.A a.reads.length pa.n) (x_load rfl rfl ((((((((((b2.ext x29).ext x609).ext x623).ext x641).ext x643).ext x645).ext x655).ext x669).ext x673).one one_34 rfl)) ?_
        refine pv (iJ (k646 : Int)) (x_move rfl e658) ?_
        refine pv (.pointer (some (ad662.add (k646 * 3)))) (x_indexAddr sl_34 rfl rfl eA664 rfl (by omega) (by omega) rfl) ?_
        refine pv (.pointer (some (ad662.add (k646 * 3)))) (x_fieldAddr fld_78_0 rfl rfl rfl) ?_
        refine pv (.string y660.key) (x_load rfl rfl (((((((((((hE666.ext x3).ext x29).ext x609).ext x623).ext x641).ext x643).ext x645).ext x655).ext x669).ext x673).one one_9 0 rfl rfl)) ?_
        refine p_buildSlice (cs := [.string y660.key]) el_104 rfl rfl rfl (parts1 rfl) (by decide) (by decide) (fill_ok [.string y660.key] [.string y660.key] rfl rfl) (fun w674 b675 x676 z677 => ?_)
        refine p_appendK (B := w644.heap.size) (k := k646) (m := 1) (cs := (((a.reads.map (·.key)).take k646).flatMap fStr)) (news := [.string y660.key]) (ad := ⟨w672.heap.size, 0, none⟩) el_104 rfl rfl rfl rfl (own_ext ho651 ((x669.trans x673).trans x676)) rfl rfl b675.put rfl (by omega) (by omega) (((x655.trans x669).trans x673).trans x676).size (fun A681 c682 w678 o679 kp680 h683 h684 => ?_)
        refine pv (.slice A681 (k646 + 1) c682) (x_assign rfl rfl) ?_
        refine p_nil (b_norm (t_norm (c_quiet (qv (iJ (k646 : Int)) (fun _ x' => x_move rfl e658) ?_))))
        refine qv (iJ ((k646 : Int) + 1)) (fun _ x' => x_add rfl rfl rfl (wrap_of (by omega) (by omega))) ?_
        refine qv (iJ ((k646 : Int) + 1)) (fun _ x' => x_assign rfl rfl) ?_
        exact q_nil (fun w685 x686 => t_norm (⟨_, rfl, ⟨k646 + 1, A681, c682, by omega, all_step (p := oldRd a) hi648 hx661 (by simp_all [oldRd]), (by rw [← flat_step (map_of (g := fun z => z.key) hx661)]; exact (own_ext o679 x686)), h683, h684, e656, rfl, rfl, (((((x655.trans x669).trans x673).trans x676).below (Nat.le_refl _) kp680.below).trans x686)⟩, meas_up e658 hl659⟩))
       refine qv (.bool true) (fun _ x' => x_not (b := false) rfl rfl) ?_
       refine qv (.bool true) (fun _ x' => x_pick_f rfl rfl rfl) ?_
       refine q_nil (fun w687 x688 => t_norm (c_true rfl (c_seq (c_quiet (qv (.bool false) (fun _ x' => x_assign rfl rfl) ?_)))))
       exact q_nil (fun w689 x690 => t_norm (c_ret (t_ret (b_ret (t_ret (t_ret (b_ret (t_ret (c_done rfl rfl (Ret.b ((rightCmd_reads (by simpa using c5) (all_fail (p := oldRd a) hx661 (by simp only [oldRd]; simp_all))).symm) ((((((((((x3.trans x29).trans x609).trans x623).trans x641).trans x643).trans x645).trans x655).trans x669).trans x688).trans x690)))))))))))
      refine qv (.bool true) (fun _ x' => x_not (b := false) rfl rfl) ?_
      refine qv (.bool true) (fun _ x' => x_move rfl rfl) ?_
      refine qk rfl rfl (qk rfl rfl (qk rfl rfl (qk rfl rfl (qk rfl rfl (qk rfl rfl (qk rfl rfl (qk rfl rfl (qk rfl rfl (qk rfl rfl (qv (.bool true) (fun _ x' => x_pick_t rfl rfl rfl) ?_))))))))))
      refine q_nil (fun w691 x692 => t_norm (c_true rfl (c_seq (c_quiet (qv (.bool false) (fun _ x' => x_assign rfl rfl) ?_)))))
      exact q_nil (fun w693 x694 => t_norm (c_ret (t_ret (b_ret (t_ret (t_ret (b_ret (t_ret (c_done rfl rfl (Ret.b ((rightCmd_reads (by simpa using c5) (all_fail (p := oldRd a) hx661 (by simp only [oldRd]; simp_all))).symm) ((((((((((x3.trans x29).trans x609).trans x623).trans x641).trans x643).trans x645).trans x655).trans x669).trans x692).trans x694)))))))))))
     have hr695 := own_lies (d := kStr) (xs := a.reads.map (·.key)) (by rw [show (a.reads.map (·.key)) = (a.reads.map (·.key)).take k646 from by rw [List.take_of_length_le (by simp; omega)]]; exact ho651) (by simp; omega) (fun _ => rfl) (fun _ => rfl)
     have he696 : k646 = (a.reads.map (·.key)).length := by simp; omega
     refine c_seq (c_seq (c_quiet (qv (iJ (k646 : Int)) (fun _ x' => x_move rfl e658) ?_)))
     refine qv (.pointer (some (⟨w.heap.size, 6, none⟩))) (fun _ x' => x_fieldAddr fld_37_4 rfl e656 rfl) ?_
     refine qv (.slice pa.A a.reads.length pa.n) (fun _ x' => x_load rfl rfl (((((((((b2.ext x29).ext x609).ext x623).ext x641).ext x643).ext x645).ext x655).ext x').one one_34 rfl)) ?_
     refine qv (iJ (a.reads.length : Int)) (fun _ x' => x_len_slice sl_34 rfl rfl) ?_
     refine qv (.bool false) (fun _ x' => yb (x_lss rfl rfl rfl) (decide_eq_false (by omega))) ?_
     refine q_nil (fun w697 x698 => t_norm (c_false rfl (c_exit (t_exit (t_exit (b_exit (t_norm (c_seq (c_quiet (qv (.slice none 0 0) (fun _ x' => x_assign rfl rfl) ?_))))))))))
     refine q_nil (fun w699 x700 => t_norm (c_seq (c_seq (c_quiet (qv (iJ 0) (fun _ x' => x_assign rfl rfl) ?_)))))
     refine q_nil (fun w701 x702 => t_norm (c_block (c_loop (fun ρ w711 => ∃ k703 : Nat, ∃ A706 : Option Addr, ∃ c707 : Nat, k703 ≤ a.writes.length ∧ (a.writes.take k703).all (fun x : Wr => decide (x.val.size ≤ 8)) = true ∧ World.ownsRow w711 w701.heap.size 9 1 (.slice A706 k703 c707) k703 (((a.writes.map (·.key)).take k703).flatMap fStr) ∧ k703 ≤ c707 ∧ c707 ≤ 9223372036854775807 ∧ ρ 1 = pJ w.heap.size ∧ ρ 3 = .slice A649 k646 c650 ∧ ρ 5 = .slice A706 k703 c707 ∧ ρ 6 = iJ (k703 : Int) ∧ Ext w701 w711) (fun ρ _ => a.writes.length - (intOf (ρ 6)).toNat) ⟨0, none, 0, Nat.zero_le _, rfl, own_nil _ _ _ _, Nat.le_refl _, Nat.zero_le _, e656, e657, rfl, rfl, Ext.refl _⟩ ?_)))
     rintro ρ w711 ⟨k703, A706, c707, hk704, hi705, ho708, h709, h710, e713, e714, e715, e716, x712⟩
     by_cases hl717 : k703 < a.writes.length
     ·obtain ⟨y718, hx719⟩ := some_of (l := a.writes) (k := k703) (by omega)
      obtain ⟨ad720, cs721, eA722, hK723, hE724⟩ := ha.writes k703 y718 hx719
      have hK723' : cs721 = [.string y718.key, .string y718.val] := hK723
      subst hK723'
      refine c_seq (c_seq (c_quiet (qv (iJ (k703 : Int)) (fun _ x' => x_move rfl e716) ?_)))
      refine qv (.pointer (some (⟨w.heap.size, 7, none⟩))) (fun _ x' => x_fieldAddr fld_37_5 rfl e713 rfl) ?_
      refine qv (.slice pa.B a.writes.length pa.m) (fun _ x' => x_load rfl rfl (((((((((((((b2.ext x29).ext x609).ext x623).ext x641).ext x643).ext x645).ext x655).ext x698).ext x700).ext x702).ext x712).ext x').one one_35 rfl)) ?_
      refine qv (iJ (a.writes.length : Int)) (fun _ x' => x_len_slice sl_35 rfl rfl) ?_
      refine qv (.bool true) (fun _ x' => yb (x_lss rfl rfl rfl) (decide_eq_true (by omega))) ?_
      refine q_nil (fun w726 x727 => t_norm (c_true rfl (c_skip (t_norm (c_seq (c_block (c_seq (c_seq (c_quiet (qv (.pointer (some (⟨w.heap.size, 7, none⟩))) (fun _ x' => x_fieldAddr fld_37_5 rfl e713 rfl) ?_))))))))))
      refine qv (.slice pa.B a.writes.length pa.m) (fun _ x' => x_load rfl rfl ((((((((((((((b2.ext x29).ext x609).ext x623).ext x641).ext x643).ext x645).ext x655).ext x698).ext x700).ext x702).ext x712).ext x727).ext x').one one_35 rfl)) ?_
      refine qv (iJ (k703 : Int)) (fun _ x' => x_move rfl e716) ?_
      refine qv (.pointer (some (ad720.add (k703 * 2)))) (fun _ x' => x_indexAddr sl_35 rfl rfl eA722 rfl (by omega) (by omega) rfl) ?_
      refine qv (.pointer (some ((ad720.add (k703 * 2)).add 1))) (fun _ x' => x_fieldAddr fld_80_1 rfl rfl rfl) ?_
      refine qv (.string y718.val) (fun _ x' => x_load rfl rfl (((((((((((((((hE724.ext x3).ext x29).ext x609).ext x623).ext x641).ext x643).ext x645).ext x655).ext x698).ext x700).ext x702).ext x712).ext x727).ext x').one one_9 1 rfl rfl)) ?_
      refine qv (iJ (y718.val.size : Int)) (fun _ x' => x_len_string str_9 rfl rfl) ?_
      refine q_bool (b := decide ((y718.val.size : Int) > 8)) rfl rfl (fun _ x' => x_gtr rfl rfl rfl) (fun c728 => ?_) (fun c728 => ?_)
      ·refine q_nil (fun w729 x730 => t_norm (c_true rfl (c_seq (c_quiet (qv (.bool false) (fun _ x' => x_assign rfl rfl) ?_)))))
       exact q_nil (fun w731 x732 => t_norm (c_ret (t_ret (b_ret (t_ret (t_ret (b_ret (t_ret (c_done rfl rfl (Ret.b ((rightCmd_writes (by simpa using c5) (all_fail (p := fun x : Wr => decide (x.val.size ≤ 8)) hx719 (by simp_all <;> omega))).symm) ((((((((((((((x3.trans x29).trans x609).trans x623).trans x641).trans x643).trans x645).trans x655).trans x698).trans x700).trans x702).trans x712).trans x727).trans x730).trans x732)))))))))))
      refine q_nil (fun w733 x734 => t_norm (c_false rfl (c_skip (t_norm (c_plain (pv (.slice A706 k703 c707) (x_move rfl e715) ?_))))))
      refine pv (.pointer (some (⟨w.heap.size, 7, none⟩))) (x_fieldAddr fld_37_5 rfl e713 rfl) ?_
      refine pv (.slice pa.B a.writes.length pa.m) (x_load rfl rfl ((((((((((((((b2.ext x29).ext x609).ext x623).ext x641).ext x643).ext x645).ext x655).ext x698).ext x700).ext x702).ext x712).ext x727).ext x734).one one_35 rfl)) ?_
      refine pv (iJ (k703 : Int)) (x_move rfl e716) ?_
      refine pv (.pointer (some (ad720.add (k703 * 2)))) (x_indexAddr sl_35 rfl rfl eA722 rfl (by omega) (by omega) rfl) ?_
      refine pv (.pointer (some (ad720.add (k703 * 2)))) (x_fieldAddr fld_80_0 rfl rfl rfl) ?_
      refine pv (.string y718.key) (x_load rfl rfl (((((((((((((((hE724.ext x3).ext x29).ext x609).ext x623).ext x641).ext x643).ext x645).ext x655).ext x698).ext x700).ext x702).ext x712).ext x727).ext x734).one one_9 0 rfl rfl)) ?_
      refine p_buildSlice (cs := [.string y718.key]) el_104 rfl rfl rfl (parts1 rfl) (by decide) (by decide) (fill_ok [.string y718.key] [.string y718.key] rfl rfl) (fun w735 b736 x737 z738 => ?_)
      refine p_appendK (B := w701.heap.size) (k := k703) (m := 1) (cs := (((a.writes.map (·.key)).take k703).flatMap fStr)) (news := [.string y718.key]) (ad := ⟨w733.heap.size, 0, none⟩) el_104 rfl rfl rfl rfl (own_ext ho708 ((x727.trans x734).trans x737)) rfl rfl b736.put rfl (by omega) (by omega) (((x712.trans x727).trans x734).trans x737).size (fun A742 c743 w739 o740 kp741 h744 h745 => ?_)
      refine pv (.slice A742 (k703 + 1) c743) (x_assign rfl rfl) ?_
      refine p_nil (b_norm (t_norm (c_quiet (qv (iJ (k703 : Int)) (fun _ x' => x_move rfl e716) ?_))))
      refine qv (iJ ((k703 : Int) + 1)) (fun _ x' => x_add rfl rfl rfl (wrap_of (by omega) (by omega))) ?_
      refine qv (iJ ((k703 : Int) + 1)) (fun _ x' => x_assign rfl rfl) ?_
      exact q_nil (fun w746 x747 => t_norm (⟨_, rfl, ⟨k703 + 1, A742, c743, by omega, all_step (p := fun x : Wr => decide (x.val.size ≤ 8)) hi705 hx719 (by simp_all <;> omega), (by rw [← flat_step (map_of (g := fun z => z.key) hx719)]; exact (own_ext o740 x747)), h744, h745, e713, e714, rfl, rfl, (((((x712.trans x727).trans x734).trans x737).below (Nat.le_refl _) kp741.below).trans x747)⟩, meas_up e716 hl717⟩))
     have hr748 := own_lies (d := kStr) (xs := a.writes.map (·.key)) (by rw [show (a.writes.map (·.key)) = (a.writes.map (·.key)).take k703 from by rw [List.take_of_length_le (by simp; omega)]]; exact ho708) (by simp; omega) (fun _ => rfl) (fun _ => rfl)
     have he749 : k703 = (a.writes.map (·.key)).length := by simp; omega
     refine c_seq (c_seq (c_quiet (qv (iJ (k703 : Int)) (fun _ x' => x_move rfl e716) ?_)))
     refine qv (.pointer (some (⟨w.heap.size, 7, none⟩))) (fun _ x' => x_fieldAddr fld_37_5 rfl e713 rfl) ?_
     refine qv (.slice pa.B a.writes.length pa.m) (fun _ x' => x_load rfl rfl (((((((((((((b2.ext x29).ext x609).ext x623).ext x641).ext x643).ext x645).ext x655).ext x698).ext x700).ext x702).ext x712).ext x').one one_35 rfl)) ?_
     refine qv (iJ (a.writes.length : Int)) (fun _ x' => x_len_slice sl_35 rfl rfl) ?_
     refine qv (.bool false) (fun _ x' => yb (x_lss rfl rfl rfl) (decide_eq_false (by omega))) ?_
     refine q_nil (fun w750 x751 => t_norm (c_false rfl (c_exit (t_exit (t_exit (b_exit (t_norm (c_seq (c_quiet (qv (.slice A649 k646 c650) (fun _ x' => x_move rfl e714) ?_))))))))))
     refine q_callb (b := rightKeys (a.reads.map (·.key))) (vs := #[.slice A649 k646 c650]) fn_61 rfl rfl rfl (args1 rfl) (fun _ x' => D_rightKeys _ _ _ _ (a.reads.map (·.key)) he696 ((((((hr695.ext x698).ext x700).ext x702).ext x712).ext x751).ext x') (by simp; omega)) (fun c752 => ?_) (fun c752 => ?_)
     ·refine qv (.bool true) (fun _ x' => x_move rfl rfl) ?_
      refine qv (.slice A706 k703 c707) (fun _ x' => x_move rfl e715) ?_
      refine q_callb (b := rightKeys (a.writes.map (·.key))) (vs := #[.slice A706 k703 c707]) fn_61 rfl rfl rfl (args1 rfl) (fun _ x' => D_rightKeys _ _ _ _ (a.writes.map (·.key)) he749 ((hr748.ext x751).ext x') (by simp; omega)) (fun c753 => ?_) (fun c753 => ?_)
      ·refine qv (.bool true) (fun _ x' => x_pick_t rfl rfl rfl) ?_
       refine qv (.bool true) (fun _ x' => x_assign rfl rfl) ?_
       exact q_nil (fun w754 x755 => t_norm (c_ret (c_done rfl rfl (Ret.b (rightCmd_end (by simpa using c5) (all_end hi648 hl659) (all_end hi705 hl717) c752 (fun _ => c753) (fun h => by cases h) (by clear ha; simp only [empty_len] at *; simp_all [-List.length_eq_zero_iff] <;> first | omega | (intros; omega) | (intros; simp_all [-List.length_eq_zero_iff] <;> omega))) (((((((((((((x3.trans x29).trans x609).trans x623).trans x641).trans x643).trans x645).trans x655).trans x698).trans x700).trans x702).trans x712).trans x751).trans x755)))))
      refine qv (.bool false) (fun _ x' => x_pick_t rfl rfl rfl) ?_
      refine qv (.bool false) (fun _ x' => x_assign rfl rfl) ?_
      exact q_nil (fun w756 x757 => t_norm (c_ret (c_done rfl rfl (Ret.b (rightCmd_end (by simpa using c5) (all_end hi648 hl659) (all_end hi705 hl717) c752 (fun _ => c753) (fun h => by cases h) (by clear ha; simp only [empty_len] at *; simp_all [-List.length_eq_zero_iff] <;> first | omega | (intros; omega) | (intros; simp_all [-List.length_eq_zero_iff] <;> omega))) (((((((((((((x3.trans x29).trans x609).trans x623).trans x641).trans x643).trans x645).trans x655).trans x698).trans x700).trans x702).trans x712).trans x751).trans x757)))))
     refine qv (.bool false) (fun _ x' => x_move rfl rfl) ?_
     refine qk rfl rfl (qk rfl rfl (qv (.bool false) (fun _ x' => x_pick_f rfl rfl rfl) ?_))
     refine qv (.bool false) (fun _ x' => x_assign rfl rfl) ?_
     exact q_nil (fun w758 x759 => t_norm (c_ret (c_done rfl rfl (Ret.b (rightCmd_end (by simpa using c5) (all_end hi648 hl659) (all_end hi705 hl717) c752 (fun h => by cases h) (fun _ => rfl) (by clear ha; simp only [empty_len] at *; simp_all [-List.length_eq_zero_iff] <;> first | omega | (intros; omega) | (intros; simp_all [-List.length_eq_zero_iff] <;> omega))) (((((((((((((x3.trans x29).trans x609).trans x623).trans x641).trans x643).trans x645).trans x655).trans x698).trans x700).trans x702).trans x712).trans x751).trans x759)))))
    refine qv (.bool false) (fun _ x' => x_move rfl rfl) ?_
    refine qk rfl rfl (qk rfl rfl (qk rfl rfl (qk rfl rfl (qv (.bool false) (fun _ x' => x_pick_f rfl rfl rfl) ?_))))
    refine qv (.bool false) (fun _ x' => x_pick_f rfl rfl rfl) ?_
    refine q_nil (fun w760 x761 => t_norm (c_false rfl (c_skip (t_norm (c_seq (c_quiet (qv (.slice none 0 0) (fun _ x' => x_assign rfl rfl) ?_)))))))
    refine q_nil (fun w762 x763 => t_norm (c_seq (c_seq (c_quiet (qv (iJ 0) (fun _ x' => x_assign rfl rfl) ?_)))))
    refine q_nil (fun w764 x765 => t_norm (c_block (c_loop (fun ρ w774 => ∃ k766 : Nat, ∃ A769 : Option Addr, ∃ c770 : Nat, k766 ≤ a.reads.length ∧ (a.reads.take k766).all (oldRd a) = true ∧ World.ownsRow w774 w764.heap.size 9 1 (.slice A769 k766 c770) k766 (((a.reads.map (·.key)).take k766).flatMap fStr) ∧ k766 ≤ c770 ∧ c770 ≤ 9223372036854775807 ∧ ρ 1 = pJ w.heap.size ∧ ρ 3 = .slice A769 k766 c770 ∧ ρ 4 = iJ (k766 : Int) ∧ Ext w764 w774) (fun ρ _ => a.reads.length - (intOf (ρ 4)).toNat) ⟨0, none, 0, Nat.zero_le _, rfl, own_nil _ _ _ _, Nat.le_refl _, Nat.zero_le _, rfl, rfl, rfl, Ext.refl _⟩ ?_)))
    rintro ρ w774 ⟨k766, A769, c770, hk767, hi768, ho771, h772, h773, e776, e777, e778, x775⟩
    by_cases hl779 : k766 < a.reads.length
    ·obtain ⟨y780, hx781⟩ := some_of (l := a.reads) (k := k766) (by omega)
     obtain ⟨ad782, cs783, eA784, hK785, hE786⟩ := ha.reads k766 y780 hx781
     have hK785' : cs783 = [.string y780.key, iJ y780.ver.time, iJ y780.ver.client] := hK785
     subst hK785'
     refine c_seq (c_seq (c_quiet (qv (iJ (k766 : Int)) (fun _ x' => x_move rfl e778) ?_)))
     refine qv (.pointer (some (⟨w.heap.size, 6, none⟩))) (fun _ x' => x_fieldAddr fld_37_4 rfl e776 rfl) ?_
     refine qv (.slice pa.A a.reads.length pa.n) (fun _ x' => x_load rfl rfl (((((((((b2.ext x29).ext x609).ext x623).ext x761).ext x763).ext x765).ext x775).ext x').one one_34 rfl)) ?_
     refine qv (iJ (a.reads.length : Int)) (fun _ x' => x_len_slice sl_34 rfl rfl) ?_
     refine qv (.bool true) (fun _ x' => yb (x_lss rfl rfl rfl) (decide_eq_true (by omega))) ?_
     refine q_nil (fun w788 x789 => t_norm (c_true rfl (c_skip (t_norm (c_seq (c_block (c_seq (c_seq (c_draw mixed (by kernel_rfl) (qv (.pointer (some (⟨w.heap.size, 6, none⟩))) (fun _ x' => x_fieldAddr fld_37_4 rfl e776 rfl) ?_))))))))))
     refine qv (.slice pa.A a.reads.length pa.n) (fun _ x' => x_load rfl rfl ((((((((((b2.ext x29).ext x609).ext x623).ext x761).ext x763).ext x765).ext x775).ext x789).ext x').one one_34 rfl)) ?_
     refine qv (iJ (k766 : Int)) (fun _ x' => x_move rfl e778) ?_
     refine qv (.pointer (some (ad782.add (k766 * 3)))) (fun _ x' => x_indexAddr sl_34 rfl rfl eA784 rfl (by omega) (by omega) rfl) ?_
     refine qv (.pointer (some ((ad782.add (k766 * 3)).add 1))) (fun _ x' => x_fieldAddr fld_78_1 rfl rfl rfl) ?_
     refine qv (.agg #[iJ y780.ver.time, iJ y780.ver.client]) (fun _ x' => x_load rfl rfl (((((((((((hE786.ext x3).ext x29).ext x609).ext x623).ext x761).ext x763).ext x765).ext x775).ext x789).ext x').agg (vs := [iJ y780.ver.time, iJ y780.ver.client]) agg_33_2 1 rfl rfl)) ?_
     refine q_callb (b := rightStp y780.ver) (vs := #[.agg #[iJ y780.ver.time, iJ y780.ver.client]]) fn_59 rfl rfl rfl (args1 rfl) (fun _ x' => D_rightStp _ y780.ver) (fun c790 => ?_) (fun c790 => ?_)
     ·refine qv (.bool false) (fun _ x' => x_not (b := true) rfl rfl) ?_
      refine qv (.bool false) (fun _ x' => x_move rfl rfl) ?_
      refine qv (.pointer (some (⟨w.heap.size, 6, none⟩))) (fun _ x' => x_fieldAddr fld_37_4 rfl e776 rfl) ?_
      refine qv (.slice pa.A a.reads.length pa.n) (fun _ x' => x_load rfl rfl ((((((((((b2.ext x29).ext x609).ext x623).ext x761).ext x763).ext x765).ext x775).ext x789).ext x').one one_34 rfl)) ?_
      refine qv (iJ (k766 : Int)) (fun _ x' => x_move rfl e778) ?_
      refine qv (.pointer (some (ad782.add (k766 * 3)))) (fun _ x' => x_indexAddr sl_34 rfl rfl eA784 rfl (by omega) (by omega) rfl) ?_
      refine qv (.pointer (some ((ad782.add (k766 * 3)).add 1))) (fun _ x' => x_fieldAddr fld_78_1 rfl rfl rfl) ?_
      refine qv (.agg #[iJ y780.ver.time, iJ y780.ver.client]) (fun _ x' => x_load rfl rfl (((((((((((hE786.ext x3).ext x29).ext x609).ext x623).ext x761).ext x763).ext x765).ext x775).ext x789).ext x').agg (vs := [iJ y780.ver.time, iJ y780.ver.client]) agg_33_2 1 rfl rfl)) ?_
      refine qv (.pointer (some (⟨w.heap.size, 3, none⟩))) (fun _ x' => x_fieldAddr fld_37_2 rfl e776 rfl) ?_
      refine qv (.agg #[iJ a.stp.time, iJ a.stp.client]) (fun _ x' => x_load rfl rfl ((((((((((b2.ext x29).ext x609).ext x623).ext x761).ext x763).ext x765).ext x775).ext x789).ext x').agg (vs := [iJ a.stp.time, iJ a.stp.client]) agg_33_2 rfl)) ?_
      refine q_callb (b := decide (cmpStp y780.ver a.stp < 0)) (vs := #[.agg #[iJ y780.ver.time, iJ y780.ver.client], .agg #[iJ a.stp.time, iJ a.stp.client]]) fn_60 rfl rfl rfl (args2 rfl rfl) (fun _ x' => D_before _ y780.ver a.stp) (fun c791 => ?_) (fun c791 => ?_)
      ·refine qv (.bool false) (fun _ x' => x_not (b := true) rfl rfl) ?_
       refine qv (.bool false) (fun _ x' => x_pick_f rfl rfl rfl) ?_
       refine q_nil (fun w792 x793 => t_norm (c_false rfl (c_skip (t_norm (c_plain (pv (.slice A769 k766 c770) (x_move rfl e777) ?_))))))
       refine pv (.pointer (some (⟨w.heap.size, 6, none⟩))) (x_fieldAddr fld_37_4 rfl e776 rfl) ?_
       refine pv (.slice pa.A a.reads.length pa.n) (x_load rfl rfl ((((((((((b2.ext x29).ext x609).ext x623).ext x761).ext x763).ext x765).ext x775).ext x789).ext x793).one one_34 rfl)) ?_
       refine pv (iJ (k766 : Int)) (x_move rfl e778) ?_
       refine pv (.pointer (some (ad782.add (k766 * 3)))) (x_indexAddr sl_34 rfl rfl eA784 rfl (by omega) (by omega) rfl) ?_
       refine pv (.pointer (some (ad782.add (k766 * 3)))) (x_fieldAddr fld_78_0 rfl rfl rfl) ?_
       refine pv (.string y780.key) (x_load rfl rfl (((((((((((hE786.ext x3).ext x29).ext x609).ext x623).ext x761).ext x763).ext x765).ext x775).ext x789).ext x793).one one_9 0 rfl rfl)) ?_
       refine p_buildSlice (cs := [.string y780.key]) el_104 rfl rfl rfl (parts1 rfl) (by decide) (by decide) (fill_ok [.string y780.key] [.string y780.key] rfl rfl) (fun w794 b795 x796 z797 => ?_)
       refine p_appendK (B := w764.heap.size) (k := k766) (m := 1) (cs := (((a.reads.map (·.key)).take k766).flatMap fStr)) (news := [.string y780.key]) (ad := ⟨w792.heap.size, 0, none⟩) el_104 rfl rfl rfl rfl (own_ext ho771 ((x789.trans x793).trans x796)) rfl rfl b795.put rfl (by omega) (by omega) (((x775.trans x789).trans x793).trans x796).size (fun A801 c802 w798 o799 kp800 h803 h804 => ?_)
       refine pv (.slice A801 (k766 + 1) c802) (x_assign rfl rfl) ?_
       refine p_nil (b_norm (t_norm (c_quiet (qv (iJ (k766 : Int)) (fun _ x' => x_move rfl e778) ?_))))
       refine qv (iJ ((k766 : Int) + 1)) (fun _ x' => x_add rfl rfl rfl (wrap_of (by omega) (by omega))) ?_
       refine qv (iJ ((k766 : Int) + 1)) (fun _ x' => x_assign rfl rfl) ?_
       exact q_nil (fun w805 x806 => t_norm (⟨_, rfl, ⟨k766 + 1, A801, c802, by omega, all_step (p := oldRd a) hi768 hx781 (by simp_all [oldRd]), (by rw [← flat_step (map_of (g := fun z => z.key) hx781)]; exact (own_ext o799 x806)), h803, h804, e776, rfl, rfl, (((((x775.trans x789).trans x793).trans x796).below (Nat.le_refl _) kp800.below).trans x806)⟩, meas_up e778 hl779⟩))
      refine qv (.bool true) (fun _ x' => x_not (b := false) rfl rfl) ?_
      refine qv (.bool true) (fun _ x' => x_pick_f rfl rfl rfl) ?_
      refine q_nil (fun w807 x808 => t_norm (c_true rfl (c_seq (c_quiet (qv (.bool false) (fun _ x' => x_assign rfl rfl) ?_)))))
      exact q_nil (fun w809 x810 => t_norm (c_ret (t_ret (b_ret (t_ret (t_ret (b_ret (t_ret (c_done rfl rfl (Ret.b ((rightCmd_reads (by simpa using c5) (all_fail (p := oldRd a) hx781 (by simp only [oldRd]; simp_all))).symm) ((((((((((x3.trans x29).trans x609).trans x623).trans x761).trans x763).trans x765).trans x775).trans x789).trans x808).trans x810)))))))))))
     refine qv (.bool true) (fun _ x' => x_not (b := false) rfl rfl) ?_
     refine qv (.bool true) (fun _ x' => x_move rfl rfl) ?_
     refine qk rfl rfl (qk rfl rfl (qk rfl rfl (qk rfl rfl (qk rfl rfl (qk rfl rfl (qk rfl rfl (qk rfl rfl (qk rfl rfl (qk rfl rfl (qv (.bool true) (fun _ x' => x_pick_t rfl rfl rfl) ?_))))))))))
     refine q_nil (fun w811 x812 => t_norm (c_true rfl (c_seq (c_quiet (qv (.bool false) (fun _ x' => x_assign rfl rfl) ?_)))))
     exact q_nil (fun w813 x814 => t_norm (c_ret (t_ret (b_ret (t_ret (t_ret (b_ret (t_ret (c_done rfl rfl (Ret.b ((rightCmd_reads (by simpa using c5) (all_fail (p := oldRd a) hx781 (by simp only [oldRd]; simp_all))).symm) ((((((((((x3.trans x29).trans x609).trans x623).trans x761).trans x763).trans x765).trans x775).trans x789).trans x812).trans x814)))))))))))
    have hr815 := own_lies (d := kStr) (xs := a.reads.map (·.key)) (by rw [show (a.reads.map (·.key)) = (a.reads.map (·.key)).take k766 from by rw [List.take_of_length_le (by simp; omega)]]; exact ho771) (by simp; omega) (fun _ => rfl) (fun _ => rfl)
    have he816 : k766 = (a.reads.map (·.key)).length := by simp; omega
    refine c_seq (c_seq (c_quiet (qv (iJ (k766 : Int)) (fun _ x' => x_move rfl e778) ?_)))
    refine qv (.pointer (some (⟨w.heap.size, 6, none⟩))) (fun _ x' => x_fieldAddr fld_37_4 rfl e776 rfl) ?_
    refine qv (.slice pa.A a.reads.length pa.n) (fun _ x' => x_load rfl rfl (((((((((b2.ext x29).ext x609).ext x623).ext x761).ext x763).ext x765).ext x775).ext x').one one_34 rfl)) ?_
    refine qv (iJ (a.reads.length : Int)) (fun _ x' => x_len_slice sl_34 rfl rfl) ?_
    refine qv (.bool false) (fun _ x' => yb (x_lss rfl rfl rfl) (decide_eq_false (by omega))) ?_
    refine q_nil (fun w817 x818 => t_norm (c_false rfl (c_exit (t_exit (t_exit (b_exit (t_norm (c_seq (c_quiet (qv (.slice none 0 0) (fun _ x' => x_assign rfl rfl) ?_))))))))))
    refine q_nil (fun w819 x820 => t_norm (c_seq (c_seq (c_quiet (qv (iJ 0) (fun _ x' => x_assign rfl rfl) ?_)))))
    refine q_nil (fun w821 x822 => t_norm (c_block (c_loop (fun ρ w831 => ∃ k823 : Nat, ∃ A826 : Option Addr, ∃ c827 : Nat, k823 ≤ a.writes.length ∧ (a.writes.take k823).all (fun x : Wr => decide (x.val.size ≤ 8)) = true ∧ World.ownsRow w831 w821.heap.size 9 1 (.slice A826 k823 c827) k823 (((a.writes.map (·.key)).take k823).flatMap fStr) ∧ k823 ≤ c827 ∧ c827 ≤ 9223372036854775807 ∧ ρ 1 = pJ w.heap.size ∧ ρ 3 = .slice A769 k766 c770 ∧ ρ 5 = .slice A826 k823 c827 ∧ ρ 6 = iJ (k823 : Int) ∧ Ext w821 w831) (fun ρ _ => a.writes.length - (intOf (ρ 6)).toNat) ⟨0, none, 0, Nat.zero_le _, rfl, own_nil _ _ _ _, Nat.le_refl _, Nat.zero_le _, e776, e777, rfl, rfl, Ext.refl _⟩ ?_)))
    rintro ρ w831 ⟨k823, A826, c827, hk824, hi825, ho828, h829, h830, e833, e834, e835, e836, x832⟩
    by_cases hl837 : k823 < a.writes.length
    ·obtain ⟨y838, hx839⟩ := some_of (l := a.writes) (k := k823) (by omega)
     obtain ⟨ad840, cs841, eA842, hK843, hE844⟩ := ha.writes k823 y838 hx839
     have hK843' : cs841 = [.string y838.key, .string y838.val] := hK843
     subst hK843'
     refine c_seq (c_seq (c_quiet (qv (iJ (k823 : Int)) (fun _ x' => x_move rfl e836) ?_)))
     refine qv (.pointer (some (⟨w.heap.size, 7, none⟩))) (fun _ x' => x_fieldAddr fld_37_5 rfl e833 rfl) ?_
     refine qv (.slice pa.B a.writes.length pa.m) (fun _ x' => x_load rfl rfl (((((((((((((b2.ext x29).ext x609).ext x623).ext x761).ext x763).ext x765).ext x775).ext x818).ext x820).ext x822).ext x832).ext x').one one_35 rfl)) ?_
     refine qv (iJ (a.writes.length : Int)) (fun _ x' => x_len_slice sl_35 rfl rfl) ?_
     refine qv (.bool true) (fun _ x' => yb (x_lss rfl rfl rfl) (decide_eq_true (by omega))) ?_
     refine q_nil (fun w846 x847 => t_norm (c_true rfl (c_skip (t_norm (c_seq (c_block (c_seq (c_seq (c_quiet (qv (.pointer (some (⟨w.heap.size, 7, none⟩))) (fun _ x' => x_fieldAddr fld_37_5 rfl e833 rfl) ?_))))))))))
     refine qv (.slice pa.B a.writes.length pa.m) (fun _ x' => x_load rfl rfl ((((((((((((((b2.ext x29).ext x609).ext x623).ext x761).ext x763).ext x765).ext x775).ext x818).ext x820).ext x822).ext x832).ext x847).ext x').one one_35 rfl)) ?_
     refine qv (iJ (k823 : Int)) (fun _ x' => x_move rfl e836) ?_
     refine qv (.pointer (some (ad840.add (k823 * 2)))) (fun _ x' => x_indexAddr sl_35 rfl rfl eA842 rfl (by omega) (by omega) rfl) ?_
     refine qv (.pointer (some ((ad840.add (k823 * 2)).add 1))) (fun _ x' => x_fieldAddr fld_80_1 rfl rfl rfl) ?_
     refine qv (.string y838.val) (fun _ x' => x_load rfl rfl (((((((((((((((hE844.ext x3).ext x29).ext x609).ext x623).ext x761).ext x763).ext x765).ext x775).ext x818).ext x820).ext x822).ext x832).ext x847).ext x').one one_9 1 rfl rfl)) ?_
     refine qv (iJ (y838.val.size : Int)) (fun _ x' => x_len_string str_9 rfl rfl) ?_
     refine q_bool (b := decide ((y838.val.size : Int) > 8)) rfl rfl (fun _ x' => x_gtr rfl rfl rfl) (fun c848 => ?_) (fun c848 => ?_)
     ·refine q_nil (fun w849 x850 => t_norm (c_true rfl (c_seq (c_quiet (qv (.bool false) (fun _ x' => x_assign rfl rfl) ?_)))))
      exact q_nil (fun w851 x852 => t_norm (c_ret (t_ret (b_ret (t_ret (t_ret (b_ret (t_ret (c_done rfl rfl (Ret.b ((rightCmd_writes (by simpa using c5) (all_fail (p := fun x : Wr => decide (x.val.size ≤ 8)) hx839 (by simp_all <;> omega))).symm) ((((((((((((((x3.trans x29).trans x609).trans x623).trans x761).trans x763).trans x765).trans x775).trans x818).trans x820).trans x822).trans x832).trans x847).trans x850).trans x852)))))))))))
     refine q_nil (fun w853 x854 => t_norm (c_false rfl (c_skip (t_norm (c_plain (pv (.slice A826 k823 c827) (x_move rfl e835) ?_))))))
     refine pv (.pointer (some (⟨w.heap.size, 7, none⟩))) (x_fieldAddr fld_37_5 rfl e833 rfl) ?_
     refine pv (.slice pa.B a.writes.length pa.m) (x_load rfl rfl ((((((((((((((b2.ext x29).ext x609).ext x623).ext x761).ext x763).ext x765).ext x775).ext x818).ext x820).ext x822).ext x832).ext x847).ext x854).one one_35 rfl)) ?_
     refine pv (iJ (k823 : Int)) (x_move rfl e836) ?_
     refine pv (.pointer (some (ad840.add (k823 * 2)))) (x_indexAddr sl_35 rfl rfl eA842 rfl (by omega) (by omega) rfl) ?_
     refine pv (.pointer (some (ad840.add (k823 * 2)))) (x_fieldAddr fld_80_0 rfl rfl rfl) ?_
     refine pv (.string y838.key) (x_load rfl rfl (((((((((((((((hE844.ext x3).ext x29).ext x609).ext x623).ext x761).ext x763).ext x765).ext x775).ext x818).ext x820).ext x822).ext x832).ext x847).ext x854).one one_9 0 rfl rfl)) ?_
     refine p_buildSlice (cs := [.string y838.key]) el_104 rfl rfl rfl (parts1 rfl) (by decide) (by decide) (fill_ok [.string y838.key] [.string y838.key] rfl rfl) (fun w855 b856 x857 z858 => ?_)
     refine p_appendK (B := w821.heap.size) (k := k823) (m := 1) (cs := (((a.writes.map (·.key)).take k823).flatMap fStr)) (news := [.string y838.key]) (ad := ⟨w853.heap.size, 0, none⟩) el_104 rfl rfl rfl rfl (own_ext ho828 ((x847.trans x854).trans x857)) rfl rfl b856.put rfl (by omega) (by omega) (((x832.trans x847).trans x854).trans x857).size (fun A862 c863 w859 o860 kp861 h864 h865 => ?_)
     refine pv (.slice A862 (k823 + 1) c863) (x_assign rfl rfl) ?_
     refine p_nil (b_norm (t_norm (c_quiet (qv (iJ (k823 : Int)) (fun _ x' => x_move rfl e836) ?_))))
     refine qv (iJ ((k823 : Int) + 1)) (fun _ x' => x_add rfl rfl rfl (wrap_of (by omega) (by omega))) ?_
     refine qv (iJ ((k823 : Int) + 1)) (fun _ x' => x_assign rfl rfl) ?_
     exact q_nil (fun w866 x867 => t_norm (⟨_, rfl, ⟨k823 + 1, A862, c863, by omega, all_step (p := fun x : Wr => decide (x.val.size ≤ 8)) hi825 hx839 (by simp_all <;> omega), (by rw [← flat_step (map_of (g := fun z => z.key) hx839)]; exact (own_ext o860 x867)), h864, h865, e833, e834, rfl, rfl, (((((x832.trans x847).trans x854).trans x857).below (Nat.le_refl _) kp861.below).trans x867)⟩, meas_up e836 hl837⟩))
    have hr868 := own_lies (d := kStr) (xs := a.writes.map (·.key)) (by rw [show (a.writes.map (·.key)) = (a.writes.map (·.key)).take k823 from by rw [List.take_of_length_le (by simp; omega)]]; exact ho828) (by simp; omega) (fun _ => rfl) (fun _ => rfl)
    have he869 : k823 = (a.writes.map (·.key)).length := by simp; omega
    refine c_seq (c_seq (c_quiet (qv (iJ (k823 : Int)) (fun _ x' => x_move rfl e836) ?_)))
    refine qv (.pointer (some (⟨w.heap.size, 7, none⟩))) (fun _ x' => x_fieldAddr fld_37_5 rfl e833 rfl) ?_
    refine qv (.slice pa.B a.writes.length pa.m) (fun _ x' => x_load rfl rfl (((((((((((((b2.ext x29).ext x609).ext x623).ext x761).ext x763).ext x765).ext x775).ext x818).ext x820).ext x822).ext x832).ext x').one one_35 rfl)) ?_
    refine qv (iJ (a.writes.length : Int)) (fun _ x' => x_len_slice sl_35 rfl rfl) ?_
    refine qv (.bool false) (fun _ x' => yb (x_lss rfl rfl rfl) (decide_eq_false (by omega))) ?_
    refine q_nil (fun w870 x871 => t_norm (c_false rfl (c_exit (t_exit (t_exit (b_exit (t_norm (c_seq (c_quiet (qv (.slice A769 k766 c770) (fun _ x' => x_move rfl e834) ?_))))))))))
    refine q_callb (b := rightKeys (a.reads.map (·.key))) (vs := #[.slice A769 k766 c770]) fn_61 rfl rfl rfl (args1 rfl) (fun _ x' => D_rightKeys _ _ _ _ (a.reads.map (·.key)) he816 ((((((hr815.ext x818).ext x820).ext x822).ext x832).ext x871).ext x') (by simp; omega)) (fun c872 => ?_) (fun c872 => ?_)
    ·refine qv (.bool true) (fun _ x' => x_move rfl rfl) ?_
     refine qv (.slice A826 k823 c827) (fun _ x' => x_move rfl e835) ?_
     refine q_callb (b := rightKeys (a.writes.map (·.key))) (vs := #[.slice A826 k823 c827]) fn_61 rfl rfl rfl (args1 rfl) (fun _ x' => D_rightKeys _ _ _ _ (a.writes.map (·.key)) he869 ((hr868.ext x871).ext x') (by simp; omega)) (fun c873 => ?_) (fun c873 => ?_)
     ·refine qv (.bool true) (fun _ x' => x_pick_t rfl rfl rfl) ?_
      refine qv (.bool true) (fun _ x' => x_assign rfl rfl) ?_
      exact q_nil (fun w874 x875 => t_norm (c_ret (c_done rfl rfl (Ret.b (rightCmd_end (by simpa using c5) (all_end hi768 hl779) (all_end hi825 hl837) c872 (fun _ => c873) (fun h => by cases h) (by clear ha; simp only [empty_len] at *; simp_all [-List.length_eq_zero_iff] <;> first | omega | (intros; omega) | (intros; simp_all [-List.length_eq_zero_iff] <;> omega))) (((((((((((((x3.trans x29).trans x609).trans x623).trans x761).trans x763).trans x765).trans x775).trans x818).trans x820).trans x822).trans x832).trans x871).trans x875)))))
     refine qv (.bool false) (fun _ x' => x_pick_t rfl rfl rfl) ?_
     refine qv (.bool false) (fun _ x' => x_assign rfl rfl) ?_
     exact q_nil (fun w876 x877 => t_norm (c_ret (c_done rfl rfl (Ret.b (rightCmd_end (by simpa using c5) (all_end hi768 hl779) (all_end hi825 hl837) c872 (fun _ => c873) (fun h => by cases h) (by clear ha; simp only [empty_len] at *; simp_all [-List.length_eq_zero_iff] <;> first | omega | (intros; omega) | (intros; simp_all [-List.length_eq_zero_iff] <;> omega))) (((((((((((((x3.trans x29).trans x609).trans x623).trans x761).trans x763).trans x765).trans x775).trans x818).trans x820).trans x822).trans x832).trans x871).trans x877)))))
    refine qv (.bool false) (fun _ x' => x_move rfl rfl) ?_
    refine qk rfl rfl (qk rfl rfl (qv (.bool false) (fun _ x' => x_pick_f rfl rfl rfl) ?_))
    refine qv (.bool false) (fun _ x' => x_assign rfl rfl) ?_
    exact q_nil (fun w878 x879 => t_norm (c_ret (c_done rfl rfl (Ret.b (rightCmd_end (by simpa using c5) (all_end hi768 hl779) (all_end hi825 hl837) c872 (fun h => by cases h) (fun _ => rfl) (by clear ha; simp only [empty_len] at *; simp_all [-List.length_eq_zero_iff] <;> first | omega | (intros; omega) | (intros; simp_all [-List.length_eq_zero_iff] <;> omega))) (((((((((((((x3.trans x29).trans x609).trans x623).trans x761).trans x763).trans x765).trans x775).trans x818).trans x820).trans x822).trans x832).trans x871).trans x879)))))
   refine qv (.bool true) (fun _ x' => x_not (b := false) rfl rfl) ?_
   refine qv (.bool true) (fun _ x' => x_pick_f rfl rfl rfl) ?_
   refine qv (.bool true) (fun _ x' => x_move rfl rfl) ?_
   refine qk rfl rfl (qk rfl rfl (qk rfl rfl (qk rfl rfl (qv (.bool true) (fun _ x' => x_pick_t rfl rfl rfl) ?_))))
   refine qv (.bool true) (fun _ x' => x_move rfl rfl) ?_
   refine qk rfl rfl (qk rfl rfl (qk rfl rfl (qk rfl rfl (qk rfl rfl (qk rfl rfl (qk rfl rfl (qv (.bool true) (fun _ x' => x_pick_t rfl rfl rfl) ?_)))))))
   refine q_nil (fun w880 x881 => t_norm (c_true rfl (c_seq (c_quiet (qv (.bool false) (fun _ x' => x_assign rfl rfl) ?_)))))
   exact q_nil (fun w882 x883 => t_norm (c_ret (t_ret (c_done rfl rfl (Ret.b ((rightCmd_head (by simpa using c5) (by clear ha; simp only [empty_len] at *; simp_all [-List.length_eq_zero_iff] <;> first | omega | (intros; omega) | (intros; simp_all [-List.length_eq_zero_iff] <;> omega))).symm) ((((x3.trans x29).trans x609).trans x881).trans x883))))))
  refine qv (.bool true) (fun _ x' => x_not (b := false) rfl rfl) ?_
  refine qv (.bool true) (fun _ x' => x_move rfl rfl) ?_
  refine qk rfl rfl (qk rfl rfl (qk rfl rfl (qk rfl rfl (qv (.bool true) (fun _ x' => x_pick_t rfl rfl rfl) ?_))))
  refine qv (.bool true) (fun _ x' => x_move rfl rfl) ?_
  refine qk rfl rfl (qk rfl rfl (qk rfl rfl (qk rfl rfl (qv (.bool true) (fun _ x' => x_pick_t rfl rfl rfl) ?_))))
  refine qv (.bool true) (fun _ x' => x_move rfl rfl) ?_
  refine qk rfl rfl (qk rfl rfl (qk rfl rfl (qk rfl rfl (qk rfl rfl (qk rfl rfl (qk rfl rfl (qv (.bool true) (fun _ x' => x_pick_t rfl rfl rfl) ?_)))))))
  refine q_nil (fun w884 x885 => t_norm (c_true rfl (c_seq (c_quiet (qv (.bool false) (fun _ x' => x_assign rfl rfl) ?_)))))
  exact q_nil (fun w886 x887 => t_norm (c_ret (t_ret (c_done rfl rfl (Ret.b ((rightCmd_head (by simpa using c5) (by clear ha; simp only [empty_len] at *; simp_all [-List.length_eq_zero_iff] <;> first | omega | (intros; omega) | (intros; simp_all [-List.length_eq_zero_iff] <;> omega))).symm) ((((x3.trans x29).trans x609).trans x885).trans x887))))))
 refine qv (.bool false) (fun _ x' => x_move rfl rfl) ?_
 refine qk rfl rfl (qk rfl rfl (qv (.bool false) (fun _ x' => x_pick_f rfl rfl rfl) ?_))
 refine qv (.bool false) (fun _ x' => x_pick_f rfl rfl rfl) ?_
 refine q_nil (fun w888 x889 => t_norm (c_false rfl (c_skip (t_norm (c_seq (c_seq (c_quiet (qv (.pointer (some (⟨w.heap.size, 1, none⟩))) (fun _ x' => x_fieldAddr fld_37_1 rfl rfl rfl) ?_))))))))
 refine qv (.agg #[iJ a.txn.client, iJ a.txn.number]) (fun _ x' => x_load rfl rfl ((((b2.ext x29).ext x889).ext x').agg (vs := [iJ a.txn.client, iJ a.txn.number]) agg_31_2 rfl)) ?_
 refine q_callb (b := rightTxn a.txn) (vs := #[.agg #[iJ a.txn.client, iJ a.txn.number]]) fn_58 rfl rfl rfl (args1 rfl) (fun _ x' => D_rightTxn _ a.txn) (fun c890 => ?_) (fun c890 => ?_)
 ·refine qv (.bool false) (fun _ x' => x_not (b := true) rfl rfl) ?_
  refine qv (.bool false) (fun _ x' => x_move rfl rfl) ?_
  refine qv (.pointer (some (⟨w.heap.size, 3, none⟩))) (fun _ x' => x_fieldAddr fld_37_2 rfl rfl rfl) ?_
  refine qv (.agg #[iJ a.stp.time, iJ a.stp.client]) (fun _ x' => x_load rfl rfl ((((b2.ext x29).ext x889).ext x').agg (vs := [iJ a.stp.time, iJ a.stp.client]) agg_33_2 rfl)) ?_
  refine q_callb (b := rightStp a.stp) (vs := #[.agg #[iJ a.stp.time, iJ a.stp.client]]) fn_59 rfl rfl rfl (args1 rfl) (fun _ x' => D_rightStp _ a.stp) (fun c891 => ?_) (fun c891 => ?_)
  ·refine qv (.bool false) (fun _ x' => x_not (b := true) rfl rfl) ?_
   refine qv (.bool false) (fun _ x' => x_pick_f rfl rfl rfl) ?_
   refine qv (.bool false) (fun _ x' => x_move rfl rfl) ?_
   refine qv (.pointer (some (⟨w.heap.size, 3, none⟩))) (fun _ x' => x_fieldAddr fld_37_2 rfl rfl rfl) ?_
   refine qv (.pointer (some (⟨w.heap.size, 3, none⟩))) (fun _ x' => x_fieldAddr fld_33_0 rfl rfl rfl) ?_
   refine qv (iJ a.stp.time) (fun _ x' => x_load rfl rfl ((((b2.ext x29).ext x889).ext x').one one_3 rfl)) ?_
   refine q_bool (b := decide (a.stp.time = 0)) rfl rfl (fun _ x' => x_eql rfl rfl rfl) (fun c892 => ?_) (fun c892 => ?_)
   ·refine qv (.bool true) (fun _ x' => x_pick_f rfl rfl rfl) ?_
    refine qv (.bool true) (fun _ x' => x_move rfl rfl) ?_
    refine qk rfl rfl (qk rfl rfl (qk rfl rfl (qk rfl rfl (qk rfl rfl (qk rfl rfl (qk rfl rfl (qv (.bool true) (fun _ x' => x_pick_t rfl rfl rfl) ?_)))))))
    refine q_nil (fun w893 x894 => t_norm (c_true rfl (c_seq (c_quiet (qv (.bool false) (fun _ x' => x_assign rfl rfl) ?_)))))
    exact q_nil (fun w895 x896 => t_norm (c_ret (t_ret (c_done rfl rfl (Ret.b ((rightCmd_head (by simpa using c5) (by clear ha; simp only [empty_len] at *; simp_all [-List.length_eq_zero_iff] <;> first | omega | (intros; omega) | (intros; simp_all [-List.length_eq_zero_iff] <;> omega))).symm) ((((x3.trans x29).trans x889).trans x894).trans x896))))))
   refine qv (.bool false) (fun _ x' => x_pick_f rfl rfl rfl) ?_
   refine qv (.bool false) (fun _ x' => x_move rfl rfl) ?_
   refine qv (.pointer (some (⟨w.heap.size, 3, none⟩))) (fun _ x' => x_fieldAddr fld_37_2 rfl rfl rfl) ?_
   refine qv (.pointer (some (⟨w.heap.size, 4, none⟩))) (fun _ x' => x_fieldAddr fld_33_1 rfl rfl rfl) ?_
   refine qv (iJ a.stp.client) (fun _ x' => x_load rfl rfl ((((b2.ext x29).ext x889).ext x').one one_3 rfl)) ?_
   refine qv (.pointer (some (⟨w.heap.size, 1, none⟩))) (fun _ x' => x_fieldAddr fld_37_1 rfl rfl rfl) ?_
   refine qv (.pointer (some (⟨w.heap.size, 1, none⟩))) (fun _ x' => x_fieldAddr fld_31_0 rfl rfl rfl) ?_
   refine qv (iJ a.txn.client) (fun _ x' => x_load rfl rfl ((((b2.ext x29).ext x889).ext x').one one_3 rfl)) ?_
   refine q_bool (b := decide (a.stp.client ≠ a.txn.client)) rfl rfl (fun _ x' => x_neq rfl rfl rfl) (fun c897 => ?_) (fun c897 => ?_)
   ·refine qv (.bool true) (fun _ x' => x_pick_f rfl rfl rfl) ?_
    refine q_nil (fun w898 x899 => t_norm (c_true rfl (c_seq (c_quiet (qv (.bool false) (fun _ x' => x_assign rfl rfl) ?_)))))
    exact q_nil (fun w900 x901 => t_norm (c_ret (t_ret (c_done rfl rfl (Ret.b ((rightCmd_head (by simpa using c5) (by clear ha; simp only [empty_len] at *; simp_all [-List.length_eq_zero_iff] <;> first | omega | (intros; omega) | (intros; simp_all [-List.length_eq_zero_iff] <;> omega))).symm) ((((x3.trans x29).trans x889).trans x899).trans x901))))))
   refine qv (.bool false) (fun _ x' => x_pick_f rfl rfl rfl) ?_
   refine q_nil (fun w902 x903 => t_norm (c_false rfl (c_skip (t_norm (c_seq (c_seq (c_quiet (qv (.pointer (some (⟨w.heap.size, 5, none⟩))) (fun _ x' => x_fieldAddr fld_37_3 rfl rfl rfl) ?_))))))))
   refine qv (iJ a.shards) (fun _ x' => x_load rfl rfl (((((b2.ext x29).ext x889).ext x903).ext x').one one_3 rfl)) ?_
   refine q_bool (b := decide (a.shards ≤ 0)) rfl rfl (fun _ x' => x_leq rfl rfl rfl) (fun c904 => ?_) (fun c904 => ?_)
   ·refine qv (.bool true) (fun _ x' => x_move rfl rfl) ?_
    refine qk rfl rfl (qk rfl rfl (qk rfl rfl (qv (.bool true) (fun _ x' => x_pick_t rfl rfl rfl) ?_)))
    refine qv (.bool true) (fun _ x' => x_move rfl rfl) ?_
    refine qk rfl rfl (qk rfl rfl (qk rfl rfl (qk rfl rfl (qk rfl rfl (qk rfl rfl (qk rfl rfl (qk rfl rfl (qk rfl rfl (qk rfl rfl (qv (.bool true) (fun _ x' => x_pick_t rfl rfl rfl) ?_))))))))))
    refine q_nil (fun w905 x906 => t_norm (c_true rfl (c_seq (c_quiet (qv (.bool false) (fun _ x' => x_assign rfl rfl) ?_)))))
    exact q_nil (fun w907 x908 => t_norm (c_ret (t_ret (c_done rfl rfl (Ret.b ((rightCmd_head (by simpa using c5) (by clear ha; simp only [empty_len] at *; simp_all [-List.length_eq_zero_iff] <;> first | omega | (intros; omega) | (intros; simp_all [-List.length_eq_zero_iff] <;> omega))).symm) (((((x3.trans x29).trans x889).trans x903).trans x906).trans x908))))))
   refine qv (.bool false) (fun _ x' => x_move rfl rfl) ?_
   refine qv (.pointer (some (⟨w.heap.size, 5, none⟩))) (fun _ x' => x_fieldAddr fld_37_3 rfl rfl rfl) ?_
   refine qv (iJ a.shards) (fun _ x' => x_load rfl rfl (((((b2.ext x29).ext x889).ext x903).ext x').one one_3 rfl)) ?_
   refine q_bool (b := decide (a.shards ≥ 16)) rfl rfl (fun _ x' => x_geq rfl rfl rfl) (fun c909 => ?_) (fun c909 => ?_)
   ·refine qv (.bool true) (fun _ x' => x_pick_f rfl rfl rfl) ?_
    refine qv (.bool true) (fun _ x' => x_move rfl rfl) ?_
    refine qk rfl rfl (qk rfl rfl (qk rfl rfl (qk rfl rfl (qk rfl rfl (qk rfl rfl (qk rfl rfl (qk rfl rfl (qk rfl rfl (qk rfl rfl (qv (.bool true) (fun _ x' => x_pick_t rfl rfl rfl) ?_))))))))))
    refine q_nil (fun w910 x911 => t_norm (c_true rfl (c_seq (c_quiet (qv (.bool false) (fun _ x' => x_assign rfl rfl) ?_)))))
    exact q_nil (fun w912 x913 => t_norm (c_ret (t_ret (c_done rfl rfl (Ret.b ((rightCmd_head (by simpa using c5) (by clear ha; simp only [empty_len] at *; simp_all [-List.length_eq_zero_iff] <;> first | omega | (intros; omega) | (intros; simp_all [-List.length_eq_zero_iff] <;> omega))).symm) (((((x3.trans x29).trans x889).trans x903).trans x911).trans x913))))))
   refine qv (.bool false) (fun _ x' => x_pick_f rfl rfl rfl) ?_
   refine qv (.bool false) (fun _ x' => x_move rfl rfl) ?_
   refine qv (.pointer (some (⟨w.heap.size, 6, none⟩))) (fun _ x' => x_fieldAddr fld_37_4 rfl rfl rfl) ?_
   refine qv (.slice pa.A a.reads.length pa.n) (fun _ x' => x_load rfl rfl (((((b2.ext x29).ext x889).ext x903).ext x').one one_34 rfl)) ?_
   refine qv (iJ (a.reads.length : Int)) (fun _ x' => x_len_slice sl_34 rfl rfl) ?_
   refine q_bool (b := decide ((a.reads.length : Int) = 0)) rfl rfl (fun _ x' => x_eql rfl rfl rfl) (fun c914 => ?_) (fun c914 => ?_)
   ·refine qv (.bool true) (fun _ x' => x_move rfl rfl) ?_
    refine qv (.pointer (some (⟨w.heap.size, 7, none⟩))) (fun _ x' => x_fieldAddr fld_37_5 rfl rfl rfl) ?_
    refine qv (.slice pa.B a.writes.length pa.m) (fun _ x' => x_load rfl rfl (((((b2.ext x29).ext x889).ext x903).ext x').one one_35 rfl)) ?_
    refine qv (iJ (a.writes.length : Int)) (fun _ x' => x_len_slice sl_35 rfl rfl) ?_
    refine q_bool (b := decide ((a.writes.length : Int) = 0)) rfl rfl (fun _ x' => x_eql rfl rfl rfl) (fun c915 => ?_) (fun c915 => ?_)
    ·refine qv (.bool true) (fun _ x' => x_pick_t rfl rfl rfl) ?_
     refine qv (.bool true) (fun _ x' => x_pick_f rfl rfl rfl) ?_
     refine q_nil (fun w916 x917 => t_norm (c_true rfl (c_seq (c_quiet (qv (.bool false) (fun _ x' => x_assign rfl rfl) ?_)))))
     exact q_nil (fun w918 x919 => t_norm (c_ret (t_ret (c_done rfl rfl (Ret.b ((rightCmd_head (by simpa using c5) (by clear ha; simp only [empty_len] at *; simp_all [-List.length_eq_zero_iff] <;> first | omega | (intros; omega) | (intros; simp_all [-List.length_eq_zero_iff] <;> omega))).symm) (((((x3.trans x29).trans x889).trans x903).trans x917).trans x919))))))
    refine qv (.bool false) (fun _ x' => x_pick_t rfl rfl rfl) ?_
    refine qv (.bool false) (fun _ x' => x_pick_f rfl rfl rfl) ?_
    refine q_nil (fun w920 x921 => t_norm (c_false rfl (c_skip (t_norm (c_seq (c_quiet (qv (.slice none 0 0) (fun _ x' => x_assign rfl rfl) ?_)))))))
    refine q_nil (fun w922 x923 => t_norm (c_seq (c_seq (c_quiet (qv (iJ 0) (fun _ x' => x_assign rfl rfl) ?_)))))
    refine q_nil (fun w924 x925 => t_norm (c_block (c_loop (fun ρ w934 => ∃ k926 : Nat, ∃ A929 : Option Addr, ∃ c930 : Nat, k926 ≤ a.reads.length ∧ (a.reads.take k926).all (oldRd a) = true ∧ World.ownsRow w934 w924.heap.size 9 1 (.slice A929 k926 c930) k926 (((a.reads.map (·.key)).take k926).flatMap fStr) ∧ k926 ≤ c930 ∧ c930 ≤ 9223372036854775807 ∧ ρ 1 = pJ w.heap.size ∧ ρ 3 = .slice A929 k926 c930 ∧ ρ 4 = iJ (k926 : Int) ∧ Ext w924 w934) (fun ρ _ => a.reads.length - (intOf (ρ 4)).toNat) ⟨0, none, 0, Nat.zero_le _, rfl, own_nil _ _ _ _, Nat.le_refl _, Nat.zero_le _, rfl, rfl, rfl, Ext.refl _⟩ ?_)))
    rintro ρ w934 ⟨k926, A929, c930, hk927, hi928, ho931, h932, h933, e936, e937, e938, x935⟩
    by_cases hl939 : k926 < a.reads.length
    ·obtain ⟨y940, hx941⟩ := some_of (l := a.reads) (k := k926) (by omega)
     obtain ⟨ad942, cs943, eA944, hK945, hE946⟩ := ha.reads k926 y940 hx941
     have hK945' : cs943 = [.string y940.key, iJ y940.ver.time, iJ y940.ver.client] := hK945
     subst hK945'
     refine c_seq (c_seq (c_quiet (qv (iJ (k926 : Int)) (fun _ x' => x_move rfl e938) ?_)))
     refine qv (.pointer (some (⟨w.heap.size, 6, none⟩))) (fun _ x' => x_fieldAddr fld_37_4 rfl e936 rfl) ?_
     refine qv (.slice pa.A a.reads.length pa.n) (fun _ x' => x_load rfl rfl (((((((((b2.ext x29).ext x889).ext x903).ext x921).ext x923).ext x925).ext x935).ext x').one one_34 rfl)) ?_
     refine qv (iJ (a.reads.length : Int)) (fun _ x' => x_len_slice sl_34 rfl rfl) ?_
     refine qv (.bool true) (fun _ x' => yb (x_lss rfl rfl rfl) (decide_eq_true (by omega))) ?_
     refine q_nil (fun w948 x949 => t_norm (c_true rfl (c_skip (t_norm (c_seq (c_block (c_seq (c_seq (c_draw mixed (by kernel_rfl) (qv (.pointer (some (⟨w.heap.size, 6, none⟩))) (fun _ x' => x_fieldAddr fld_37_4 rfl e936 rfl) ?_))))))))))
     refine qv (.slice pa.A a.reads.length pa.n) (fun _ x' => x_load rfl rfl ((((((((((b2.ext x29).ext x889).ext x903).ext x921).ext x923).ext x925).ext x935).ext x949).ext x').one one_34 rfl)) ?_
     refine qv (iJ (k926 : Int)) (fun _ x' => x_move rfl e938) ?_
     refine qv (.pointer (some (ad942.add (k926 * 3)))) (fun _ x' => x_indexAddr sl_34 rfl rfl eA944 rfl (by omega) (by omega) rfl) ?_
     refine qv (.pointer (some ((ad942.add (k926 * 3)).add 1))) (fun _ x' => x_fieldAddr fld_78_1 rfl rfl rfl) ?_
     refine qv (.agg #[iJ y940.ver.time, iJ y940.ver.client]) (fun _ x' => x_load rfl rfl (((((((((((hE946.ext x3).ext x29).ext x889).ext x903).ext x921).ext x923).ext x925).ext x935).ext x949).ext x').agg (vs := [iJ y940.ver.time, iJ y940.ver.client]) agg_33_2 1 rfl rfl)) ?_
     refine q_callb (b := rightStp y940.ver) (vs := #[.agg #[iJ y940.ver.time, iJ y940.ver.client]]) fn_59 rfl rfl rfl (args1 rfl) (fun _ x' => D_rightStp _ y940.ver) (fun c950 => ?_) (fun c950 => ?_)
     ·refine qv (.bool false) (fun _ x' => x_not (b := true) rfl rfl) ?_
      refine qv (.bool false) (fun _ x' => x_move rfl rfl) ?_
      refine qv (.pointer (some (⟨w.heap.size, 6, none⟩))) (fun _ x' => x_fieldAddr fld_37_4 rfl e936 rfl) ?_
      refine qv (.slice pa.A a.reads.length pa.n) (fun _ x' => x_load rfl rfl ((((((((((b2.ext x29).ext x889).ext x903).ext x921).ext x923).ext x925).ext x935).ext x949).ext x').one one_34 rfl)) ?_
      refine qv (iJ (k926 : Int)) (fun _ x' => x_move rfl e938) ?_
      refine qv (.pointer (some (ad942.add (k926 * 3)))) (fun _ x' => x_indexAddr sl_34 rfl rfl eA944 rfl (by omega) (by omega) rfl) ?_
      refine qv (.pointer (some ((ad942.add (k926 * 3)).add 1))) (fun _ x' => x_fieldAddr fld_78_1 rfl rfl rfl) ?_
      refine qv (.agg #[iJ y940.ver.time, iJ y940.ver.client]) (fun _ x' => x_load rfl rfl (((((((((((hE946.ext x3).ext x29).ext x889).ext x903).ext x921).ext x923).ext x925).ext x935).ext x949).ext x').agg (vs := [iJ y940.ver.time, iJ y940.ver.client]) agg_33_2 1 rfl rfl)) ?_
      refine qv (.pointer (some (⟨w.heap.size, 3, none⟩))) (fun _ x' => x_fieldAddr fld_37_2 rfl e936 rfl) ?_
      refine qv (.agg #[iJ a.stp.time, iJ a.stp.client]) (fun _ x' => x_load rfl rfl ((((((((((b2.ext x29).ext x889).ext x903).ext x921).ext x923).ext x925).ext x935).ext x949).ext x').agg (vs := [iJ a.stp.time, iJ a.stp.client]) agg_33_2 rfl)) ?_
      refine q_callb (b := decide (cmpStp y940.ver a.stp < 0)) (vs := #[.agg #[iJ y940.ver.time, iJ y940.ver.client], .agg #[iJ a.stp.time, iJ a.stp.client]]) fn_60 rfl rfl rfl (args2 rfl rfl) (fun _ x' => D_before _ y940.ver a.stp) (fun c951 => ?_) (fun c951 => ?_)
      ·refine qv (.bool false) (fun _ x' => x_not (b := true) rfl rfl) ?_
       refine qv (.bool false) (fun _ x' => x_pick_f rfl rfl rfl) ?_
       refine q_nil (fun w952 x953 => t_norm (c_false rfl (c_skip (t_norm (c_plain (pv (.slice A929 k926 c930) (x_move rfl e937) ?_))))))
       refine pv (.pointer (some (⟨w.heap.size, 6, none⟩))) (x_fieldAddr fld_37_4 rfl e936 rfl) ?_
       refine pv (.slice pa.A a.reads.length pa.n) (x_load rfl rfl ((((((((((b2.ext x29).ext x889).ext x903).ext x921).ext x923).ext x925).ext x935).ext x949).ext x953).one one_34 rfl)) ?_
       refine pv (iJ (k926 : Int)) (x_move rfl e938) ?_
       refine pv (.pointer (some (ad942.add (k926 * 3)))) (x_indexAddr sl_34 rfl rfl eA944 rfl (by omega) (by omega) rfl) ?_
       refine pv (.pointer (some (ad942.add (k926 * 3)))) (x_fieldAddr fld_78_0 rfl rfl rfl) ?_
       refine pv (.string y940.key) (x_load rfl rfl (((((((((((hE946.ext x3).ext x29).ext x889).ext x903).ext x921).ext x923).ext x925).ext x935).ext x949).ext x953).one one_9 0 rfl rfl)) ?_
       refine p_buildSlice (cs := [.string y940.key]) el_104 rfl rfl rfl (parts1 rfl) (by decide) (by decide) (fill_ok [.string y940.key] [.string y940.key] rfl rfl) (fun w954 b955 x956 z957 => ?_)
       refine p_appendK (B := w924.heap.size) (k := k926) (m := 1) (cs := (((a.reads.map (·.key)).take k926).flatMap fStr)) (news := [.string y940.key]) (ad := ⟨w952.heap.size, 0, none⟩) el_104 rfl rfl rfl rfl (own_ext ho931 ((x949.trans x953).trans x956)) rfl rfl b955.put rfl (by omega) (by omega) (((x935.trans x949).trans x953).trans x956).size (fun A961 c962 w958 o959 kp960 h963 h964 => ?_)
       refine pv (.slice A961 (k926 + 1) c962) (x_assign rfl rfl) ?_
       refine p_nil (b_norm (t_norm (c_quiet (qv (iJ (k926 : Int)) (fun _ x' => x_move rfl e938) ?_))))
       refine qv (iJ ((k926 : Int) + 1)) (fun _ x' => x_add rfl rfl rfl (wrap_of (by omega) (by omega))) ?_
       refine qv (iJ ((k926 : Int) + 1)) (fun _ x' => x_assign rfl rfl) ?_
       exact q_nil (fun w965 x966 => t_norm (⟨_, rfl, ⟨k926 + 1, A961, c962, by omega, all_step (p := oldRd a) hi928 hx941 (by simp_all [oldRd]), (by rw [← flat_step (map_of (g := fun z => z.key) hx941)]; exact (own_ext o959 x966)), h963, h964, e936, rfl, rfl, (((((x935.trans x949).trans x953).trans x956).below (Nat.le_refl _) kp960.below).trans x966)⟩, meas_up e938 hl939⟩))
      refine qv (.bool true) (fun _ x' => x_not (b := false) rfl rfl) ?_
      refine qv (.bool true) (fun _ x' => x_pick_f rfl rfl rfl) ?_
      refine q_nil (fun w967 x968 => t_norm (c_true rfl (c_seq (c_quiet (qv (.bool false) (fun _ x' => x_assign rfl rfl) ?_)))))
      exact q_nil (fun w969 x970 => t_norm (c_ret (t_ret (b_ret (t_ret (t_ret (b_ret (t_ret (c_done rfl rfl (Ret.b ((rightCmd_reads (by simpa using c5) (all_fail (p := oldRd a) hx941 (by simp only [oldRd]; simp_all))).symm) ((((((((((x3.trans x29).trans x889).trans x903).trans x921).trans x923).trans x925).trans x935).trans x949).trans x968).trans x970)))))))))))
     refine qv (.bool true) (fun _ x' => x_not (b := false) rfl rfl) ?_
     refine qv (.bool true) (fun _ x' => x_move rfl rfl) ?_
     refine qk rfl rfl (qk rfl rfl (qk rfl rfl (qk rfl rfl (qk rfl rfl (qk rfl rfl (qk rfl rfl (qk rfl rfl (qk rfl rfl (qk rfl rfl (qv (.bool true) (fun _ x' => x_pick_t rfl rfl rfl) ?_))))))))))
     refine q_nil (fun w971 x972 => t_norm (c_true rfl (c_seq (c_quiet (qv (.bool false) (fun _ x' => x_assign rfl rfl) ?_)))))
     exact q_nil (fun w973 x974 => t_norm (c_ret (t_ret (b_ret (t_ret (t_ret (b_ret (t_ret (c_done rfl rfl (Ret.b ((rightCmd_reads (by simpa using c5) (all_fail (p := oldRd a) hx941 (by simp only [oldRd]; simp_all))).symm) ((((((((((x3.trans x29).trans x889).trans x903).trans x921).trans x923).trans x925).trans x935).trans x949).trans x972).trans x974)))))))))))
    have hr975 := own_lies (d := kStr) (xs := a.reads.map (·.key)) (by rw [show (a.reads.map (·.key)) = (a.reads.map (·.key)).take k926 from by rw [List.take_of_length_le (by simp; omega)]]; exact ho931) (by simp; omega) (fun _ => rfl) (fun _ => rfl)
    have he976 : k926 = (a.reads.map (·.key)).length := by simp; omega
    refine c_seq (c_seq (c_quiet (qv (iJ (k926 : Int)) (fun _ x' => x_move rfl e938) ?_)))
    refine qv (.pointer (some (⟨w.heap.size, 6, none⟩))) (fun _ x' => x_fieldAddr fld_37_4 rfl e936 rfl) ?_
    refine qv (.slice pa.A a.reads.length pa.n) (fun _ x' => x_load rfl rfl (((((((((b2.ext x29).ext x889).ext x903).ext x921).ext x923).ext x925).ext x935).ext x').one one_34 rfl)) ?_
    refine qv (iJ (a.reads.length : Int)) (fun _ x' => x_len_slice sl_34 rfl rfl) ?_
    refine qv (.bool false) (fun _ x' => yb (x_lss rfl rfl rfl) (decide_eq_false (by omega))) ?_
    refine q_nil (fun w977 x978 => t_norm (c_false rfl (c_exit (t_exit (t_exit (b_exit (t_norm (c_seq (c_quiet (qv (.slice none 0 0) (fun _ x' => x_assign rfl rfl) ?_))))))))))
    refine q_nil (fun w979 x980 => t_norm (c_seq (c_seq (c_quiet (qv (iJ 0) (fun _ x' => x_assign rfl rfl) ?_)))))
    refine q_nil (fun w981 x982 => t_norm (c_block (c_loop (fun ρ w991 => ∃ k983 : Nat, ∃ A986 : Option Addr, ∃ c987 : Nat, k983 ≤ a.writes.length ∧ (a.writes.take k983).all (fun x : Wr => decide (x.val.size ≤ 8)) = true ∧ World.ownsRow w991 w981.heap.size 9 1 (.slice A986 k983 c987) k983 (((a.writes.map (·.key)).take k983).flatMap fStr) ∧ k983 ≤ c987 ∧ c987 ≤ 9223372036854775807 ∧ ρ 1 = pJ w.heap.size ∧ ρ 3 = .slice A929 k926 c930 ∧ ρ 5 = .slice A986 k983 c987 ∧ ρ 6 = iJ (k983 : Int) ∧ Ext w981 w991) (fun ρ _ => a.writes.length - (intOf (ρ 6)).toNat) ⟨0, none, 0, Nat.zero_le _, rfl, own_nil _ _ _ _, Nat.le_refl _, Nat.zero_le _, e936, e937, rfl, rfl, Ext.refl _⟩ ?_)))
    rintro ρ w991 ⟨k983, A986, c987, hk984, hi985, ho988, h989, h990, e993, e994, e995, e996, x992⟩
    by_cases hl997 : k983 < a.writes.length
    ·obtain ⟨y998, hx999⟩ := some_of (l := a.writes) (k := k983) (by omega)
     obtain ⟨ad1000, cs1001, eA1002, hK1003, hE1004⟩ := ha.writes k983 y998 hx999
     have hK1003' : cs1001 = [.string y998.key, .string y998.val] := hK1003
     subst hK1003'
     refine c_seq (c_seq (c_quiet (qv (iJ (k983 : Int)) (fun _ x' => x_move rfl e996) ?_)))
     refine qv (.pointer (some (⟨w.heap.size, 7, none⟩))) (fun _ x' => x_fieldAddr fld_37_5 rfl e993 rfl) ?_
     refine qv (.slice pa.B a.writes.length pa.m) (fun _ x' => x_load rfl rfl (((((((((((((b2.ext x29).ext x889).ext x903).ext x921).ext x923).ext x925).ext x935).ext x978).ext x980).ext x982).ext x992).ext x').one one_35 rfl)) ?_
     refine qv (iJ (a.writes.length : Int)) (fun _ x' => x_len_slice sl_35 rfl rfl) ?_
     refine qv (.bool true) (fun _ x' => yb (x_lss rfl rfl rfl) (decide_eq_true (by omega))) ?_
     refine q_nil (fun w1006 x1007 => t_norm (c_true rfl (c_skip (t_norm (c_seq (c_block (c_seq (c_seq (c_quiet (qv (.pointer (some (⟨w.heap.size, 7, none⟩))) (fun _ x' => x_fieldAddr fld_37_5 rfl e993 rfl) ?_))))))))))
     refine qv (.slice pa.B a.writes.length pa.m) (fun _ x' => x_load rfl rfl ((((((((((((((b2.ext x29).ext x889).ext x903).ext x921).ext x923).ext x925).ext x935).ext x978).ext x980).ext x982).ext x992).ext x1007).ext x').one one_35 rfl)) ?_
     refine qv (iJ (k983 : Int)) (fun _ x' => x_move rfl e996) ?_
     refine qv (.pointer (some (ad1000.add (k983 * 2)))) (fun _ x' => x_indexAddr sl_35 rfl rfl eA1002 rfl (by omega) (by omega) rfl) ?_
     refine qv (.pointer (some ((ad1000.add (k983 * 2)).add 1))) (fun _ x' => x_fieldAddr fld_80_1 rfl rfl rfl) ?_
     refine qv (.string y998.val) (fun _ x' => x_load rfl rfl (((((((((((((((hE1004.ext x3).ext x29).ext x889).ext x903).ext x921).ext x923).ext x925).ext x935).ext x978).ext x980).ext x982).ext x992).ext x1007).ext x').one one_9 1 rfl rfl)) ?_
     refine qv (iJ (y998.val.size : Int)) (fun _ x' => x_len_string str_9 rfl rfl) ?_
     refine q_bool (b := decide ((y998.val.size : Int) > 8)) rfl rfl (fun _ x' => x_gtr rfl rfl rfl) (fun c1008 => ?_) (fun c1008 => ?_)
     ·refine q_nil (fun w1009 x1010 => t_norm (c_true rfl (c_seq (c_quiet (qv (.bool false) (fun _ x' => x_assign rfl rfl) ?_)))))
      exact q_nil (fun w1011 x1012 => t_norm (c_ret (t_ret (b_ret (t_ret (t_ret (b_ret (t_ret (c_done rfl rfl (Ret.b ((rightCmd_writes (by simpa using c5) (all_fail (p := fun x : Wr => decide (x.val.size ≤ 8)) hx999 (by simp_all <;> omega))).symm) ((((((((((((((x3.trans x29).trans x889).trans x903).trans x921).trans x923).trans x925).trans x935).trans x978).trans x980).trans x982).trans x992).trans x1007).trans x1010).trans x1012)))))))))))
     refine q_nil (fun w1013 x1014 => t_norm (c_false rfl (c_skip (t_norm (c_plain (pv (.slice A986 k983 c987) (x_move rfl e995) ?_))))))
     refine pv (.pointer (some (⟨w.heap.size, 7, none⟩))) (x_fieldAddr fld_37_5 rfl e993 rfl) ?_
     refine pv (.slice pa.B a.writes.length pa.m) (x_load rfl rfl ((((((((((((((b2.ext x29).ext x889).ext x903).ext x921).ext x923).ext x925).ext x935).ext x978).ext x980).ext x982).ext x992).ext x1007).ext x1014).one one_35 rfl)) ?_
     refine pv (iJ (k983 : Int)) (x_move rfl e996) ?_
     refine pv (.pointer (some (ad1000.add (k983 * 2)))) (x_indexAddr sl_35 rfl rfl eA1002 rfl (by omega) (by omega) rfl) ?_
     refine pv (.pointer (some (ad1000.add (k983 * 2)))) (x_fieldAddr fld_80_0 rfl rfl rfl) ?_
     refine pv (.string y998.key) (x_load rfl rfl (((((((((((((((hE1004.ext x3).ext x29).ext x889).ext x903).ext x921).ext x923).ext x925).ext x935).ext x978).ext x980).ext x982).ext x992).ext x1007).ext x1014).one one_9 0 rfl rfl)) ?_
     refine p_buildSlice (cs := [.string y998.key]) el_104 rfl rfl rfl (parts1 rfl) (by decide) (by decide) (fill_ok [.string y998.key] [.string y998.key] rfl rfl) (fun w1015 b1016 x1017 z1018 => ?_)
     refine p_appendK (B := w981.heap.size) (k := k983) (m := 1) (cs := (((a.writes.map (·.key)).take k983).flatMap fStr)) (news := [.string y998.key]) (ad := ⟨w1013.heap.size, 0, none⟩) el_104 rfl rfl rfl rfl (own_ext ho988 ((x1007.trans x1014).trans x1017)) rfl rfl b1016.put rfl (by omega) (by omega) (((x992.trans x1007).trans x1014).trans x1017).size (fun A1022 c1023 w1019 o1020 kp1021 h1024 h1025 => ?_)
     refine pv (.slice A1022 (k983 + 1) c1023) (x_assign rfl rfl) ?_
     refine p_nil (b_norm (t_norm (c_quiet (qv (iJ (k983 : Int)) (fun _ x' => x_move rfl e996) ?_))))
     refine qv (iJ ((k983 : Int) + 1)) (fun _ x' => x_add rfl rfl rfl (wrap_of (by omega) (by omega))) ?_
     refine qv (iJ ((k983 : Int) + 1)) (fun _ x' => x_assign rfl rfl) ?_
     exact q_nil (fun w1026 x1027 => t_norm (⟨_, rfl, ⟨k983 + 1, A1022, c1023, by omega, all_step (p := fun x : Wr => decide (x.val.size ≤ 8)) hi985 hx999 (by simp_all <;> omega), (by rw [← flat_step (map_of (g := fun z => z.key) hx999)]; exact (own_ext o1020 x1027)), h1024, h1025, e993, e994, rfl, rfl, (((((x992.trans x1007).trans x1014).trans x1017).below (Nat.le_refl _) kp1021.below).trans x1027)⟩, meas_up e996 hl997⟩))
    have hr1028 := own_lies (d := kStr) (xs := a.writes.map (·.key)) (by rw [show (a.writes.map (·.key)) = (a.writes.map (·.key)).take k983 from by rw [List.take_of_length_le (by simp; omega)]]; exact ho988) (by simp; omega) (fun _ => rfl) (fun _ => rfl)
    have he1029 : k983 = (a.writes.map (·.key)).length := by simp; omega
    refine c_seq (c_seq (c_quiet (qv (iJ (k983 : Int)) (fun _ x' => x_move rfl e996) ?_)))
    refine qv (.pointer (some (⟨w.heap.size, 7, none⟩))) (fun _ x' => x_fieldAddr fld_37_5 rfl e993 rfl) ?_
    refine qv (.slice pa.B a.writes.length pa.m) (fun _ x' => x_load rfl rfl (((((((((((((b2.ext x29).ext x889).ext x903).ext x921).ext x923).ext x925).ext x935).ext x978).ext x980).ext x982).ext x992).ext x').one one_35 rfl)) ?_
    refine qv (iJ (a.writes.length : Int)) (fun _ x' => x_len_slice sl_35 rfl rfl) ?_
    refine qv (.bool false) (fun _ x' => yb (x_lss rfl rfl rfl) (decide_eq_false (by omega))) ?_
    refine q_nil (fun w1030 x1031 => t_norm (c_false rfl (c_exit (t_exit (t_exit (b_exit (t_norm (c_seq (c_quiet (qv (.slice A929 k926 c930) (fun _ x' => x_move rfl e994) ?_))))))))))
    refine q_callb (b := rightKeys (a.reads.map (·.key))) (vs := #[.slice A929 k926 c930]) fn_61 rfl rfl rfl (args1 rfl) (fun _ x' => D_rightKeys _ _ _ _ (a.reads.map (·.key)) he976 ((((((hr975.ext x978).ext x980).ext x982).ext x992).ext x1031).ext x') (by simp; omega)) (fun c1032 => ?_) (fun c1032 => ?_)
    ·refine qv (.bool true) (fun _ x' => x_move rfl rfl) ?_
     refine qv (.slice A986 k983 c987) (fun _ x' => x_move rfl e995) ?_
     refine q_callb (b := rightKeys (a.writes.map (·.key))) (vs := #[.slice A986 k983 c987]) fn_61 rfl rfl rfl (args1 rfl) (fun _ x' => D_rightKeys _ _ _ _ (a.writes.map (·.key)) he1029 ((hr1028.ext x1031).ext x') (by simp; omega)) (fun c1033 => ?_) (fun c1033 => ?_)
     ·refine qv (.bool true) (fun _ x' => x_pick_t rfl rfl rfl) ?_
      refine qv (.bool true) (fun _ x' => x_assign rfl rfl) ?_
      exact q_nil (fun w1034 x1035 => t_norm (c_ret (c_done rfl rfl (Ret.b (rightCmd_end (by simpa using c5) (all_end hi928 hl939) (all_end hi985 hl997) c1032 (fun _ => c1033) (fun h => by cases h) (by clear ha; simp only [empty_len] at *; simp_all [-List.length_eq_zero_iff] <;> first | omega | (intros; omega) | (intros; simp_all [-List.length_eq_zero_iff] <;> omega))) (((((((((((((x3.trans x29).trans x889).trans x903).trans x921).trans x923).trans x925).trans x935).trans x978).trans x980).trans x982).trans x992).trans x1031).trans x1035)))))
     refine qv (.bool false) (fun _ x' => x_pick_t rfl rfl rfl) ?_
     refine qv (.bool false) (fun _ x' => x_assign rfl rfl) ?_
     exact q_nil (fun w1036 x1037 => t_norm (c_ret (c_done rfl rfl (Ret.b (rightCmd_end (by simpa using c5) (all_end hi928 hl939) (all_end hi985 hl997) c1032 (fun _ => c1033) (fun h => by cases h) (by clear ha; simp only [empty_len] at *; simp_all [-List.length_eq_zero_iff] <;> first | omega | (intros; omega) | (intros; simp_all [-List.length_eq_zero_iff] <;> omega))) (((((((((((((x3.trans x29).trans x889).trans x903).trans x921).trans x923).trans x925).trans x935).trans x978).trans x980).trans x982).trans x992).trans x1031).trans x1037)))))
    refine qv (.bool false) (fun _ x' => x_move rfl rfl) ?_
    refine qk rfl rfl (qk rfl rfl (qv (.bool false) (fun _ x' => x_pick_f rfl rfl rfl) ?_))
    refine qv (.bool false) (fun _ x' => x_assign rfl rfl) ?_
    exact q_nil (fun w1038 x1039 => t_norm (c_ret (c_done rfl rfl (Ret.b (rightCmd_end (by simpa using c5) (all_end hi928 hl939) (all_end hi985 hl997) c1032 (fun h => by cases h) (fun _ => rfl) (by clear ha; simp only [empty_len] at *; simp_all [-List.length_eq_zero_iff] <;> first | omega | (intros; omega) | (intros; simp_all [-List.length_eq_zero_iff] <;> omega))) (((((((((((((x3.trans x29).trans x889).trans x903).trans x921).trans x923).trans x925).trans x935).trans x978).trans x980).trans x982).trans x992).trans x1031).trans x1039)))))
   refine qv (.bool false) (fun _ x' => x_move rfl rfl) ?_
   refine qk rfl rfl (qk rfl rfl (qk rfl rfl (qk rfl rfl (qv (.bool false) (fun _ x' => x_pick_f rfl rfl rfl) ?_))))
   refine qv (.bool false) (fun _ x' => x_pick_f rfl rfl rfl) ?_
   refine q_nil (fun w1040 x1041 => t_norm (c_false rfl (c_skip (t_norm (c_seq (c_quiet (qv (.slice none 0 0) (fun _ x' => x_assign rfl rfl) ?_)))))))
   refine q_nil (fun w1042 x1043 => t_norm (c_seq (c_seq (c_quiet (qv (iJ 0) (fun _ x' => x_assign rfl rfl) ?_)))))
   refine q_nil (fun w1044 x1045 => t_norm (c_block (c_loop (fun ρ w1054 => ∃ k1046 : Nat, ∃ A1049 : Option Addr, ∃ c1050 : Nat, k1046 ≤ a.reads.length ∧ (a.reads.take k1046).all (oldRd a) = true ∧ World.ownsRow w1054 w1044.heap.size 9 1 (.slice A1049 k1046 c1050) k1046 (((a.reads.map (·.key)).take k1046).flatMap fStr) ∧ k1046 ≤ c1050 ∧ c1050 ≤ 9223372036854775807 ∧ ρ 1 = pJ w.heap.size ∧ ρ 3 = .slice A1049 k1046 c1050 ∧ ρ 4 = iJ (k1046 : Int) ∧ Ext w1044 w1054) (fun ρ _ => a.reads.length - (intOf (ρ 4)).toNat) ⟨0, none, 0, Nat.zero_le _, rfl, own_nil _ _ _ _, Nat.le_refl _, Nat.zero_le _, rfl, rfl, rfl, Ext.refl _⟩ ?_)))
   rintro ρ w1054 ⟨k1046, A1049, c1050, hk1047, hi1048, ho1051, h1052, h1053, e1056, e1057, e1058, x1055⟩
   by_cases hl1059 : k1046 < a.reads.length
   ·obtain ⟨y1060, hx1061⟩ := some_of (l := a.reads) (k := k1046) (by omega)
    obtain ⟨ad1062, cs1063, eA1064, hK1065, hE1066⟩ := ha.reads k1046 y1060 hx1061
    have hK1065' : cs1063 = [.string y1060.key, iJ y1060.ver.time, iJ y1060.ver.client] := hK1065
    subst hK1065'
    refine c_seq (c_seq (c_quiet (qv (iJ (k1046 : Int)) (fun _ x' => x_move rfl e1058) ?_)))
    refine qv (.pointer (some (⟨w.heap.size, 6, none⟩))) (fun _ x' => x_fieldAddr fld_37_4 rfl e1056 rfl) ?_
    refine qv (.slice pa.A a.reads.length pa.n) (fun _ x' => x_load rfl rfl (((((((((b2.ext x29).ext x889).ext x903).ext x1041).ext x1043).ext x1045).ext x1055).ext x').one one_34 rfl)) ?_
    refine qv (iJ (a.reads.length : Int)) (fun _ x' => x_len_slice sl_34 rfl rfl) ?_
    refine qv (.bool true) (fun _ x' => yb (x_lss rfl rfl rfl) (decide_eq_true (by omega))) ?_
    refine q_nil (fun w1068 x1069 => t_norm (c_true rfl (c_skip (t_norm (c_seq (c_block (c_seq (c_seq (c_draw mixed (by kernel_rfl) (qv (.pointer (some (⟨w.heap.size, 6, none⟩))) (fun _ x' => x_fieldAddr fld_37_4 rfl e1056 rfl) ?_))))))))))
    refine qv (.slice pa.A a.reads.length pa.n) (fun _ x' => x_load rfl rfl ((((((((((b2.ext x29).ext x889).ext x903).ext x1041).ext x1043).ext x1045).ext x1055).ext x1069).ext x').one one_34 rfl)) ?_
    refine qv (iJ (k1046 : Int)) (fun _ x' => x_move rfl e1058) ?_
    refine qv (.pointer (some (ad1062.add (k1046 * 3)))) (fun _ x' => x_indexAddr sl_34 rfl rfl eA1064 rfl (by omega) (by omega) rfl) ?_
    refine qv (.pointer (some ((ad1062.add (k1046 * 3)).add 1))) (fun _ x' => x_fieldAddr fld_78_1 rfl rfl rfl) ?_
    refine qv (.agg #[iJ y1060.ver.time, iJ y1060.ver.client]) (fun _ x' => x_load rfl rfl (((((((((((hE1066.ext x3).ext x29).ext x889).ext x903).ext x1041).ext x1043).ext x1045).ext x1055).ext x1069).ext x').agg (vs := [iJ y1060.ver.time, iJ y1060.ver.client]) agg_33_2 1 rfl rfl)) ?_
    refine q_callb (b := rightStp y1060.ver) (vs := #[.agg #[iJ y1060.ver.time, iJ y1060.ver.client]]) fn_59 rfl rfl rfl (args1 rfl) (fun _ x' => D_rightStp _ y1060.ver) (fun c1070 => ?_) (fun c1070 => ?_)
    ·refine qv (.bool false) (fun _ x' => x_not (b := true) rfl rfl) ?_
     refine qv (.bool false) (fun _ x' => x_move rfl rfl) ?_
     refine qv (.pointer (some (⟨w.heap.size, 6, none⟩))) (fun _ x' => x_fieldAddr fld_37_4 rfl e1056 rfl) ?_
     refine qv (.slice pa.A a.reads.length pa.n) (fun _ x' => x_load rfl rfl ((((((((((b2.ext x29).ext x889).ext x903).ext x1041).ext x1043).ext x1045).ext x1055).ext x1069).ext x').one one_34 rfl)) ?_
     refine qv (iJ (k1046 : Int)) (fun _ x' => x_move rfl e1058) ?_
     refine qv (.pointer (some (ad1062.add (k1046 * 3)))) (fun _ x' => x_indexAddr sl_34 rfl rfl eA1064 rfl (by omega) (by omega) rfl) ?_
     refine qv (.pointer (some ((ad1062.add (k1046 * 3)).add 1))) (fun _ x' => x_fieldAddr fld_78_1 rfl rfl rfl) ?_
     refine qv (.agg #[iJ y1060.ver.time, iJ y1060.ver.client]) (fun _ x' => x_load rfl rfl (((((((((((hE1066.ext x3).ext x29).ext x889).ext x903).ext x1041).ext x1043).ext x1045).ext x1055).ext x1069).ext x').agg (vs := [iJ y1060.ver.time, iJ y1060.ver.client]) agg_33_2 1 rfl rfl)) ?_
     refine qv (.pointer (some (⟨w.heap.size, 3, none⟩))) (fun _ x' => x_fieldAddr fld_37_2 rfl e1056 rfl) ?_
     refine qv (.agg #[iJ a.stp.time, iJ a.stp.client]) (fun _ x' => x_load rfl rfl ((((((((((b2.ext x29).ext x889).ext x903).ext x1041).ext x1043).ext x1045).ext x1055).ext x1069).ext x').agg (vs := [iJ a.stp.time, iJ a.stp.client]) agg_33_2 rfl)) ?_
     refine q_callb (b := decide (cmpStp y1060.ver a.stp < 0)) (vs := #[.agg #[iJ y1060.ver.time, iJ y1060.ver.client], .agg #[iJ a.stp.time, iJ a.stp.client]]) fn_60 rfl rfl rfl (args2 rfl rfl) (fun _ x' => D_before _ y1060.ver a.stp) (fun c1071 => ?_) (fun c1071 => ?_)
     ·refine qv (.bool false) (fun _ x' => x_not (b := true) rfl rfl) ?_
      refine qv (.bool false) (fun _ x' => x_pick_f rfl rfl rfl) ?_
      refine q_nil (fun w1072 x1073 => t_norm (c_false rfl (c_skip (t_norm (c_plain (pv (.slice A1049 k1046 c1050) (x_move rfl e1057) ?_))))))
      refine pv (.pointer (some (⟨w.heap.size, 6, none⟩))) (x_fieldAddr fld_37_4 rfl e1056 rfl) ?_
      refine pv (.slice pa.A a.reads.length pa.n) (x_load rfl rfl ((((((((((b2.ext x29).ext x889).ext x903).ext x1041).ext x1043).ext x1045).ext x1055).ext x1069).ext x1073).one one_34 rfl)) ?_
      refine pv (iJ (k1046 : Int)) (x_move rfl e1058) ?_
      refine pv (.pointer (some (ad1062.add (k1046 * 3)))) (x_indexAddr sl_34 rfl rfl eA1064 rfl (by omega) (by omega) rfl) ?_
      refine pv (.pointer (some (ad1062.add (k1046 * 3)))) (x_fieldAddr fld_78_0 rfl rfl rfl) ?_
      refine pv (.string y1060.key) (x_load rfl rfl (((((((((((hE1066.ext x3).ext x29).ext x889).ext x903).ext x1041).ext x1043).ext x1045).ext x1055).ext x1069).ext x1073).one one_9 0 rfl rfl)) ?_
      refine p_buildSlice (cs := [.string y1060.key]) el_104 rfl rfl rfl (parts1 rfl) (by decide) (by decide) (fill_ok [.string y1060.key] [.string y1060.key] rfl rfl) (fun w1074 b1075 x1076 z1077 => ?_)
      refine p_appendK (B := w1044.heap.size) (k := k1046) (m := 1) (cs := (((a.reads.map (·.key)).take k1046).flatMap fStr)) (news := [.string y1060.key]) (ad := ⟨w1072.heap.size, 0, none⟩) el_104 rfl rfl rfl rfl (own_ext ho1051 ((x1069.trans x1073).trans x1076)) rfl rfl b1075.put rfl (by omega) (by omega) (((x1055.trans x1069).trans x1073).trans x1076).size (fun A1081 c1082 w1078 o1079 kp1080 h1083 h1084 => ?_)
      refine pv (.slice A1081 (k1046 + 1) c1082) (x_assign rfl rfl) ?_
      refine p_nil (b_norm (t_norm (c_quiet (qv (iJ (k1046 : Int)) (fun _ x' => x_move rfl e1058) ?_))))
      refine qv (iJ ((k1046 : Int) + 1)) (fun _ x' => x_add rfl rfl rfl (wrap_of (by omega) (by omega))) ?_
      refine qv (iJ ((k1046 : Int) + 1)) (fun _ x' => x_assign rfl rfl) ?_
      exact q_nil (fun w1085 x1086 => t_norm (⟨_, rfl, ⟨k1046 + 1, A1081, c1082, by omega, all_step (p := oldRd a) hi1048 hx1061 (by simp_all [oldRd]), (by rw [← flat_step (map_of (g := fun z => z.key) hx1061)]; exact (own_ext o1079 x1086)), h1083, h1084, e1056, rfl, rfl, (((((x1055.trans x1069).trans x1073).trans x1076).below (Nat.le_refl _) kp1080.below).trans x1086)⟩, meas_up e1058 hl1059⟩))
     refine qv (.bool true) (fun _ x' => x_not (b := false) rfl rfl) ?_
     refine qv (.bool true) (fun _ x' => x_pick_f rfl rfl rfl) ?_
     refine q_nil (fun w1087 x1088 => t_norm (c_true rfl (c_seq (c_quiet (qv (.bool false) (fun _ x' => x_assign rfl rfl) ?_)))))
     exact q_nil (fun w1089 x1090 => t_norm (c_ret (t_ret (b_ret (t_ret (t_ret (b_ret (t_ret (c_done rfl rfl (Ret.b ((rightCmd_reads (by simpa using c5) (all_fail (p := oldRd a) hx1061 (by simp only [oldRd]; simp_all))).symm) ((((((((((x3.trans x29).trans x889).trans x903).trans x1041).trans x1043).trans x1045).trans x1055).trans x1069).trans x1088).trans x1090)))))))))))
    refine qv (.bool true) (fun _ x' => x_not (b := false) rfl rfl) ?_
    refine qv (.bool true) (fun _ x' => x_move rfl rfl) ?_
    refine qk rfl rfl (qk rfl rfl (qk rfl rfl (qk rfl rfl (qk rfl rfl (qk rfl rfl (qk rfl rfl (qk rfl rfl (qk rfl rfl (qk rfl rfl (qv (.bool true) (fun _ x' => x_pick_t rfl rfl rfl) ?_))))))))))
    refine q_nil (fun w1091 x1092 => t_norm (c_true rfl (c_seq (c_quiet (qv (.bool false) (fun _ x' => x_assign rfl rfl) ?_)))))
    exact q_nil (fun w1093 x1094 => t_norm (c_ret (t_ret (b_ret (t_ret (t_ret (b_ret (t_ret (c_done rfl rfl (Ret.b ((rightCmd_reads (by simpa using c5) (all_fail (p := oldRd a) hx1061 (by simp only [oldRd]; simp_all))).symm) ((((((((((x3.trans x29).trans x889).trans x903).trans x1041).trans x1043).trans x1045).trans x1055).trans x1069).trans x1092).trans x1094)))))))))))
   have hr1095 := own_lies (d := kStr) (xs := a.reads.map (·.key)) (by rw [show (a.reads.map (·.key)) = (a.reads.map (·.key)).take k1046 from by rw [List.take_of_length_le (by simp; omega)]]; exact ho1051) (by simp; omega) (fun _ => rfl) (fun _ => rfl)
   have he1096 : k1046 = (a.reads.map (·.key)).length := by simp; omega
   refine c_seq (c_seq (c_quiet (qv (iJ (k1046 : Int)) (fun _ x' => x_move rfl e1058) ?_)))
   refine qv (.pointer (some (⟨w.heap.size, 6, none⟩))) (fun _ x' => x_fieldAddr fld_37_4 rfl e1056 rfl) ?_
   refine qv (.slice pa.A a.reads.length pa.n) (fun _ x' => x_load rfl rfl (((((((((b2.ext x29).ext x889).ext x903).ext x1041).ext x1043).ext x1045).ext x1055).ext x').one one_34 rfl)) ?_
   refine qv (iJ (a.reads.length : Int)) (fun _ x' => x_len_slice sl_34 rfl rfl) ?_
   refine qv (.bool false) (fun _ x' => yb (x_lss rfl rfl rfl) (decide_eq_false (by omega))) ?_
   refine q_nil (fun w1097 x1098 => t_norm (c_false rfl (c_exit (t_exit (t_exit (b_exit (t_norm (c_seq (c_quiet (qv (.slice none 0 0) (fun _ x' => x_assign rfl rfl) ?_))))))))))
   refine q_nil (fun w1099 x1100 => t_norm (c_seq (c_seq (c_quiet (qv (iJ 0) (fun _ x' => x_assign rfl rfl) ?_)))))
   refine q_nil (fun w1101 x1102 => t_norm (c_block (c_loop (fun ρ w1111 => ∃ k1103 : Nat, ∃ A1106 : Option Addr, ∃ c1107 : Nat, k1103 ≤ a.writes.length ∧ (a.writes.take k1103).all (fun x : Wr => decide (x.val.size ≤ 8)) = true ∧ World.ownsRow w1111 w1101.heap.size 9 1 (.slice A1106 k1103 c1107) k1103 (((a.writes.map (·.key)).take k1103).flatMap fStr) ∧ k1103 ≤ c1107 ∧ c1107 ≤ 9223372036854775807 ∧ ρ 1 = pJ w.heap.size ∧ ρ 3 = .slice A1049 k1046 c1050 ∧ ρ 5 = .slice A1106 k1103 c1107 ∧ ρ 6 = iJ (k1103 : Int) ∧ Ext w1101 w1111) (fun ρ _ => a.writes.length - (intOf (ρ 6)).toNat) ⟨0, none, 0, Nat.zero_le _, rfl, own_nil _ _ _ _, Nat.le_refl _, Nat.zero_le _, e1056, e1057, rfl, rfl, Ext.refl _⟩ ?_)))
   rintro ρ w1111 ⟨k1103, A1106, c1107, hk1104, hi1105, ho1108, h1109, h1110, e1113, e1114, e1115, e1116, x1112⟩
   by_cases hl1117 : k1103 < a.writes.length
   ·obtain ⟨y1118, hx1119⟩ := some_of (l := a.writes) (k := k1103) (by omega)
    obtain ⟨ad1120, cs1121, eA1122, hK1123, hE1124⟩ := ha.writes k1103 y1118 hx1119
    have hK1123' : cs1121 = [.string y1118.key, .string y1118.val] := hK1123
    subst hK1123'
    refine c_seq (c_seq (c_quiet (qv (iJ (k1103 : Int)) (fun _ x' => x_move rfl e1116) ?_)))
    refine qv (.pointer (some (⟨w.heap.size, 7, none⟩))) (fun _ x' => x_fieldAddr fld_37_5 rfl e1113 rfl) ?_
    refine qv (.slice pa.B a.writes.length pa.m) (fun _ x' => x_load rfl rfl (((((((((((((b2.ext x29).ext x889).ext x903).ext x1041).ext x1043).ext x1045).ext x1055).ext x1098).ext x1100).ext x1102).ext x1112).ext x').one one_35 rfl)) ?_
    refine qv (iJ (a.writes.length : Int)) (fun _ x' => x_len_slice sl_35 rfl rfl) ?_
    refine qv (.bool true) (fun _ x' => yb (x_lss rfl rfl rfl) (decide_eq_true (by omega))) ?_
    refine q_nil (fun w1126 x1127 => t_norm (c_true rfl (c_skip (t_norm (c_seq (c_block (c_seq (c_seq (c_quiet (qv (.pointer (some (⟨w.heap.size, 7, none⟩))) (fun _ x' => x_fieldAddr fld_37_5 rfl e1113 rfl) ?_))))))))))
    refine qv (.slice pa.B a.writes.length pa.m) (fun _ x' => x_load rfl rfl ((((((((((((((b2.ext x29).ext x889).ext x903).ext x1041).ext x1043).ext x1045).ext x1055).ext x1098).ext x1100).ext x1102).ext x1112).ext x1127).ext x').one one_35 rfl)) ?_
    refine qv (iJ (k1103 : Int)) (fun _ x' => x_move rfl e1116) ?_
    refine qv (.pointer (some (ad1120.add (k1103 * 2)))) (fun _ x' => x_indexAddr sl_35 rfl rfl eA1122 rfl (by omega) (by omega) rfl) ?_
    refine qv (.pointer (some ((ad1120.add (k1103 * 2)).add 1))) (fun _ x' => x_fieldAddr fld_80_1 rfl rfl rfl) ?_
    refine qv (.string y1118.val) (fun _ x' => x_load rfl rfl (((((((((((((((hE1124.ext x3).ext x29).ext x889).ext x903).ext x1041).ext x1043).ext x1045).ext x1055).ext x1098).ext x1100).ext x1102).ext x1112).ext x1127).ext x').one one_9 1 rfl rfl)) ?_
    refine qv (iJ (y1118.val.size : Int)) (fun _ x' => x_len_string str_9 rfl rfl) ?_
    refine q_bool (b := decide ((y1118.val.size : Int) > 8)) rfl rfl (fun _ x' => x_gtr rfl rfl rfl) (fun c1128 => ?_) (fun c1128 => ?_)
    ·refine q_nil (fun w1129 x1130 => t_norm (c_true rfl (c_seq (c_quiet (qv (.bool false) (fun _ x' => x_assign rfl rfl) ?_)))))
     exact q_nil (fun w1131 x1132 => t_norm (c_ret (t_ret (b_ret (t_ret (t_ret (b_ret (t_ret (c_done rfl rfl (Ret.b ((rightCmd_writes (by simpa using c5) (all_fail (p := fun x : Wr => decide (x.val.size ≤ 8)) hx1119 (by simp_all <;> omega))).symm) ((((((((((((((x3.trans x29).trans x889).trans x903).trans x1041).trans x1043).trans x1045).trans x1055).trans x1098).trans x1100).trans x1102).trans x1112).trans x1127).trans x1130).trans x1132)))))))))))
    refine q_nil (fun w1133 x1134 => t_norm (c_false rfl (c_skip (t_norm (c_plain (pv (.slice A1106 k1103 c1107) (x_move rfl e1115) ?_))))))
    refine pv (.pointer (some (⟨w.heap.size, 7, none⟩))) (x_fieldAddr fld_37_5 rfl e1113 rfl) ?_
    refine pv (.slice pa.B a.writes.length pa.m) (x_load rfl rfl ((((((((((((((b2.ext x29).ext x889).ext x903).ext x1041).ext x1043).ext x1045).ext x1055).ext x1098).ext x1100).ext x1102).ext x1112).ext x1127).ext x1134).one one_35 rfl)) ?_
    refine pv (iJ (k1103 : Int)) (x_move rfl e1116) ?_
    refine pv (.pointer (some (ad1120.add (k1103 * 2)))) (x_indexAddr sl_35 rfl rfl eA1122 rfl (by omega) (by omega) rfl) ?_
    refine pv (.pointer (some (ad1120.add (k1103 * 2)))) (x_fieldAddr fld_80_0 rfl rfl rfl) ?_
    refine pv (.string y1118.key) (x_load rfl rfl (((((((((((((((hE1124.ext x3).ext x29).ext x889).ext x903).ext x1041).ext x1043).ext x1045).ext x1055).ext x1098).ext x1100).ext x1102).ext x1112).ext x1127).ext x1134).one one_9 0 rfl rfl)) ?_
    refine p_buildSlice (cs := [.string y1118.key]) el_104 rfl rfl rfl (parts1 rfl) (by decide) (by decide) (fill_ok [.string y1118.key] [.string y1118.key] rfl rfl) (fun w1135 b1136 x1137 z1138 => ?_)
    refine p_appendK (B := w1101.heap.size) (k := k1103) (m := 1) (cs := (((a.writes.map (·.key)).take k1103).flatMap fStr)) (news := [.string y1118.key]) (ad := ⟨w1133.heap.size, 0, none⟩) el_104 rfl rfl rfl rfl (own_ext ho1108 ((x1127.trans x1134).trans x1137)) rfl rfl b1136.put rfl (by omega) (by omega) (((x1112.trans x1127).trans x1134).trans x1137).size (fun A1142 c1143 w1139 o1140 kp1141 h1144 h1145 => ?_)
    refine pv (.slice A1142 (k1103 + 1) c1143) (x_assign rfl rfl) ?_
    refine p_nil (b_norm (t_norm (c_quiet (qv (iJ (k1103 : Int)) (fun _ x' => x_move rfl e1116) ?_))))
    refine qv (iJ ((k1103 : Int) + 1)) (fun _ x' => x_add rfl rfl rfl (wrap_of (by omega) (by omega))) ?_
    refine qv (iJ ((k1103 : Int) + 1)) (fun _ x' => x_assign rfl rfl) ?_
    exact q_nil (fun w1146 x1147 => t_norm (⟨_, rfl, ⟨k1103 + 1, A1142, c1143, by omega, all_step (p := fun x : Wr => decide (x.val.size ≤ 8)) hi1105 hx1119 (by simp_all <;> omega), (by rw [← flat_step (map_of (g := fun z => z.key) hx1119)]; exact (own_ext o1140 x1147)), h1144, h1145, e1113, e1114, rfl, rfl, (((((x1112.trans x1127).trans x1134).trans x1137).below (Nat.le_refl _) kp1141.below).trans x1147)⟩, meas_up e1116 hl1117⟩))
   have hr1148 := own_lies (d := kStr) (xs := a.writes.map (·.key)) (by rw [show (a.writes.map (·.key)) = (a.writes.map (·.key)).take k1103 from by rw [List.take_of_length_le (by simp; omega)]]; exact ho1108) (by simp; omega) (fun _ => rfl) (fun _ => rfl)
   have he1149 : k1103 = (a.writes.map (·.key)).length := by simp; omega
   refine c_seq (c_seq (c_quiet (qv (iJ (k1103 : Int)) (fun _ x' => x_move rfl e1116) ?_)))
   refine qv (.pointer (some (⟨w.heap.size, 7, none⟩))) (fun _ x' => x_fieldAddr fld_37_5 rfl e1113 rfl) ?_
   refine qv (.slice pa.B a.writes.length pa.m) (fun _ x' => x_load rfl rfl (((((((((((((b2.ext x29).ext x889).ext x903).ext x1041).ext x1043).ext x1045).ext x1055).ext x1098).ext x1100).ext x1102).ext x1112).ext x').one one_35 rfl)) ?_
   refine qv (iJ (a.writes.length : Int)) (fun _ x' => x_len_slice sl_35 rfl rfl) ?_
   refine qv (.bool false) (fun _ x' => yb (x_lss rfl rfl rfl) (decide_eq_false (by omega))) ?_
   refine q_nil (fun w1150 x1151 => t_norm (c_false rfl (c_exit (t_exit (t_exit (b_exit (t_norm (c_seq (c_quiet (qv (.slice A1049 k1046 c1050) (fun _ x' => x_move rfl e1114) ?_))))))))))
   refine q_callb (b := rightKeys (a.reads.map (·.key))) (vs := #[.slice A1049 k1046 c1050]) fn_61 rfl rfl rfl (args1 rfl) (fun _ x' => D_rightKeys _ _ _ _ (a.reads.map (·.key)) he1096 ((((((hr1095.ext x1098).ext x1100).ext x1102).ext x1112).ext x1151).ext x') (by simp; omega)) (fun c1152 => ?_) (fun c1152 => ?_)
   ·refine qv (.bool true) (fun _ x' => x_move rfl rfl) ?_
    refine qv (.slice A1106 k1103 c1107) (fun _ x' => x_move rfl e1115) ?_
    refine q_callb (b := rightKeys (a.writes.map (·.key))) (vs := #[.slice A1106 k1103 c1107]) fn_61 rfl rfl rfl (args1 rfl) (fun _ x' => D_rightKeys _ _ _ _ (a.writes.map (·.key)) he1149 ((hr1148.ext x1151).ext x') (by simp; omega)) (fun c1153 => ?_) (fun c1153 => ?_)
    ·refine qv (.bool true) (fun _ x' => x_pick_t rfl rfl rfl) ?_
     refine qv (.bool true) (fun _ x' => x_assign rfl rfl) ?_
     exact q_nil (fun w1154 x1155 => t_norm (c_ret (c_done rfl rfl (Ret.b (rightCmd_end (by simpa using c5) (all_end hi1048 hl1059) (all_end hi1105 hl1117) c1152 (fun _ => c1153) (fun h => by cases h) (by clear ha; simp only [empty_len] at *; simp_all [-List.length_eq_zero_iff] <;> first | omega | (intros; omega) | (intros; simp_all [-List.length_eq_zero_iff] <;> omega))) (((((((((((((x3.trans x29).trans x889).trans x903).trans x1041).trans x1043).trans x1045).trans x1055).trans x1098).trans x1100).trans x1102).trans x1112).trans x1151).trans x1155)))))
    refine qv (.bool false) (fun _ x' => x_pick_t rfl rfl rfl) ?_
    refine qv (.bool false) (fun _ x' => x_assign rfl rfl) ?_
    exact q_nil (fun w1156 x1157 => t_norm (c_ret (c_done rfl rfl (Ret.b (rightCmd_end (by simpa using c5) (all_end hi1048 hl1059) (all_end hi1105 hl1117) c1152 (fun _ => c1153) (fun h => by cases h) (by clear ha; simp only [empty_len] at *; simp_all [-List.length_eq_zero_iff] <;> first | omega | (intros; omega) | (intros; simp_all [-List.length_eq_zero_iff] <;> omega))) (((((((((((((x3.trans x29).trans x889).trans x903).trans x1041).trans x1043).trans x1045).trans x1055).trans x1098).trans x1100).trans x1102).trans x1112).trans x1151).trans x1157)))))
   refine qv (.bool false) (fun _ x' => x_move rfl rfl) ?_
   refine qk rfl rfl (qk rfl rfl (qv (.bool false) (fun _ x' => x_pick_f rfl rfl rfl) ?_))
   refine qv (.bool false) (fun _ x' => x_assign rfl rfl) ?_
   exact q_nil (fun w1158 x1159 => t_norm (c_ret (c_done rfl rfl (Ret.b (rightCmd_end (by simpa using c5) (all_end hi1048 hl1059) (all_end hi1105 hl1117) c1152 (fun h => by cases h) (fun _ => rfl) (by clear ha; simp only [empty_len] at *; simp_all [-List.length_eq_zero_iff] <;> first | omega | (intros; omega) | (intros; simp_all [-List.length_eq_zero_iff] <;> omega))) (((((((((((((x3.trans x29).trans x889).trans x903).trans x1041).trans x1043).trans x1045).trans x1055).trans x1098).trans x1100).trans x1102).trans x1112).trans x1151).trans x1159)))))
  refine qv (.bool true) (fun _ x' => x_not (b := false) rfl rfl) ?_
  refine qv (.bool true) (fun _ x' => x_pick_f rfl rfl rfl) ?_
  refine qv (.bool true) (fun _ x' => x_move rfl rfl) ?_
  refine qk rfl rfl (qk rfl rfl (qk rfl rfl (qk rfl rfl (qv (.bool true) (fun _ x' => x_pick_t rfl rfl rfl) ?_))))
  refine qv (.bool true) (fun _ x' => x_move rfl rfl) ?_
  refine qk rfl rfl (qk rfl rfl (qk rfl rfl (qk rfl rfl (qk rfl rfl (qk rfl rfl (qk rfl rfl (qv (.bool true) (fun _ x' => x_pick_t rfl rfl rfl) ?_)))))))
  refine q_nil (fun w1160 x1161 => t_norm (c_true rfl (c_seq (c_quiet (qv (.bool false) (fun _ x' => x_assign rfl rfl) ?_)))))
  exact q_nil (fun w1162 x1163 => t_norm (c_ret (t_ret (c_done rfl rfl (Ret.b ((rightCmd_head (by simpa using c5) (by clear ha; simp only [empty_len] at *; simp_all [-List.length_eq_zero_iff] <;> first | omega | (intros; omega) | (intros; simp_all [-List.length_eq_zero_iff] <;> omega))).symm) ((((x3.trans x29).trans x889).trans x1161).trans x1163))))))
 refine qv (.bool true) (fun _ x' => x_not (b := false) rfl rfl) ?_
 refine qv (.bool true) (fun _ x' => x_move rfl rfl) ?_
 refine qk rfl rfl (qk rfl rfl (qk rfl rfl (qk rfl rfl (qv (.bool true) (fun _ x' => x_pick_t rfl rfl rfl) ?_))))
 refine qv (.bool true) (fun _ x' => x_move rfl rfl) ?_
 refine qk rfl rfl (qk rfl rfl (qk rfl rfl (qk rfl rfl (qv (.bool true) (fun _ x' => x_pick_t rfl rfl rfl) ?_))))
 refine qv (.bool true) (fun _ x' => x_move rfl rfl) ?_
 refine qk rfl rfl (qk rfl rfl (qk rfl rfl (qk rfl rfl (qk rfl rfl (qk rfl rfl (qk rfl rfl (qv (.bool true) (fun _ x' => x_pick_t rfl rfl rfl) ?_)))))))
 refine q_nil (fun w1164 x1165 => t_norm (c_true rfl (c_seq (c_quiet (qv (.bool false) (fun _ x' => x_assign rfl rfl) ?_)))))
 exact q_nil (fun w1166 x1167 => t_norm (c_ret (t_ret (c_done rfl rfl (Ret.b ((rightCmd_head (by simpa using c5) (by clear ha; simp only [empty_len] at *; simp_all [-List.length_eq_zero_iff] <;> first | omega | (intros; omega) | (intros; simp_all [-List.length_eq_zero_iff] <;> omega))).symm) ((((x3.trans x29).trans x889).trans x1165).trans x1167))))))
end Go.Proofs.Ytadeigpphklmfaa
