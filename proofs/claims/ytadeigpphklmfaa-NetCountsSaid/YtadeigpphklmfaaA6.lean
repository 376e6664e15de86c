/- A walk through the code of layers below, or of layer 10. -/
import Derived.Test.YtadeigpphklmfaaDos
import Derived.Test.YtadeigpphklmfaaDrs
import Derived.Test.YtadeigpphklmfaaPan
import Derived.Test.YtadeigpphklmfaaA5b
namespace Go.Proofs.Ytadeigpphklmfaa
open Go.RowKit Go.Eng
set_option linter.unusedVariables false
set_option linter.unusedSimpArgs false
theorem C_sameRec (w : World) (a : Rec) (pa : Ptr) (ha : CmdAt w a.cmd pa) (b : Rec) (pb : Ptr) (hb : CmdAt w b.cmd pb) :
    Calls Try.prog 54 #[vRec a pa, vRec b pb] w (Ret w (.bool (decide (a = b)))) := by
 refine c_enter (n := 59) Try.func54 rfl rfl rfl ?_
 refine c_seq (c_plain (p_box rfl rfl rfl rfl (fun w1 b2 x3 z4 => ?_)))
 refine p_box rfl rfl rfl rfl (fun w5 b6 x7 z8 => ?_)
 refine pv (.bool false) (x_assign rfl rfl) ?_
 refine p_nil (t_norm (c_seq (c_quiet (qv (pJ w.heap.size) (fun _ x' => x_fieldAddr fld_41_0 rfl rfl rfl) ?_))))
 refine qv (.agg #[iJ a.inst.replica, iJ a.inst.slot]) (fun _ x' => x_load rfl rfl (((b2.ext x7).ext x').agg (vs := [iJ a.inst.replica, iJ a.inst.slot]) agg_29_2 rfl)) ?_
 refine qv (pJ w1.heap.size) (fun _ x' => x_fieldAddr fld_41_0 rfl rfl rfl) ?_
 refine qv (.agg #[iJ b.inst.replica, iJ b.inst.slot]) (fun _ x' => x_load rfl rfl ((b6.ext x').agg (vs := [iJ b.inst.replica, iJ b.inst.slot]) agg_29_2 rfl)) ?_
 refine q_bool (b := decide (a.inst = b.inst)) rfl rfl (fun _ x' => x_eqInst ints2_29 rfl rfl rfl) (fun c9 => ?_) (fun c9 => ?_)
 ·refine qv (.bool true) (fun _ x' => x_move rfl rfl) ?_
  refine qv (.pointer (some (⟨w.heap.size, 2, none⟩))) (fun _ x' => x_fieldAddr fld_41_1 rfl rfl rfl) ?_
  refine qv (iJ a.status) (fun _ x' => x_load rfl rfl (((b2.ext x7).ext x').one one_3 rfl)) ?_
  refine qv (.pointer (some (⟨w1.heap.size, 2, none⟩))) (fun _ x' => x_fieldAddr fld_41_1 rfl rfl rfl) ?_
  refine qv (iJ b.status) (fun _ x' => x_load rfl rfl ((b6.ext x').one one_3 rfl)) ?_
  refine q_bool (b := decide (a.status = b.status)) rfl rfl (fun _ x' => x_eql rfl rfl rfl) (fun c10 => ?_) (fun c10 => ?_)
  ·refine qv (.bool true) (fun _ x' => x_pick_t rfl rfl rfl) ?_
   refine qv (.bool true) (fun _ x' => x_move rfl rfl) ?_
   refine qv (.pointer (some (⟨w.heap.size, 3, none⟩))) (fun _ x' => x_fieldAddr fld_41_2 rfl rfl rfl) ?_
   refine qv (.agg #[iJ a.promise.number, iJ a.promise.replica]) (fun _ x' => x_load rfl rfl (((b2.ext x7).ext x').agg (vs := [iJ a.promise.number, iJ a.promise.replica]) agg_27_2 rfl)) ?_
   refine qv (.pointer (some (⟨w1.heap.size, 3, none⟩))) (fun _ x' => x_fieldAddr fld_41_2 rfl rfl rfl) ?_
   refine qv (.agg #[iJ b.promise.number, iJ b.promise.replica]) (fun _ x' => x_load rfl rfl ((b6.ext x').agg (vs := [iJ b.promise.number, iJ b.promise.replica]) agg_27_2 rfl)) ?_
   refine q_bool (b := decide (a.promise = b.promise)) rfl rfl (fun _ x' => x_eqBal ints2_27 rfl rfl rfl) (fun c11 => ?_) (fun c11 => ?_)
   ·refine qv (.bool true) (fun _ x' => x_pick_t rfl rfl rfl) ?_
    refine qv (.bool true) (fun _ x' => x_move rfl rfl) ?_
    refine qv (.pointer (some (⟨w.heap.size, 5, none⟩))) (fun _ x' => x_fieldAddr fld_41_3 rfl rfl rfl) ?_
    refine qv (.agg #[iJ a.ballot.number, iJ a.ballot.replica]) (fun _ x' => x_load rfl rfl (((b2.ext x7).ext x').agg (vs := [iJ a.ballot.number, iJ a.ballot.replica]) agg_27_2 rfl)) ?_
    refine qv (.pointer (some (⟨w1.heap.size, 5, none⟩))) (fun _ x' => x_fieldAddr fld_41_3 rfl rfl rfl) ?_
    refine qv (.agg #[iJ b.ballot.number, iJ b.ballot.replica]) (fun _ x' => x_load rfl rfl ((b6.ext x').agg (vs := [iJ b.ballot.number, iJ b.ballot.replica]) agg_27_2 rfl)) ?_
    refine q_bool (b := decide (a.ballot = b.ballot)) rfl rfl (fun _ x' => x_eqBal ints2_27 rfl rfl rfl) (fun c12 => ?_) (fun c12 => ?_)
    ·refine qv (.bool true) (fun _ x' => x_pick_t rfl rfl rfl) ?_
     refine qv (.bool true) (fun _ x' => x_move rfl rfl) ?_
     refine qv (.pointer (some (⟨w.heap.size, 16, none⟩))) (fun _ x' => x_fieldAddr fld_41_5 rfl rfl rfl) ?_
     refine qv (iJ a.seq) (fun _ x' => x_load rfl rfl (((b2.ext x7).ext x').one one_3 rfl)) ?_
     refine qv (.pointer (some (⟨w1.heap.size, 16, none⟩))) (fun _ x' => x_fieldAddr fld_41_5 rfl rfl rfl) ?_
     refine qv (iJ b.seq) (fun _ x' => x_load rfl rfl ((b6.ext x').one one_3 rfl)) ?_
     refine q_bool (b := decide (a.seq = b.seq)) rfl rfl (fun _ x' => x_eql rfl rfl rfl) (fun c13 => ?_) (fun c13 => ?_)
     ·refine qv (.bool true) (fun _ x' => x_pick_t rfl rfl rfl) ?_
      refine qv (.bool true) (fun _ x' => x_move rfl rfl) ?_
      refine qv (.pointer (some (⟨w.heap.size, 17, none⟩))) (fun _ x' => x_fieldAddr fld_41_6 rfl rfl rfl) ?_
      refine qv (.agg #[iJ a.deps.d0, iJ a.deps.d1, iJ a.deps.d2, iJ a.deps.d3, iJ a.deps.d4, iJ a.deps.d5, iJ a.deps.d6]) (fun _ x' => x_load rfl rfl (((b2.ext x7).ext x').agg (vs := [iJ a.deps.d0, iJ a.deps.d1, iJ a.deps.d2, iJ a.deps.d3, iJ a.deps.d4, iJ a.deps.d5, iJ a.deps.d6]) agg_39_7 rfl)) ?_
      refine qv (.pointer (some (⟨w1.heap.size, 17, none⟩))) (fun _ x' => x_fieldAddr fld_41_6 rfl rfl rfl) ?_
      refine qv (.agg #[iJ b.deps.d0, iJ b.deps.d1, iJ b.deps.d2, iJ b.deps.d3, iJ b.deps.d4, iJ b.deps.d5, iJ b.deps.d6]) (fun _ x' => x_load rfl rfl ((b6.ext x').agg (vs := [iJ b.deps.d0, iJ b.deps.d1, iJ b.deps.d2, iJ b.deps.d3, iJ b.deps.d4, iJ b.deps.d5, iJ b.deps.d6]) agg_39_7 rfl)) ?_
      refine q_bool (b := decide (a.deps = b.deps)) rfl rfl (fun _ x' => x_eqDep intsT_39 rfl rfl rfl) (fun c14 => ?_) (fun c14 => ?_)
      ·refine qv (.bool true) (fun _ x' => x_pick_t rfl rfl rfl) ?_
       refine qv (.bool true) (fun _ x' => x_move rfl rfl) ?_
       refine qv (.pointer (some (⟨w.heap.size, 24, none⟩))) (fun _ x' => x_fieldAddr fld_41_7 rfl rfl rfl) ?_
       refine q_bool (b := a.kept) rfl rfl (fun _ x' => x_load rfl rfl (((b2.ext x7).ext x').one one_4 rfl)) (fun c15 => ?_) (fun c15 => ?_)
       ·refine qv (.pointer (some (⟨w1.heap.size, 24, none⟩))) (fun _ x' => x_fieldAddr fld_41_7 rfl rfl rfl) ?_
        refine q_bool (b := b.kept) rfl rfl (fun _ x' => x_load rfl rfl ((b6.ext x').one one_4 rfl)) (fun c16 => ?_) (fun c16 => ?_)
        ·refine qv (.bool true) (fun _ x' => yb (x_beql (a := true) (b := true) bool_4 rfl rfl rfl) rfl) ?_
         refine qv (.bool true) (fun _ x' => x_pick_t rfl rfl rfl) ?_
         refine qv (.bool true) (fun _ x' => x_move rfl rfl) ?_
         refine qv (.pointer (some (⟨w.heap.size, 7, none⟩))) (fun _ x' => x_fieldAddr fld_41_4 rfl rfl rfl) ?_
         refine qv (.agg #[iJ a.cmd.kind, iJ a.cmd.txn.client, iJ a.cmd.txn.number, iJ a.cmd.stp.time, iJ a.cmd.stp.client, iJ a.cmd.shards, .slice pa.A a.cmd.reads.length pa.n, .slice pa.B a.cmd.writes.length pa.m, .bool a.cmd.commit]) (fun _ x' => x_load rfl rfl (((b2.ext x7).ext x').agg (vs := [iJ a.cmd.kind, iJ a.cmd.txn.client, iJ a.cmd.txn.number, iJ a.cmd.stp.time, iJ a.cmd.stp.client, iJ a.cmd.shards, .slice pa.A a.cmd.reads.length pa.n, .slice pa.B a.cmd.writes.length pa.m, .bool a.cmd.commit]) agg_37_9 rfl)) ?_
         refine qv (.pointer (some (⟨w1.heap.size, 7, none⟩))) (fun _ x' => x_fieldAddr fld_41_4 rfl rfl rfl) ?_
         refine qv (.agg #[iJ b.cmd.kind, iJ b.cmd.txn.client, iJ b.cmd.txn.number, iJ b.cmd.stp.time, iJ b.cmd.stp.client, iJ b.cmd.shards, .slice pb.A b.cmd.reads.length pb.n, .slice pb.B b.cmd.writes.length pb.m, .bool b.cmd.commit]) (fun _ x' => x_load rfl rfl ((b6.ext x').agg (vs := [iJ b.cmd.kind, iJ b.cmd.txn.client, iJ b.cmd.txn.number, iJ b.cmd.stp.time, iJ b.cmd.stp.client, iJ b.cmd.shards, .slice pb.A b.cmd.reads.length pb.n, .slice pb.B b.cmd.writes.length pb.m, .bool b.cmd.commit]) agg_37_9 rfl)) ?_
         refine q_callb (b := decide (a.cmd = b.cmd)) (vs := #[.agg #[iJ a.cmd.kind, iJ a.cmd.txn.client, iJ a.cmd.txn.number, iJ a.cmd.stp.time, iJ a.cmd.stp.client, iJ a.cmd.shards, .slice pa.A a.cmd.reads.length pa.n, .slice pa.B a.cmd.writes.length pa.m, .bool a.cmd.commit], .agg #[iJ b.cmd.kind, iJ b.cmd.txn.client, iJ b.cmd.txn.number, iJ b.cmd.stp.time, iJ b.cmd.stp.client, iJ b.cmd.shards, .slice pb.A b.cmd.reads.length pb.n, .slice pb.B b.cmd.writes.length pb.m, .bool b.cmd.commit]]) fn_63 rfl rfl rfl (args2 rfl rfl) (fun _ x' => C_sameCmd _ a.cmd pa (((ha.ext x3).ext x7).ext x') b.cmd pb (((hb.ext x3).ext x7).ext x')) (fun c17 => ?_) (fun c17 => ?_)
         ·refine qv (.bool true) (fun _ x' => x_pick_t rfl rfl rfl) ?_
          refine qv (.bool true) (fun _ x' => x_assign rfl rfl) ?_
          exact q_nil (fun w18 x19 => t_norm (c_ret (c_done rfl rfl (Ret.b (by obtain ⟨a0, a1, a2, a3, a4, a5, a6, a7⟩ := a; obtain ⟨b0, b1, b2, b3, b4, b5, b6, b7⟩ := b; simp_all) ((x3.trans x7).trans x19)))))
         refine qv (.bool false) (fun _ x' => x_pick_t rfl rfl rfl) ?_
         refine qv (.bool false) (fun _ x' => x_assign rfl rfl) ?_
         exact q_nil (fun w20 x21 => t_norm (c_ret (c_done rfl rfl (Ret.b ((decide_eq_false (fun h => by subst h; simp_all)).symm) ((x3.trans x7).trans x21)))))
        refine qv (.bool false) (fun _ x' => yb (x_beql (a := true) (b := false) bool_4 rfl rfl rfl) rfl) ?_
        refine qv (.bool false) (fun _ x' => x_pick_t rfl rfl rfl) ?_
        refine qv (.bool false) (fun _ x' => x_move rfl rfl) ?_
        refine qk rfl rfl (qk rfl rfl (qk rfl rfl (qk rfl rfl (qk rfl rfl (qv (.bool false) (fun _ x' => x_pick_f rfl rfl rfl) ?_)))))
        refine qv (.bool false) (fun _ x' => x_assign rfl rfl) ?_
        exact q_nil (fun w22 x23 => t_norm (c_ret (c_done rfl rfl (Ret.b ((decide_eq_false (fun h => by subst h; simp_all)).symm) ((x3.trans x7).trans x23)))))
       refine qv (.pointer (some (⟨w1.heap.size, 24, none⟩))) (fun _ x' => x_fieldAddr fld_41_7 rfl rfl rfl) ?_
       refine q_bool (b := b.kept) rfl rfl (fun _ x' => x_load rfl rfl ((b6.ext x').one one_4 rfl)) (fun c24 => ?_) (fun c24 => ?_)
       ·refine qv (.bool false) (fun _ x' => yb (x_beql (a := false) (b := true) bool_4 rfl rfl rfl) rfl) ?_
        refine qv (.bool false) (fun _ x' => x_pick_t rfl rfl rfl) ?_
        refine qv (.bool false) (fun _ x' => x_move rfl rfl) ?_
        refine qk rfl rfl (qk rfl rfl (qk rfl rfl (qk rfl rfl (qk rfl rfl (qv (.bool false) (fun _ x' => x_pick_f rfl rfl rfl) ?_)))))
        refine qv (.bool false) (fun _ x' => x_assign rfl rfl) ?_
        exact q_nil (fun w25 x26 => t_norm (c_ret (c_done rfl rfl (Ret.b ((decide_eq_false (fun h => by subst h; simp_all)).symm) ((x3.trans x7).trans x26)))))
       refine qv (.bool true) (fun _ x' => yb (x_beql (a := false) (b := false) bool_4 rfl rfl rfl) rfl) ?_
       refine qv (.bool true) (fun _ x' => x_pick_t rfl rfl rfl) ?_
       refine qv (.bool true) (fun _ x' => x_move rfl rfl) ?_
       refine qv (.pointer (some (⟨w.heap.size, 7, none⟩))) (fun _ x' => x_fieldAddr fld_41_4 rfl rfl rfl) ?_
       refine qv (.agg #[iJ a.cmd.kind, iJ a.cmd.txn.client, iJ a.cmd.txn.number, iJ a.cmd.stp.time, iJ a.cmd.stp.client, iJ a.cmd.shards, .slice pa.A a.cmd.reads.length pa.n, .slice pa.B a.cmd.writes.length pa.m, .bool a.cmd.commit]) (fun _ x' => x_load rfl rfl (((b2.ext x7).ext x').agg (vs := [iJ a.cmd.kind, iJ a.cmd.txn.client, iJ a.cmd.txn.number, iJ a.cmd.stp.time, iJ a.cmd.stp.client, iJ a.cmd.shards, .slice pa.A a.cmd.reads.length pa.n, .slice pa.B a.cmd.writes.length pa.m, .bool a.cmd.commit]) agg_37_9 rfl)) ?_
       refine qv (.pointer (some (⟨w1.heap.size, 7, none⟩))) (fun _ x' => x_fieldAddr fld_41_4 rfl rfl rfl) ?_
       refine qv (.agg #[iJ b.cmd.kind, iJ b.cmd.txn.client, iJ b.cmd.txn.number, iJ b.cmd.stp.time, iJ b.cmd.stp.client, iJ b.cmd.shards, .slice pb.A b.cmd.reads.length pb.n, .slice pb.B b.cmd.writes.length pb.m, .bool b.cmd.commit]) (fun _ x' => x_load rfl rfl ((b6.ext x').agg (vs := [iJ b.cmd.kind, iJ b.cmd.txn.client, iJ b.cmd.txn.number, iJ b.cmd.stp.time, iJ b.cmd.stp.client, iJ b.cmd.shards, .slice pb.A b.cmd.reads.length pb.n, .slice pb.B b.cmd.writes.length pb.m, .bool b.cmd.commit]) agg_37_9 rfl)) ?_
       refine q_callb (b := decide (a.cmd = b.cmd)) (vs := #[.agg #[iJ a.cmd.kind, iJ a.cmd.txn.client, iJ a.cmd.txn.number, iJ a.cmd.stp.time, iJ a.cmd.stp.client, iJ a.cmd.shards, .slice pa.A a.cmd.reads.length pa.n, .slice pa.B a.cmd.writes.length pa.m, .bool a.cmd.commit], .agg #[iJ b.cmd.kind, iJ b.cmd.txn.client, iJ b.cmd.txn.number, iJ b.cmd.stp.time, iJ b.cmd.stp.client, iJ b.cmd.shards, .slice pb.A b.cmd.reads.length pb.n, .slice pb.B b.cmd.writes.length pb.m, .bool b.cmd.commit]]) fn_63 rfl rfl rfl (args2 rfl rfl) (fun _ x' => C_sameCmd _ a.cmd pa (((ha.ext x3).ext x7).ext x') b.cmd pb (((hb.ext x3).ext x7).ext x')) (fun c27 => ?_) (fun c27 => ?_)
       ·refine qv (.bool true) (fun _ x' => x_pick_t rfl rfl rfl) ?_
        refine qv (.bool true) (fun _ x' => x_assign rfl rfl) ?_
        exact q_nil (fun w28 x29 => t_norm (c_ret (c_done rfl rfl (Ret.b (by obtain ⟨a0, a1, a2, a3, a4, a5, a6, a7⟩ := a; obtain ⟨b0, b1, b2, b3, b4, b5, b6, b7⟩ := b; simp_all) ((x3.trans x7).trans x29)))))
       refine qv (.bool false) (fun _ x' => x_pick_t rfl rfl rfl) ?_
       refine qv (.bool false) (fun _ x' => x_assign rfl rfl) ?_
       exact q_nil (fun w30 x31 => t_norm (c_ret (c_done rfl rfl (Ret.b ((decide_eq_false (fun h => by subst h; simp_all)).symm) ((x3.trans x7).trans x31)))))
      refine qv (.bool false) (fun _ x' => x_pick_t rfl rfl rfl) ?_
      refine qv (.bool false) (fun _ x' => x_move rfl rfl) ?_
      refine qk rfl rfl (qk rfl rfl (qk rfl rfl (qk rfl rfl (qk rfl rfl (qv (.bool false) (fun _ x' => x_pick_f rfl rfl rfl) ?_)))))
      refine qv (.bool false) (fun _ x' => x_move rfl rfl) ?_
      refine qk rfl rfl (qk rfl rfl (qk rfl rfl (qk rfl rfl (qk rfl rfl (qv (.bool false) (fun _ x' => x_pick_f rfl rfl rfl) ?_)))))
      refine qv (.bool false) (fun _ x' => x_assign rfl rfl) ?_
      exact q_nil (fun w32 x33 => t_norm (c_ret (c_done rfl rfl (Ret.b ((decide_eq_false (fun h => by subst h; simp_all)).symm) ((x3.trans x7).trans x33)))))
     refine qv (.bool false) (fun _ x' => x_pick_t rfl rfl rfl) ?_
     refine qv (.bool false) (fun _ x' => x_move rfl rfl) ?_
     refine qk rfl rfl (qk rfl rfl (qk rfl rfl (qk rfl rfl (qk rfl rfl (qv (.bool false) (fun _ x' => x_pick_f rfl rfl rfl) ?_)))))
     refine qv (.bool false) (fun _ x' => x_move rfl rfl) ?_
     refine qk rfl rfl (qk rfl rfl (qk rfl rfl (qk rfl rfl (qk rfl rfl (qv (.bool false) (fun _ x' => x_pick_f rfl rfl rfl) ?_)))))
     refine qv (.bool false) (fun _ x' => x_move rfl rfl) ?_
     refine qk rfl rfl (qk rfl rfl (qk rfl rfl (qk rfl rfl (qk rfl rfl (qv (.bool false) (fun _ x' => x_pick_f rfl rfl rfl) ?_)))))
     refine qv (.bool false) (fun _ x' => x_assign rfl rfl) ?_
     exact q_nil (fun w34 x35 => t_norm (c_ret (c_done rfl rfl (Ret.b ((decide_eq_false (fun h => by subst h; simp_all)).symm) ((x3.trans x7).trans x35)))))
    refine qv (.bool false) (fun _ x' => x_pick_t rfl rfl rfl) ?_
    refine qv (.bool false) (fun _ x' => x_move rfl rfl) ?_
    refine qk rfl rfl (qk rfl rfl (qk rfl rfl (qk rfl rfl (qk rfl rfl (qv (.bool false) (fun _ x' => x_pick_f rfl rfl rfl) ?_)))))
    refine qv (.bool false) (fun _ x' => x_move rfl rfl) ?_
    refine qk rfl rfl (qk rfl rfl (qk rfl rfl (qk rfl rfl (qk rfl rfl (qv (.bool false) (fun _ x' => x_pick_f rfl rfl rfl) ?_)))))
    refine qv (.bool false) (fun _ x' => x_move rfl rfl) ?_
    refine qk rfl rfl (qk rfl rfl (qk rfl rfl (qk rfl rfl (qk rfl rfl (qv (.bool false) (fun _ x' => x_pick_f rfl rfl rfl) ?_)))))
    refine qv (.bool false) (fun _ x' => x_move rfl rfl) ?_
    refine qk rfl rfl (qk rfl rfl (qk rfl rfl (qk rfl rfl (qk rfl rfl (qv (.bool false) (fun _ x' => x_pick_f rfl rfl rfl) ?_)))))
    refine qv (.bool false) (fun _ x' => x_assign rfl rfl) ?_
    exact q_nil (fun w36 x37 => t_norm (c_ret (c_done rfl rfl (Ret.b ((decide_eq_false (fun h => by subst h; simp_all)).symm) ((x3.trans x7).trans x37)))))
   refine qv (.bool false) (fun _ x' => x_pick_t rfl rfl rfl) ?_
   refine qv (.bool false) (fun _ x' => x_move rfl rfl) ?_
   refine qk rfl rfl (qk rfl rfl (qk rfl rfl (qk rfl rfl (qk rfl rfl (qv (.bool false) (fun _ x' => x_pick_f rfl rfl rfl) ?_)))))
   refine qv (.bool false) (fun _ x' => x_move rfl rfl) ?_
   refine qk rfl rfl (qk rfl rfl (qk rfl rfl (qk rfl rfl (qk rfl rfl (qv (.bool false) (fun _ x' => x_pick_f rfl rfl rfl) ?_)))))
   refine qv (.bool false) (fun _ x' => x_move rfl rfl) ?_
   refine qk rfl rfl (qk rfl rfl (qk rfl rfl (qk rfl rfl (qk rfl rfl (qv (.bool false) (fun _ x' => x_pick_f rfl rfl rfl) ?_)))))
   refine qv (.bool false) (fun _ x' => x_move rfl rfl) ?_
   refine qk rfl rfl (qk rfl rfl (qk rfl rfl (qk rfl rfl (qk rfl rfl (qv (.bool false) (fun _ x' => x_pick_f rfl rfl rfl) ?_)))))
   refine qv (.bool false) (fun _ x' => x_move rfl rfl) ?_
   refine qk rfl rfl (qk rfl rfl (qk rfl rfl (qk rfl rfl (qk rfl rfl (qv (.bool false) (fun _ x' => x_pick_f rfl rfl rfl) ?_)))))
   refine qv (.bool false) (fun _ x' => x_assign rfl rfl) ?_
   exact q_nil (fun w38 x39 => t_norm (c_ret (c_done rfl rfl (Ret.b ((decide_eq_false (fun h => by subst h; simp_all)).symm) ((x3.trans x7).trans x39)))))
  refine qv (.bool false) (fun _ x' => x_pick_t rfl rfl rfl) ?_
  refine qv (.bool false) (fun _ x' => x_move rfl rfl) ?_
  refine qk rfl rfl (qk rfl rfl (qk rfl rfl (qk rfl rfl (qk rfl rfl (qv (.bool false) (fun _ x' => x_pick_f rfl rfl rfl) ?_)))))
  refine qv (.bool false) (fun _ x' => x_move rfl rfl) ?_
  refine qk rfl rfl (qk rfl rfl (qk rfl rfl (qk rfl rfl (qk rfl rfl (qv (.bool false) (fun _ x' => x_pick_f rfl rfl rfl) ?_)))))
  refine qv (.bool false) (fun _ x' => x_move rfl rfl) ?_
  refine qk rfl rfl (qk rfl rfl (qk rfl rfl (qk rfl rfl (qk rfl rfl (qv (.bool false) (fun _ x' => x_pick_f rfl rfl rfl) ?_)))))
  refine qv (.bool false) (fun _ x' => x_move rfl rfl) ?_
  refine qk rfl rfl (qk rfl rfl (qk rfl rfl (qk rfl rfl (qk rfl rfl (qv (.bool false) (fun _ x' => x_pick_f rfl rfl rfl) ?_)))))
  refine qv (.bool false) (fun _ x' => x_move rfl rfl) ?_
  refine qk rfl rfl (qk rfl rfl (qk rfl rfl (qk rfl rfl (qk rfl rfl (qv (.bool false) (fun _ x' => x_pick_f rfl rfl rfl) ?_)))))
  refine qv (.bool false) (fun _ x' => x_move rfl rfl) ?_
  refine qk rfl rfl (qk rfl rfl (qk rfl rfl (qk rfl rfl (qk rfl rfl (qv (.bool false) (fun _ x' => x_pick_f rfl rfl rfl) ?_)))))
  refine qv (.bool false) (fun _ x' => x_assign rfl rfl) ?_
  exact q_nil (fun w40 x41 => t_norm (c_ret (c_done rfl rfl (Ret.b ((decide_eq_false (fun h => by subst h; simp_all)).symm) ((x3.trans x7).trans x41)))))
 refine qv (.bool false) (fun _ x' => x_move rfl rfl) ?_
 refine qk rfl rfl (qk rfl rfl (qk rfl rfl (qk rfl rfl (qk rfl rfl (qv (.bool false) (fun _ x' => x_pick_f rfl rfl rfl) ?_)))))
 refine qv (.bool false) (fun _ x' => x_move rfl rfl) ?_
 refine qk rfl rfl (qk rfl rfl (qk rfl rfl (qk rfl rfl (qk rfl rfl (qv (.bool false) (fun _ x' => x_pick_f rfl rfl rfl) ?_)))))
 refine qv (.bool false) (fun _ x' => x_move rfl rfl) ?_
 refine qk rfl rfl (qk rfl rfl (qk rfl rfl (qk rfl rfl (qk rfl rfl (qv (.bool false) (fun _ x' => x_pick_f rfl rfl rfl) ?_)))))
 refine qv (.bool false) (fun _ x' => x_move rfl rfl) ?_
 refine qk rfl rfl (qk rfl rfl (qk rfl rfl (qk rfl rfl (qk rfl rfl (qv (.bool false) (fun _ x' => x_pick_f rfl rfl rfl) ?_)))))
 refine qv (.bool false) (fun _ x' => x_move rfl rfl) ?_
 refine qk rfl rfl (qk rfl rfl (qk rfl rfl (qk rfl rfl (qk rfl rfl (qv (.bool false) (fun _ x' => x_pick_f rfl rfl rfl) ?_)))))
 refine qv (.bool false) (fun _ x' => x_move rfl rfl) ?_
 refine qk rfl rfl (qk rfl rfl (qk rfl rfl (qk rfl rfl (qk rfl rfl (qv (.bool false) (fun _ x' => x_pick_f rfl rfl rfl) ?_)))))
 refine qv (.bool false) (fun _ x' => x_move rfl rfl) ?_
 refine qk rfl rfl (qk rfl rfl (qk rfl rfl (qk rfl rfl (qk rfl rfl (qv (.bool false) (fun _ x' => x_pick_f rfl rfl rfl) ?_)))))
 refine qv (.bool false) (fun _ x' => x_assign rfl rfl) ?_
 exact q_nil (fun w42 x43 => t_norm (c_ret (c_done rfl rfl (Ret.b ((decide_eq_false (fun h => by subst h; simp_all)).symm) ((x3.trans x7).trans x43)))))
theorem D_sameRec (w : World) (a : Rec) (pa : Ptr) (ha : CmdAt w a.cmd pa) (b : Rec) (pb : Ptr) (hb : CmdAt w b.cmd pb) :
    Calls Try.prog 30 #[vRec a pa, vRec b pb] w (Ret w (.bool (decide (a = b)))) := by
 refine c_enter (n := 59) Try.func30 rfl rfl rfl ?_
 refine c_seq (c_plain (p_box rfl rfl rfl rfl (fun w1 b2 x3 z4 => ?_)))
 refine p_box rfl rfl rfl rfl (fun w5 b6 x7 z8 => ?_)
 refine pv (.bool false) (x_assign rfl rfl) ?_
 refine p_nil (t_norm (c_seq (c_quiet (qv (pJ w.heap.size) (fun _ x' => x_fieldAddr fld_41_0 rfl rfl rfl) ?_))))
 refine qv (.agg #[iJ a.inst.replica, iJ a.inst.slot]) (fun _ x' => x_load rfl rfl (((b2.ext x7).ext x').agg (vs := [iJ a.inst.replica, iJ a.inst.slot]) agg_29_2 rfl)) ?_
 refine qv (pJ w1.heap.size) (fun _ x' => x_fieldAddr fld_41_0 rfl rfl rfl) ?_
 refine qv (.agg #[iJ b.inst.replica, iJ b.inst.slot]) (fun _ x' => x_load rfl rfl ((b6.ext x').agg (vs := [iJ b.inst.replica, iJ b.inst.slot]) agg_29_2 rfl)) ?_
 refine q_bool (b := decide (a.inst = b.inst)) rfl rfl (fun _ x' => x_eqInst ints2_29 rfl rfl rfl) (fun c9 => ?_) (fun c9 => ?_)
 ·refine qv (.bool true) (fun _ x' => x_move rfl rfl) ?_
  refine qv (.pointer (some (⟨w.heap.size, 2, none⟩))) (fun _ x' => x_fieldAddr fld_41_1 rfl rfl rfl) ?_
  refine qv (iJ a.status) (fun _ x' => x_load rfl rfl (((b2.ext x7).ext x').one one_3 rfl)) ?_
  refine qv (.pointer (some (⟨w1.heap.size, 2, none⟩))) (fun _ x' => x_fieldAddr fld_41_1 rfl rfl rfl) ?_
  refine qv (iJ b.status) (fun _ x' => x_load rfl rfl ((b6.ext x').one one_3 rfl)) ?_
  refine q_bool (b := decide (a.status = b.status)) rfl rfl (fun _ x' => x_eql rfl rfl rfl) (fun c10 => ?_) (fun c10 => ?_)
  ·refine qv (.bool true) (fun _ x' => x_pick_t rfl rfl rfl) ?_
   refine qv (.bool true) (fun _ x' => x_move rfl rfl) ?_
   refine qv (.pointer (some (⟨w.heap.size, 3, none⟩))) (fun _ x' => x_fieldAddr fld_41_2 rfl rfl rfl) ?_
   refine qv (.agg #[iJ a.promise.number, iJ a.promise.replica]) (fun _ x' => x_load rfl rfl (((b2.ext x7).ext x').agg (vs := [iJ a.promise.number, iJ a.promise.replica]) agg_27_2 rfl)) ?_
   refine qv (.pointer (some (⟨w1.heap.size, 3, none⟩))) (fun _ x' => x_fieldAddr fld_41_2 rfl rfl rfl) ?_
   refine qv (.agg #[iJ b.promise.number, iJ b.promise.replica]) (fun _ x' => x_load rfl rfl ((b6.ext x').agg (vs := [iJ b.promise.number, iJ b.promise.replica]) agg_27_2 rfl)) ?_
   refine q_bool (b := decide (a.promise = b.promise)) rfl rfl (fun _ x' => x_eqBal ints2_27 rfl rfl rfl) (fun c11 => ?_) (fun c11 => ?_)
   ·refine qv (.bool true) (fun _ x' => x_pick_t rfl rfl rfl) ?_
    refine qv (.bool true) (fun _ x' => x_move rfl rfl) ?_
    refine qv (.pointer (some (⟨w.heap.size, 5, none⟩))) (fun _ x' => x_fieldAddr fld_41_3 rfl rfl rfl) ?_
    refine qv (.agg #[iJ a.ballot.number, iJ a.ballot.replica]) (fun _ x' => x_load rfl rfl (((b2.ext x7).ext x').agg (vs := [iJ a.ballot.number, iJ a.ballot.replica]) agg_27_2 rfl)) ?_
    refine qv (.pointer (some (⟨w1.heap.size, 5, none⟩))) (fun _ x' => x_fieldAddr fld_41_3 rfl rfl rfl) ?_
    refine qv (.agg #[iJ b.ballot.number, iJ b.ballot.replica]) (fun _ x' => x_load rfl rfl ((b6.ext x').agg (vs := [iJ b.ballot.number, iJ b.ballot.replica]) agg_27_2 rfl)) ?_
    refine q_bool (b := decide (a.ballot = b.ballot)) rfl rfl (fun _ x' => x_eqBal ints2_27 rfl rfl rfl) (fun c12 => ?_) (fun c12 => ?_)
    ·refine qv (.bool true) (fun _ x' => x_pick_t rfl rfl rfl) ?_
     refine qv (.bool true) (fun _ x' => x_move rfl rfl) ?_
     refine qv (.pointer (some (⟨w.heap.size, 16, none⟩))) (fun _ x' => x_fieldAddr fld_41_5 rfl rfl rfl) ?_
     refine qv (iJ a.seq) (fun _ x' => x_load rfl rfl (((b2.ext x7).ext x').one one_3 rfl)) ?_
     refine qv (.pointer (some (⟨w1.heap.size, 16, none⟩))) (fun _ x' => x_fieldAddr fld_41_5 rfl rfl rfl) ?_
     refine qv (iJ b.seq) (fun _ x' => x_load rfl rfl ((b6.ext x').one one_3 rfl)) ?_
     refine q_bool (b := decide (a.seq = b.seq)) rfl rfl (fun _ x' => x_eql rfl rfl rfl) (fun c13 => ?_) (fun c13 => ?_)
     ·refine qv (.bool true) (fun _ x' => x_pick_t rfl rfl rfl) ?_
      refine qv (.bool true) (fun _ x' => x_move rfl rfl) ?_
      refine qv (.pointer (some (⟨w.heap.size, 17, none⟩))) (fun _ x' => x_fieldAddr fld_41_6 rfl rfl rfl) ?_
      refine qv (.agg #[iJ a.deps.d0, iJ a.deps.d1, iJ a.deps.d2, iJ a.deps.d3, iJ a.deps.d4, iJ a.deps.d5, iJ a.deps.d6]) (fun _ x' => x_load rfl rfl (((b2.ext x7).ext x').agg (vs := [iJ a.deps.d0, iJ a.deps.d1, iJ a.deps.d2, iJ a.deps.d3, iJ a.deps.d4, iJ a.deps.d5, iJ a.deps.d6]) agg_39_7 rfl)) ?_
      refine qv (.pointer (some (⟨w1.heap.size, 17, none⟩))) (fun _ x' => x_fieldAddr fld_41_6 rfl rfl rfl) ?_
      refine qv (.agg #[iJ b.deps.d0, iJ b.deps.d1, iJ b.deps.d2, iJ b.deps.d3, iJ b.deps.d4, iJ b.deps.d5, iJ b.deps.d6]) (fun _ x' => x_load rfl rfl ((b6.ext x').agg (vs := [iJ b.deps.d0, iJ b.deps.d1, iJ b.deps.d2, iJ b.deps.d3, iJ b.deps.d4, iJ b.deps.d5, iJ b.deps.d6]) agg_39_7 rfl)) ?_
      refine q_bool (b := decide (a.deps = b.deps)) rfl rfl (fun _ x' => x_eqDep intsT_39 rfl rfl rfl) (fun c14 => ?_) (fun c14 => ?_)
      ·refine qv (.bool true) (fun _ x' => x_pick_t rfl rfl rfl) ?_
       refine qv (.bool true) (fun _ x' => x_move rfl rfl) ?_
       refine qv (.pointer (some (⟨w.heap.size, 24, none⟩))) (fun _ x' => x_fieldAddr fld_41_7 rfl rfl rfl) ?_
       refine q_bool (b := a.kept) rfl rfl (fun _ x' => x_load rfl rfl (((b2.ext x7).ext x').one one_4 rfl)) (fun c15 => ?_) (fun c15 => ?_)
       ·refine qv (.pointer (some (⟨w1.heap.size, 24, none⟩))) (fun _ x' => x_fieldAddr fld_41_7 rfl rfl rfl) ?_
        refine q_bool (b := b.kept) rfl rfl (fun _ x' => x_load rfl rfl ((b6.ext x').one one_4 rfl)) (fun c16 => ?_) (fun c16 => ?_)
        ·refine qv (.bool true) (fun _ x' => yb (x_beql (a := true) (b := true) bool_4 rfl rfl rfl) rfl) ?_
         refine qv (.bool true) (fun _ x' => x_pick_t rfl rfl rfl) ?_
         refine qv (.bool true) (fun _ x' => x_move rfl rfl) ?_
         refine qv (.pointer (some (⟨w.heap.size, 7, none⟩))) (fun _ x' => x_fieldAddr fld_41_4 rfl rfl rfl) ?_
         refine qv (.agg #[iJ a.cmd.kind, iJ a.cmd.txn.client, iJ a.cmd.txn.number, iJ a.cmd.stp.time, iJ a.cmd.stp.client, iJ a.cmd.shards, .slice pa.A a.cmd.reads.length pa.n, .slice pa.B a.cmd.writes.length pa.m, .bool a.cmd.commit]) (fun _ x' => x_load rfl rfl (((b2.ext x7).ext x').agg (vs := [iJ a.cmd.kind, iJ a.cmd.txn.client, iJ a.cmd.txn.number, iJ a.cmd.stp.time, iJ a.cmd.stp.client, iJ a.cmd.shards, .slice pa.A a.cmd.reads.length pa.n, .slice pa.B a.cmd.writes.length pa.m, .bool a.cmd.commit]) agg_37_9 rfl)) ?_
         refine qv (.pointer (some (⟨w1.heap.size, 7, none⟩))) (fun _ x' => x_fieldAddr fld_41_4 rfl rfl rfl) ?_
         refine qv (.agg #[iJ b.cmd.kind, iJ b.cmd.txn.client, iJ b.cmd.txn.number, iJ b.cmd.stp.time, iJ b.cmd.stp.client, iJ b.cmd.shards, .slice pb.A b.cmd.reads.length pb.n, .slice pb.B b.cmd.writes.length pb.m, .bool b.cmd.commit]) (fun _ x' => x_load rfl rfl ((b6.ext x').agg (vs := [iJ b.cmd.kind, iJ b.cmd.txn.client, iJ b.cmd.txn.number, iJ b.cmd.stp.time, iJ b.cmd.stp.client, iJ b.cmd.shards, .slice pb.A b.cmd.reads.length pb.n, .slice pb.B b.cmd.writes.length pb.m, .bool b.cmd.commit]) agg_37_9 rfl)) ?_
         refine q_callb (b := decide (a.cmd = b.cmd)) (vs := #[.agg #[iJ a.cmd.kind, iJ a.cmd.txn.client, iJ a.cmd.txn.number, iJ a.cmd.stp.time, iJ a.cmd.stp.client, iJ a.cmd.shards, .slice pa.A a.cmd.reads.length pa.n, .slice pa.B a.cmd.writes.length pa.m, .bool a.cmd.commit], .agg #[iJ b.cmd.kind, iJ b.cmd.txn.client, iJ b.cmd.txn.number, iJ b.cmd.stp.time, iJ b.cmd.stp.client, iJ b.cmd.shards, .slice pb.A b.cmd.reads.length pb.n, .slice pb.B b.cmd.writes.length pb.m, .bool b.cmd.commit]]) fn_44 rfl rfl rfl (args2 rfl rfl) (fun _ x' => D_sameCmd _ a.cmd pa (((ha.ext x3).ext x7).ext x') b.cmd pb (((hb.ext x3).ext x7).ext x')) (fun c17 => ?_) (fun c17 => ?_)
         ·refine qv (.bool true) (fun _ x' => x_pick_t rfl rfl rfl) ?_
          refine qv (.bool true) (fun _ x' => x_assign rfl rfl) ?_
          exact q_nil (fun w18 x19 => t_norm (c_ret (c_done rfl rfl (Ret.b (by obtain ⟨a0, a1, a2, a3, a4, a5, a6, a7⟩ := a; obtain ⟨b0, b1, b2, b3, b4, b5, b6, b7⟩ := b; simp_all) ((x3.trans x7).trans x19)))))
         refine qv (.bool false) (fun _ x' => x_pick_t rfl rfl rfl) ?_
         refine qv (.bool false) (fun _ x' => x_assign rfl rfl) ?_
         exact q_nil (fun w20 x21 => t_norm (c_ret (c_done rfl rfl (Ret.b ((decide_eq_false (fun h => by subst h; simp_all)).symm) ((x3.trans x7).trans x21)))))
        refine qv (.bool false) (fun _ x' => yb (x_beql (a := true) (b := false) bool_4 rfl rfl rfl) rfl) ?_
        refine qv (.bool false) (fun _ x' => x_pick_t rfl rfl rfl) ?_
        refine qv (.bool false) (fun _ x' => x_move rfl rfl) ?_
        refine qk rfl rfl (qk rfl rfl (qk rfl rfl (qk rfl rfl (qk rfl rfl (qv (.bool false) (fun _ x' => x_pick_f rfl rfl rfl) ?_)))))
        refine qv (.bool false) (fun _ x' => x_assign rfl rfl) ?_
        exact q_nil (fun w22 x23 => t_norm (c_ret (c_done rfl rfl (Ret.b ((decide_eq_false (fun h => by subst h; simp_all)).symm) ((x3.trans x7).trans x23)))))
       refine qv (.pointer (some (⟨w1.heap.size, 24, none⟩))) (fun _ x' => x_fieldAddr fld_41_7 rfl rfl rfl) ?_
       refine q_bool (b := b.kept) rfl rfl (fun _ x' => x_load rfl rfl ((b6.ext x').one one_4 rfl)) (fun c24 => ?_) (fun c24 => ?_)
       ·refine qv (.bool false) (fun _ x' => yb (x_beql (a := false) (b := true) bool_4 rfl rfl rfl) rfl) ?_
        refine qv (.bool false) (fun _ x' => x_pick_t rfl rfl rfl) ?_
        refine qv (.bool false) (fun _ x' => x_move rfl rfl) ?_
        refine qk rfl rfl (qk rfl rfl (qk rfl rfl (qk rfl rfl (qk rfl rfl (qv (.bool false) (fun _ x' => x_pick_f rfl rfl rfl) ?_)))))
        refine qv (.bool false) (fun _ x' => x_assign rfl rfl) ?_
        exact q_nil (fun w25 x26 => t_norm (c_ret (c_done rfl rfl (Ret.b ((decide_eq_false (fun h => by subst h; simp_all)).symm) ((x3.trans x7).trans x26)))))
       refine qv (.bool true) (fun _ x' => yb (x_beql (a := false) (b := false) bool_4 rfl rfl rfl) rfl) ?_
       refine qv (.bool true) (fun _ x' => x_pick_t rfl rfl rfl) ?_
       refine qv (.bool true) (fun _ x' => x_move rfl rfl) ?_
       refine qv (.pointer (some (⟨w.heap.size, 7, none⟩))) (fun _ x' => x_fieldAddr fld_41_4 rfl rfl rfl) ?_
       refine qv (.agg #[iJ a.cmd.kind, iJ a.cmd.txn.client, iJ a.cmd.txn.number, iJ a.cmd.stp.time, iJ a.cmd.stp.client, iJ a.cmd.shards, .slice pa.A a.cmd.reads.length pa.n, .slice pa.B a.cmd.writes.length pa.m, .bool a.cmd.commit]) (fun _ x' => x_load rfl rfl (((b2.ext x7).ext x').agg (vs := [iJ a.cmd.kind, iJ a.cmd.txn.client, iJ a.cmd.txn.number, iJ a.cmd.stp.time, iJ a.cmd.stp.client, iJ a.cmd.shards, .slice pa.A a.cmd.reads.length pa.n, .slice pa.B a.cmd.writes.length pa.m, .bool a.cmd.commit]) agg_37_9 rfl)) ?_
       refine qv (.pointer (some (⟨w1.heap.size, 7, none⟩))) (fun _ x' => x_fieldAddr fld_41_4 rfl rfl rfl) ?_
       refine qv (.agg #[iJ b.cmd.kind, iJ b.cmd.txn.client, iJ b.cmd.txn.number, iJ b.cmd.stp.time, iJ b.cmd.stp.client, iJ b.cmd.shards, .slice pb.A b.cmd.reads.length pb.n, .slice pb.B b.cmd.writes.length pb.m, .bool b.cmd.commit]) (fun _ x' => x_load rfl rfl ((b6.ext x').agg (vs := [iJ b.cmd.kind, iJ b.cmd.txn.client, iJ b.cmd.txn.number, iJ b.cmd.stp.time, iJ b.cmd.stp.client, iJ b.cmd.shards, .slice pb.A b.cmd.reads.length pb.n, .slice pb.B b.cmd.writes.length pb.m, .bool b.cmd.commit]) agg_37_9 rfl)) ?_
       refine q_callb (b := decide (a.cmd = b.cmd)) (vs := #[.agg #[iJ a.cmd.kind, iJ a.cmd.txn.client, iJ a.cmd.txn.number, iJ a.cmd.stp.time, iJ a.cmd.stp.client, iJ a.cmd.shards, .slice pa.A a.cmd.reads.length pa.n, .slice pa.B a.cmd.writes.length pa.m, .bool a.cmd.commit], .agg #[iJ b.cmd.kind, iJ b.cmd.txn.client, iJ b.cmd.txn.number, iJ b.cmd.stp.time, iJ b.cmd.stp.client, iJ b.cmd.shards, .slice pb.A b.cmd.reads.length pb.n, .slice pb.B b.cmd.writes.length pb.m, .bool b.cmd.commit]]) fn_44 rfl rfl rfl (args2 rfl rfl) (fun _ x' => D_sameCmd _ a.cmd pa (((ha.ext x3).ext x7).ext x') b.cmd pb (((hb.ext x3).ext x7).ext x')) (fun c27 => ?_) (fun c27 => ?_)
       ·refine qv (.bool true) (fun _ x' => x_pick_t rfl rfl rfl) ?_
        refine qv (.bool true) (fun _ x' => x_assign rfl rfl) ?_
        exact q_nil (fun w28 x29 => t_norm (c_ret (c_done rfl rfl (Ret.b (by obtain ⟨a0, a1, a2, a3, a4, a5, a6, a7⟩ := a; obtain ⟨b0, b1, b2, b3, b4, b5, b6, b7⟩ := b; simp_all) ((x3.trans x7).trans x29)))))
       refine qv (.bool false) (fun _ x' => x_pick_t rfl rfl rfl) ?_
       refine qv (.bool false) (fun _ x' => x_assign rfl rfl) ?_
       exact q_nil (fun w30 x31 => t_norm (c_ret (c_done rfl rfl (Ret.b ((decide_eq_false (fun h => by subst h; simp_all)).symm) ((x3.trans x7).trans x31)))))
      refine qv (.bool false) (fun _ x' => x_pick_t rfl rfl rfl) ?_
      refine qv (.bool false) (fun _ x' => x_move rfl rfl) ?_
      refine qk rfl rfl (qk rfl rfl (qk rfl rfl (qk rfl rfl (qk rfl rfl (qv (.bool false) (fun _ x' => x_pick_f rfl rfl rfl) ?_)))))
      refine qv (.bool false) (fun _ x' => x_move rfl rfl) ?_
      refine qk rfl rfl (qk rfl rfl (qk rfl rfl (qk rfl rfl (qk rfl rfl (qv (.bool false) (fun _ x' => x_pick_f rfl rfl rfl) ?_)))))
      refine qv (.bool false) (fun _ x' => x_assign rfl rfl) ?_
      exact q_nil (fun w32 x33 => t_norm (c_ret (c_done rfl rfl (Ret.b ((decide_eq_false (fun h => by subst h; simp_all)).symm) ((x3.trans x7).trans x33)))))
     refine qv (.bool false) (fun _ x' => x_pick_t rfl rfl rfl) ?_
     refine qv (.bool false) (fun _ x' => x_move rfl rfl) ?_
     refine qk rfl rfl (qk rfl rfl (qk rfl rfl (qk rfl rfl (qk rfl rfl (qv (.bool false) (fun _ x' => x_pick_f rfl rfl rfl) ?_)))))
     refine qv (.bool false) (fun _ x' => x_move rfl rfl) ?_
     refine qk rfl rfl (qk rfl rfl (qk rfl rfl (qk rfl rfl (qk rfl rfl (qv (.bool false) (fun _ x' => x_pick_f rfl rfl rfl) ?_)))))
     refine qv (.bool false) (fun _ x' => x_move rfl rfl) ?_
     refine qk rfl rfl (qk rfl rfl (qk rfl rfl (qk rfl rfl (qk rfl rfl (qv (.bool false) (fun _ x' => x_pick_f rfl rfl rfl) ?_)))))
     refine qv (.bool false) (fun _ x' => x_assign rfl rfl) ?_
     exact q_nil (fun w34 x35 => t_norm (c_ret (c_done rfl rfl (Ret.b ((decide_eq_false (fun h => by subst h; simp_all)).symm) ((x3.trans x7).trans x35)))))
    refine qv (.bool false) (fun _ x' => x_pick_t rfl rfl rfl) ?_
    refine qv (.bool false) (fun _ x' => x_move rfl rfl) ?_
    refine qk rfl rfl (qk rfl rfl (qk rfl rfl (qk rfl rfl (qk rfl rfl (qv (.bool false) (fun _ x' => x_pick_f rfl rfl rfl) ?_)))))
    refine qv (.bool false) (fun _ x' => x_move rfl rfl) ?_
    refine qk rfl rfl (qk rfl rfl (qk rfl rfl (qk rfl rfl (qk rfl rfl (qv (.bool false) (fun _ x' => x_pick_f rfl rfl rfl) ?_)))))
    refine qv (.bool false) (fun _ x' => x_move rfl rfl) ?_
    refine qk rfl rfl (qk rfl rfl (qk rfl rfl (qk rfl rfl (qk rfl rfl (qv (.bool false) (fun _ x' => x_pick_f rfl rfl rfl) ?_)))))
    refine qv (.bool false) (fun _ x' => x_move rfl rfl) ?_
    refine qk rfl rfl (qk rfl rfl (qk rfl rfl (qk rfl rfl (qk rfl rfl (qv (.bool false) (fun _ x' => x_pick_f rfl rfl rfl) ?_)))))
    refine qv (.bool false) (fun _ x' => x_assign rfl rfl) ?_
    exact q_nil (fun w36 x37 => t_norm (c_ret (c_done rfl rfl (Ret.b ((decide_eq_false (fun h => by subst h; simp_all)).symm) ((x3.trans x7).trans x37)))))
   refine qv (.bool false) (fun _ x' => x_pick_t rfl rfl rfl) ?_
   refine qv (.bool false) (fun _ x' => x_move rfl rfl) ?_
   refine qk rfl rfl (qk rfl rfl (qk rfl rfl (qk rfl rfl (qk rfl rfl (qv (.bool false) (fun _ x' => x_pick_f rfl rfl rfl) ?_)))))
   refine qv (.bool false) (fun _ x' => x_move rfl rfl) ?_
   refine qk rfl rfl (qk rfl rfl (qk rfl rfl (qk rfl rfl (qk rfl rfl (qv (.bool false) (fun _ x' => x_pick_f rfl rfl rfl) ?_)))))
   refine qv (.bool false) (fun _ x' => x_move rfl rfl) ?_
   refine qk rfl rfl (qk rfl rfl (qk rfl rfl (qk rfl rfl (qk rfl rfl (qv (.bool false) (fun _ x' => x_pick_f rfl rfl rfl) ?_)))))
   refine qv (.bool false) (fun _ x' => x_move rfl rfl) ?_
   refine qk rfl rfl (qk rfl rfl (qk rfl rfl (qk rfl rfl (qk rfl rfl (qv (.bool false) (fun _ x' => x_pick_f rfl rfl rfl) ?_)))))
   refine qv (.bool false) (fun _ x' => x_move rfl rfl) ?_
   refine qk rfl rfl (qk rfl rfl (qk rfl rfl (qk rfl rfl (qk rfl rfl (qv (.bool false) (fun _ x' => x_pick_f rfl rfl rfl) ?_)))))
   refine qv (.bool false) (fun _ x' => x_assign rfl rfl) ?_
   exact q_nil (fun w38 x39 => t_norm (c_ret (c_done rfl rfl (Ret.b ((decide_eq_false (fun h => by subst h; simp_all)).symm) ((x3.trans x7).trans x39)))))
  refine qv (.bool false) (fun _ x' => x_pick_t rfl rfl rfl) ?_
  refine qv (.bool false) (fun _ x' => x_move rfl rfl) ?_
  refine qk rfl rfl (qk rfl rfl (qk rfl rfl (qk rfl rfl (qk rfl rfl (qv (.bool false) (fun _ x' => x_pick_f rfl rfl rfl) ?_)))))
  refine qv (.bool false) (fun _ x' => x_move rfl rfl) ?_
  refine qk rfl rfl (qk rfl rfl (qk rfl rfl (qk rfl rfl (qk rfl rfl (qv (.bool false) (fun _ x' => x_pick_f rfl rfl rfl) ?_)))))
  refine qv (.bool false) (fun _ x' => x_move rfl rfl) ?_
  refine qk rfl rfl (qk rfl rfl (qk rfl rfl (qk rfl rfl (qk rfl rfl (qv (.bool false) (fun _ x' => x_pick_f rfl rfl rfl) ?_)))))
  refine qv (.bool false) (fun _ x' => x_move rfl rfl) ?_
  refine qk rfl rfl (qk rfl rfl (qk rfl rfl (qk rfl rfl (qk rfl rfl (qv (.bool false) (fun _ x' => x_pick_f rfl rfl rfl) ?_)))))
  refine qv (.bool false) (fun _ x' => x_move rfl rfl) ?_
  refine qk rfl rfl (qk rfl rfl (qk rfl rfl (qk rfl rfl (qk rfl rfl (qv (.bool false) (fun _ x' => x_pick_f rfl rfl rfl) ?_)))))
  refine qv (.bool false) (fun _ x' => x_move rfl rfl) ?_
  refine qk rfl rfl (qk rfl rfl (qk rfl rfl (qk rfl rfl (qk rfl rfl (qv (.bool false) (fun _ x' => x_pick_f rfl rfl rfl) ?_)))))
  refine qv (.bool false) (fun _ x' => x_assign rfl rfl) ?_
  exact q_nil (fun w40 x41 => t_norm (c_ret (c_done rfl rfl (Ret.b ((decide_eq_false (fun h => by subst h; simp_all)).symm) ((x3.trans x7).trans x41)))))
 refine qv (.bool false) (fun _ x' => x_move rfl rfl) ?_
 refine qk rfl rfl (qk rfl rfl (qk rfl rfl (qk rfl rfl (qk rfl rfl (qv (.bool false) (fun _ x' => x_pick_f rfl rfl rfl) ?_)))))
 refine qv (.bool false) (fun _ x' => x_move rfl rfl) ?_
 refine qk rfl rfl (qk rfl rfl (qk rfl rfl (qk rfl rfl (qk rfl rfl (qv (.bool false) (fun _ x' => x_pick_f rfl rfl rfl) ?_)))))
 refine qv (.bool false) (fun _ x' => x_move rfl rfl) ?_
 refine qk rfl rfl (qk rfl rfl (qk rfl rfl (qk rfl rfl (qk rfl rfl (qv (.bool false) (fun _ x' => x_pick_f rfl rfl rfl) ?_)))))
 refine qv (.bool false) (fun _ x' => x_move rfl rfl) ?_
 refine qk rfl rfl (qk rfl rfl (qk rfl rfl (qk rfl rfl (qk rfl rfl (qv (.bool false) (fun _ x' => x_pick_f rfl rfl rfl) ?_)))))
 refine qv (.bool false) (fun _ x' => x_move rfl rfl) ?_
 refine qk rfl rfl (qk rfl rfl (qk rfl rfl (qk rfl rfl (qk rfl rfl (qv (.bool false) (fun _ x' => x_pick_f rfl rfl rfl) ?_)))))
 refine qv (.bool false) (fun _ x' => x_move rfl rfl) ?_
 refine qk rfl rfl (qk rfl rfl (qk rfl rfl (qk rfl rfl (qk rfl rfl (qv (.bool false) (fun _ x' => x_pick_f rfl rfl rfl) ?_)))))
 refine qv (.bool false) (fun _ x' => x_move rfl rfl) ?_
 refine qk rfl rfl (qk rfl rfl (qk rfl rfl (qk rfl rfl (qk rfl rfl (qv (.bool false) (fun _ x' => x_pick_f rfl rfl rfl) ?_)))))
 refine qv (.bool false) (fun _ x' => x_assign rfl rfl) ?_
 exact q_nil (fun w42 x43 => t_norm (c_ret (c_done rfl rfl (Ret.b ((decide_eq_false (fun h => by subst h; simp_all)).symm) ((x3.trans x7).trans x43)))))
theorem D_sameMsg (w : World) (a : Msg) (pa : Ptr) (ha : CmdAt w a.r.cmd pa) (b : Msg) (pb : Ptr) (hb : CmdAt w b.r.cmd pb) :
    Calls Try.prog 14 #[vMsg a pa, vMsg b pb] w (Ret w (.bool (decide (a = b)))) := by
 refine c_enter (n := 38) Try.func14 rfl rfl rfl ?_
 refine c_seq (c_plain (p_box rfl rfl rfl rfl (fun w1 b2 x3 z4 => ?_)))
 refine p_box rfl rfl rfl rfl (fun w5 b6 x7 z8 => ?_)
 refine pv (.bool false) (x_assign rfl rfl) ?_
 refine p_nil (t_norm (c_seq (c_quiet (qv (pJ w.heap.size) (fun _ x' => x_fieldAddr fld_43_0 rfl rfl rfl) ?_))))
 refine qv (iJ a.kind) (fun _ x' => x_load rfl rfl (((b2.ext x7).ext x').one one_3 rfl)) ?_
 refine qv (pJ w1.heap.size) (fun _ x' => x_fieldAddr fld_43_0 rfl rfl rfl) ?_
 refine qv (iJ b.kind) (fun _ x' => x_load rfl rfl ((b6.ext x').one one_3 rfl)) ?_
 refine q_bool (b := decide (a.kind = b.kind)) rfl rfl (fun _ x' => x_eql rfl rfl rfl) (fun c9 => ?_) (fun c9 => ?_)
 ·refine qv (.bool true) (fun _ x' => x_move rfl rfl) ?_
  refine qv (.pointer (some (⟨w.heap.size, 1, none⟩))) (fun _ x' => x_fieldAddr fld_43_1 rfl rfl rfl) ?_
  refine qv (iJ a.src) (fun _ x' => x_load rfl rfl (((b2.ext x7).ext x').one one_3 rfl)) ?_
  refine qv (.pointer (some (⟨w1.heap.size, 1, none⟩))) (fun _ x' => x_fieldAddr fld_43_1 rfl rfl rfl) ?_
  refine qv (iJ b.src) (fun _ x' => x_load rfl rfl ((b6.ext x').one one_3 rfl)) ?_
  refine q_bool (b := decide (a.src = b.src)) rfl rfl (fun _ x' => x_eql rfl rfl rfl) (fun c10 => ?_) (fun c10 => ?_)
  ·refine qv (.bool true) (fun _ x' => x_pick_t rfl rfl rfl) ?_
   refine qv (.bool true) (fun _ x' => x_move rfl rfl) ?_
   refine qv (.pointer (some (⟨w.heap.size, 2, none⟩))) (fun _ x' => x_fieldAddr fld_43_2 rfl rfl rfl) ?_
   refine qv (iJ a.dst) (fun _ x' => x_load rfl rfl (((b2.ext x7).ext x').one one_3 rfl)) ?_
   refine qv (.pointer (some (⟨w1.heap.size, 2, none⟩))) (fun _ x' => x_fieldAddr fld_43_2 rfl rfl rfl) ?_
   refine qv (iJ b.dst) (fun _ x' => x_load rfl rfl ((b6.ext x').one one_3 rfl)) ?_
   refine q_bool (b := decide (a.dst = b.dst)) rfl rfl (fun _ x' => x_eql rfl rfl rfl) (fun c11 => ?_) (fun c11 => ?_)
   ·refine qv (.bool true) (fun _ x' => x_pick_t rfl rfl rfl) ?_
    refine qv (.bool true) (fun _ x' => x_move rfl rfl) ?_
    refine qv (.pointer (some (⟨w.heap.size, 3, none⟩))) (fun _ x' => x_fieldAddr fld_43_3 rfl rfl rfl) ?_
    refine qv (.agg #[iJ a.ballot.number, iJ a.ballot.replica]) (fun _ x' => x_load rfl rfl (((b2.ext x7).ext x').agg (vs := [iJ a.ballot.number, iJ a.ballot.replica]) agg_27_2 rfl)) ?_
    refine qv (.pointer (some (⟨w1.heap.size, 3, none⟩))) (fun _ x' => x_fieldAddr fld_43_3 rfl rfl rfl) ?_
    refine qv (.agg #[iJ b.ballot.number, iJ b.ballot.replica]) (fun _ x' => x_load rfl rfl ((b6.ext x').agg (vs := [iJ b.ballot.number, iJ b.ballot.replica]) agg_27_2 rfl)) ?_
    refine q_bool (b := decide (a.ballot = b.ballot)) rfl rfl (fun _ x' => x_eqBal ints2_27 rfl rfl rfl) (fun c12 => ?_) (fun c12 => ?_)
    ·refine qv (.bool true) (fun _ x' => x_pick_t rfl rfl rfl) ?_
     refine qv (.bool true) (fun _ x' => x_move rfl rfl) ?_
     refine qv (.pointer (some (⟨w.heap.size, 5, none⟩))) (fun _ x' => x_fieldAddr fld_43_4 rfl rfl rfl) ?_
     refine qv (.agg #[iJ a.r.inst.replica, iJ a.r.inst.slot, iJ a.r.status, iJ a.r.promise.number, iJ a.r.promise.replica, iJ a.r.ballot.number, iJ a.r.ballot.replica, iJ a.r.cmd.kind, iJ a.r.cmd.txn.client, iJ a.r.cmd.txn.number, iJ a.r.cmd.stp.time, iJ a.r.cmd.stp.client, iJ a.r.cmd.shards, .slice pa.A a.r.cmd.reads.length pa.n, .slice pa.B a.r.cmd.writes.length pa.m, .bool a.r.cmd.commit, iJ a.r.seq, iJ a.r.deps.d0, iJ a.r.deps.d1, iJ a.r.deps.d2, iJ a.r.deps.d3, iJ a.r.deps.d4, iJ a.r.deps.d5, iJ a.r.deps.d6, .bool a.r.kept]) (fun _ x' => x_load rfl rfl (((b2.ext x7).ext x').agg (vs := [iJ a.r.inst.replica, iJ a.r.inst.slot, iJ a.r.status, iJ a.r.promise.number, iJ a.r.promise.replica, iJ a.r.ballot.number, iJ a.r.ballot.replica, iJ a.r.cmd.kind, iJ a.r.cmd.txn.client, iJ a.r.cmd.txn.number, iJ a.r.cmd.stp.time, iJ a.r.cmd.stp.client, iJ a.r.cmd.shards, .slice pa.A a.r.cmd.reads.length pa.n, .slice pa.B a.r.cmd.writes.length pa.m, .bool a.r.cmd.commit, iJ a.r.seq, iJ a.r.deps.d0, iJ a.r.deps.d1, iJ a.r.deps.d2, iJ a.r.deps.d3, iJ a.r.deps.d4, iJ a.r.deps.d5, iJ a.r.deps.d6, .bool a.r.kept]) agg_41_25 rfl)) ?_
     refine qv (.pointer (some (⟨w1.heap.size, 5, none⟩))) (fun _ x' => x_fieldAddr fld_43_4 rfl rfl rfl) ?_
     refine qv (.agg #[iJ b.r.inst.replica, iJ b.r.inst.slot, iJ b.r.status, iJ b.r.promise.number, iJ b.r.promise.replica, iJ b.r.ballot.number, iJ b.r.ballot.replica, iJ b.r.cmd.kind, iJ b.r.cmd.txn.client, iJ b.r.cmd.txn.number, iJ b.r.cmd.stp.time, iJ b.r.cmd.stp.client, iJ b.r.cmd.shards, .slice pb.A b.r.cmd.reads.length pb.n, .slice pb.B b.r.cmd.writes.length pb.m, .bool b.r.cmd.commit, iJ b.r.seq, iJ b.r.deps.d0, iJ b.r.deps.d1, iJ b.r.deps.d2, iJ b.r.deps.d3, iJ b.r.deps.d4, iJ b.r.deps.d5, iJ b.r.deps.d6, .bool b.r.kept]) (fun _ x' => x_load rfl rfl ((b6.ext x').agg (vs := [iJ b.r.inst.replica, iJ b.r.inst.slot, iJ b.r.status, iJ b.r.promise.number, iJ b.r.promise.replica, iJ b.r.ballot.number, iJ b.r.ballot.replica, iJ b.r.cmd.kind, iJ b.r.cmd.txn.client, iJ b.r.cmd.txn.number, iJ b.r.cmd.stp.time, iJ b.r.cmd.stp.client, iJ b.r.cmd.shards, .slice pb.A b.r.cmd.reads.length pb.n, .slice pb.B b.r.cmd.writes.length pb.m, .bool b.r.cmd.commit, iJ b.r.seq, iJ b.r.deps.d0, iJ b.r.deps.d1, iJ b.r.deps.d2, iJ b.r.deps.d3, iJ b.r.deps.d4, iJ b.r.deps.d5, iJ b.r.deps.d6, .bool b.r.kept]) agg_41_25 rfl)) ?_
     refine q_callb (b := decide (a.r = b.r)) (vs := #[.agg #[iJ a.r.inst.replica, iJ a.r.inst.slot, iJ a.r.status, iJ a.r.promise.number, iJ a.r.promise.replica, iJ a.r.ballot.number, iJ a.r.ballot.replica, iJ a.r.cmd.kind, iJ a.r.cmd.txn.client, iJ a.r.cmd.txn.number, iJ a.r.cmd.stp.time, iJ a.r.cmd.stp.client, iJ a.r.cmd.shards, .slice pa.A a.r.cmd.reads.length pa.n, .slice pa.B a.r.cmd.writes.length pa.m, .bool a.r.cmd.commit, iJ a.r.seq, iJ a.r.deps.d0, iJ a.r.deps.d1, iJ a.r.deps.d2, iJ a.r.deps.d3, iJ a.r.deps.d4, iJ a.r.deps.d5, iJ a.r.deps.d6, .bool a.r.kept], .agg #[iJ b.r.inst.replica, iJ b.r.inst.slot, iJ b.r.status, iJ b.r.promise.number, iJ b.r.promise.replica, iJ b.r.ballot.number, iJ b.r.ballot.replica, iJ b.r.cmd.kind, iJ b.r.cmd.txn.client, iJ b.r.cmd.txn.number, iJ b.r.cmd.stp.time, iJ b.r.cmd.stp.client, iJ b.r.cmd.shards, .slice pb.A b.r.cmd.reads.length pb.n, .slice pb.B b.r.cmd.writes.length pb.m, .bool b.r.cmd.commit, iJ b.r.seq, iJ b.r.deps.d0, iJ b.r.deps.d1, iJ b.r.deps.d2, iJ b.r.deps.d3, iJ b.r.deps.d4, iJ b.r.deps.d5, iJ b.r.deps.d6, .bool b.r.kept]]) fn_30 rfl rfl rfl (args2 rfl rfl) (fun _ x' => D_sameRec _ a.r pa (((ha.ext x3).ext x7).ext x') b.r pb (((hb.ext x3).ext x7).ext x')) (fun c13 => ?_) (fun c13 => ?_)
     ·refine qv (.bool true) (fun _ x' => x_pick_t rfl rfl rfl) ?_
      refine qv (.bool true) (fun _ x' => x_assign rfl rfl) ?_
      exact q_nil (fun w14 x15 => t_norm (c_ret (c_done rfl rfl (Ret.b (by obtain ⟨a0, a1, a2, a3, a4⟩ := a; obtain ⟨b0, b1, b2, b3, b4⟩ := b; simp_all) ((x3.trans x7).trans x15)))))
     refine qv (.bool false) (fun _ x' => x_pick_t rfl rfl rfl) ?_
     refine qv (.bool false) (fun _ x' => x_assign rfl rfl) ?_
     exact q_nil (fun w16 x17 => t_norm (c_ret (c_done rfl rfl (Ret.b ((decide_eq_false (fun h => by subst h; simp_all)).symm) ((x3.trans x7).trans x17)))))
    refine qv (.bool false) (fun _ x' => x_pick_t rfl rfl rfl) ?_
    refine qv (.bool false) (fun _ x' => x_move rfl rfl) ?_
    refine qk rfl rfl (qk rfl rfl (qk rfl rfl (qk rfl rfl (qk rfl rfl (qv (.bool false) (fun _ x' => x_pick_f rfl rfl rfl) ?_)))))
    refine qv (.bool false) (fun _ x' => x_assign rfl rfl) ?_
    exact q_nil (fun w18 x19 => t_norm (c_ret (c_done rfl rfl (Ret.b ((decide_eq_false (fun h => by subst h; simp_all)).symm) ((x3.trans x7).trans x19)))))
   refine qv (.bool false) (fun _ x' => x_pick_t rfl rfl rfl) ?_
   refine qv (.bool false) (fun _ x' => x_move rfl rfl) ?_
   refine qk rfl rfl (qk rfl rfl (qk rfl rfl (qk rfl rfl (qk rfl rfl (qv (.bool false) (fun _ x' => x_pick_f rfl rfl rfl) ?_)))))
   refine qv (.bool false) (fun _ x' => x_move rfl rfl) ?_
   refine qk rfl rfl (qk rfl rfl (qk rfl rfl (qk rfl rfl (qk rfl rfl (qv (.bool false) (fun _ x' => x_pick_f rfl rfl rfl) ?_)))))
   refine qv (.bool false) (fun _ x' => x_assign rfl rfl) ?_
   exact q_nil (fun w20 x21 => t_norm (c_ret (c_done rfl rfl (Ret.b ((decide_eq_false (fun h => by subst h; simp_all)).symm) ((x3.trans x7).trans x21)))))
  refine qv (.bool false) (fun _ x' => x_pick_t rfl rfl rfl) ?_
  refine qv (.bool false) (fun _ x' => x_move rfl rfl) ?_
  refine qk rfl rfl (qk rfl rfl (qk rfl rfl (qk rfl rfl (qk rfl rfl (qv (.bool false) (fun _ x' => x_pick_f rfl rfl rfl) ?_)))))
  refine qv (.bool false) (fun _ x' => x_move rfl rfl) ?_
  refine qk rfl rfl (qk rfl rfl (qk rfl rfl (qk rfl rfl (qk rfl rfl (qv (.bool false) (fun _ x' => x_pick_f rfl rfl rfl) ?_)))))
  refine qv (.bool false) (fun _ x' => x_move rfl rfl) ?_
  refine qk rfl rfl (qk rfl rfl (qk rfl rfl (qk rfl rfl (qk rfl rfl (qv (.bool false) (fun _ x' => x_pick_f rfl rfl rfl) ?_)))))
  refine qv (.bool false) (fun _ x' => x_assign rfl rfl) ?_
  exact q_nil (fun w22 x23 => t_norm (c_ret (c_done rfl rfl (Ret.b ((decide_eq_false (fun h => by subst h; simp_all)).symm) ((x3.trans x7).trans x23)))))
 refine qv (.bool false) (fun _ x' => x_move rfl rfl) ?_
 refine qk rfl rfl (qk rfl rfl (qk rfl rfl (qk rfl rfl (qk rfl rfl (qv (.bool false) (fun _ x' => x_pick_f rfl rfl rfl) ?_)))))
 refine qv (.bool false) (fun _ x' => x_move rfl rfl) ?_
 refine qk rfl rfl (qk rfl rfl (qk rfl rfl (qk rfl rfl (qk rfl rfl (qv (.bool false) (fun _ x' => x_pick_f rfl rfl rfl) ?_)))))
 refine qv (.bool false) (fun _ x' => x_move rfl rfl) ?_
 refine qk rfl rfl (qk rfl rfl (qk rfl rfl (qk rfl rfl (qk rfl rfl (qv (.bool false) (fun _ x' => x_pick_f rfl rfl rfl) ?_)))))
 refine qv (.bool false) (fun _ x' => x_move rfl rfl) ?_
 refine qk rfl rfl (qk rfl rfl (qk rfl rfl (qk rfl rfl (qk rfl rfl (qv (.bool false) (fun _ x' => x_pick_f rfl rfl rfl) ?_)))))
 refine qv (.bool false) (fun _ x' => x_assign rfl rfl) ?_
 exact q_nil (fun w24 x25 => t_norm (c_ret (c_done rfl rfl (Ret.b ((decide_eq_false (fun h => by subst h; simp_all)).symm) ((x3.trans x7).trans x25)))))
set_option maxHeartbeats 1000000 in
theorem C_rightRec (w : World) (a : Rec) (pa : Ptr) (ha : CmdAt w a.cmd pa) (hs : Slim a.cmd) :
    Calls Try.prog 43 #[vRec a pa] w (Ret w (.bool (rightRec a))) := by
 refine c_enter (n := 65) Try.func43 rfl rfl rfl ?_
 refine c_seq (c_plain (p_box rfl rfl rfl rfl (fun w1 b2 x3 z4 => ?_)))
 refine pv (.bool false) (x_assign rfl rfl) ?_
 refine p_nil (t_norm (c_seq (c_seq (c_quiet (qv (pJ w.heap.size) (fun _ x' => x_fieldAddr fld_41_0 rfl rfl rfl) ?_)))))
 refine qv (.agg #[iJ a.inst.replica, iJ a.inst.slot]) (fun _ x' => x_load rfl rfl ((b2.ext x').agg (vs := [iJ a.inst.replica, iJ a.inst.slot]) agg_29_2 rfl)) ?_
 refine q_callb (b := rightInst a.inst) (vs := #[.agg #[iJ a.inst.replica, iJ a.inst.slot]]) fn_52 rfl rfl rfl (args1 rfl) (fun _ x' => C_rightInst _ a.inst) (fun c5 => ?_) (fun c5 => ?_)
 ·refine qv (.bool false) (fun _ x' => x_not (b := true) rfl rfl) ?_
  refine qv (.bool false) (fun _ x' => x_move rfl rfl) ?_
  refine qv (.pointer (some (⟨w.heap.size, 3, none⟩))) (fun _ x' => x_fieldAddr fld_41_2 rfl rfl rfl) ?_
  refine qv (.agg #[iJ a.promise.number, iJ a.promise.replica]) (fun _ x' => x_load rfl rfl ((b2.ext x').agg (vs := [iJ a.promise.number, iJ a.promise.replica]) agg_27_2 rfl)) ?_
  refine q_callb (b := rightBal a.promise) (vs := #[.agg #[iJ a.promise.number, iJ a.promise.replica]]) fn_42 rfl rfl rfl (args1 rfl) (fun _ x' => C_rightBal _ a.promise) (fun c6 => ?_) (fun c6 => ?_)
  ·refine qv (.bool false) (fun _ x' => x_not (b := true) rfl rfl) ?_
   refine qv (.bool false) (fun _ x' => x_pick_f rfl rfl rfl) ?_
   refine qv (.bool false) (fun _ x' => x_move rfl rfl) ?_
   refine qv (.pointer (some (⟨w.heap.size, 5, none⟩))) (fun _ x' => x_fieldAddr fld_41_3 rfl rfl rfl) ?_
   refine qv (.agg #[iJ a.ballot.number, iJ a.ballot.replica]) (fun _ x' => x_load rfl rfl ((b2.ext x').agg (vs := [iJ a.ballot.number, iJ a.ballot.replica]) agg_27_2 rfl)) ?_
   refine q_callb (b := rightBal a.ballot) (vs := #[.agg #[iJ a.ballot.number, iJ a.ballot.replica]]) fn_42 rfl rfl rfl (args1 rfl) (fun _ x' => C_rightBal _ a.ballot) (fun c7 => ?_) (fun c7 => ?_)
   ·refine qv (.bool false) (fun _ x' => x_not (b := true) rfl rfl) ?_
    refine qv (.bool false) (fun _ x' => x_pick_f rfl rfl rfl) ?_
    refine qv (.bool false) (fun _ x' => x_move rfl rfl) ?_
    refine qv (.pointer (some (⟨w.heap.size, 5, none⟩))) (fun _ x' => x_fieldAddr fld_41_3 rfl rfl rfl) ?_
    refine qv (.agg #[iJ a.ballot.number, iJ a.ballot.replica]) (fun _ x' => x_load rfl rfl ((b2.ext x').agg (vs := [iJ a.ballot.number, iJ a.ballot.replica]) agg_27_2 rfl)) ?_
    refine qv (.pointer (some (⟨w.heap.size, 3, none⟩))) (fun _ x' => x_fieldAddr fld_41_2 rfl rfl rfl) ?_
    refine qv (.agg #[iJ a.promise.number, iJ a.promise.replica]) (fun _ x' => x_load rfl rfl ((b2.ext x').agg (vs := [iJ a.promise.number, iJ a.promise.replica]) agg_27_2 rfl)) ?_
    refine q_call (vs := #[.agg #[iJ a.ballot.number, iJ a.ballot.replica], .agg #[iJ a.promise.number, iJ a.promise.replica]]) fn_53 rfl rfl rfl (args2 rfl rfl) (v := iJ (cmpBal a.ballot a.promise)) (fun _ x' => C_cmpBal _ a.ballot a.promise) ?_
    refine q_bool (b := decide (cmpBal a.ballot a.promise > 0)) rfl rfl (fun _ x' => x_gtr rfl rfl rfl) (fun c8 => ?_) (fun c8 => ?_)
    ·refine qv (.bool true) (fun _ x' => x_pick_f rfl rfl rfl) ?_
     refine qv (.bool true) (fun _ x' => x_move rfl rfl) ?_
     refine qk rfl rfl (qk rfl rfl (qk rfl rfl (qk rfl rfl (qv (.bool true) (fun _ x' => x_pick_t rfl rfl rfl) ?_))))
     refine qv (.bool true) (fun _ x' => x_move rfl rfl) ?_
     refine qk rfl rfl (qk rfl rfl (qk rfl rfl (qk rfl rfl (qk rfl rfl (qk rfl rfl (qk rfl rfl (qv (.bool true) (fun _ x' => x_pick_t rfl rfl rfl) ?_)))))))
     refine q_nil (fun w9 x10 => t_norm (c_true rfl (c_seq (c_quiet (qv (.bool false) (fun _ x' => x_assign rfl rfl) ?_)))))
     exact q_nil (fun w11 x12 => t_norm (c_ret (t_ret (c_done rfl rfl (Ret.b (by have hq := cmpBal_swap a.promise a.ballot; obtain ⟨i, s, p, b, c, q, d, k⟩ := a; simp_all [rightRec, within, zBal, zDep, noop, zTxn, zStp] <;> first | omega | (intros; omega) | (intros; simp_all <;> omega) | (split <;> intros <;> simp_all <;> omega) | (intros; simp only [decide_eq_true_eq, decide_eq_false_iff_not] at *; simp_all; done) | (intros; split <;> intros <;> first | omega | (simp_all <;> omega))) ((x3.trans x10).trans x12))))))
    refine qv (.bool false) (fun _ x' => x_pick_f rfl rfl rfl) ?_
    refine qv (.bool false) (fun _ x' => x_move rfl rfl) ?_
    refine qv (.pointer (some (⟨w.heap.size, 2, none⟩))) (fun _ x' => x_fieldAddr fld_41_1 rfl rfl rfl) ?_
    refine qv (iJ a.status) (fun _ x' => x_load rfl rfl ((b2.ext x').one one_3 rfl)) ?_
    refine q_callb (b := within a.status 0 3) (vs := #[iJ a.status, iJ 0, iJ 3]) fn_41 rfl rfl rfl (args3 rfl rfl rfl) (fun _ x' => C_wwithin _ a.status 0 3) (fun c13 => ?_) (fun c13 => ?_)
    ·refine qv (.bool false) (fun _ x' => x_not (b := true) rfl rfl) ?_
     refine qv (.bool false) (fun _ x' => x_pick_f rfl rfl rfl) ?_
     refine qv (.bool false) (fun _ x' => x_move rfl rfl) ?_
     refine qv (.pointer (some (⟨w.heap.size, 24, none⟩))) (fun _ x' => x_fieldAddr fld_41_7 rfl rfl rfl) ?_
     refine q_bool (b := a.kept) rfl rfl (fun _ x' => x_load rfl rfl ((b2.ext x').one one_4 rfl)) (fun c14 => ?_) (fun c14 => ?_)
     ·refine qv (.bool true) (fun _ x' => x_move rfl rfl) ?_
      refine qv (.pointer (some (⟨w.heap.size, 2, none⟩))) (fun _ x' => x_fieldAddr fld_41_1 rfl rfl rfl) ?_
      refine qv (iJ a.status) (fun _ x' => x_load rfl rfl ((b2.ext x').one one_3 rfl)) ?_
      refine q_bool (b := decide (a.status ≠ 1)) rfl rfl (fun _ x' => x_neq rfl rfl rfl) (fun c15 => ?_) (fun c15 => ?_)
      ·refine qv (.bool true) (fun _ x' => x_pick_t rfl rfl rfl) ?_
       refine qv (.bool true) (fun _ x' => x_pick_f rfl rfl rfl) ?_
       refine q_nil (fun w16 x17 => t_norm (c_true rfl (c_seq (c_quiet (qv (.bool false) (fun _ x' => x_assign rfl rfl) ?_)))))
       exact q_nil (fun w18 x19 => t_norm (c_ret (t_ret (c_done rfl rfl (Ret.b (by have hq := cmpBal_swap a.promise a.ballot; obtain ⟨i, s, p, b, c, q, d, k⟩ := a; simp_all [rightRec, within, zBal, zDep, noop, zTxn, zStp] <;> first | omega | (intros; omega) | (intros; simp_all <;> omega) | (split <;> intros <;> simp_all <;> omega) | (intros; simp only [decide_eq_true_eq, decide_eq_false_iff_not] at *; simp_all; done) | (intros; split <;> intros <;> first | omega | (simp_all <;> omega))) ((x3.trans x17).trans x19))))))
      refine qv (.bool false) (fun _ x' => x_pick_t rfl rfl rfl) ?_
      refine qv (.bool false) (fun _ x' => x_pick_f rfl rfl rfl) ?_
      refine q_nil (fun w20 x21 => t_norm (c_false rfl (c_skip (t_norm (c_seq (c_seq (c_quiet (qv (.pointer (some (⟨w.heap.size, 2, none⟩))) (fun _ x' => x_fieldAddr fld_41_1 rfl rfl rfl) ?_))))))))
      refine qv (iJ a.status) (fun _ x' => x_load rfl rfl (((b2.ext x21).ext x').one one_3 rfl)) ?_
      refine q_bool (b := decide (a.status = 0)) rfl rfl (fun _ x' => x_eql rfl rfl rfl) (fun c22 => ?_) (fun c22 => ?_)
      ·refine q_nil (fun w23 x24 => t_norm (c_true rfl (c_seq (c_quiet (qv (vRec a pa) (fun _ x' => x_load rfl rfl ((((b2.ext x21).ext x24).ext x').agg (vs := [iJ a.inst.replica, iJ a.inst.slot, iJ a.status, iJ a.promise.number, iJ a.promise.replica, iJ a.ballot.number, iJ a.ballot.replica, iJ a.cmd.kind, iJ a.cmd.txn.client, iJ a.cmd.txn.number, iJ a.cmd.stp.time, iJ a.cmd.stp.client, iJ a.cmd.shards, .slice pa.A a.cmd.reads.length pa.n, .slice pa.B a.cmd.writes.length pa.m, .bool a.cmd.commit, iJ a.seq, iJ a.deps.d0, iJ a.deps.d1, iJ a.deps.d2, iJ a.deps.d3, iJ a.deps.d4, iJ a.deps.d5, iJ a.deps.d6, .bool a.kept]) agg_41_25 rfl)) ?_)))))
       refine qv (pJ w.heap.size) (fun _ x' => x_fieldAddr fld_41_0 rfl rfl rfl) ?_
       refine qv (.agg #[iJ a.inst.replica, iJ a.inst.slot]) (fun _ x' => x_load rfl rfl ((((b2.ext x21).ext x24).ext x').agg (vs := [iJ a.inst.replica, iJ a.inst.slot]) agg_29_2 rfl)) ?_
       refine qv (.pointer (some (⟨w.heap.size, 3, none⟩))) (fun _ x' => x_fieldAddr fld_41_2 rfl rfl rfl) ?_
       refine qv (.agg #[iJ a.promise.number, iJ a.promise.replica]) (fun _ x' => x_load rfl rfl ((((b2.ext x21).ext x24).ext x').agg (vs := [iJ a.promise.number, iJ a.promise.replica]) agg_27_2 rfl)) ?_
       refine qv (.agg #[iJ a.inst.replica, iJ a.inst.slot, iJ 0, iJ a.promise.number, iJ a.promise.replica, iJ 0, iJ 0, iJ 0, iJ 0, iJ 0, iJ 0, iJ 0, iJ 0, .slice none 0 0, .slice none 0 0, .bool false, iJ 0, iJ 0, iJ 0, iJ 0, iJ 0, iJ 0, iJ 0, iJ 0, .bool false]) (fun _ x' => x_build (z := [iJ 0, iJ 0, iJ 0, iJ 0, iJ 0, iJ 0, iJ 0, iJ 0, iJ 0, iJ 0, iJ 0, iJ 0, iJ 0, .slice none 0 0, .slice none 0 0, .bool false, iJ 0, iJ 0, iJ 0, iJ 0, iJ 0, iJ 0, iJ 0, iJ 0, .bool false]) (r := [iJ a.inst.replica, iJ a.inst.slot, iJ 0, iJ a.promise.number, iJ a.promise.replica, iJ 0, iJ 0, iJ 0, iJ 0, iJ 0, iJ 0, iJ 0, iJ 0, .slice none 0 0, .slice none 0 0, .bool false, iJ 0, iJ 0, iJ 0, iJ 0, iJ 0, iJ 0, iJ 0, iJ 0, .bool false]) zero_41 pl_41 rfl (partsI2 rfl rfl) (fill_cons (vs := [iJ a.inst.replica, iJ a.inst.slot]) (cs' := [iJ a.inst.replica, iJ a.inst.slot, iJ 0, iJ 0, iJ 0, iJ 0, iJ 0, iJ 0, iJ 0, iJ 0, iJ 0, iJ 0, iJ 0, .slice none 0 0, .slice none 0 0, .bool false, iJ 0, iJ 0, iJ 0, iJ 0, iJ 0, iJ 0, iJ 0, iJ 0, .bool false]) rfl rfl rfl rfl rfl (fill_cons (vs := [iJ a.promise.number, iJ a.promise.replica]) (cs' := [iJ a.inst.replica, iJ a.inst.slot, iJ 0, iJ a.promise.number, iJ a.promise.replica, iJ 0, iJ 0, iJ 0, iJ 0, iJ 0, iJ 0, iJ 0, iJ 0, .slice none 0 0, .slice none 0 0, .bool false, iJ 0, iJ 0, iJ 0, iJ 0, iJ 0, iJ 0, iJ 0, iJ 0, .bool false]) rfl rfl rfl rfl rfl (fill_nil)))) ?_
       refine q_callb (b := decide (a = (⟨a.inst, 0, a.promise, (⟨0, 0⟩ : Bal), (⟨0, (⟨0, 0⟩ : Txn), (⟨0, 0⟩ : Stp), 0, [], [], false⟩ : Cmd), 0, (⟨0, 0, 0, 0, 0, 0, 0⟩ : Dep), false⟩ : Rec))) (vs := #[vRec a pa, .agg #[iJ a.inst.replica, iJ a.inst.slot, iJ 0, iJ a.promise.number, iJ a.promise.replica, iJ 0, iJ 0, iJ 0, iJ 0, iJ 0, iJ 0, iJ 0, iJ 0, .slice none 0 0, .slice none 0 0, .bool false, iJ 0, iJ 0, iJ 0, iJ 0, iJ 0, iJ 0, iJ 0, iJ 0, .bool false]]) fn_54 rfl rfl rfl (args2 rfl rfl) (fun _ x' => C_sameRec _ a pa ((((ha.ext x3).ext x21).ext x24).ext x') (⟨a.inst, 0, a.promise, (⟨0, 0⟩ : Bal), (⟨0, (⟨0, 0⟩ : Txn), (⟨0, 0⟩ : Stp), 0, [], [], false⟩ : Cmd), 0, (⟨0, 0, 0, 0, 0, 0, 0⟩ : Dep), false⟩ : Rec) (⟨none, 0, none, 0⟩ : Ptr) (CmdAt.nil _ rfl rfl)) (fun c25 => ?_) (fun c25 => ?_)
       ·refine qv (.bool true) (fun _ x' => x_assign rfl rfl) ?_
        exact q_nil (fun w26 x27 => t_norm (c_ret (t_ret (c_done rfl rfl (Ret.b (by have hq := cmpBal_swap a.promise a.ballot; obtain ⟨i, s, p, b, c, q, d, k⟩ := a; simp_all [rightRec, within, zBal, zDep, noop, zTxn, zStp] <;> first | omega | (intros; omega) | (intros; simp_all <;> omega) | (split <;> intros <;> simp_all <;> omega) | (intros; simp only [decide_eq_true_eq, decide_eq_false_iff_not] at *; simp_all; done) | (intros; split <;> intros <;> first | omega | (simp_all <;> omega))) (((x3.trans x21).trans x24).trans x27))))))
       refine qv (.bool false) (fun _ x' => x_assign rfl rfl) ?_
       exact q_nil (fun w28 x29 => t_norm (c_ret (t_ret (c_done rfl rfl (Ret.b (by have hq := cmpBal_swap a.promise a.ballot; obtain ⟨i, s, p, b, c, q, d, k⟩ := a; simp_all [rightRec, within, zBal, zDep, noop, zTxn, zStp] <;> first | omega | (intros; omega) | (intros; simp_all <;> omega) | (split <;> intros <;> simp_all <;> omega) | (intros; simp only [decide_eq_true_eq, decide_eq_false_iff_not] at *; simp_all; done) | (intros; split <;> intros <;> first | omega | (simp_all <;> omega))) (((x3.trans x21).trans x24).trans x29))))))
      refine q_nil (fun w30 x31 => t_norm (c_false rfl (c_skip (t_norm (c_seq (c_quiet (qv (.pointer (some (⟨w.heap.size, 7, none⟩))) (fun _ x' => x_fieldAddr fld_41_4 rfl rfl rfl) ?_)))))))
      refine qv (.agg #[iJ a.cmd.kind, iJ a.cmd.txn.client, iJ a.cmd.txn.number, iJ a.cmd.stp.time, iJ a.cmd.stp.client, iJ a.cmd.shards, .slice pa.A a.cmd.reads.length pa.n, .slice pa.B a.cmd.writes.length pa.m, .bool a.cmd.commit]) (fun _ x' => x_load rfl rfl ((((b2.ext x21).ext x31).ext x').agg (vs := [iJ a.cmd.kind, iJ a.cmd.txn.client, iJ a.cmd.txn.number, iJ a.cmd.stp.time, iJ a.cmd.stp.client, iJ a.cmd.shards, .slice pa.A a.cmd.reads.length pa.n, .slice pa.B a.cmd.writes.length pa.m, .bool a.cmd.commit]) agg_37_9 rfl)) ?_
      refine q_callb (b := rightCmd a.cmd) (vs := #[.agg #[iJ a.cmd.kind, iJ a.cmd.txn.client, iJ a.cmd.txn.number, iJ a.cmd.stp.time, iJ a.cmd.stp.client, iJ a.cmd.shards, .slice pa.A a.cmd.reads.length pa.n, .slice pa.B a.cmd.writes.length pa.m, .bool a.cmd.commit]]) fn_55 rfl rfl rfl (args1 rfl) (fun _ x' => C_rightCmd _ a.cmd pa ((((ha.ext x3).ext x21).ext x31).ext x') hs) (fun c32 => ?_) (fun c32 => ?_)
      ·refine qv (.bool true) (fun _ x' => x_move rfl rfl) ?_
       refine qv (.pointer (some (⟨w.heap.size, 16, none⟩))) (fun _ x' => x_fieldAddr fld_41_5 rfl rfl rfl) ?_
       refine qv (iJ a.seq) (fun _ x' => x_load rfl rfl ((((b2.ext x21).ext x31).ext x').one one_3 rfl)) ?_
       refine q_callb (b := within a.seq 1 1099511627776) (vs := #[iJ a.seq, iJ 1, iJ 1099511627776]) fn_41 rfl rfl rfl (args3 rfl rfl rfl) (fun _ x' => C_wwithin _ a.seq 1 1099511627776) (fun c33 => ?_) (fun c33 => ?_)
       ·refine qv (.bool true) (fun _ x' => x_pick_t rfl rfl rfl) ?_
        refine qv (.bool true) (fun _ x' => x_move rfl rfl) ?_
        refine qv (.pointer (some (⟨w.heap.size, 17, none⟩))) (fun _ x' => x_fieldAddr fld_41_6 rfl rfl rfl) ?_
        refine qv (.agg #[iJ a.deps.d0, iJ a.deps.d1, iJ a.deps.d2, iJ a.deps.d3, iJ a.deps.d4, iJ a.deps.d5, iJ a.deps.d6]) (fun _ x' => x_load rfl rfl ((((b2.ext x21).ext x31).ext x').agg (vs := [iJ a.deps.d0, iJ a.deps.d1, iJ a.deps.d2, iJ a.deps.d3, iJ a.deps.d4, iJ a.deps.d5, iJ a.deps.d6]) agg_39_7 rfl)) ?_
        refine q_callb (b := rightDep a.deps) (vs := #[.agg #[iJ a.deps.d0, iJ a.deps.d1, iJ a.deps.d2, iJ a.deps.d3, iJ a.deps.d4, iJ a.deps.d5, iJ a.deps.d6]]) fn_56 rfl rfl rfl (args1 rfl) (fun _ x' => C_rightDep _ a.deps) (fun c34 => ?_) (fun c34 => ?_)
        ·refine qv (.bool true) (fun _ x' => x_pick_t rfl rfl rfl) ?_
         refine qv (.bool true) (fun _ x' => x_assign rfl rfl) ?_
         exact q_nil (fun w35 x36 => t_norm (c_ret (c_done rfl rfl (Ret.b (by have hq := cmpBal_swap a.promise a.ballot; obtain ⟨i, s, p, b, c, q, d, k⟩ := a; simp_all [rightRec, within, zBal, zDep, noop, zTxn, zStp] <;> first | omega | (intros; omega) | (intros; simp_all <;> omega) | (split <;> intros <;> simp_all <;> omega) | (intros; simp only [decide_eq_true_eq, decide_eq_false_iff_not] at *; simp_all; done) | (intros; split <;> intros <;> first | omega | (simp_all <;> omega))) (((x3.trans x21).trans x31).trans x36)))))
        refine qv (.bool false) (fun _ x' => x_pick_t rfl rfl rfl) ?_
        refine qv (.bool false) (fun _ x' => x_assign rfl rfl) ?_
        exact q_nil (fun w37 x38 => t_norm (c_ret (c_done rfl rfl (Ret.b (by have hq := cmpBal_swap a.promise a.ballot; obtain ⟨i, s, p, b, c, q, d, k⟩ := a; simp_all [rightRec, within, zBal, zDep, noop, zTxn, zStp] <;> first | omega | (intros; omega) | (intros; simp_all <;> omega) | (split <;> intros <;> simp_all <;> omega) | (intros; simp only [decide_eq_true_eq, decide_eq_false_iff_not] at *; simp_all; done) | (intros; split <;> intros <;> first | omega | (simp_all <;> omega))) (((x3.trans x21).trans x31).trans x38)))))
       refine qv (.bool false) (fun _ x' => x_pick_t rfl rfl rfl) ?_
       refine qv (.bool false) (fun _ x' => x_move rfl rfl) ?_
       refine qk rfl rfl (qk rfl rfl (qk rfl rfl (qv (.bool false) (fun _ x' => x_pick_f rfl rfl rfl) ?_)))
       refine qv (.bool false) (fun _ x' => x_assign rfl rfl) ?_
       exact q_nil (fun w39 x40 => t_norm (c_ret (c_done rfl rfl (Ret.b (by have hq := cmpBal_swap a.promise a.ballot; obtain ⟨i, s, p, b, c, q, d, k⟩ := a; simp_all [rightRec, within, zBal, zDep, noop, zTxn, zStp] <;> first | omega | (intros; omega) | (intros; simp_all <;> omega) | (split <;> intros <;> simp_all <;> omega) | (intros; simp only [decide_eq_true_eq, decide_eq_false_iff_not] at *; simp_all; done) | (intros; split <;> intros <;> first | omega | (simp_all <;> omega))) (((x3.trans x21).trans x31).trans x40)))))
      refine qv (.bool false) (fun _ x' => x_move rfl rfl) ?_
      refine qk rfl rfl (qk rfl rfl (qk rfl rfl (qv (.bool false) (fun _ x' => x_pick_f rfl rfl rfl) ?_)))
      refine qv (.bool false) (fun _ x' => x_move rfl rfl) ?_
      refine qk rfl rfl (qk rfl rfl (qk rfl rfl (qv (.bool false) (fun _ x' => x_pick_f rfl rfl rfl) ?_)))
      refine qv (.bool false) (fun _ x' => x_assign rfl rfl) ?_
      exact q_nil (fun w41 x42 => t_norm (c_ret (c_done rfl rfl (Ret.b (by have hq := cmpBal_swap a.promise a.ballot; obtain ⟨i, s, p, b, c, q, d, k⟩ := a; simp_all [rightRec, within, zBal, zDep, noop, zTxn, zStp] <;> first | omega | (intros; omega) | (intros; simp_all <;> omega) | (split <;> intros <;> simp_all <;> omega) | (intros; simp only [decide_eq_true_eq, decide_eq_false_iff_not] at *; simp_all; done) | (intros; split <;> intros <;> first | omega | (simp_all <;> omega))) (((x3.trans x21).trans x31).trans x42)))))
     refine qv (.bool false) (fun _ x' => x_move rfl rfl) ?_
     refine qk rfl rfl (qk rfl rfl (qk rfl rfl (qv (.bool false) (fun _ x' => x_pick_f rfl rfl rfl) ?_)))
     refine qv (.bool false) (fun _ x' => x_pick_f rfl rfl rfl) ?_
     refine q_nil (fun w43 x44 => t_norm (c_false rfl (c_skip (t_norm (c_seq (c_seq (c_quiet (qv (.pointer (some (⟨w.heap.size, 2, none⟩))) (fun _ x' => x_fieldAddr fld_41_1 rfl rfl rfl) ?_))))))))
     refine qv (iJ a.status) (fun _ x' => x_load rfl rfl (((b2.ext x44).ext x').one one_3 rfl)) ?_
     refine q_bool (b := decide (a.status = 0)) rfl rfl (fun _ x' => x_eql rfl rfl rfl) (fun c45 => ?_) (fun c45 => ?_)
     ·refine q_nil (fun w46 x47 => t_norm (c_true rfl (c_seq (c_quiet (qv (vRec a pa) (fun _ x' => x_load rfl rfl ((((b2.ext x44).ext x47).ext x').agg (vs := [iJ a.inst.replica, iJ a.inst.slot, iJ a.status, iJ a.promise.number, iJ a.promise.replica, iJ a.ballot.number, iJ a.ballot.replica, iJ a.cmd.kind, iJ a.cmd.txn.client, iJ a.cmd.txn.number, iJ a.cmd.stp.time, iJ a.cmd.stp.client, iJ a.cmd.shards, .slice pa.A a.cmd.reads.length pa.n, .slice pa.B a.cmd.writes.length pa.m, .bool a.cmd.commit, iJ a.seq, iJ a.deps.d0, iJ a.deps.d1, iJ a.deps.d2, iJ a.deps.d3, iJ a.deps.d4, iJ a.deps.d5, iJ a.deps.d6, .bool a.kept]) agg_41_25 rfl)) ?_)))))
      refine qv (pJ w.heap.size) (fun _ x' => x_fieldAddr fld_41_0 rfl rfl rfl) ?_
      refine qv (.agg #[iJ a.inst.replica, iJ a.inst.slot]) (fun _ x' => x_load rfl rfl ((((b2.ext x44).ext x47).ext x').agg (vs := [iJ a.inst.replica, iJ a.inst.slot]) agg_29_2 rfl)) ?_
      refine qv (.pointer (some (⟨w.heap.size, 3, none⟩))) (fun _ x' => x_fieldAddr fld_41_2 rfl rfl rfl) ?_
      refine qv (.agg #[iJ a.promise.number, iJ a.promise.replica]) (fun _ x' => x_load rfl rfl ((((b2.ext x44).ext x47).ext x').agg (vs := [iJ a.promise.number, iJ a.promise.replica]) agg_27_2 rfl)) ?_
      refine qv (.agg #[iJ a.inst.replica, iJ a.inst.slot, iJ 0, iJ a.promise.number, iJ a.promise.replica, iJ 0, iJ 0, iJ 0, iJ 0, iJ 0, iJ 0, iJ 0, iJ 0, .slice none 0 0, .slice none 0 0, .bool false, iJ 0, iJ 0, iJ 0, iJ 0, iJ 0, iJ 0, iJ 0, iJ 0, .bool false]) (fun _ x' => x_build (z := [iJ 0, iJ 0, iJ 0, iJ 0, iJ 0, iJ 0, iJ 0, iJ 0, iJ 0, iJ 0, iJ 0, iJ 0, iJ 0, .slice none 0 0, .slice none 0 0, .bool false, iJ 0, iJ 0, iJ 0, iJ 0, iJ 0, iJ 0, iJ 0, iJ 0, .bool false]) (r := [iJ a.inst.replica, iJ a.inst.slot, iJ 0, iJ a.promise.number, iJ a.promise.replica, iJ 0, iJ 0, iJ 0, iJ 0, iJ 0, iJ 0, iJ 0, iJ 0, .slice none 0 0, .slice none 0 0, .bool false, iJ 0, iJ 0, iJ 0, iJ 0, iJ 0, iJ 0, iJ 0, iJ 0, .bool false]) zero_41 pl_41 rfl (partsI2 rfl rfl) (fill_cons (vs := [iJ a.inst.replica, iJ a.inst.slot]) (cs' := [iJ a.inst.replica, iJ a.inst.slot, iJ 0, iJ 0, iJ 0, iJ 0, iJ 0, iJ 0, iJ 0, iJ 0, iJ 0, iJ 0, iJ 0, .slice none 0 0, .slice none 0 0, .bool false, iJ 0, iJ 0, iJ 0, iJ 0, iJ 0, iJ 0, iJ 0, iJ 0, .bool false]) rfl rfl rfl rfl rfl (fill_cons (vs := [iJ a.promise.number, iJ a.promise.replica]) (cs' := [iJ a.inst.replica, iJ a.inst.slot, iJ 0, iJ a.promise.number, iJ a.promise.replica, iJ 0, iJ 0, iJ 0, iJ 0, iJ 0, iJ 0, iJ 0, iJ 0, .slice none 0 0, .slice none 0 0, .bool false, iJ 0, iJ 0, iJ 0, iJ 0, iJ 0, iJ 0, iJ 0, iJ 0, .bool false]) rfl rfl rfl rfl rfl (fill_nil)))) ?_
      refine q_callb (b := decide (a = (⟨a.inst, 0, a.promise, (⟨0, 0⟩ : Bal), (⟨0, (⟨0, 0⟩ : Txn), (⟨0, 0⟩ : Stp), 0, [], [], false⟩ : Cmd), 0, (⟨0, 0, 0, 0, 0, 0, 0⟩ : Dep), false⟩ : Rec))) (vs := #[vRec a pa, .agg #[iJ a.inst.replica, iJ a.inst.slot, iJ 0, iJ a.promise.number, iJ a.promise.replica, iJ 0, iJ 0, iJ 0, iJ 0, iJ 0, iJ 0, iJ 0, iJ 0, .slice none 0 0, .slice none 0 0, .bool false, iJ 0, iJ 0, iJ 0, iJ 0, iJ 0, iJ 0, iJ 0, iJ 0, .bool false]]) fn_54 rfl rfl rfl (args2 rfl rfl) (fun _ x' => C_sameRec _ a pa ((((ha.ext x3).ext x44).ext x47).ext x') (⟨a.inst, 0, a.promise, (⟨0, 0⟩ : Bal), (⟨0, (⟨0, 0⟩ : Txn), (⟨0, 0⟩ : Stp), 0, [], [], false⟩ : Cmd), 0, (⟨0, 0, 0, 0, 0, 0, 0⟩ : Dep), false⟩ : Rec) (⟨none, 0, none, 0⟩ : Ptr) (CmdAt.nil _ rfl rfl)) (fun c48 => ?_) (fun c48 => ?_)
      ·refine qv (.bool true) (fun _ x' => x_assign rfl rfl) ?_
       exact q_nil (fun w49 x50 => t_norm (c_ret (t_ret (c_done rfl rfl (Ret.b (by have hq := cmpBal_swap a.promise a.ballot; obtain ⟨i, s, p, b, c, q, d, k⟩ := a; simp_all [rightRec, within, zBal, zDep, noop, zTxn, zStp] <;> first | omega | (intros; omega) | (intros; simp_all <;> omega) | (split <;> intros <;> simp_all <;> omega) | (intros; simp only [decide_eq_true_eq, decide_eq_false_iff_not] at *; simp_all; done) | (intros; split <;> intros <;> first | omega | (simp_all <;> omega))) (((x3.trans x44).trans x47).trans x50))))))
      refine qv (.bool false) (fun _ x' => x_assign rfl rfl) ?_
      exact q_nil (fun w51 x52 => t_norm (c_ret (t_ret (c_done rfl rfl (Ret.b (by have hq := cmpBal_swap a.promise a.ballot; obtain ⟨i, s, p, b, c, q, d, k⟩ := a; simp_all [rightRec, within, zBal, zDep, noop, zTxn, zStp] <;> first | omega | (intros; omega) | (intros; simp_all <;> omega) | (split <;> intros <;> simp_all <;> omega) | (intros; simp only [decide_eq_true_eq, decide_eq_false_iff_not] at *; simp_all; done) | (intros; split <;> intros <;> first | omega | (simp_all <;> omega))) (((x3.trans x44).trans x47).trans x52))))))
     refine q_nil (fun w53 x54 => t_norm (c_false rfl (c_skip (t_norm (c_seq (c_quiet (qv (.pointer (some (⟨w.heap.size, 7, none⟩))) (fun _ x' => x_fieldAddr fld_41_4 rfl rfl rfl) ?_)))))))
     refine qv (.agg #[iJ a.cmd.kind, iJ a.cmd.txn.client, iJ a.cmd.txn.number, iJ a.cmd.stp.time, iJ a.cmd.stp.client, iJ a.cmd.shards, .slice pa.A a.cmd.reads.length pa.n, .slice pa.B a.cmd.writes.length pa.m, .bool a.cmd.commit]) (fun _ x' => x_load rfl rfl ((((b2.ext x44).ext x54).ext x').agg (vs := [iJ a.cmd.kind, iJ a.cmd.txn.client, iJ a.cmd.txn.number, iJ a.cmd.stp.time, iJ a.cmd.stp.client, iJ a.cmd.shards, .slice pa.A a.cmd.reads.length pa.n, .slice pa.B a.cmd.writes.length pa.m, .bool a.cmd.commit]) agg_37_9 rfl)) ?_
     refine q_callb (b := rightCmd a.cmd) (vs := #[.agg #[iJ a.cmd.kind, iJ a.cmd.txn.client, iJ a.cmd.txn.number, iJ a.cmd.stp.time, iJ a.cmd.stp.client, iJ a.cmd.shards, .slice pa.A a.cmd.reads.length pa.n, .slice pa.B a.cmd.writes.length pa.m, .bool a.cmd.commit]]) fn_55 rfl rfl rfl (args1 rfl) (fun _ x' => C_rightCmd _ a.cmd pa ((((ha.ext x3).ext x44).ext x54).ext x') hs) (fun c55 => ?_) (fun c55 => ?_)
     ·refine qv (.bool true) (fun _ x' => x_move rfl rfl) ?_
      refine qv (.pointer (some (⟨w.heap.size, 16, none⟩))) (fun _ x' => x_fieldAddr fld_41_5 rfl rfl rfl) ?_
      refine qv (iJ a.seq) (fun _ x' => x_load rfl rfl ((((b2.ext x44).ext x54).ext x').one one_3 rfl)) ?_
      refine q_callb (b := within a.seq 1 1099511627776) (vs := #[iJ a.seq, iJ 1, iJ 1099511627776]) fn_41 rfl rfl rfl (args3 rfl rfl rfl) (fun _ x' => C_wwithin _ a.seq 1 1099511627776) (fun c56 => ?_) (fun c56 => ?_)
      ·refine qv (.bool true) (fun _ x' => x_pick_t rfl rfl rfl) ?_
       refine qv (.bool true) (fun _ x' => x_move rfl rfl) ?_
       refine qv (.pointer (some (⟨w.heap.size, 17, none⟩))) (fun _ x' => x_fieldAddr fld_41_6 rfl rfl rfl) ?_
       refine qv (.agg #[iJ a.deps.d0, iJ a.deps.d1, iJ a.deps.d2, iJ a.deps.d3, iJ a.deps.d4, iJ a.deps.d5, iJ a.deps.d6]) (fun _ x' => x_load rfl rfl ((((b2.ext x44).ext x54).ext x').agg (vs := [iJ a.deps.d0, iJ a.deps.d1, iJ a.deps.d2, iJ a.deps.d3, iJ a.deps.d4, iJ a.deps.d5, iJ a.deps.d6]) agg_39_7 rfl)) ?_
       refine q_callb (b := rightDep a.deps) (vs := #[.agg #[iJ a.deps.d0, iJ a.deps.d1, iJ a.deps.d2, iJ a.deps.d3, iJ a.deps.d4, iJ a.deps.d5, iJ a.deps.d6]]) fn_56 rfl rfl rfl (args1 rfl) (fun _ x' => C_rightDep _ a.deps) (fun c57 => ?_) (fun c57 => ?_)
       ·refine qv (.bool true) (fun _ x' => x_pick_t rfl rfl rfl) ?_
        refine qv (.bool true) (fun _ x' => x_assign rfl rfl) ?_
        exact q_nil (fun w58 x59 => t_norm (c_ret (c_done rfl rfl (Ret.b (by have hq := cmpBal_swap a.promise a.ballot; obtain ⟨i, s, p, b, c, q, d, k⟩ := a; simp_all [rightRec, within, zBal, zDep, noop, zTxn, zStp] <;> first | omega | (intros; omega) | (intros; simp_all <;> omega) | (split <;> intros <;> simp_all <;> omega) | (intros; simp only [decide_eq_true_eq, decide_eq_false_iff_not] at *; simp_all; done) | (intros; split <;> intros <;> first | omega | (simp_all <;> omega))) (((x3.trans x44).trans x54).trans x59)))))
       refine qv (.bool false) (fun _ x' => x_pick_t rfl rfl rfl) ?_
       refine qv (.bool false) (fun _ x' => x_assign rfl rfl) ?_
       exact q_nil (fun w60 x61 => t_norm (c_ret (c_done rfl rfl (Ret.b (by have hq := cmpBal_swap a.promise a.ballot; obtain ⟨i, s, p, b, c, q, d, k⟩ := a; simp_all [rightRec, within, zBal, zDep, noop, zTxn, zStp] <;> first | omega | (intros; omega) | (intros; simp_all <;> omega) | (split <;> intros <;> simp_all <;> omega) | (intros; simp only [decide_eq_true_eq, decide_eq_false_iff_not] at *; simp_all; done) | (intros; split <;> intros <;> first | omega | (simp_all <;> omega))) (((x3.trans x44).trans x54).trans x61)))))
      refine qv (.bool false) (fun _ x' => x_pick_t rfl rfl rfl) ?_
      refine qv (.bool false) (fun _ x' => x_move rfl rfl) ?_
      refine qk rfl rfl (qk rfl rfl (qk rfl rfl (qv (.bool false) (fun _ x' => x_pick_f rfl rfl rfl) ?_)))
      refine qv (.bool false) (fun _ x' => x_assign rfl rfl) ?_
      exact q_nil (fun w62 x63 => t_norm (c_ret (c_done rfl rfl (Ret.b (by have hq := cmpBal_swap a.promise a.ballot; obtain ⟨i, s, p, b, c, q, d, k⟩ := a; simp_all [rightRec, within, zBal, zDep, noop, zTxn, zStp] <;> first | omega | (intros; omega) | (intros; simp_all <;> omega) | (split <;> intros <;> simp_all <;> omega) | (intros; simp only [decide_eq_true_eq, decide_eq_false_iff_not] at *; simp_all; done) | (intros; split <;> intros <;> first | omega | (simp_all <;> omega))) (((x3.trans x44).trans x54).trans x63)))))
     refine qv (.bool false) (fun _ x' => x_move rfl rfl) ?_
     refine qk rfl rfl (qk rfl rfl (qk rfl rfl (qv (.bool false) (fun _ x' => x_pick_f rfl rfl rfl) ?_)))
     refine qv (.bool false) (fun _ x' => x_move rfl rfl) ?_
     refine qk rfl rfl (qk rfl rfl (qk rfl rfl (qv (.bool false) (fun _ x' => x_pick_f rfl rfl rfl) ?_)))
     refine qv (.bool false) (fun _ x' => x_assign rfl rfl) ?_
     exact q_nil (fun w64 x65 => t_norm (c_ret (c_done rfl rfl (Ret.b (by have hq := cmpBal_swap a.promise a.ballot; obtain ⟨i, s, p, b, c, q, d, k⟩ := a; simp_all [rightRec, within, zBal, zDep, noop, zTxn, zStp] <;> first | omega | (intros; omega) | (intros; simp_all <;> omega) | (split <;> intros <;> simp_all <;> omega) | (intros; simp only [decide_eq_true_eq, decide_eq_false_iff_not] at *; simp_all; done) | (intros; split <;> intros <;> first | omega | (simp_all <;> omega))) (((x3.trans x44).trans x54).trans x65)))))
    refine qv (.bool true) (fun _ x' => x_not (b := false) rfl rfl) ?_
    refine qv (.bool true) (fun _ x' => x_pick_f rfl rfl rfl) ?_
    refine qv (.bool true) (fun _ x' => x_move rfl rfl) ?_
    refine qk rfl rfl (qk rfl rfl (qk rfl rfl (qk rfl rfl (qk rfl rfl (qk rfl rfl (qk rfl rfl (qv (.bool true) (fun _ x' => x_pick_t rfl rfl rfl) ?_)))))))
    refine q_nil (fun w66 x67 => t_norm (c_true rfl (c_seq (c_quiet (qv (.bool false) (fun _ x' => x_assign rfl rfl) ?_)))))
    exact q_nil (fun w68 x69 => t_norm (c_ret (t_ret (c_done rfl rfl (Ret.b (by have hq := cmpBal_swap a.promise a.ballot; obtain ⟨i, s, p, b, c, q, d, k⟩ := a; simp_all [rightRec, within, zBal, zDep, noop, zTxn, zStp] <;> first | omega | (intros; omega) | (intros; simp_all <;> omega) | (split <;> intros <;> simp_all <;> omega) | (intros; simp only [decide_eq_true_eq, decide_eq_false_iff_not] at *; simp_all; done) | (intros; split <;> intros <;> first | omega | (simp_all <;> omega))) ((x3.trans x67).trans x69))))))
   refine qv (.bool true) (fun _ x' => x_not (b := false) rfl rfl) ?_
   refine qv (.bool true) (fun _ x' => x_pick_f rfl rfl rfl) ?_
   refine qv (.bool true) (fun _ x' => x_move rfl rfl) ?_
   refine qk rfl rfl (qk rfl rfl (qk rfl rfl (qk rfl rfl (qk rfl rfl (qk rfl rfl (qv (.bool true) (fun _ x' => x_pick_t rfl rfl rfl) ?_))))))
   refine qv (.bool true) (fun _ x' => x_move rfl rfl) ?_
   refine qk rfl rfl (qk rfl rfl (qk rfl rfl (qk rfl rfl (qv (.bool true) (fun _ x' => x_pick_t rfl rfl rfl) ?_))))
   refine qv (.bool true) (fun _ x' => x_move rfl rfl) ?_
   refine qk rfl rfl (qk rfl rfl (qk rfl rfl (qk rfl rfl (qk rfl rfl (qk rfl rfl (qk rfl rfl (qv (.bool true) (fun _ x' => x_pick_t rfl rfl rfl) ?_)))))))
   refine q_nil (fun w70 x71 => t_norm (c_true rfl (c_seq (c_quiet (qv (.bool false) (fun _ x' => x_assign rfl rfl) ?_)))))
   exact q_nil (fun w72 x73 => t_norm (c_ret (t_ret (c_done rfl rfl (Ret.b (by have hq := cmpBal_swap a.promise a.ballot; obtain ⟨i, s, p, b, c, q, d, k⟩ := a; simp_all [rightRec, within, zBal, zDep, noop, zTxn, zStp] <;> first | omega | (intros; omega) | (intros; simp_all <;> omega) | (split <;> intros <;> simp_all <;> omega) | (intros; simp only [decide_eq_true_eq, decide_eq_false_iff_not] at *; simp_all; done) | (intros; split <;> intros <;> first | omega | (simp_all <;> omega))) ((x3.trans x71).trans x73))))))
  refine qv (.bool true) (fun _ x' => x_not (b := false) rfl rfl) ?_
  refine qv (.bool true) (fun _ x' => x_pick_f rfl rfl rfl) ?_
  refine qv (.bool true) (fun _ x' => x_move rfl rfl) ?_
  refine qk rfl rfl (qk rfl rfl (qk rfl rfl (qk rfl rfl (qv (.bool true) (fun _ x' => x_pick_t rfl rfl rfl) ?_))))
  refine qv (.bool true) (fun _ x' => x_move rfl rfl) ?_
  refine qk rfl rfl (qk rfl rfl (qk rfl rfl (qk rfl rfl (qk rfl rfl (qk rfl rfl (qv (.bool true) (fun _ x' => x_pick_t rfl rfl rfl) ?_))))))
  refine qv (.bool true) (fun _ x' => x_move rfl rfl) ?_
  refine qk rfl rfl (qk rfl rfl (qk rfl rfl (qk rfl rfl (qv (.bool true) (fun _ x' => x_pick_t rfl rfl rfl) ?_))))
  refine qv (.bool true) (fun _ x' => x_move rfl rfl) ?_
  refine qk rfl rfl (qk rfl rfl (qk rfl rfl (qk rfl rfl (qk rfl rfl (qk rfl rfl (qk rfl rfl (qv (.bool true) (fun _ x' => x_pick_t rfl rfl rfl) ?_)))))))
  refine q_nil (fun w74 x75 => t_norm (c_true rfl (c_seq (c_quiet (qv (.bool false) (fun _ x' => x_assign rfl rfl) ?_)))))
  exact q_nil (fun w76 x77 => t_norm (c_ret (t_ret (c_done rfl rfl (Ret.b (by have hq := cmpBal_swap a.promise a.ballot; obtain ⟨i, s, p, b, c, q, d, k⟩ := a; simp_all [rightRec, within, zBal, zDep, noop, zTxn, zStp] <;> first | omega | (intros; omega) | (intros; simp_all <;> omega) | (split <;> intros <;> simp_all <;> omega) | (intros; simp only [decide_eq_true_eq, decide_eq_false_iff_not] at *; simp_all; done) | (intros; split <;> intros <;> first | omega | (simp_all <;> omega))) ((x3.trans x75).trans x77))))))
 refine qv (.bool true) (fun _ x' => x_not (b := false) rfl rfl) ?_
 refine qv (.bool true) (fun _ x' => x_move rfl rfl) ?_
 refine qk rfl rfl (qk rfl rfl (qk rfl rfl (qk rfl rfl (qv (.bool true) (fun _ x' => x_pick_t rfl rfl rfl) ?_))))
 refine qv (.bool true) (fun _ x' => x_move rfl rfl) ?_
 refine qk rfl rfl (qk rfl rfl (qk rfl rfl (qk rfl rfl (qv (.bool true) (fun _ x' => x_pick_t rfl rfl rfl) ?_))))
 refine qv (.bool true) (fun _ x' => x_move rfl rfl) ?_
 refine qk rfl rfl (qk rfl rfl (qk rfl rfl (qk rfl rfl (qk rfl rfl (qk rfl rfl (qv (.bool true) (fun _ x' => x_pick_t rfl rfl rfl) ?_))))))
 refine qv (.bool true) (fun _ x' => x_move rfl rfl) ?_
 refine qk rfl rfl (qk rfl rfl (qk rfl rfl (qk rfl rfl (qv (.bool true) (fun _ x' => x_pick_t rfl rfl rfl) ?_))))
 refine qv (.bool true) (fun _ x' => x_move rfl rfl) ?_
 refine qk rfl rfl (qk rfl rfl (qk rfl rfl (qk rfl rfl (qk rfl rfl (qk rfl rfl (qk rfl rfl (qv (.bool true) (fun _ x' => x_pick_t rfl rfl rfl) ?_)))))))
 refine q_nil (fun w78 x79 => t_norm (c_true rfl (c_seq (c_quiet (qv (.bool false) (fun _ x' => x_assign rfl rfl) ?_)))))
 exact q_nil (fun w80 x81 => t_norm (c_ret (t_ret (c_done rfl rfl (Ret.b (by have hq := cmpBal_swap a.promise a.ballot; obtain ⟨i, s, p, b, c, q, d, k⟩ := a; simp_all [rightRec, within, zBal, zDep, noop, zTxn, zStp] <;> first | omega | (intros; omega) | (intros; simp_all <;> omega) | (split <;> intros <;> simp_all <;> omega) | (intros; simp only [decide_eq_true_eq, decide_eq_false_iff_not] at *; simp_all; done) | (intros; split <;> intros <;> first | omega | (simp_all <;> omega))) ((x3.trans x79).trans x81))))))
set_option maxHeartbeats 1000000 in
theorem D_rightRec (w : World) (a : Rec) (pa : Ptr) (ha : CmdAt w a.cmd pa) (hs : Slim a.cmd) :
    Calls Try.prog 32 #[vRec a pa] w (Ret w (.bool (rightRec a))) := by
 refine c_enter (n := 87) Try.func32 rfl rfl rfl ?_
 refine c_seq (c_plain (p_box rfl rfl rfl rfl (fun w1 b2 x3 z4 => ?_)))
 refine pv (.bool false) (x_assign rfl rfl) ?_
 refine p_nil (t_norm (c_seq (c_seq (c_quiet (qv (pJ w.heap.size) (fun _ x' => x_fieldAddr fld_41_0 rfl rfl rfl) ?_)))))
 refine qv (.agg #[iJ a.inst.replica, iJ a.inst.slot]) (fun _ x' => x_load rfl rfl ((b2.ext x').agg (vs := [iJ a.inst.replica, iJ a.inst.slot]) agg_29_2 rfl)) ?_
 refine q_callb (b := rightInst a.inst) (vs := #[.agg #[iJ a.inst.replica, iJ a.inst.slot]]) fn_45 rfl rfl rfl (args1 rfl) (fun _ x' => D_rightInst _ a.inst) (fun c5 => ?_) (fun c5 => ?_)
 ·refine qv (.bool false) (fun _ x' => x_not (b := true) rfl rfl) ?_
  refine qv (.bool false) (fun _ x' => x_move rfl rfl) ?_
  refine qv (.pointer (some (⟨w.heap.size, 3, none⟩))) (fun _ x' => x_fieldAddr fld_41_2 rfl rfl rfl) ?_
  refine qv (.agg #[iJ a.promise.number, iJ a.promise.replica]) (fun _ x' => x_load rfl rfl ((b2.ext x').agg (vs := [iJ a.promise.number, iJ a.promise.replica]) agg_27_2 rfl)) ?_
  refine q_callb (b := rightBal a.promise) (vs := #[.agg #[iJ a.promise.number, iJ a.promise.replica]]) fn_31 rfl rfl rfl (args1 rfl) (fun _ x' => D_rightBal _ a.promise) (fun c6 => ?_) (fun c6 => ?_)
  ·refine qv (.bool false) (fun _ x' => x_not (b := true) rfl rfl) ?_
   refine qv (.bool false) (fun _ x' => x_pick_f rfl rfl rfl) ?_
   refine qv (.bool false) (fun _ x' => x_move rfl rfl) ?_
   refine qv (.pointer (some (⟨w.heap.size, 5, none⟩))) (fun _ x' => x_fieldAddr fld_41_3 rfl rfl rfl) ?_
   refine qv (.agg #[iJ a.ballot.number, iJ a.ballot.replica]) (fun _ x' => x_load rfl rfl ((b2.ext x').agg (vs := [iJ a.ballot.number, iJ a.ballot.replica]) agg_27_2 rfl)) ?_
   refine q_callb (b := rightBal a.ballot) (vs := #[.agg #[iJ a.ballot.number, iJ a.ballot.replica]]) fn_31 rfl rfl rfl (args1 rfl) (fun _ x' => D_rightBal _ a.ballot) (fun c7 => ?_) (fun c7 => ?_)
   ·refine qv (.bool false) (fun _ x' => x_not (b := true) rfl rfl) ?_
    refine qv (.bool false) (fun _ x' => x_pick_f rfl rfl rfl) ?_
    refine qv (.bool false) (fun _ x' => x_move rfl rfl) ?_
    refine qv (.pointer (some (⟨w.heap.size, 3, none⟩))) (fun _ x' => x_fieldAddr fld_41_2 rfl rfl rfl) ?_
    refine qv (.agg #[iJ a.promise.number, iJ a.promise.replica]) (fun _ x' => x_load rfl rfl ((b2.ext x').agg (vs := [iJ a.promise.number, iJ a.promise.replica]) agg_27_2 rfl)) ?_
    refine qv (.pointer (some (⟨w.heap.size, 5, none⟩))) (fun _ x' => x_fieldAddr fld_41_3 rfl rfl rfl) ?_
    refine qv (.agg #[iJ a.ballot.number, iJ a.ballot.replica]) (fun _ x' => x_load rfl rfl ((b2.ext x').agg (vs := [iJ a.ballot.number, iJ a.ballot.replica]) agg_27_2 rfl)) ?_
    refine q_callb (b := decide (cmpBal a.promise a.ballot < 0)) (vs := #[.agg #[iJ a.promise.number, iJ a.promise.replica], .agg #[iJ a.ballot.number, iJ a.ballot.replica]]) fn_46 rfl rfl rfl (args2 rfl rfl) (fun _ x' => D_lower _ a.promise a.ballot) (fun c8 => ?_) (fun c8 => ?_)
    ·refine qv (.bool true) (fun _ x' => x_pick_f rfl rfl rfl) ?_
     refine qv (.bool true) (fun _ x' => x_move rfl rfl) ?_
     refine qk rfl rfl (qk rfl rfl (qk rfl rfl (qk rfl rfl (qk rfl rfl (qk rfl rfl (qk rfl rfl (qv (.bool true) (fun _ x' => x_pick_t rfl rfl rfl) ?_)))))))
     refine q_nil (fun w9 x10 => t_norm (c_true rfl (c_seq (c_quiet (qv (.bool false) (fun _ x' => x_assign rfl rfl) ?_)))))
     exact q_nil (fun w11 x12 => t_norm (c_ret (t_ret (c_done rfl rfl (Ret.b (by have hq := cmpBal_swap a.promise a.ballot; obtain ⟨i, s, p, b, c, q, d, k⟩ := a; simp_all [rightRec, within, zBal, zDep, noop, zTxn, zStp] <;> first | omega | (intros; omega) | (intros; simp_all <;> omega) | (split <;> intros <;> simp_all <;> omega) | (intros; simp only [decide_eq_true_eq, decide_eq_false_iff_not] at *; simp_all; done) | (intros; split <;> intros <;> first | omega | (simp_all <;> omega))) ((x3.trans x10).trans x12))))))
    refine qv (.bool false) (fun _ x' => x_pick_f rfl rfl rfl) ?_
    refine qv (.bool false) (fun _ x' => x_move rfl rfl) ?_
    refine qv (.pointer (some (⟨w.heap.size, 24, none⟩))) (fun _ x' => x_fieldAddr fld_41_7 rfl rfl rfl) ?_
    refine q_bool (b := a.kept) rfl rfl (fun _ x' => x_load rfl rfl ((b2.ext x').one one_4 rfl)) (fun c13 => ?_) (fun c13 => ?_)
    ·refine qv (.bool true) (fun _ x' => x_move rfl rfl) ?_
     refine qv (.pointer (some (⟨w.heap.size, 2, none⟩))) (fun _ x' => x_fieldAddr fld_41_1 rfl rfl rfl) ?_
     refine qv (iJ a.status) (fun _ x' => x_load rfl rfl ((b2.ext x').one one_3 rfl)) ?_
     refine q_bool (b := decide (a.status ≠ 1)) rfl rfl (fun _ x' => x_neq rfl rfl rfl) (fun c14 => ?_) (fun c14 => ?_)
     ·refine qv (.bool true) (fun _ x' => x_pick_t rfl rfl rfl) ?_
      refine qv (.bool true) (fun _ x' => x_pick_f rfl rfl rfl) ?_
      refine q_nil (fun w15 x16 => t_norm (c_true rfl (c_seq (c_quiet (qv (.bool false) (fun _ x' => x_assign rfl rfl) ?_)))))
      exact q_nil (fun w17 x18 => t_norm (c_ret (t_ret (c_done rfl rfl (Ret.b (by have hq := cmpBal_swap a.promise a.ballot; obtain ⟨i, s, p, b, c, q, d, k⟩ := a; simp_all [rightRec, within, zBal, zDep, noop, zTxn, zStp] <;> first | omega | (intros; omega) | (intros; simp_all <;> omega) | (split <;> intros <;> simp_all <;> omega) | (intros; simp only [decide_eq_true_eq, decide_eq_false_iff_not] at *; simp_all; done) | (intros; split <;> intros <;> first | omega | (simp_all <;> omega))) ((x3.trans x16).trans x18))))))
     refine qv (.bool false) (fun _ x' => x_pick_t rfl rfl rfl) ?_
     refine qv (.bool false) (fun _ x' => x_pick_f rfl rfl rfl) ?_
     refine q_nil (fun w19 x20 => t_norm (c_false rfl (c_skip (t_norm (c_seq (c_seq (c_quiet (qv (.pointer (some (⟨w.heap.size, 2, none⟩))) (fun _ x' => x_fieldAddr fld_41_1 rfl rfl rfl) ?_))))))))
     refine qv (iJ a.status) (fun _ x' => x_load rfl rfl (((b2.ext x20).ext x').one one_3 rfl)) ?_
     refine q_bool (b := decide (a.status = 0)) rfl rfl (fun _ x' => x_eql rfl rfl rfl) (fun c21 => ?_) (fun c21 => ?_)
     ·refine q_nil (fun w22 x23 => t_norm (c_true rfl (c_seq (c_quiet (qv (.pointer (some (⟨w.heap.size, 5, none⟩))) (fun _ x' => x_fieldAddr fld_41_3 rfl rfl rfl) ?_)))))
      refine qv (.agg #[iJ a.ballot.number, iJ a.ballot.replica]) (fun _ x' => x_load rfl rfl ((((b2.ext x20).ext x23).ext x').agg (vs := [iJ a.ballot.number, iJ a.ballot.replica]) agg_27_2 rfl)) ?_
      refine qv (.agg #[iJ 0, iJ 0]) (fun _ x' => x_build0 zero_27 bld_27 rfl) ?_
      refine q_bool (b := decide (a.ballot = (⟨0, 0⟩ : Bal))) rfl rfl (fun _ x' => x_eqBal ints2_27 rfl rfl rfl) (fun c24 => ?_) (fun c24 => ?_)
      ·refine qv (.bool true) (fun _ x' => x_move rfl rfl) ?_
       refine qv (.pointer (some (⟨w.heap.size, 16, none⟩))) (fun _ x' => x_fieldAddr fld_41_5 rfl rfl rfl) ?_
       refine qv (iJ a.seq) (fun _ x' => x_load rfl rfl ((((b2.ext x20).ext x23).ext x').one one_3 rfl)) ?_
       refine q_bool (b := decide (a.seq = 0)) rfl rfl (fun _ x' => x_eql rfl rfl rfl) (fun c25 => ?_) (fun c25 => ?_)
       ·refine qv (.bool true) (fun _ x' => x_pick_t rfl rfl rfl) ?_
        refine qv (.bool true) (fun _ x' => x_move rfl rfl) ?_
        refine qv (.pointer (some (⟨w.heap.size, 17, none⟩))) (fun _ x' => x_fieldAddr fld_41_6 rfl rfl rfl) ?_
        refine qv (.agg #[iJ a.deps.d0, iJ a.deps.d1, iJ a.deps.d2, iJ a.deps.d3, iJ a.deps.d4, iJ a.deps.d5, iJ a.deps.d6]) (fun _ x' => x_load rfl rfl ((((b2.ext x20).ext x23).ext x').agg (vs := [iJ a.deps.d0, iJ a.deps.d1, iJ a.deps.d2, iJ a.deps.d3, iJ a.deps.d4, iJ a.deps.d5, iJ a.deps.d6]) agg_39_7 rfl)) ?_
        refine qv (.agg #[iJ 0, iJ 0, iJ 0, iJ 0, iJ 0, iJ 0, iJ 0]) (fun _ x' => x_build0a zero_39 bld_39 rfl) ?_
        refine q_bool (b := decide (a.deps = (⟨0, 0, 0, 0, 0, 0, 0⟩ : Dep))) rfl rfl (fun _ x' => x_eqDep intsT_39 rfl rfl rfl) (fun c26 => ?_) (fun c26 => ?_)
        ·refine qv (.bool true) (fun _ x' => x_pick_t rfl rfl rfl) ?_
         refine qv (.bool true) (fun _ x' => x_move rfl rfl) ?_
         refine qv (.pointer (some (⟨w.heap.size, 7, none⟩))) (fun _ x' => x_fieldAddr fld_41_4 rfl rfl rfl) ?_
         refine qv (.agg #[iJ a.cmd.kind, iJ a.cmd.txn.client, iJ a.cmd.txn.number, iJ a.cmd.stp.time, iJ a.cmd.stp.client, iJ a.cmd.shards, .slice pa.A a.cmd.reads.length pa.n, .slice pa.B a.cmd.writes.length pa.m, .bool a.cmd.commit]) (fun _ x' => x_load rfl rfl ((((b2.ext x20).ext x23).ext x').agg (vs := [iJ a.cmd.kind, iJ a.cmd.txn.client, iJ a.cmd.txn.number, iJ a.cmd.stp.time, iJ a.cmd.stp.client, iJ a.cmd.shards, .slice pa.A a.cmd.reads.length pa.n, .slice pa.B a.cmd.writes.length pa.m, .bool a.cmd.commit]) agg_37_9 rfl)) ?_
         refine qv (.agg #[iJ 0, iJ 0, iJ 0, iJ 0, iJ 0, iJ 0, .slice none 0 0, .slice none 0 0, .bool false]) (fun _ x' => x_build0 zero_37 bld_37 rfl) ?_
         refine q_callb (b := decide (a.cmd = (⟨0, (⟨0, 0⟩ : Txn), (⟨0, 0⟩ : Stp), 0, [], [], false⟩ : Cmd))) (vs := #[.agg #[iJ a.cmd.kind, iJ a.cmd.txn.client, iJ a.cmd.txn.number, iJ a.cmd.stp.time, iJ a.cmd.stp.client, iJ a.cmd.shards, .slice pa.A a.cmd.reads.length pa.n, .slice pa.B a.cmd.writes.length pa.m, .bool a.cmd.commit], .agg #[iJ 0, iJ 0, iJ 0, iJ 0, iJ 0, iJ 0, .slice none 0 0, .slice none 0 0, .bool false]]) fn_44 rfl rfl rfl (args2 rfl rfl) (fun _ x' => D_sameCmd _ a.cmd pa ((((ha.ext x3).ext x20).ext x23).ext x') (⟨0, (⟨0, 0⟩ : Txn), (⟨0, 0⟩ : Stp), 0, [], [], false⟩ : Cmd) (⟨none, 0, none, 0⟩ : Ptr) (CmdAt.nil _ rfl rfl)) (fun c27 => ?_) (fun c27 => ?_)
         ·refine qv (.bool true) (fun _ x' => x_pick_t rfl rfl rfl) ?_
          refine qv (.bool true) (fun _ x' => x_assign rfl rfl) ?_
          exact q_nil (fun w28 x29 => t_norm (c_ret (t_ret (c_done rfl rfl (Ret.b (by have hq := cmpBal_swap a.promise a.ballot; obtain ⟨i, s, p, b, c, q, d, k⟩ := a; simp_all [rightRec, within, zBal, zDep, noop, zTxn, zStp] <;> first | omega | (intros; omega) | (intros; simp_all <;> omega) | (split <;> intros <;> simp_all <;> omega) | (intros; simp only [decide_eq_true_eq, decide_eq_false_iff_not] at *; simp_all; done) | (intros; split <;> intros <;> first | omega | (simp_all <;> omega))) (((x3.trans x20).trans x23).trans x29))))))
         refine qv (.bool false) (fun _ x' => x_pick_t rfl rfl rfl) ?_
         refine qv (.bool false) (fun _ x' => x_assign rfl rfl) ?_
         exact q_nil (fun w30 x31 => t_norm (c_ret (t_ret (c_done rfl rfl (Ret.b (by have hq := cmpBal_swap a.promise a.ballot; obtain ⟨i, s, p, b, c, q, d, k⟩ := a; simp_all [rightRec, within, zBal, zDep, noop, zTxn, zStp] <;> first | omega | (intros; omega) | (intros; simp_all <;> omega) | (split <;> intros <;> simp_all <;> omega) | (intros; simp only [decide_eq_true_eq, decide_eq_false_iff_not] at *; simp_all; done) | (intros; split <;> intros <;> first | omega | (simp_all <;> omega))) (((x3.trans x20).trans x23).trans x31))))))
        refine qv (.bool false) (fun _ x' => x_pick_t rfl rfl rfl) ?_
        refine qv (.bool false) (fun _ x' => x_move rfl rfl) ?_
        refine qk rfl rfl (qk rfl rfl (qk rfl rfl (qk rfl rfl (qv (.bool false) (fun _ x' => x_pick_f rfl rfl rfl) ?_))))
        refine qv (.bool false) (fun _ x' => x_assign rfl rfl) ?_
        exact q_nil (fun w32 x33 => t_norm (c_ret (t_ret (c_done rfl rfl (Ret.b (by have hq := cmpBal_swap a.promise a.ballot; obtain ⟨i, s, p, b, c, q, d, k⟩ := a; simp_all [rightRec, within, zBal, zDep, noop, zTxn, zStp] <;> first | omega | (intros; omega) | (intros; simp_all <;> omega) | (split <;> intros <;> simp_all <;> omega) | (intros; simp only [decide_eq_true_eq, decide_eq_false_iff_not] at *; simp_all; done) | (intros; split <;> intros <;> first | omega | (simp_all <;> omega))) (((x3.trans x20).trans x23).trans x33))))))
       refine qv (.bool false) (fun _ x' => x_pick_t rfl rfl rfl) ?_
       refine qv (.bool false) (fun _ x' => x_move rfl rfl) ?_
       refine qk rfl rfl (qk rfl rfl (qk rfl rfl (qk rfl rfl (qv (.bool false) (fun _ x' => x_pick_f rfl rfl rfl) ?_))))
       refine qv (.bool false) (fun _ x' => x_move rfl rfl) ?_
       refine qk rfl rfl (qk rfl rfl (qk rfl rfl (qk rfl rfl (qv (.bool false) (fun _ x' => x_pick_f rfl rfl rfl) ?_))))
       refine qv (.bool false) (fun _ x' => x_assign rfl rfl) ?_
       exact q_nil (fun w34 x35 => t_norm (c_ret (t_ret (c_done rfl rfl (Ret.b (by have hq := cmpBal_swap a.promise a.ballot; obtain ⟨i, s, p, b, c, q, d, k⟩ := a; simp_all [rightRec, within, zBal, zDep, noop, zTxn, zStp] <;> first | omega | (intros; omega) | (intros; simp_all <;> omega) | (split <;> intros <;> simp_all <;> omega) | (intros; simp only [decide_eq_true_eq, decide_eq_false_iff_not] at *; simp_all; done) | (intros; split <;> intros <;> first | omega | (simp_all <;> omega))) (((x3.trans x20).trans x23).trans x35))))))
      refine qv (.bool false) (fun _ x' => x_move rfl rfl) ?_
      refine qk rfl rfl (qk rfl rfl (qk rfl rfl (qv (.bool false) (fun _ x' => x_pick_f rfl rfl rfl) ?_)))
      refine qv (.bool false) (fun _ x' => x_move rfl rfl) ?_
      refine qk rfl rfl (qk rfl rfl (qk rfl rfl (qk rfl rfl (qv (.bool false) (fun _ x' => x_pick_f rfl rfl rfl) ?_))))
      refine qv (.bool false) (fun _ x' => x_move rfl rfl) ?_
      refine qk rfl rfl (qk rfl rfl (qk rfl rfl (qk rfl rfl (qv (.bool false) (fun _ x' => x_pick_f rfl rfl rfl) ?_))))
      refine qv (.bool false) (fun _ x' => x_assign rfl rfl) ?_
      exact q_nil (fun w36 x37 => t_norm (c_ret (t_ret (c_done rfl rfl (Ret.b (by have hq := cmpBal_swap a.promise a.ballot; obtain ⟨i, s, p, b, c, q, d, k⟩ := a; simp_all [rightRec, within, zBal, zDep, noop, zTxn, zStp] <;> first | omega | (intros; omega) | (intros; simp_all <;> omega) | (split <;> intros <;> simp_all <;> omega) | (intros; simp only [decide_eq_true_eq, decide_eq_false_iff_not] at *; simp_all; done) | (intros; split <;> intros <;> first | omega | (simp_all <;> omega))) (((x3.trans x20).trans x23).trans x37))))))
     refine q_nil (fun w38 x39 => t_norm (c_false rfl (c_skip (t_norm (c_seq (c_quiet (qv (.pointer (some (⟨w.heap.size, 2, none⟩))) (fun _ x' => x_fieldAddr fld_41_1 rfl rfl rfl) ?_)))))))
     refine qv (iJ a.status) (fun _ x' => x_load rfl rfl ((((b2.ext x20).ext x39).ext x').one one_3 rfl)) ?_
     refine q_bool (b := decide (a.status ≥ 1)) rfl rfl (fun _ x' => x_geq rfl rfl rfl) (fun c40 => ?_) (fun c40 => ?_)
     ·refine qv (.bool true) (fun _ x' => x_move rfl rfl) ?_
      refine qv (.pointer (some (⟨w.heap.size, 2, none⟩))) (fun _ x' => x_fieldAddr fld_41_1 rfl rfl rfl) ?_
      refine qv (iJ a.status) (fun _ x' => x_load rfl rfl ((((b2.ext x20).ext x39).ext x').one one_3 rfl)) ?_
      refine q_bool (b := decide (a.status ≤ 3)) rfl rfl (fun _ x' => x_leq rfl rfl rfl) (fun c41 => ?_) (fun c41 => ?_)
      ·refine qv (.bool true) (fun _ x' => x_pick_t rfl rfl rfl) ?_
       refine qv (.bool true) (fun _ x' => x_move rfl rfl) ?_
       refine qv (.pointer (some (⟨w.heap.size, 7, none⟩))) (fun _ x' => x_fieldAddr fld_41_4 rfl rfl rfl) ?_
       refine qv (.agg #[iJ a.cmd.kind, iJ a.cmd.txn.client, iJ a.cmd.txn.number, iJ a.cmd.stp.time, iJ a.cmd.stp.client, iJ a.cmd.shards, .slice pa.A a.cmd.reads.length pa.n, .slice pa.B a.cmd.writes.length pa.m, .bool a.cmd.commit]) (fun _ x' => x_load rfl rfl ((((b2.ext x20).ext x39).ext x').agg (vs := [iJ a.cmd.kind, iJ a.cmd.txn.client, iJ a.cmd.txn.number, iJ a.cmd.stp.time, iJ a.cmd.stp.client, iJ a.cmd.shards, .slice pa.A a.cmd.reads.length pa.n, .slice pa.B a.cmd.writes.length pa.m, .bool a.cmd.commit]) agg_37_9 rfl)) ?_
       refine q_callb (b := rightCmd a.cmd) (vs := #[.agg #[iJ a.cmd.kind, iJ a.cmd.txn.client, iJ a.cmd.txn.number, iJ a.cmd.stp.time, iJ a.cmd.stp.client, iJ a.cmd.shards, .slice pa.A a.cmd.reads.length pa.n, .slice pa.B a.cmd.writes.length pa.m, .bool a.cmd.commit]]) fn_47 rfl rfl rfl (args1 rfl) (fun _ x' => D_rightCmd _ a.cmd pa ((((ha.ext x3).ext x20).ext x39).ext x') hs) (fun c42 => ?_) (fun c42 => ?_)
       ·refine qv (.bool true) (fun _ x' => x_pick_t rfl rfl rfl) ?_
        refine qv (.bool true) (fun _ x' => x_move rfl rfl) ?_
        refine qv (.pointer (some (⟨w.heap.size, 16, none⟩))) (fun _ x' => x_fieldAddr fld_41_5 rfl rfl rfl) ?_
        refine qv (iJ a.seq) (fun _ x' => x_load rfl rfl ((((b2.ext x20).ext x39).ext x').one one_3 rfl)) ?_
        refine q_bool (b := decide (a.seq ≥ 1)) rfl rfl (fun _ x' => x_geq rfl rfl rfl) (fun c43 => ?_) (fun c43 => ?_)
        ·refine qv (.bool true) (fun _ x' => x_pick_t rfl rfl rfl) ?_
         refine qv (.bool true) (fun _ x' => x_move rfl rfl) ?_
         refine qv (.pointer (some (⟨w.heap.size, 16, none⟩))) (fun _ x' => x_fieldAddr fld_41_5 rfl rfl rfl) ?_
         refine qv (iJ a.seq) (fun _ x' => x_load rfl rfl ((((b2.ext x20).ext x39).ext x').one one_3 rfl)) ?_
         refine q_bool (b := decide (a.seq ≤ 1099511627776)) rfl rfl (fun _ x' => x_leq rfl rfl rfl) (fun c44 => ?_) (fun c44 => ?_)
         ·refine qv (.bool true) (fun _ x' => x_pick_t rfl rfl rfl) ?_
          refine qv (.bool true) (fun _ x' => x_move rfl rfl) ?_
          refine qv (.pointer (some (⟨w.heap.size, 17, none⟩))) (fun _ x' => x_fieldAddr fld_41_6 rfl rfl rfl) ?_
          refine qv (.agg #[iJ a.deps.d0, iJ a.deps.d1, iJ a.deps.d2, iJ a.deps.d3, iJ a.deps.d4, iJ a.deps.d5, iJ a.deps.d6]) (fun _ x' => x_load rfl rfl ((((b2.ext x20).ext x39).ext x').agg (vs := [iJ a.deps.d0, iJ a.deps.d1, iJ a.deps.d2, iJ a.deps.d3, iJ a.deps.d4, iJ a.deps.d5, iJ a.deps.d6]) agg_39_7 rfl)) ?_
          refine q_callb (b := rightDep a.deps) (vs := #[.agg #[iJ a.deps.d0, iJ a.deps.d1, iJ a.deps.d2, iJ a.deps.d3, iJ a.deps.d4, iJ a.deps.d5, iJ a.deps.d6]]) fn_48 rfl rfl rfl (args1 rfl) (fun _ x' => D_rightDep _ a.deps) (fun c45 => ?_) (fun c45 => ?_)
          ·refine qv (.bool true) (fun _ x' => x_pick_t rfl rfl rfl) ?_
           refine qv (.bool true) (fun _ x' => x_assign rfl rfl) ?_
           exact q_nil (fun w46 x47 => t_norm (c_ret (c_done rfl rfl (Ret.b (by have hq := cmpBal_swap a.promise a.ballot; obtain ⟨i, s, p, b, c, q, d, k⟩ := a; simp_all [rightRec, within, zBal, zDep, noop, zTxn, zStp] <;> first | omega | (intros; omega) | (intros; simp_all <;> omega) | (split <;> intros <;> simp_all <;> omega) | (intros; simp only [decide_eq_true_eq, decide_eq_false_iff_not] at *; simp_all; done) | (intros; split <;> intros <;> first | omega | (simp_all <;> omega))) (((x3.trans x20).trans x39).trans x47)))))
          refine qv (.bool false) (fun _ x' => x_pick_t rfl rfl rfl) ?_
          refine qv (.bool false) (fun _ x' => x_assign rfl rfl) ?_
          exact q_nil (fun w48 x49 => t_norm (c_ret (c_done rfl rfl (Ret.b (by have hq := cmpBal_swap a.promise a.ballot; obtain ⟨i, s, p, b, c, q, d, k⟩ := a; simp_all [rightRec, within, zBal, zDep, noop, zTxn, zStp] <;> first | omega | (intros; omega) | (intros; simp_all <;> omega) | (split <;> intros <;> simp_all <;> omega) | (intros; simp only [decide_eq_true_eq, decide_eq_false_iff_not] at *; simp_all; done) | (intros; split <;> intros <;> first | omega | (simp_all <;> omega))) (((x3.trans x20).trans x39).trans x49)))))
         refine qv (.bool false) (fun _ x' => x_pick_t rfl rfl rfl) ?_
         refine qv (.bool false) (fun _ x' => x_move rfl rfl) ?_
         refine qk rfl rfl (qk rfl rfl (qk rfl rfl (qv (.bool false) (fun _ x' => x_pick_f rfl rfl rfl) ?_)))
         refine qv (.bool false) (fun _ x' => x_assign rfl rfl) ?_
         exact q_nil (fun w50 x51 => t_norm (c_ret (c_done rfl rfl (Ret.b (by have hq := cmpBal_swap a.promise a.ballot; obtain ⟨i, s, p, b, c, q, d, k⟩ := a; simp_all [rightRec, within, zBal, zDep, noop, zTxn, zStp] <;> first | omega | (intros; omega) | (intros; simp_all <;> omega) | (split <;> intros <;> simp_all <;> omega) | (intros; simp only [decide_eq_true_eq, decide_eq_false_iff_not] at *; simp_all; done) | (intros; split <;> intros <;> first | omega | (simp_all <;> omega))) (((x3.trans x20).trans x39).trans x51)))))
        refine qv (.bool false) (fun _ x' => x_pick_t rfl rfl rfl) ?_
        refine qv (.bool false) (fun _ x' => x_move rfl rfl) ?_
        refine qk rfl rfl (qk rfl rfl (qk rfl rfl (qv (.bool false) (fun _ x' => x_pick_f rfl rfl rfl) ?_)))
        refine qv (.bool false) (fun _ x' => x_move rfl rfl) ?_
        refine qk rfl rfl (qk rfl rfl (qk rfl rfl (qv (.bool false) (fun _ x' => x_pick_f rfl rfl rfl) ?_)))
        refine qv (.bool false) (fun _ x' => x_assign rfl rfl) ?_
        exact q_nil (fun w52 x53 => t_norm (c_ret (c_done rfl rfl (Ret.b (by have hq := cmpBal_swap a.promise a.ballot; obtain ⟨i, s, p, b, c, q, d, k⟩ := a; simp_all [rightRec, within, zBal, zDep, noop, zTxn, zStp] <;> first | omega | (intros; omega) | (intros; simp_all <;> omega) | (split <;> intros <;> simp_all <;> omega) | (intros; simp only [decide_eq_true_eq, decide_eq_false_iff_not] at *; simp_all; done) | (intros; split <;> intros <;> first | omega | (simp_all <;> omega))) (((x3.trans x20).trans x39).trans x53)))))
       refine qv (.bool false) (fun _ x' => x_pick_t rfl rfl rfl) ?_
       refine qv (.bool false) (fun _ x' => x_move rfl rfl) ?_
       refine qk rfl rfl (qk rfl rfl (qk rfl rfl (qv (.bool false) (fun _ x' => x_pick_f rfl rfl rfl) ?_)))
       refine qv (.bool false) (fun _ x' => x_move rfl rfl) ?_
       refine qk rfl rfl (qk rfl rfl (qk rfl rfl (qv (.bool false) (fun _ x' => x_pick_f rfl rfl rfl) ?_)))
       refine qv (.bool false) (fun _ x' => x_move rfl rfl) ?_
       refine qk rfl rfl (qk rfl rfl (qk rfl rfl (qv (.bool false) (fun _ x' => x_pick_f rfl rfl rfl) ?_)))
       refine qv (.bool false) (fun _ x' => x_assign rfl rfl) ?_
       exact q_nil (fun w54 x55 => t_norm (c_ret (c_done rfl rfl (Ret.b (by have hq := cmpBal_swap a.promise a.ballot; obtain ⟨i, s, p, b, c, q, d, k⟩ := a; simp_all [rightRec, within, zBal, zDep, noop, zTxn, zStp] <;> first | omega | (intros; omega) | (intros; simp_all <;> omega) | (split <;> intros <;> simp_all <;> omega) | (intros; simp only [decide_eq_true_eq, decide_eq_false_iff_not] at *; simp_all; done) | (intros; split <;> intros <;> first | omega | (simp_all <;> omega))) (((x3.trans x20).trans x39).trans x55)))))
      refine qv (.bool false) (fun _ x' => x_pick_t rfl rfl rfl) ?_
      refine qv (.bool false) (fun _ x' => x_move rfl rfl) ?_
      refine qk rfl rfl (qk rfl rfl (qk rfl rfl (qv (.bool false) (fun _ x' => x_pick_f rfl rfl rfl) ?_)))
      refine qv (.bool false) (fun _ x' => x_move rfl rfl) ?_
      refine qk rfl rfl (qk rfl rfl (qk rfl rfl (qv (.bool false) (fun _ x' => x_pick_f rfl rfl rfl) ?_)))
      refine qv (.bool false) (fun _ x' => x_move rfl rfl) ?_
      refine qk rfl rfl (qk rfl rfl (qk rfl rfl (qv (.bool false) (fun _ x' => x_pick_f rfl rfl rfl) ?_)))
      refine qv (.bool false) (fun _ x' => x_move rfl rfl) ?_
      refine qk rfl rfl (qk rfl rfl (qk rfl rfl (qv (.bool false) (fun _ x' => x_pick_f rfl rfl rfl) ?_)))
      refine qv (.bool false) (fun _ x' => x_assign rfl rfl) ?_
      exact q_nil (fun w56 x57 => t_norm (c_ret (c_done rfl rfl (Ret.b (by have hq := cmpBal_swap a.promise a.ballot; obtain ⟨i, s, p, b, c, q, d, k⟩ := a; simp_all [rightRec, within, zBal, zDep, noop, zTxn, zStp] <;> first | omega | (intros; omega) | (intros; simp_all <;> omega) | (split <;> intros <;> simp_all <;> omega) | (intros; simp only [decide_eq_true_eq, decide_eq_false_iff_not] at *; simp_all; done) | (intros; split <;> intros <;> first | omega | (simp_all <;> omega))) (((x3.trans x20).trans x39).trans x57)))))
     refine qv (.bool false) (fun _ x' => x_move rfl rfl) ?_
     refine qk rfl rfl (qk rfl rfl (qk rfl rfl (qv (.bool false) (fun _ x' => x_pick_f rfl rfl rfl) ?_)))
     refine qv (.bool false) (fun _ x' => x_move rfl rfl) ?_
     refine qk rfl rfl (qk rfl rfl (qk rfl rfl (qv (.bool false) (fun _ x' => x_pick_f rfl rfl rfl) ?_)))
     refine qv (.bool false) (fun _ x' => x_move rfl rfl) ?_
     refine qk rfl rfl (qk rfl rfl (qk rfl rfl (qv (.bool false) (fun _ x' => x_pick_f rfl rfl rfl) ?_)))
     refine qv (.bool false) (fun _ x' => x_move rfl rfl) ?_
     refine qk rfl rfl (qk rfl rfl (qk rfl rfl (qv (.bool false) (fun _ x' => x_pick_f rfl rfl rfl) ?_)))
     refine qv (.bool false) (fun _ x' => x_move rfl rfl) ?_
     refine qk rfl rfl (qk rfl rfl (qk rfl rfl (qv (.bool false) (fun _ x' => x_pick_f rfl rfl rfl) ?_)))
     refine qv (.bool false) (fun _ x' => x_assign rfl rfl) ?_
     exact q_nil (fun w58 x59 => t_norm (c_ret (c_done rfl rfl (Ret.b (by have hq := cmpBal_swap a.promise a.ballot; obtain ⟨i, s, p, b, c, q, d, k⟩ := a; simp_all [rightRec, within, zBal, zDep, noop, zTxn, zStp] <;> first | omega | (intros; omega) | (intros; simp_all <;> omega) | (split <;> intros <;> simp_all <;> omega) | (intros; simp only [decide_eq_true_eq, decide_eq_false_iff_not] at *; simp_all; done) | (intros; split <;> intros <;> first | omega | (simp_all <;> omega))) (((x3.trans x20).trans x39).trans x59)))))
    refine qv (.bool false) (fun _ x' => x_move rfl rfl) ?_
    refine qk rfl rfl (qk rfl rfl (qk rfl rfl (qv (.bool false) (fun _ x' => x_pick_f rfl rfl rfl) ?_)))
    refine qv (.bool false) (fun _ x' => x_pick_f rfl rfl rfl) ?_
    refine q_nil (fun w60 x61 => t_norm (c_false rfl (c_skip (t_norm (c_seq (c_seq (c_quiet (qv (.pointer (some (⟨w.heap.size, 2, none⟩))) (fun _ x' => x_fieldAddr fld_41_1 rfl rfl rfl) ?_))))))))
    refine qv (iJ a.status) (fun _ x' => x_load rfl rfl (((b2.ext x61).ext x').one one_3 rfl)) ?_
    refine q_bool (b := decide (a.status = 0)) rfl rfl (fun _ x' => x_eql rfl rfl rfl) (fun c62 => ?_) (fun c62 => ?_)
    ·refine q_nil (fun w63 x64 => t_norm (c_true rfl (c_seq (c_quiet (qv (.pointer (some (⟨w.heap.size, 5, none⟩))) (fun _ x' => x_fieldAddr fld_41_3 rfl rfl rfl) ?_)))))
     refine qv (.agg #[iJ a.ballot.number, iJ a.ballot.replica]) (fun _ x' => x_load rfl rfl ((((b2.ext x61).ext x64).ext x').agg (vs := [iJ a.ballot.number, iJ a.ballot.replica]) agg_27_2 rfl)) ?_
     refine qv (.agg #[iJ 0, iJ 0]) (fun _ x' => x_build0 zero_27 bld_27 rfl) ?_
     refine q_bool (b := decide (a.ballot = (⟨0, 0⟩ : Bal))) rfl rfl (fun _ x' => x_eqBal ints2_27 rfl rfl rfl) (fun c65 => ?_) (fun c65 => ?_)
     ·refine qv (.bool true) (fun _ x' => x_move rfl rfl) ?_
      refine qv (.pointer (some (⟨w.heap.size, 16, none⟩))) (fun _ x' => x_fieldAddr fld_41_5 rfl rfl rfl) ?_
      refine qv (iJ a.seq) (fun _ x' => x_load rfl rfl ((((b2.ext x61).ext x64).ext x').one one_3 rfl)) ?_
      refine q_bool (b := decide (a.seq = 0)) rfl rfl (fun _ x' => x_eql rfl rfl rfl) (fun c66 => ?_) (fun c66 => ?_)
      ·refine qv (.bool true) (fun _ x' => x_pick_t rfl rfl rfl) ?_
       refine qv (.bool true) (fun _ x' => x_move rfl rfl) ?_
       refine qv (.pointer (some (⟨w.heap.size, 17, none⟩))) (fun _ x' => x_fieldAddr fld_41_6 rfl rfl rfl) ?_
       refine qv (.agg #[iJ a.deps.d0, iJ a.deps.d1, iJ a.deps.d2, iJ a.deps.d3, iJ a.deps.d4, iJ a.deps.d5, iJ a.deps.d6]) (fun _ x' => x_load rfl rfl ((((b2.ext x61).ext x64).ext x').agg (vs := [iJ a.deps.d0, iJ a.deps.d1, iJ a.deps.d2, iJ a.deps.d3, iJ a.deps.d4, iJ a.deps.d5, iJ a.deps.d6]) agg_39_7 rfl)) ?_
       refine qv (.agg #[iJ 0, iJ 0, iJ 0, iJ 0, iJ 0, iJ 0, iJ 0]) (fun _ x' => x_build0a zero_39 bld_39 rfl) ?_
       refine q_bool (b := decide (a.deps = (⟨0, 0, 0, 0, 0, 0, 0⟩ : Dep))) rfl rfl (fun _ x' => x_eqDep intsT_39 rfl rfl rfl) (fun c67 => ?_) (fun c67 => ?_)
       ·refine qv (.bool true) (fun _ x' => x_pick_t rfl rfl rfl) ?_
        refine qv (.bool true) (fun _ x' => x_move rfl rfl) ?_
        refine qv (.pointer (some (⟨w.heap.size, 7, none⟩))) (fun _ x' => x_fieldAddr fld_41_4 rfl rfl rfl) ?_
        refine qv (.agg #[iJ a.cmd.kind, iJ a.cmd.txn.client, iJ a.cmd.txn.number, iJ a.cmd.stp.time, iJ a.cmd.stp.client, iJ a.cmd.shards, .slice pa.A a.cmd.reads.length pa.n, .slice pa.B a.cmd.writes.length pa.m, .bool a.cmd.commit]) (fun _ x' => x_load rfl rfl ((((b2.ext x61).ext x64).ext x').agg (vs := [iJ a.cmd.kind, iJ a.cmd.txn.client, iJ a.cmd.txn.number, iJ a.cmd.stp.time, iJ a.cmd.stp.client, iJ a.cmd.shards, .slice pa.A a.cmd.reads.length pa.n, .slice pa.B a.cmd.writes.length pa.m, .bool a.cmd.commit]) agg_37_9 rfl)) ?_
        refine qv (.agg #[iJ 0, iJ 0, iJ 0, iJ 0, iJ 0, iJ 0, .slice none 0 0, .slice none 0 0, .bool false]) (fun _ x' => x_build0 zero_37 bld_37 rfl) ?_
        refine q_callb (b := decide (a.cmd = (⟨0, (⟨0, 0⟩ : Txn), (⟨0, 0⟩ : Stp), 0, [], [], false⟩ : Cmd))) (vs := #[.agg #[iJ a.cmd.kind, iJ a.cmd.txn.client, iJ a.cmd.txn.number, iJ a.cmd.stp.time, iJ a.cmd.stp.client, iJ a.cmd.shards, .slice pa.A a.cmd.reads.length pa.n, .slice pa.B a.cmd.writes.length pa.m, .bool a.cmd.commit], .agg #[iJ 0, iJ 0, iJ 0, iJ 0, iJ 0, iJ 0, .slice none 0 0, .slice none 0 0, .bool false]]) fn_44 rfl rfl rfl (args2 rfl rfl) (fun _ x' => D_sameCmd _ a.cmd pa ((((ha.ext x3).ext x61).ext x64).ext x') (⟨0, (⟨0, 0⟩ : Txn), (⟨0, 0⟩ : Stp), 0, [], [], false⟩ : Cmd) (⟨none, 0, none, 0⟩ : Ptr) (CmdAt.nil _ rfl rfl)) (fun c68 => ?_) (fun c68 => ?_)
        ·refine qv (.bool true) (fun _ x' => x_pick_t rfl rfl rfl) ?_
         refine qv (.bool true) (fun _ x' => x_assign rfl rfl) ?_
         exact q_nil (fun w69 x70 => t_norm (c_ret (t_ret (c_done rfl rfl (Ret.b (by have hq := cmpBal_swap a.promise a.ballot; obtain ⟨i, s, p, b, c, q, d, k⟩ := a; simp_all [rightRec, within, zBal, zDep, noop, zTxn, zStp] <;> first | omega | (intros; omega) | (intros; simp_all <;> omega) | (split <;> intros <;> simp_all <;> omega) | (intros; simp only [decide_eq_true_eq, decide_eq_false_iff_not] at *; simp_all; done) | (intros; split <;> intros <;> first | omega | (simp_all <;> omega))) (((x3.trans x61).trans x64).trans x70))))))
        refine qv (.bool false) (fun _ x' => x_pick_t rfl rfl rfl) ?_
        refine qv (.bool false) (fun _ x' => x_assign rfl rfl) ?_
        exact q_nil (fun w71 x72 => t_norm (c_ret (t_ret (c_done rfl rfl (Ret.b (by have hq := cmpBal_swap a.promise a.ballot; obtain ⟨i, s, p, b, c, q, d, k⟩ := a; simp_all [rightRec, within, zBal, zDep, noop, zTxn, zStp] <;> first | omega | (intros; omega) | (intros; simp_all <;> omega) | (split <;> intros <;> simp_all <;> omega) | (intros; simp only [decide_eq_true_eq, decide_eq_false_iff_not] at *; simp_all; done) | (intros; split <;> intros <;> first | omega | (simp_all <;> omega))) (((x3.trans x61).trans x64).trans x72))))))
       refine qv (.bool false) (fun _ x' => x_pick_t rfl rfl rfl) ?_
       refine qv (.bool false) (fun _ x' => x_move rfl rfl) ?_
       refine qk rfl rfl (qk rfl rfl (qk rfl rfl (qk rfl rfl (qv (.bool false) (fun _ x' => x_pick_f rfl rfl rfl) ?_))))
       refine qv (.bool false) (fun _ x' => x_assign rfl rfl) ?_
       exact q_nil (fun w73 x74 => t_norm (c_ret (t_ret (c_done rfl rfl (Ret.b (by have hq := cmpBal_swap a.promise a.ballot; obtain ⟨i, s, p, b, c, q, d, k⟩ := a; simp_all [rightRec, within, zBal, zDep, noop, zTxn, zStp] <;> first | omega | (intros; omega) | (intros; simp_all <;> omega) | (split <;> intros <;> simp_all <;> omega) | (intros; simp only [decide_eq_true_eq, decide_eq_false_iff_not] at *; simp_all; done) | (intros; split <;> intros <;> first | omega | (simp_all <;> omega))) (((x3.trans x61).trans x64).trans x74))))))
      refine qv (.bool false) (fun _ x' => x_pick_t rfl rfl rfl) ?_
      refine qv (.bool false) (fun _ x' => x_move rfl rfl) ?_
      refine qk rfl rfl (qk rfl rfl (qk rfl rfl (qk rfl rfl (qv (.bool false) (fun _ x' => x_pick_f rfl rfl rfl) ?_))))
      refine qv (.bool false) (fun _ x' => x_move rfl rfl) ?_
      refine qk rfl rfl (qk rfl rfl (qk rfl rfl (qk rfl rfl (qv (.bool false) (fun _ x' => x_pick_f rfl rfl rfl) ?_))))
      refine qv (.bool false) (fun _ x' => x_assign rfl rfl) ?_
      exact q_nil (fun w75 x76 => t_norm (c_ret (t_ret (c_done rfl rfl (Ret.b (by have hq := cmpBal_swap a.promise a.ballot; obtain ⟨i, s, p, b, c, q, d, k⟩ := a; simp_all [rightRec, within, zBal, zDep, noop, zTxn, zStp] <;> first | omega | (intros; omega) | (intros; simp_all <;> omega) | (split <;> intros <;> simp_all <;> omega) | (intros; simp only [decide_eq_true_eq, decide_eq_false_iff_not] at *; simp_all; done) | (intros; split <;> intros <;> first | omega | (simp_all <;> omega))) (((x3.trans x61).trans x64).trans x76))))))
     refine qv (.bool false) (fun _ x' => x_move rfl rfl) ?_
     refine qk rfl rfl (qk rfl rfl (qk rfl rfl (qv (.bool false) (fun _ x' => x_pick_f rfl rfl rfl) ?_)))
     refine qv (.bool false) (fun _ x' => x_move rfl rfl) ?_
     refine qk rfl rfl (qk rfl rfl (qk rfl rfl (qk rfl rfl (qv (.bool false) (fun _ x' => x_pick_f rfl rfl rfl) ?_))))
     refine qv (.bool false) (fun _ x' => x_move rfl rfl) ?_
     refine qk rfl rfl (qk rfl rfl (qk rfl rfl (qk rfl rfl (qv (.bool false) (fun _ x' => x_pick_f rfl rfl rfl) ?_))))
     refine qv (.bool false) (fun _ x' => x_assign rfl rfl) ?_
     exact q_nil (fun w77 x78 => t_norm (c_ret (t_ret (c_done rfl rfl (Ret.b (by have hq := cmpBal_swap a.promise a.ballot; obtain ⟨i, s, p, b, c, q, d, k⟩ := a; simp_all [rightRec, within, zBal, zDep, noop, zTxn, zStp] <;> first | omega | (intros; omega) | (intros; simp_all <;> omega) | (split <;> intros <;> simp_all <;> omega) | (intros; simp only [decide_eq_true_eq, decide_eq_false_iff_not] at *; simp_all; done) | (intros; split <;> intros <;> first | omega | (simp_all <;> omega))) (((x3.trans x61).trans x64).trans x78))))))
    refine q_nil (fun w79 x80 => t_norm (c_false rfl (c_skip (t_norm (c_seq (c_quiet (qv (.pointer (some (⟨w.heap.size, 2, none⟩))) (fun _ x' => x_fieldAddr fld_41_1 rfl rfl rfl) ?_)))))))
    refine qv (iJ a.status) (fun _ x' => x_load rfl rfl ((((b2.ext x61).ext x80).ext x').one one_3 rfl)) ?_
    refine q_bool (b := decide (a.status ≥ 1)) rfl rfl (fun _ x' => x_geq rfl rfl rfl) (fun c81 => ?_) (fun c81 => ?_)
    ·refine qv (.bool true) (fun _ x' => x_move rfl rfl) ?_
     refine qv (.pointer (some (⟨w.heap.size, 2, none⟩))) (fun _ x' => x_fieldAddr fld_41_1 rfl rfl rfl) ?_
     refine qv (iJ a.status) (fun _ x' => x_load rfl rfl ((((b2.ext x61).ext x80).ext x').one one_3 rfl)) ?_
     refine q_bool (b := decide (a.status ≤ 3)) rfl rfl (fun _ x' => x_leq rfl rfl rfl) (fun c82 => ?_) (fun c82 => ?_)
     ·refine qv (.bool true) (fun _ x' => x_pick_t rfl rfl rfl) ?_
      refine qv (.bool true) (fun _ x' => x_move rfl rfl) ?_
      refine qv (.pointer (some (⟨w.heap.size, 7, none⟩))) (fun _ x' => x_fieldAddr fld_41_4 rfl rfl rfl) ?_
      refine qv (.agg #[iJ a.cmd.kind, iJ a.cmd.txn.client, iJ a.cmd.txn.number, iJ a.cmd.stp.time, iJ a.cmd.stp.client, iJ a.cmd.shards, .slice pa.A a.cmd.reads.length pa.n, .slice pa.B a.cmd.writes.length pa.m, .bool a.cmd.commit]) (fun _ x' => x_load rfl rfl ((((b2.ext x61).ext x80).ext x').agg (vs := [iJ a.cmd.kind, iJ a.cmd.txn.client, iJ a.cmd.txn.number, iJ a.cmd.stp.time, iJ a.cmd.stp.client, iJ a.cmd.shards, .slice pa.A a.cmd.reads.length pa.n, .slice pa.B a.cmd.writes.length pa.m, .bool a.cmd.commit]) agg_37_9 rfl)) ?_
      refine q_callb (b := rightCmd a.cmd) (vs := #[.agg #[iJ a.cmd.kind, iJ a.cmd.txn.client, iJ a.cmd.txn.number, iJ a.cmd.stp.time, iJ a.cmd.stp.client, iJ a.cmd.shards, .slice pa.A a.cmd.reads.length pa.n, .slice pa.B a.cmd.writes.length pa.m, .bool a.cmd.commit]]) fn_47 rfl rfl rfl (args1 rfl) (fun _ x' => D_rightCmd _ a.cmd pa ((((ha.ext x3).ext x61).ext x80).ext x') hs) (fun c83 => ?_) (fun c83 => ?_)
      ·refine qv (.bool true) (fun _ x' => x_pick_t rfl rfl rfl) ?_
       refine qv (.bool true) (fun _ x' => x_move rfl rfl) ?_
       refine qv (.pointer (some (⟨w.heap.size, 16, none⟩))) (fun _ x' => x_fieldAddr fld_41_5 rfl rfl rfl) ?_
       refine qv (iJ a.seq) (fun _ x' => x_load rfl rfl ((((b2.ext x61).ext x80).ext x').one one_3 rfl)) ?_
       refine q_bool (b := decide (a.seq ≥ 1)) rfl rfl (fun _ x' => x_geq rfl rfl rfl) (fun c84 => ?_) (fun c84 => ?_)
       ·refine qv (.bool true) (fun _ x' => x_pick_t rfl rfl rfl) ?_
        refine qv (.bool true) (fun _ x' => x_move rfl rfl) ?_
        refine qv (.pointer (some (⟨w.heap.size, 16, none⟩))) (fun _ x' => x_fieldAddr fld_41_5 rfl rfl rfl) ?_
        refine qv (iJ a.seq) (fun _ x' => x_load rfl rfl ((((b2.ext x61).ext x80).ext x').one one_3 rfl)) ?_
        refine q_bool (b := decide (a.seq ≤ 1099511627776)) rfl rfl (fun _ x' => x_leq rfl rfl rfl) (fun c85 => ?_) (fun c85 => ?_)
        ·refine qv (.bool true) (fun _ x' => x_pick_t rfl rfl rfl) ?_
         refine qv (.bool true) (fun _ x' => x_move rfl rfl) ?_
         refine qv (.pointer (some (⟨w.heap.size, 17, none⟩))) (fun _ x' => x_fieldAddr fld_41_6 rfl rfl rfl) ?_
         refine qv (.agg #[iJ a.deps.d0, iJ a.deps.d1, iJ a.deps.d2, iJ a.deps.d3, iJ a.deps.d4, iJ a.deps.d5, iJ a.deps.d6]) (fun _ x' => x_load rfl rfl ((((b2.ext x61).ext x80).ext x').agg (vs := [iJ a.deps.d0, iJ a.deps.d1, iJ a.deps.d2, iJ a.deps.d3, iJ a.deps.d4, iJ a.deps.d5, iJ a.deps.d6]) agg_39_7 rfl)) ?_
         refine q_callb (b := rightDep a.deps) (vs := #[.agg #[iJ a.deps.d0, iJ a.deps.d1, iJ a.deps.d2, iJ a.deps.d3, iJ a.deps.d4, iJ a.deps.d5, iJ a.deps.d6]]) fn_48 rfl rfl rfl (args1 rfl) (fun _ x' => D_rightDep _ a.deps) (fun c86 => ?_) (fun c86 => ?_)
         ·refine qv (.bool true) (fun _ x' => x_pick_t rfl rfl rfl) ?_
          refine qv (.bool true) (fun _ x' => x_assign rfl rfl) ?_
          exact q_nil (fun w87 x88 => t_norm (c_ret (c_done rfl rfl (Ret.b (by have hq := cmpBal_swap a.promise a.ballot; obtain ⟨i, s, p, b, c, q, d, k⟩ := a; simp_all [rightRec, within, zBal, zDep, noop, zTxn, zStp] <;> first | omega | (intros; omega) | (intros; simp_all <;> omega) | (split <;> intros <;> simp_all <;> omega) | (intros; simp only [decide_eq_true_eq, decide_eq_false_iff_not] at *; simp_all; done) | (intros; split <;> intros <;> first | omega | (simp_all <;> omega))) (((x3.trans x61).trans x80).trans x88)))))
         refine qv (.bool false) (fun _ x' => x_pick_t rfl rfl rfl) ?_
         refine qv (.bool false) (fun _ x' => x_assign rfl rfl) ?_
         exact q_nil (fun w89 x90 => t_norm (c_ret (c_done rfl rfl (Ret.b (by have hq := cmpBal_swap a.promise a.ballot; obtain ⟨i, s, p, b, c, q, d, k⟩ := a; simp_all [rightRec, within, zBal, zDep, noop, zTxn, zStp] <;> first | omega | (intros; omega) | (intros; simp_all <;> omega) | (split <;> intros <;> simp_all <;> omega) | (intros; simp only [decide_eq_true_eq, decide_eq_false_iff_not] at *; simp_all; done) | (intros; split <;> intros <;> first | omega | (simp_all <;> omega))) (((x3.trans x61).trans x80).trans x90)))))
        refine qv (.bool false) (fun _ x' => x_pick_t rfl rfl rfl) ?_
        refine qv (.bool false) (fun _ x' => x_move rfl rfl) ?_
        refine qk rfl rfl (qk rfl rfl (qk rfl rfl (qv (.bool false) (fun _ x' => x_pick_f rfl rfl rfl) ?_)))
        refine qv (.bool false) (fun _ x' => x_assign rfl rfl) ?_
        exact q_nil (fun w91 x92 => t_norm (c_ret (c_done rfl rfl (Ret.b (by have hq := cmpBal_swap a.promise a.ballot; obtain ⟨i, s, p, b, c, q, d, k⟩ := a; simp_all [rightRec, within, zBal, zDep, noop, zTxn, zStp] <;> first | omega | (intros; omega) | (intros; simp_all <;> omega) | (split <;> intros <;> simp_all <;> omega) | (intros; simp only [decide_eq_true_eq, decide_eq_false_iff_not] at *; simp_all; done) | (intros; split <;> intros <;> first | omega | (simp_all <;> omega))) (((x3.trans x61).trans x80).trans x92)))))
       refine qv (.bool false) (fun _ x' => x_pick_t rfl rfl rfl) ?_
       refine qv (.bool false) (fun _ x' => x_move rfl rfl) ?_
       refine qk rfl rfl (qk rfl rfl (qk rfl rfl (qv (.bool false) (fun _ x' => x_pick_f rfl rfl rfl) ?_)))
       refine qv (.bool false) (fun _ x' => x_move rfl rfl) ?_
       refine qk rfl rfl (qk rfl rfl (qk rfl rfl (qv (.bool false) (fun _ x' => x_pick_f rfl rfl rfl) ?_)))
       refine qv (.bool false) (fun _ x' => x_assign rfl rfl) ?_
       exact q_nil (fun w93 x94 => t_norm (c_ret (c_done rfl rfl (Ret.b (by have hq := cmpBal_swap a.promise a.ballot; obtain ⟨i, s, p, b, c, q, d, k⟩ := a; simp_all [rightRec, within, zBal, zDep, noop, zTxn, zStp] <;> first | omega | (intros; omega) | (intros; simp_all <;> omega) | (split <;> intros <;> simp_all <;> omega) | (intros; simp only [decide_eq_true_eq, decide_eq_false_iff_not] at *; simp_all; done) | (intros; split <;> intros <;> first | omega | (simp_all <;> omega))) (((x3.trans x61).trans x80).trans x94)))))
      refine qv (.bool false) (fun _ x' => x_pick_t rfl rfl rfl) ?_
      refine qv (.bool false) (fun _ x' => x_move rfl rfl) ?_
      refine qk rfl rfl (qk rfl rfl (qk rfl rfl (qv (.bool false) (fun _ x' => x_pick_f rfl rfl rfl) ?_)))
      refine qv (.bool false) (fun _ x' => x_move rfl rfl) ?_
      refine qk rfl rfl (qk rfl rfl (qk rfl rfl (qv (.bool false) (fun _ x' => x_pick_f rfl rfl rfl) ?_)))
      refine qv (.bool false) (fun _ x' => x_move rfl rfl) ?_
      refine qk rfl rfl (qk rfl rfl (qk rfl rfl (qv (.bool false) (fun _ x' => x_pick_f rfl rfl rfl) ?_)))
      refine qv (.bool false) (fun _ x' => x_assign rfl rfl) ?_
      exact q_nil (fun w95 x96 => t_norm (c_ret (c_done rfl rfl (Ret.b (by have hq := cmpBal_swap a.promise a.ballot; obtain ⟨i, s, p, b, c, q, d, k⟩ := a; simp_all [rightRec, within, zBal, zDep, noop, zTxn, zStp] <;> first | omega | (intros; omega) | (intros; simp_all <;> omega) | (split <;> intros <;> simp_all <;> omega) | (intros; simp only [decide_eq_true_eq, decide_eq_false_iff_not] at *; simp_all; done) | (intros; split <;> intros <;> first | omega | (simp_all <;> omega))) (((x3.trans x61).trans x80).trans x96)))))
     refine qv (.bool false) (fun _ x' => x_pick_t rfl rfl rfl) ?_
     refine qv (.bool false) (fun _ x' => x_move rfl rfl) ?_
     refine qk rfl rfl (qk rfl rfl (qk rfl rfl (qv (.bool false) (fun _ x' => x_pick_f rfl rfl rfl) ?_)))
     refine qv (.bool false) (fun _ x' => x_move rfl rfl) ?_
     refine qk rfl rfl (qk rfl rfl (qk rfl rfl (qv (.bool false) (fun _ x' => x_pick_f rfl rfl rfl) ?_)))
     refine qv (.bool false) (fun _ x' => x_move rfl rfl) ?_
     refine qk rfl rfl (qk rfl rfl (qk rfl rfl (qv (.bool false) (fun _ x' => x_pick_f rfl rfl rfl) ?_)))
     refine qv (.bool false) (fun _ x' => x_move rfl rfl) ?_
     refine qk rfl rfl (qk rfl rfl (qk rfl rfl (qv (.bool false) (fun _ x' => x_pick_f rfl rfl rfl) ?_)))
     refine qv (.bool false) (fun _ x' => x_assign rfl rfl) ?_
     exact q_nil (fun w97 x98 => t_norm (c_ret (c_done rfl rfl (Ret.b (by have hq := cmpBal_swap a.promise a.ballot; obtain ⟨i, s, p, b, c, q, d, k⟩ := a; simp_all [rightRec, within, zBal, zDep, noop, zTxn, zStp] <;> first | omega | (intros; omega) | (intros; simp_all <;> omega) | (split <;> intros <;> simp_all <;> omega) | (intros; simp only [decide_eq_true_eq, decide_eq_false_iff_not] at *; simp_all; done) | (intros; split <;> intros <;> first | omega | (simp_all <;> omega))) (((x3.trans x61).trans x80).trans x98)))))
    refine qv (.bool false) (fun _ x' => x_move rfl rfl) ?_
    refine qk rfl rfl (qk rfl rfl (qk rfl rfl (qv (.bool false) (fun _ x' => x_pick_f rfl rfl rfl) ?_)))
    refine qv (.bool false) (fun _ x' => x_move rfl rfl) ?_
    refine qk rfl rfl (qk rfl rfl (qk rfl rfl (qv (.bool false) (fun _ x' => x_pick_f rfl rfl rfl) ?_)))
    refine qv (.bool false) (fun _ x' => x_move rfl rfl) ?_
    refine qk rfl rfl (qk rfl rfl (qk rfl rfl (qv (.bool false) (fun _ x' => x_pick_f rfl rfl rfl) ?_)))
    refine qv (.bool false) (fun _ x' => x_move rfl rfl) ?_
    refine qk rfl rfl (qk rfl rfl (qk rfl rfl (qv (.bool false) (fun _ x' => x_pick_f rfl rfl rfl) ?_)))
    refine qv (.bool false) (fun _ x' => x_move rfl rfl) ?_
    refine qk rfl rfl (qk rfl rfl (qk rfl rfl (qv (.bool false) (fun _ x' => x_pick_f rfl rfl rfl) ?_)))
    refine qv (.bool false) (fun _ x' => x_assign rfl rfl) ?_
    exact q_nil (fun w99 x100 => t_norm (c_ret (c_done rfl rfl (Ret.b (by have hq := cmpBal_swap a.promise a.ballot; obtain ⟨i, s, p, b, c, q, d, k⟩ := a; simp_all [rightRec, within, zBal, zDep, noop, zTxn, zStp] <;> first | omega | (intros; omega) | (intros; simp_all <;> omega) | (split <;> intros <;> simp_all <;> omega) | (intros; simp only [decide_eq_true_eq, decide_eq_false_iff_not] at *; simp_all; done) | (intros; split <;> intros <;> first | omega | (simp_all <;> omega))) (((x3.trans x61).trans x80).trans x100)))))
   refine qv (.bool true) (fun _ x' => x_not (b := false) rfl rfl) ?_
   refine qv (.bool true) (fun _ x' => x_pick_f rfl rfl rfl) ?_
   refine qv (.bool true) (fun _ x' => x_move rfl rfl) ?_
   refine qk rfl rfl (qk rfl rfl (qk rfl rfl (qk rfl rfl (qk rfl rfl (qv (.bool true) (fun _ x' => x_pick_t rfl rfl rfl) ?_)))))
   refine qv (.bool true) (fun _ x' => x_move rfl rfl) ?_
   refine qk rfl rfl (qk rfl rfl (qk rfl rfl (qk rfl rfl (qk rfl rfl (qk rfl rfl (qk rfl rfl (qv (.bool true) (fun _ x' => x_pick_t rfl rfl rfl) ?_)))))))
   refine q_nil (fun w101 x102 => t_norm (c_true rfl (c_seq (c_quiet (qv (.bool false) (fun _ x' => x_assign rfl rfl) ?_)))))
   exact q_nil (fun w103 x104 => t_norm (c_ret (t_ret (c_done rfl rfl (Ret.b (by have hq := cmpBal_swap a.promise a.ballot; obtain ⟨i, s, p, b, c, q, d, k⟩ := a; simp_all [rightRec, within, zBal, zDep, noop, zTxn, zStp] <;> first | omega | (intros; omega) | (intros; simp_all <;> omega) | (split <;> intros <;> simp_all <;> omega) | (intros; simp only [decide_eq_true_eq, decide_eq_false_iff_not] at *; simp_all; done) | (intros; split <;> intros <;> first | omega | (simp_all <;> omega))) ((x3.trans x102).trans x104))))))
  refine qv (.bool true) (fun _ x' => x_not (b := false) rfl rfl) ?_
  refine qv (.bool true) (fun _ x' => x_pick_f rfl rfl rfl) ?_
  refine qv (.bool true) (fun _ x' => x_move rfl rfl) ?_
  refine qk rfl rfl (qk rfl rfl (qk rfl rfl (qk rfl rfl (qv (.bool true) (fun _ x' => x_pick_t rfl rfl rfl) ?_))))
  refine qv (.bool true) (fun _ x' => x_move rfl rfl) ?_
  refine qk rfl rfl (qk rfl rfl (qk rfl rfl (qk rfl rfl (qk rfl rfl (qv (.bool true) (fun _ x' => x_pick_t rfl rfl rfl) ?_)))))
  refine qv (.bool true) (fun _ x' => x_move rfl rfl) ?_
  refine qk rfl rfl (qk rfl rfl (qk rfl rfl (qk rfl rfl (qk rfl rfl (qk rfl rfl (qk rfl rfl (qv (.bool true) (fun _ x' => x_pick_t rfl rfl rfl) ?_)))))))
  refine q_nil (fun w105 x106 => t_norm (c_true rfl (c_seq (c_quiet (qv (.bool false) (fun _ x' => x_assign rfl rfl) ?_)))))
  exact q_nil (fun w107 x108 => t_norm (c_ret (t_ret (c_done rfl rfl (Ret.b (by have hq := cmpBal_swap a.promise a.ballot; obtain ⟨i, s, p, b, c, q, d, k⟩ := a; simp_all [rightRec, within, zBal, zDep, noop, zTxn, zStp] <;> first | omega | (intros; omega) | (intros; simp_all <;> omega) | (split <;> intros <;> simp_all <;> omega) | (intros; simp only [decide_eq_true_eq, decide_eq_false_iff_not] at *; simp_all; done) | (intros; split <;> intros <;> first | omega | (simp_all <;> omega))) ((x3.trans x106).trans x108))))))
 refine qv (.bool true) (fun _ x' => x_not (b := false) rfl rfl) ?_
 refine qv (.bool true) (fun _ x' => x_move rfl rfl) ?_
 refine qk rfl rfl (qk rfl rfl (qk rfl rfl (qk rfl rfl (qv (.bool true) (fun _ x' => x_pick_t rfl rfl rfl) ?_))))
 refine qv (.bool true) (fun _ x' => x_move rfl rfl) ?_
 refine qk rfl rfl (qk rfl rfl (qk rfl rfl (qk rfl rfl (qv (.bool true) (fun _ x' => x_pick_t rfl rfl rfl) ?_))))
 refine qv (.bool true) (fun _ x' => x_move rfl rfl) ?_
 refine qk rfl rfl (qk rfl rfl (qk rfl rfl (qk rfl rfl (qk rfl rfl (qv (.bool true) (fun _ x' => x_pick_t rfl rfl rfl) ?_)))))
 refine qv (.bool true) (fun _ x' => x_move rfl rfl) ?_
 refine qk rfl rfl (qk rfl rfl (qk rfl rfl (qk rfl rfl (qk rfl rfl (qk rfl rfl (qk rfl rfl (qv (.bool true) (fun _ x' => x_pick_t rfl rfl rfl) ?_)))))))
 refine q_nil (fun w109 x110 => t_norm (c_true rfl (c_seq (c_quiet (qv (.bool false) (fun _ x' => x_assign rfl rfl) ?_)))))
 exact q_nil (fun w111 x112 => t_norm (c_ret (t_ret (c_done rfl rfl (Ret.b (by have hq := cmpBal_swap a.promise a.ballot; obtain ⟨i, s, p, b, c, q, d, k⟩ := a; simp_all [rightRec, within, zBal, zDep, noop, zTxn, zStp] <;> first | omega | (intros; omega) | (intros; simp_all <;> omega) | (split <;> intros <;> simp_all <;> omega) | (intros; simp only [decide_eq_true_eq, decide_eq_false_iff_not] at *; simp_all; done) | (intros; split <;> intros <;> first | omega | (simp_all <;> omega))) ((x3.trans x110).trans x112))))))
theorem C_rightMsg (w : World) (a : Msg) (pa : Ptr) (ha : CmdAt w a.r.cmd pa) (hs : Slim a.r.cmd) :
    Calls Try.prog 27 #[vMsg a pa] w (Ret w (.bool (rightMsg a))) := by
 refine c_enter (n := 26) Try.func27 rfl rfl rfl ?_
 refine c_seq (c_plain (p_box rfl rfl rfl rfl (fun w1 b2 x3 z4 => ?_)))
 refine pv (.bool false) (x_assign rfl rfl) ?_
 refine p_nil (t_norm (c_seq (c_quiet (qv (pJ w.heap.size) (fun _ x' => x_fieldAddr fld_43_0 rfl rfl rfl) ?_))))
 refine qv (iJ a.kind) (fun _ x' => x_load rfl rfl ((b2.ext x').one one_3 rfl)) ?_
 refine q_callb (b := within a.kind 1 8) (vs := #[iJ a.kind, iJ 1, iJ 8]) fn_41 rfl rfl rfl (args3 rfl rfl rfl) (fun _ x' => C_wwithin _ a.kind 1 8) (fun c5 => ?_) (fun c5 => ?_)
 ·refine qv (.bool true) (fun _ x' => x_move rfl rfl) ?_
  refine qv (.pointer (some (⟨w.heap.size, 1, none⟩))) (fun _ x' => x_fieldAddr fld_43_1 rfl rfl rfl) ?_
  refine qv (iJ a.src) (fun _ x' => x_load rfl rfl ((b2.ext x').one one_3 rfl)) ?_
  refine q_callb (b := within a.src 0 6) (vs := #[iJ a.src, iJ 0, iJ 6]) fn_41 rfl rfl rfl (args3 rfl rfl rfl) (fun _ x' => C_wwithin _ a.src 0 6) (fun c6 => ?_) (fun c6 => ?_)
  ·refine qv (.bool true) (fun _ x' => x_pick_t rfl rfl rfl) ?_
   refine qv (.bool true) (fun _ x' => x_move rfl rfl) ?_
   refine qv (.pointer (some (⟨w.heap.size, 2, none⟩))) (fun _ x' => x_fieldAddr fld_43_2 rfl rfl rfl) ?_
   refine qv (iJ a.dst) (fun _ x' => x_load rfl rfl ((b2.ext x').one one_3 rfl)) ?_
   refine q_callb (b := within a.dst 0 6) (vs := #[iJ a.dst, iJ 0, iJ 6]) fn_41 rfl rfl rfl (args3 rfl rfl rfl) (fun _ x' => C_wwithin _ a.dst 0 6) (fun c7 => ?_) (fun c7 => ?_)
   ·refine qv (.bool true) (fun _ x' => x_pick_t rfl rfl rfl) ?_
    refine qv (.bool true) (fun _ x' => x_move rfl rfl) ?_
    refine qv (.pointer (some (⟨w.heap.size, 3, none⟩))) (fun _ x' => x_fieldAddr fld_43_3 rfl rfl rfl) ?_
    refine qv (.agg #[iJ a.ballot.number, iJ a.ballot.replica]) (fun _ x' => x_load rfl rfl ((b2.ext x').agg (vs := [iJ a.ballot.number, iJ a.ballot.replica]) agg_27_2 rfl)) ?_
    refine q_callb (b := rightBal a.ballot) (vs := #[.agg #[iJ a.ballot.number, iJ a.ballot.replica]]) fn_42 rfl rfl rfl (args1 rfl) (fun _ x' => C_rightBal _ a.ballot) (fun c8 => ?_) (fun c8 => ?_)
    ·refine qv (.bool true) (fun _ x' => x_pick_t rfl rfl rfl) ?_
     refine qv (.bool true) (fun _ x' => x_move rfl rfl) ?_
     refine qv (.pointer (some (⟨w.heap.size, 5, none⟩))) (fun _ x' => x_fieldAddr fld_43_4 rfl rfl rfl) ?_
     refine qv (.agg #[iJ a.r.inst.replica, iJ a.r.inst.slot, iJ a.r.status, iJ a.r.promise.number, iJ a.r.promise.replica, iJ a.r.ballot.number, iJ a.r.ballot.replica, iJ a.r.cmd.kind, iJ a.r.cmd.txn.client, iJ a.r.cmd.txn.number, iJ a.r.cmd.stp.time, iJ a.r.cmd.stp.client, iJ a.r.cmd.shards, .slice pa.A a.r.cmd.reads.length pa.n, .slice pa.B a.r.cmd.writes.length pa.m, .bool a.r.cmd.commit, iJ a.r.seq, iJ a.r.deps.d0, iJ a.r.deps.d1, iJ a.r.deps.d2, iJ a.r.deps.d3, iJ a.r.deps.d4, iJ a.r.deps.d5, iJ a.r.deps.d6, .bool a.r.kept]) (fun _ x' => x_load rfl rfl ((b2.ext x').agg (vs := [iJ a.r.inst.replica, iJ a.r.inst.slot, iJ a.r.status, iJ a.r.promise.number, iJ a.r.promise.replica, iJ a.r.ballot.number, iJ a.r.ballot.replica, iJ a.r.cmd.kind, iJ a.r.cmd.txn.client, iJ a.r.cmd.txn.number, iJ a.r.cmd.stp.time, iJ a.r.cmd.stp.client, iJ a.r.cmd.shards, .slice pa.A a.r.cmd.reads.length pa.n, .slice pa.B a.r.cmd.writes.length pa.m, .bool a.r.cmd.commit, iJ a.r.seq, iJ a.r.deps.d0, iJ a.r.deps.d1, iJ a.r.deps.d2, iJ a.r.deps.d3, iJ a.r.deps.d4, iJ a.r.deps.d5, iJ a.r.deps.d6, .bool a.r.kept]) agg_41_25 rfl)) ?_
     refine q_callb (b := rightRec a.r) (vs := #[.agg #[iJ a.r.inst.replica, iJ a.r.inst.slot, iJ a.r.status, iJ a.r.promise.number, iJ a.r.promise.replica, iJ a.r.ballot.number, iJ a.r.ballot.replica, iJ a.r.cmd.kind, iJ a.r.cmd.txn.client, iJ a.r.cmd.txn.number, iJ a.r.cmd.stp.time, iJ a.r.cmd.stp.client, iJ a.r.cmd.shards, .slice pa.A a.r.cmd.reads.length pa.n, .slice pa.B a.r.cmd.writes.length pa.m, .bool a.r.cmd.commit, iJ a.r.seq, iJ a.r.deps.d0, iJ a.r.deps.d1, iJ a.r.deps.d2, iJ a.r.deps.d3, iJ a.r.deps.d4, iJ a.r.deps.d5, iJ a.r.deps.d6, .bool a.r.kept]]) fn_43 rfl rfl rfl (args1 rfl) (fun _ x' => C_rightRec _ a.r pa ((ha.ext x3).ext x') hs) (fun c9 => ?_) (fun c9 => ?_)
     ·refine qv (.bool true) (fun _ x' => x_pick_t rfl rfl rfl) ?_
      refine qv (.bool true) (fun _ x' => x_assign rfl rfl) ?_
      exact q_nil (fun w10 x11 => t_norm (c_ret (c_done rfl rfl (Ret.b (by simp_all [rightMsg, within] <;> omega) (x3.trans x11)))))
     refine qv (.bool false) (fun _ x' => x_pick_t rfl rfl rfl) ?_
     refine qv (.bool false) (fun _ x' => x_assign rfl rfl) ?_
     exact q_nil (fun w12 x13 => t_norm (c_ret (c_done rfl rfl (Ret.b (by simp_all [rightMsg, within] <;> omega) (x3.trans x13)))))
    refine qv (.bool false) (fun _ x' => x_pick_t rfl rfl rfl) ?_
    refine qv (.bool false) (fun _ x' => x_move rfl rfl) ?_
    refine qk rfl rfl (qk rfl rfl (qk rfl rfl (qv (.bool false) (fun _ x' => x_pick_f rfl rfl rfl) ?_)))
    refine qv (.bool false) (fun _ x' => x_assign rfl rfl) ?_
    exact q_nil (fun w14 x15 => t_norm (c_ret (c_done rfl rfl (Ret.b (by simp_all [rightMsg, within] <;> omega) (x3.trans x15)))))
   refine qv (.bool false) (fun _ x' => x_pick_t rfl rfl rfl) ?_
   refine qv (.bool false) (fun _ x' => x_move rfl rfl) ?_
   refine qk rfl rfl (qk rfl rfl (qk rfl rfl (qv (.bool false) (fun _ x' => x_pick_f rfl rfl rfl) ?_)))
   refine qv (.bool false) (fun _ x' => x_move rfl rfl) ?_
   refine qk rfl rfl (qk rfl rfl (qk rfl rfl (qv (.bool false) (fun _ x' => x_pick_f rfl rfl rfl) ?_)))
   refine qv (.bool false) (fun _ x' => x_assign rfl rfl) ?_
   exact q_nil (fun w16 x17 => t_norm (c_ret (c_done rfl rfl (Ret.b (by simp_all [rightMsg, within] <;> omega) (x3.trans x17)))))
  refine qv (.bool false) (fun _ x' => x_pick_t rfl rfl rfl) ?_
  refine qv (.bool false) (fun _ x' => x_move rfl rfl) ?_
  refine qk rfl rfl (qk rfl rfl (qk rfl rfl (qv (.bool false) (fun _ x' => x_pick_f rfl rfl rfl) ?_)))
  refine qv (.bool false) (fun _ x' => x_move rfl rfl) ?_
  refine qk rfl rfl (qk rfl rfl (qk rfl rfl (qv (.bool false) (fun _ x' => x_pick_f rfl rfl rfl) ?_)))
  refine qv (.bool false) (fun _ x' => x_move rfl rfl) ?_
  refine qk rfl rfl (qk rfl rfl (qk rfl rfl (qv (.bool false) (fun _ x' => x_pick_f rfl rfl rfl) ?_)))
  refine qv (.bool false) (fun _ x' => x_assign rfl rfl) ?_
  exact q_nil (fun w18 x19 => t_norm (c_ret (c_done rfl rfl (Ret.b (by simp_all [rightMsg, within] <;> omega) (x3.trans x19)))))
 refine qv (.bool false) (fun _ x' => x_move rfl rfl) ?_
 refine qk rfl rfl (qk rfl rfl (qk rfl rfl (qv (.bool false) (fun _ x' => x_pick_f rfl rfl rfl) ?_)))
 refine qv (.bool false) (fun _ x' => x_move rfl rfl) ?_
 refine qk rfl rfl (qk rfl rfl (qk rfl rfl (qv (.bool false) (fun _ x' => x_pick_f rfl rfl rfl) ?_)))
 refine qv (.bool false) (fun _ x' => x_move rfl rfl) ?_
 refine qk rfl rfl (qk rfl rfl (qk rfl rfl (qv (.bool false) (fun _ x' => x_pick_f rfl rfl rfl) ?_)))
 refine qv (.bool false) (fun _ x' => x_move rfl rfl) ?_
 refine qk rfl rfl (qk rfl rfl (qk rfl rfl (qv (.bool false) (fun _ x' => x_pick_f rfl rfl rfl) ?_)))
 refine qv (.bool false) (fun _ x' => x_assign rfl rfl) ?_
 exact q_nil (fun w20 x21 => t_norm (c_ret (c_done rfl rfl (Ret.b (by simp_all [rightMsg, within] <;> omega) (x3.trans x21)))))
theorem D_rightMsg (w : World) (a : Msg) (pa : Ptr) (ha : CmdAt w a.r.cmd pa) (hs : Slim a.r.cmd) :
    Calls Try.prog 17 #[vMsg a pa] w (Ret w (.bool (rightMsg a))) := by
 refine c_enter (n := 41) Try.func17 rfl rfl rfl ?_
 refine c_seq (c_plain (p_box rfl rfl rfl rfl (fun w1 b2 x3 z4 => ?_)))
 refine pv (.bool false) (x_assign rfl rfl) ?_
 refine p_nil (t_norm (c_seq (c_quiet (qv (pJ w.heap.size) (fun _ x' => x_fieldAddr fld_43_0 rfl rfl rfl) ?_))))
 refine qv (iJ a.kind) (fun _ x' => x_load rfl rfl ((b2.ext x').one one_3 rfl)) ?_
 refine q_bool (b := decide (a.kind ≥ 1)) rfl rfl (fun _ x' => x_geq rfl rfl rfl) (fun c5 => ?_) (fun c5 => ?_)
 ·refine qv (.bool true) (fun _ x' => x_move rfl rfl) ?_
  refine qv (pJ w.heap.size) (fun _ x' => x_fieldAddr fld_43_0 rfl rfl rfl) ?_
  refine qv (iJ a.kind) (fun _ x' => x_load rfl rfl ((b2.ext x').one one_3 rfl)) ?_
  refine q_bool (b := decide (a.kind ≤ 8)) rfl rfl (fun _ x' => x_leq rfl rfl rfl) (fun c6 => ?_) (fun c6 => ?_)
  ·refine qv (.bool true) (fun _ x' => x_pick_t rfl rfl rfl) ?_
   refine qv (.bool true) (fun _ x' => x_move rfl rfl) ?_
   refine qv (.pointer (some (⟨w.heap.size, 1, none⟩))) (fun _ x' => x_fieldAddr fld_43_1 rfl rfl rfl) ?_
   refine qv (iJ a.src) (fun _ x' => x_load rfl rfl ((b2.ext x').one one_3 rfl)) ?_
   refine q_bool (b := decide (a.src ≥ 0)) rfl rfl (fun _ x' => x_geq rfl rfl rfl) (fun c7 => ?_) (fun c7 => ?_)
   ·refine qv (.bool true) (fun _ x' => x_pick_t rfl rfl rfl) ?_
    refine qv (.bool true) (fun _ x' => x_move rfl rfl) ?_
    refine qv (.pointer (some (⟨w.heap.size, 1, none⟩))) (fun _ x' => x_fieldAddr fld_43_1 rfl rfl rfl) ?_
    refine qv (iJ a.src) (fun _ x' => x_load rfl rfl ((b2.ext x').one one_3 rfl)) ?_
    refine q_bool (b := decide (a.src ≤ 6)) rfl rfl (fun _ x' => x_leq rfl rfl rfl) (fun c8 => ?_) (fun c8 => ?_)
    ·refine qv (.bool true) (fun _ x' => x_pick_t rfl rfl rfl) ?_
     refine qv (.bool true) (fun _ x' => x_move rfl rfl) ?_
     refine qv (.pointer (some (⟨w.heap.size, 2, none⟩))) (fun _ x' => x_fieldAddr fld_43_2 rfl rfl rfl) ?_
     refine qv (iJ a.dst) (fun _ x' => x_load rfl rfl ((b2.ext x').one one_3 rfl)) ?_
     refine q_bool (b := decide (a.dst ≥ 0)) rfl rfl (fun _ x' => x_geq rfl rfl rfl) (fun c9 => ?_) (fun c9 => ?_)
     ·refine qv (.bool true) (fun _ x' => x_pick_t rfl rfl rfl) ?_
      refine qv (.bool true) (fun _ x' => x_move rfl rfl) ?_
      refine qv (.pointer (some (⟨w.heap.size, 2, none⟩))) (fun _ x' => x_fieldAddr fld_43_2 rfl rfl rfl) ?_
      refine qv (iJ a.dst) (fun _ x' => x_load rfl rfl ((b2.ext x').one one_3 rfl)) ?_
      refine q_bool (b := decide (a.dst ≤ 6)) rfl rfl (fun _ x' => x_leq rfl rfl rfl) (fun c10 => ?_) (fun c10 => ?_)
      ·refine qv (.bool true) (fun _ x' => x_pick_t rfl rfl rfl) ?_
       refine qv (.bool true) (fun _ x' => x_move rfl rfl) ?_
       refine qv (.pointer (some (⟨w.heap.size, 3, none⟩))) (fun _ x' => x_fieldAddr fld_43_3 rfl rfl rfl) ?_
       refine qv (.agg #[iJ a.ballot.number, iJ a.ballot.replica]) (fun _ x' => x_load rfl rfl ((b2.ext x').agg (vs := [iJ a.ballot.number, iJ a.ballot.replica]) agg_27_2 rfl)) ?_
       refine q_callb (b := rightBal a.ballot) (vs := #[.agg #[iJ a.ballot.number, iJ a.ballot.replica]]) fn_31 rfl rfl rfl (args1 rfl) (fun _ x' => D_rightBal _ a.ballot) (fun c11 => ?_) (fun c11 => ?_)
       ·refine qv (.bool true) (fun _ x' => x_pick_t rfl rfl rfl) ?_
        refine qv (.bool true) (fun _ x' => x_move rfl rfl) ?_
        refine qv (.pointer (some (⟨w.heap.size, 5, none⟩))) (fun _ x' => x_fieldAddr fld_43_4 rfl rfl rfl) ?_
        refine qv (.agg #[iJ a.r.inst.replica, iJ a.r.inst.slot, iJ a.r.status, iJ a.r.promise.number, iJ a.r.promise.replica, iJ a.r.ballot.number, iJ a.r.ballot.replica, iJ a.r.cmd.kind, iJ a.r.cmd.txn.client, iJ a.r.cmd.txn.number, iJ a.r.cmd.stp.time, iJ a.r.cmd.stp.client, iJ a.r.cmd.shards, .slice pa.A a.r.cmd.reads.length pa.n, .slice pa.B a.r.cmd.writes.length pa.m, .bool a.r.cmd.commit, iJ a.r.seq, iJ a.r.deps.d0, iJ a.r.deps.d1, iJ a.r.deps.d2, iJ a.r.deps.d3, iJ a.r.deps.d4, iJ a.r.deps.d5, iJ a.r.deps.d6, .bool a.r.kept]) (fun _ x' => x_load rfl rfl ((b2.ext x').agg (vs := [iJ a.r.inst.replica, iJ a.r.inst.slot, iJ a.r.status, iJ a.r.promise.number, iJ a.r.promise.replica, iJ a.r.ballot.number, iJ a.r.ballot.replica, iJ a.r.cmd.kind, iJ a.r.cmd.txn.client, iJ a.r.cmd.txn.number, iJ a.r.cmd.stp.time, iJ a.r.cmd.stp.client, iJ a.r.cmd.shards, .slice pa.A a.r.cmd.reads.length pa.n, .slice pa.B a.r.cmd.writes.length pa.m, .bool a.r.cmd.commit, iJ a.r.seq, iJ a.r.deps.d0, iJ a.r.deps.d1, iJ a.r.deps.d2, iJ a.r.deps.d3, iJ a.r.deps.d4, iJ a.r.deps.d5, iJ a.r.deps.d6, .bool a.r.kept]) agg_41_25 rfl)) ?_
        refine q_callb (b := rightRec a.r) (vs := #[.agg #[iJ a.r.inst.replica, iJ a.r.inst.slot, iJ a.r.status, iJ a.r.promise.number, iJ a.r.promise.replica, iJ a.r.ballot.number, iJ a.r.ballot.replica, iJ a.r.cmd.kind, iJ a.r.cmd.txn.client, iJ a.r.cmd.txn.number, iJ a.r.cmd.stp.time, iJ a.r.cmd.stp.client, iJ a.r.cmd.shards, .slice pa.A a.r.cmd.reads.length pa.n, .slice pa.B a.r.cmd.writes.length pa.m, .bool a.r.cmd.commit, iJ a.r.seq, iJ a.r.deps.d0, iJ a.r.deps.d1, iJ a.r.deps.d2, iJ a.r.deps.d3, iJ a.r.deps.d4, iJ a.r.deps.d5, iJ a.r.deps.d6, .bool a.r.kept]]) fn_32 rfl rfl rfl (args1 rfl) (fun _ x' => D_rightRec _ a.r pa ((ha.ext x3).ext x') hs) (fun c12 => ?_) (fun c12 => ?_)
        ·refine qv (.bool true) (fun _ x' => x_pick_t rfl rfl rfl) ?_
         refine qv (.bool true) (fun _ x' => x_assign rfl rfl) ?_
         exact q_nil (fun w13 x14 => t_norm (c_ret (c_done rfl rfl (Ret.b (by simp_all [rightMsg, within] <;> omega) (x3.trans x14)))))
        refine qv (.bool false) (fun _ x' => x_pick_t rfl rfl rfl) ?_
        refine qv (.bool false) (fun _ x' => x_assign rfl rfl) ?_
        exact q_nil (fun w15 x16 => t_norm (c_ret (c_done rfl rfl (Ret.b (by simp_all [rightMsg, within] <;> omega) (x3.trans x16)))))
       refine qv (.bool false) (fun _ x' => x_pick_t rfl rfl rfl) ?_
       refine qv (.bool false) (fun _ x' => x_move rfl rfl) ?_
       refine qk rfl rfl (qk rfl rfl (qk rfl rfl (qv (.bool false) (fun _ x' => x_pick_f rfl rfl rfl) ?_)))
       refine qv (.bool false) (fun _ x' => x_assign rfl rfl) ?_
       exact q_nil (fun w17 x18 => t_norm (c_ret (c_done rfl rfl (Ret.b (by simp_all [rightMsg, within] <;> omega) (x3.trans x18)))))
      refine qv (.bool false) (fun _ x' => x_pick_t rfl rfl rfl) ?_
      refine qv (.bool false) (fun _ x' => x_move rfl rfl) ?_
      refine qk rfl rfl (qk rfl rfl (qk rfl rfl (qv (.bool false) (fun _ x' => x_pick_f rfl rfl rfl) ?_)))
      refine qv (.bool false) (fun _ x' => x_move rfl rfl) ?_
      refine qk rfl rfl (qk rfl rfl (qk rfl rfl (qv (.bool false) (fun _ x' => x_pick_f rfl rfl rfl) ?_)))
      refine qv (.bool false) (fun _ x' => x_assign rfl rfl) ?_
      exact q_nil (fun w19 x20 => t_norm (c_ret (c_done rfl rfl (Ret.b (by simp_all [rightMsg, within] <;> omega) (x3.trans x20)))))
     refine qv (.bool false) (fun _ x' => x_pick_t rfl rfl rfl) ?_
     refine qv (.bool false) (fun _ x' => x_move rfl rfl) ?_
     refine qk rfl rfl (qk rfl rfl (qk rfl rfl (qv (.bool false) (fun _ x' => x_pick_f rfl rfl rfl) ?_)))
     refine qv (.bool false) (fun _ x' => x_move rfl rfl) ?_
     refine qk rfl rfl (qk rfl rfl (qk rfl rfl (qv (.bool false) (fun _ x' => x_pick_f rfl rfl rfl) ?_)))
     refine qv (.bool false) (fun _ x' => x_move rfl rfl) ?_
     refine qk rfl rfl (qk rfl rfl (qk rfl rfl (qv (.bool false) (fun _ x' => x_pick_f rfl rfl rfl) ?_)))
     refine qv (.bool false) (fun _ x' => x_assign rfl rfl) ?_
     exact q_nil (fun w21 x22 => t_norm (c_ret (c_done rfl rfl (Ret.b (by simp_all [rightMsg, within] <;> omega) (x3.trans x22)))))
    refine qv (.bool false) (fun _ x' => x_pick_t rfl rfl rfl) ?_
    refine qv (.bool false) (fun _ x' => x_move rfl rfl) ?_
    refine qk rfl rfl (qk rfl rfl (qk rfl rfl (qv (.bool false) (fun _ x' => x_pick_f rfl rfl rfl) ?_)))
    refine qv (.bool false) (fun _ x' => x_move rfl rfl) ?_
    refine qk rfl rfl (qk rfl rfl (qk rfl rfl (qv (.bool false) (fun _ x' => x_pick_f rfl rfl rfl) ?_)))
    refine qv (.bool false) (fun _ x' => x_move rfl rfl) ?_
    refine qk rfl rfl (qk rfl rfl (qk rfl rfl (qv (.bool false) (fun _ x' => x_pick_f rfl rfl rfl) ?_)))
    refine qv (.bool false) (fun _ x' => x_move rfl rfl) ?_
    refine qk rfl rfl (qk rfl rfl (qk rfl rfl (qv (.bool false) (fun _ x' => x_pick_f rfl rfl rfl) ?_)))
    refine qv (.bool false) (fun _ x' => x_assign rfl rfl) ?_
    exact q_nil (fun w23 x24 => t_norm (c_ret (c_done rfl rfl (Ret.b (by simp_all [rightMsg, within] <;> omega) (x3.trans x24)))))
   refine qv (.bool false) (fun _ x' => x_pick_t rfl rfl rfl) ?_
   refine qv (.bool false) (fun _ x' => x_move rfl rfl) ?_
   refine qk rfl rfl (qk rfl rfl (qk rfl rfl (qv (.bool false) (fun _ x' => x_pick_f rfl rfl rfl) ?_)))
   refine qv (.bool false) (fun _ x' => x_move rfl rfl) ?_
   refine qk rfl rfl (qk rfl rfl (qk rfl rfl (qv (.bool false) (fun _ x' => x_pick_f rfl rfl rfl) ?_)))
   refine qv (.bool false) (fun _ x' => x_move rfl rfl) ?_
   refine qk rfl rfl (qk rfl rfl (qk rfl rfl (qv (.bool false) (fun _ x' => x_pick_f rfl rfl rfl) ?_)))
   refine qv (.bool false) (fun _ x' => x_move rfl rfl) ?_
   refine qk rfl rfl (qk rfl rfl (qk rfl rfl (qv (.bool false) (fun _ x' => x_pick_f rfl rfl rfl) ?_)))
   refine qv (.bool false) (fun _ x' => x_move rfl rfl) ?_
   refine qk rfl rfl (qk rfl rfl (qk rfl rfl (qv (.bool false) (fun _ x' => x_pick_f rfl rfl rfl) ?_)))
   refine qv (.bool false) (fun _ x' => x_assign rfl rfl) ?_
   exact q_nil (fun w25 x26 => t_norm (c_ret (c_done rfl rfl (Ret.b (by simp_all [rightMsg, within] <;> omega) (x3.trans x26)))))
  refine qv (.bool false) (fun _ x' => x_pick_t rfl rfl rfl) ?_
  refine qv (.bool false) (fun _ x' => x_move rfl rfl) ?_
  refine qk rfl rfl (qk rfl rfl (qk rfl rfl (qv (.bool false) (fun _ x' => x_pick_f rfl rfl rfl) ?_)))
  refine qv (.bool false) (fun _ x' => x_move rfl rfl) ?_
  refine qk rfl rfl (qk rfl rfl (qk rfl rfl (qv (.bool false) (fun _ x' => x_pick_f rfl rfl rfl) ?_)))
  refine qv (.bool false) (fun _ x' => x_move rfl rfl) ?_
  refine qk rfl rfl (qk rfl rfl (qk rfl rfl (qv (.bool false) (fun _ x' => x_pick_f rfl rfl rfl) ?_)))
  refine qv (.bool false) (fun _ x' => x_move rfl rfl) ?_
  refine qk rfl rfl (qk rfl rfl (qk rfl rfl (qv (.bool false) (fun _ x' => x_pick_f rfl rfl rfl) ?_)))
  refine qv (.bool false) (fun _ x' => x_move rfl rfl) ?_
  refine qk rfl rfl (qk rfl rfl (qk rfl rfl (qv (.bool false) (fun _ x' => x_pick_f rfl rfl rfl) ?_)))
  refine qv (.bool false) (fun _ x' => x_move rfl rfl) ?_
  refine qk rfl rfl (qk rfl rfl (qk rfl rfl (qv (.bool false) (fun _ x' => x_pick_f rfl rfl rfl) ?_)))
  refine qv (.bool false) (fun _ x' => x_assign rfl rfl) ?_
  exact q_nil (fun w27 x28 => t_norm (c_ret (c_done rfl rfl (Ret.b (by simp_all [rightMsg, within] <;> omega) (x3.trans x28)))))
 refine qv (.bool false) (fun _ x' => x_move rfl rfl) ?_
 refine qk rfl rfl (qk rfl rfl (qk rfl rfl (qv (.bool false) (fun _ x' => x_pick_f rfl rfl rfl) ?_)))
 refine qv (.bool false) (fun _ x' => x_move rfl rfl) ?_
 refine qk rfl rfl (qk rfl rfl (qk rfl rfl (qv (.bool false) (fun _ x' => x_pick_f rfl rfl rfl) ?_)))
 refine qv (.bool false) (fun _ x' => x_move rfl rfl) ?_
 refine qk rfl rfl (qk rfl rfl (qk rfl rfl (qv (.bool false) (fun _ x' => x_pick_f rfl rfl rfl) ?_)))
 refine qv (.bool false) (fun _ x' => x_move rfl rfl) ?_
 refine qk rfl rfl (qk rfl rfl (qk rfl rfl (qv (.bool false) (fun _ x' => x_pick_f rfl rfl rfl) ?_)))
 refine qv (.bool false) (fun _ x' => x_move rfl rfl) ?_
 refine qk rfl rfl (qk rfl rfl (qk rfl rfl (qv (.bool false) (fun _ x' => x_pick_f rfl rfl rfl) ?_)))
 refine qv (.bool false) (fun _ x' => x_move rfl rfl) ?_
 refine qk rfl rfl (qk rfl rfl (qk rfl rfl (qv (.bool false) (fun _ x' => x_pick_f rfl rfl rfl) ?_)))
 refine qv (.bool false) (fun _ x' => x_move rfl rfl) ?_
 refine qk rfl rfl (qk rfl rfl (qk rfl rfl (qv (.bool false) (fun _ x' => x_pick_f rfl rfl rfl) ?_)))
 refine qv (.bool false) (fun _ x' => x_assign rfl rfl) ?_
 exact q_nil (fun w29 x30 => t_norm (c_ret (c_done rfl rfl (Ret.b (by simp_all [rightMsg, within] <;> omega) (x3.trans x30)))))
end Go.Proofs.Ytadeigpphklmfaa
