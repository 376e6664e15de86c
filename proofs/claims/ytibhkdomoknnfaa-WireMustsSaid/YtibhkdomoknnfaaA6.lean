/- Records and messages: whether they may be, and are the same. -/
import Derived.Test.YtibhkdomoknnfaaEnc
import Derived.Test.YtibhkdomoknnfaaA5b
namespace Go.Proofs.Ytibhkdomoknnfaa
open Go.RowKit Go.Eng
set_option linter.unusedVariables false
set_option linter.unusedSimpArgs false
theorem C_sameRec (w : World) (a : Rec) (pa : Ptr) (ha : CmdAt w a.cmd pa) (b : Rec) (pb : Ptr) (hb : CmdAt w b.cmd pb) :
    Calls Try.prog 13 #[vRec a pa, vRec b pb] w (Ret w (.bool (decide (a = b)))) := by
 refine c_enter (n := 59) Try.func13 rfl rfl rfl ?_
 refine c_seq ?_
 refine c_plain ?_
 refine p_box rfl rfl rfl rfl (fun w1 b2 x3 z4 => ?_)
 refine p_box rfl rfl rfl rfl (fun w5 b6 x7 z8 => ?_)
 refine p_val (v := .bool false) rfl rfl (x_assign rfl rfl) ?_
 refine p_nil ?_
 refine t_norm ?_
 refine c_seq ?_
 refine c_quiet ?_
 refine q_val (v := .pointer (some (⟨w.heap.size, 0, none⟩))) rfl rfl (fun w' x' => x_fieldAddr fld_37_0 rfl rfl rfl) ?_
 refine q_val (v := .agg #[.int .i64 a.inst.replica, .int .i64 a.inst.slot]) rfl rfl (fun w' x' => x_load rfl rfl (((b2.ext x7).ext x').agg (vs := [.int .i64 a.inst.replica, .int .i64 a.inst.slot]) agg_23_2 rfl)) ?_
 refine q_val (v := .pointer (some (⟨w1.heap.size, 0, none⟩))) rfl rfl (fun w' x' => x_fieldAddr fld_37_0 rfl rfl rfl) ?_
 refine q_val (v := .agg #[.int .i64 b.inst.replica, .int .i64 b.inst.slot]) rfl rfl (fun w' x' => x_load rfl rfl ((b6.ext x').agg (vs := [.int .i64 b.inst.replica, .int .i64 b.inst.slot]) agg_23_2 rfl)) ?_
 refine q_bool (b := decide (a.inst = b.inst)) rfl rfl (fun w' x' => x_eqInst ints2_23 rfl rfl rfl) (fun c9 => ?_) (fun c9 => ?_)
 ·refine q_val (v := .bool true) rfl rfl (fun w' x' => x_move rfl rfl) ?_
  refine q_val (v := .pointer (some (⟨w.heap.size, 2, none⟩))) rfl rfl (fun w' x' => x_fieldAddr fld_37_1 rfl rfl rfl) ?_
  refine q_val (v := .int .i64 a.status) rfl rfl (fun w' x' => x_load rfl rfl (((b2.ext x7).ext x').one one_3 rfl)) ?_
  refine q_val (v := .pointer (some (⟨w1.heap.size, 2, none⟩))) rfl rfl (fun w' x' => x_fieldAddr fld_37_1 rfl rfl rfl) ?_
  refine q_val (v := .int .i64 b.status) rfl rfl (fun w' x' => x_load rfl rfl ((b6.ext x').one one_3 rfl)) ?_
  refine q_bool (b := decide (a.status = b.status)) rfl rfl (fun w' x' => x_eql rfl rfl rfl) (fun c10 => ?_) (fun c10 => ?_)
  ·refine q_val (v := .bool true) rfl rfl (fun w' x' => x_pick_t rfl rfl rfl) ?_
   refine q_val (v := .bool true) rfl rfl (fun w' x' => x_move rfl rfl) ?_
   refine q_val (v := .pointer (some (⟨w.heap.size, 3, none⟩))) rfl rfl (fun w' x' => x_fieldAddr fld_37_2 rfl rfl rfl) ?_
   refine q_val (v := .agg #[.int .i64 a.promise.number, .int .i64 a.promise.replica]) rfl rfl (fun w' x' => x_load rfl rfl (((b2.ext x7).ext x').agg (vs := [.int .i64 a.promise.number, .int .i64 a.promise.replica]) agg_25_2 rfl)) ?_
   refine q_val (v := .pointer (some (⟨w1.heap.size, 3, none⟩))) rfl rfl (fun w' x' => x_fieldAddr fld_37_2 rfl rfl rfl) ?_
   refine q_val (v := .agg #[.int .i64 b.promise.number, .int .i64 b.promise.replica]) rfl rfl (fun w' x' => x_load rfl rfl ((b6.ext x').agg (vs := [.int .i64 b.promise.number, .int .i64 b.promise.replica]) agg_25_2 rfl)) ?_
   refine q_bool (b := decide (a.promise = b.promise)) rfl rfl (fun w' x' => x_eqBal ints2_25 rfl rfl rfl) (fun c11 => ?_) (fun c11 => ?_)
   ·refine q_val (v := .bool true) rfl rfl (fun w' x' => x_pick_t rfl rfl rfl) ?_
    refine q_val (v := .bool true) rfl rfl (fun w' x' => x_move rfl rfl) ?_
    refine q_val (v := .pointer (some (⟨w.heap.size, 5, none⟩))) rfl rfl (fun w' x' => x_fieldAddr fld_37_3 rfl rfl rfl) ?_
    refine q_val (v := .agg #[.int .i64 a.ballot.number, .int .i64 a.ballot.replica]) rfl rfl (fun w' x' => x_load rfl rfl (((b2.ext x7).ext x').agg (vs := [.int .i64 a.ballot.number, .int .i64 a.ballot.replica]) agg_25_2 rfl)) ?_
    refine q_val (v := .pointer (some (⟨w1.heap.size, 5, none⟩))) rfl rfl (fun w' x' => x_fieldAddr fld_37_3 rfl rfl rfl) ?_
    refine q_val (v := .agg #[.int .i64 b.ballot.number, .int .i64 b.ballot.replica]) rfl rfl (fun w' x' => x_load rfl rfl ((b6.ext x').agg (vs := [.int .i64 b.ballot.number, .int .i64 b.ballot.replica]) agg_25_2 rfl)) ?_
    refine q_bool (b := decide (a.ballot = b.ballot)) rfl rfl (fun w' x' => x_eqBal ints2_25 rfl rfl rfl) (fun c12 => ?_) (fun c12 => ?_)
    ·refine q_val (v := .bool true) rfl rfl (fun w' x' => x_pick_t rfl rfl rfl) ?_
     refine q_val (v := .bool true) rfl rfl (fun w' x' => x_move rfl rfl) ?_
     refine q_val (v := .pointer (some (⟨w.heap.size, 16, none⟩))) rfl rfl (fun w' x' => x_fieldAddr fld_37_5 rfl rfl rfl) ?_
     refine q_val (v := .int .i64 a.seq) rfl rfl (fun w' x' => x_load rfl rfl (((b2.ext x7).ext x').one one_3 rfl)) ?_
     refine q_val (v := .pointer (some (⟨w1.heap.size, 16, none⟩))) rfl rfl (fun w' x' => x_fieldAddr fld_37_5 rfl rfl rfl) ?_
     refine q_val (v := .int .i64 b.seq) rfl rfl (fun w' x' => x_load rfl rfl ((b6.ext x').one one_3 rfl)) ?_
     refine q_bool (b := decide (a.seq = b.seq)) rfl rfl (fun w' x' => x_eql rfl rfl rfl) (fun c13 => ?_) (fun c13 => ?_)
     ·refine q_val (v := .bool true) rfl rfl (fun w' x' => x_pick_t rfl rfl rfl) ?_
      refine q_val (v := .bool true) rfl rfl (fun w' x' => x_move rfl rfl) ?_
      refine q_val (v := .pointer (some (⟨w.heap.size, 17, none⟩))) rfl rfl (fun w' x' => x_fieldAddr fld_37_6 rfl rfl rfl) ?_
      refine q_val (v := .agg #[.int .i64 a.deps.d0, .int .i64 a.deps.d1, .int .i64 a.deps.d2, .int .i64 a.deps.d3, .int .i64 a.deps.d4, .int .i64 a.deps.d5, .int .i64 a.deps.d6]) rfl rfl (fun w' x' => x_load rfl rfl (((b2.ext x7).ext x').agg (vs := [.int .i64 a.deps.d0, .int .i64 a.deps.d1, .int .i64 a.deps.d2, .int .i64 a.deps.d3, .int .i64 a.deps.d4, .int .i64 a.deps.d5, .int .i64 a.deps.d6]) agg_35_7 rfl)) ?_
      refine q_val (v := .pointer (some (⟨w1.heap.size, 17, none⟩))) rfl rfl (fun w' x' => x_fieldAddr fld_37_6 rfl rfl rfl) ?_
      refine q_val (v := .agg #[.int .i64 b.deps.d0, .int .i64 b.deps.d1, .int .i64 b.deps.d2, .int .i64 b.deps.d3, .int .i64 b.deps.d4, .int .i64 b.deps.d5, .int .i64 b.deps.d6]) rfl rfl (fun w' x' => x_load rfl rfl ((b6.ext x').agg (vs := [.int .i64 b.deps.d0, .int .i64 b.deps.d1, .int .i64 b.deps.d2, .int .i64 b.deps.d3, .int .i64 b.deps.d4, .int .i64 b.deps.d5, .int .i64 b.deps.d6]) agg_35_7 rfl)) ?_
      refine q_bool (b := decide (a.deps = b.deps)) rfl rfl (fun w' x' => x_eqDep intsT_35 rfl rfl rfl) (fun c14 => ?_) (fun c14 => ?_)
      ·refine q_val (v := .bool true) rfl rfl (fun w' x' => x_pick_t rfl rfl rfl) ?_
       refine q_val (v := .bool true) rfl rfl (fun w' x' => x_move rfl rfl) ?_
       refine q_val (v := .pointer (some (⟨w.heap.size, 24, none⟩))) rfl rfl (fun w' x' => x_fieldAddr fld_37_7 rfl rfl rfl) ?_
       refine q_bool (b := a.kept) rfl rfl (fun w' x' => x_load rfl rfl (((b2.ext x7).ext x').one one_4 rfl)) (fun c15 => ?_) (fun c15 => ?_)
       ·refine q_val (v := .pointer (some (⟨w1.heap.size, 24, none⟩))) rfl rfl (fun w' x' => x_fieldAddr fld_37_7 rfl rfl rfl) ?_
        refine q_bool (b := b.kept) rfl rfl (fun w' x' => x_load rfl rfl ((b6.ext x').one one_4 rfl)) (fun c16 => ?_) (fun c16 => ?_)
        ·refine q_val (v := .bool true) rfl rfl (fun w' x' => yb (x_beql (a := true) (b := true) bool_4 rfl rfl rfl) rfl) ?_
         refine q_val (v := .bool true) rfl rfl (fun w' x' => x_pick_t rfl rfl rfl) ?_
         refine q_val (v := .bool true) rfl rfl (fun w' x' => x_move rfl rfl) ?_
         refine q_val (v := .pointer (some (⟨w.heap.size, 7, none⟩))) rfl rfl (fun w' x' => x_fieldAddr fld_37_4 rfl rfl rfl) ?_
         refine q_val (v := .agg #[.int .i64 a.cmd.kind, .int .i64 a.cmd.txn.client, .int .i64 a.cmd.txn.number, .int .i64 a.cmd.stp.time, .int .i64 a.cmd.stp.client, .int .i64 a.cmd.shards, .slice pa.A a.cmd.reads.length pa.n, .slice pa.B a.cmd.writes.length pa.m, .bool a.cmd.commit]) rfl rfl (fun w' x' => x_load rfl rfl (((b2.ext x7).ext x').agg (vs := [.int .i64 a.cmd.kind, .int .i64 a.cmd.txn.client, .int .i64 a.cmd.txn.number, .int .i64 a.cmd.stp.time, .int .i64 a.cmd.stp.client, .int .i64 a.cmd.shards, .slice pa.A a.cmd.reads.length pa.n, .slice pa.B a.cmd.writes.length pa.m, .bool a.cmd.commit]) agg_33_9 rfl)) ?_
         refine q_val (v := .pointer (some (⟨w1.heap.size, 7, none⟩))) rfl rfl (fun w' x' => x_fieldAddr fld_37_4 rfl rfl rfl) ?_
         refine q_val (v := .agg #[.int .i64 b.cmd.kind, .int .i64 b.cmd.txn.client, .int .i64 b.cmd.txn.number, .int .i64 b.cmd.stp.time, .int .i64 b.cmd.stp.client, .int .i64 b.cmd.shards, .slice pb.A b.cmd.reads.length pb.n, .slice pb.B b.cmd.writes.length pb.m, .bool b.cmd.commit]) rfl rfl (fun w' x' => x_load rfl rfl ((b6.ext x').agg (vs := [.int .i64 b.cmd.kind, .int .i64 b.cmd.txn.client, .int .i64 b.cmd.txn.number, .int .i64 b.cmd.stp.time, .int .i64 b.cmd.stp.client, .int .i64 b.cmd.shards, .slice pb.A b.cmd.reads.length pb.n, .slice pb.B b.cmd.writes.length pb.m, .bool b.cmd.commit]) agg_33_9 rfl)) ?_
         refine q_callb (b := decide (a.cmd = b.cmd)) (vs := #[.agg #[.int .i64 a.cmd.kind, .int .i64 a.cmd.txn.client, .int .i64 a.cmd.txn.number, .int .i64 a.cmd.stp.time, .int .i64 a.cmd.stp.client, .int .i64 a.cmd.shards, .slice pa.A a.cmd.reads.length pa.n, .slice pa.B a.cmd.writes.length pa.m, .bool a.cmd.commit], .agg #[.int .i64 b.cmd.kind, .int .i64 b.cmd.txn.client, .int .i64 b.cmd.txn.number, .int .i64 b.cmd.stp.time, .int .i64 b.cmd.stp.client, .int .i64 b.cmd.shards, .slice pb.A b.cmd.reads.length pb.n, .slice pb.B b.cmd.writes.length pb.m, .bool b.cmd.commit]]) fn_35 rfl rfl rfl (args2 rfl rfl) (fun w' x' => C_sameCmd _ a.cmd pa (((ha.ext x3).ext x7).ext x') b.cmd pb (((hb.ext x3).ext x7).ext x')) (fun c17 => ?_) (fun c17 => ?_)
         ·refine q_val (v := .bool true) rfl rfl (fun w' x' => x_pick_t rfl rfl rfl) ?_
          refine q_val (v := .bool true) rfl rfl (fun w' x' => x_assign rfl rfl) ?_
          refine q_nil (fun w18 x19 => ?_)
          refine t_norm ?_
          refine c_ret ?_
          exact c_done rfl rfl (Ret.b (by obtain ⟨a0, a1, a2, a3, a4, a5, a6, a7⟩ := a; obtain ⟨b0, b1, b2, b3, b4, b5, b6, b7⟩ := b; simp_all) ((x3.trans x7).trans x19))
         ·refine q_val (v := .bool false) rfl rfl (fun w' x' => x_pick_t rfl rfl rfl) ?_
          refine q_val (v := .bool false) rfl rfl (fun w' x' => x_assign rfl rfl) ?_
          refine q_nil (fun w20 x21 => ?_)
          refine t_norm ?_
          refine c_ret ?_
          exact c_done rfl rfl (Ret.b ((decide_eq_false (fun h => by subst h; simp_all)).symm) ((x3.trans x7).trans x21))
        ·refine q_val (v := .bool false) rfl rfl (fun w' x' => yb (x_beql (a := true) (b := false) bool_4 rfl rfl rfl) rfl) ?_
         refine q_val (v := .bool false) rfl rfl (fun w' x' => x_pick_t rfl rfl rfl) ?_
         refine q_val (v := .bool false) rfl rfl (fun w' x' => x_move rfl rfl) ?_
         refine q_skip rfl rfl ?_
         refine q_skip rfl rfl ?_
         refine q_skip rfl rfl ?_
         refine q_skip rfl rfl ?_
         refine q_skip rfl rfl ?_
         refine q_val (v := .bool false) rfl rfl (fun w' x' => x_pick_f rfl rfl rfl) ?_
         refine q_val (v := .bool false) rfl rfl (fun w' x' => x_assign rfl rfl) ?_
         refine q_nil (fun w22 x23 => ?_)
         refine t_norm ?_
         refine c_ret ?_
         exact c_done rfl rfl (Ret.b ((decide_eq_false (fun h => by subst h; simp_all)).symm) ((x3.trans x7).trans x23))
       ·refine q_val (v := .pointer (some (⟨w1.heap.size, 24, none⟩))) rfl rfl (fun w' x' => x_fieldAddr fld_37_7 rfl rfl rfl) ?_
        refine q_bool (b := b.kept) rfl rfl (fun w' x' => x_load rfl rfl ((b6.ext x').one one_4 rfl)) (fun c24 => ?_) (fun c24 => ?_)
        ·refine q_val (v := .bool false) rfl rfl (fun w' x' => yb (x_beql (a := false) (b := true) bool_4 rfl rfl rfl) rfl) ?_
         refine q_val (v := .bool false) rfl rfl (fun w' x' => x_pick_t rfl rfl rfl) ?_
         refine q_val (v := .bool false) rfl rfl (fun w' x' => x_move rfl rfl) ?_
         refine q_skip rfl rfl ?_
         refine q_skip rfl rfl ?_
         refine q_skip rfl rfl ?_
         refine q_skip rfl rfl ?_
         refine q_skip rfl rfl ?_
         refine q_val (v := .bool false) rfl rfl (fun w' x' => x_pick_f rfl rfl rfl) ?_
         refine q_val (v := .bool false) rfl rfl (fun w' x' => x_assign rfl rfl) ?_
         refine q_nil (fun w25 x26 => ?_)
         refine t_norm ?_
         refine c_ret ?_
         exact c_done rfl rfl (Ret.b ((decide_eq_false (fun h => by subst h; simp_all)).symm) ((x3.trans x7).trans x26))
        ·refine q_val (v := .bool true) rfl rfl (fun w' x' => yb (x_beql (a := false) (b := false) bool_4 rfl rfl rfl) rfl) ?_
         refine q_val (v := .bool true) rfl rfl (fun w' x' => x_pick_t rfl rfl rfl) ?_
         refine q_val (v := .bool true) rfl rfl (fun w' x' => x_move rfl rfl) ?_
         refine q_val (v := .pointer (some (⟨w.heap.size, 7, none⟩))) rfl rfl (fun w' x' => x_fieldAddr fld_37_4 rfl rfl rfl) ?_
         refine q_val (v := .agg #[.int .i64 a.cmd.kind, .int .i64 a.cmd.txn.client, .int .i64 a.cmd.txn.number, .int .i64 a.cmd.stp.time, .int .i64 a.cmd.stp.client, .int .i64 a.cmd.shards, .slice pa.A a.cmd.reads.length pa.n, .slice pa.B a.cmd.writes.length pa.m, .bool a.cmd.commit]) rfl rfl (fun w' x' => x_load rfl rfl (((b2.ext x7).ext x').agg (vs := [.int .i64 a.cmd.kind, .int .i64 a.cmd.txn.client, .int .i64 a.cmd.txn.number, .int .i64 a.cmd.stp.time, .int .i64 a.cmd.stp.client, .int .i64 a.cmd.shards, .slice pa.A a.cmd.reads.length pa.n, .slice pa.B a.cmd.writes.length pa.m, .bool a.cmd.commit]) agg_33_9 rfl)) ?_
         refine q_val (v := .pointer (some (⟨w1.heap.size, 7, none⟩))) rfl rfl (fun w' x' => x_fieldAddr fld_37_4 rfl rfl rfl) ?_
         refine q_val (v := .agg #[.int .i64 b.cmd.kind, .int .i64 b.cmd.txn.client, .int .i64 b.cmd.txn.number, .int .i64 b.cmd.stp.time, .int .i64 b.cmd.stp.client, .int .i64 b.cmd.shards, .slice pb.A b.cmd.reads.length pb.n, .slice pb.B b.cmd.writes.length pb.m, .bool b.cmd.commit]) rfl rfl (fun w' x' => x_load rfl rfl ((b6.ext x').agg (vs := [.int .i64 b.cmd.kind, .int .i64 b.cmd.txn.client, .int .i64 b.cmd.txn.number, .int .i64 b.cmd.stp.time, .int .i64 b.cmd.stp.client, .int .i64 b.cmd.shards, .slice pb.A b.cmd.reads.length pb.n, .slice pb.B b.cmd.writes.length pb.m, .bool b.cmd.commit]) agg_33_9 rfl)) ?_
         refine q_callb (b := decide (a.cmd = b.cmd)) (vs := #[.agg #[.int .i64 a.cmd.kind, .int .i64 a.cmd.txn.client, .int .i64 a.cmd.txn.number, .int .i64 a.cmd.stp.time, .int .i64 a.cmd.stp.client, .int .i64 a.cmd.shards, .slice pa.A a.cmd.reads.length pa.n, .slice pa.B a.cmd.writes.length pa.m, .bool a.cmd.commit], .agg #[.int .i64 b.cmd.kind, .int .i64 b.cmd.txn.client, .int .i64 b.cmd.txn.number, .int .i64 b.cmd.stp.time, .int .i64 b.cmd.stp.client, .int .i64 b.cmd.shards, .slice pb.A b.cmd.reads.length pb.n, .slice pb.B b.cmd.writes.length pb.m, .bool b.cmd.commit]]) fn_35 rfl rfl rfl (args2 rfl rfl) (fun w' x' => C_sameCmd _ a.cmd pa (((ha.ext x3).ext x7).ext x') b.cmd pb (((hb.ext x3).ext x7).ext x')) (fun c27 => ?_) (fun c27 => ?_)
         ·refine q_val (v := .bool true) rfl rfl (fun w' x' => x_pick_t rfl rfl rfl) ?_
          refine q_val (v := .bool true) rfl rfl (fun w' x' => x_assign rfl rfl) ?_
          refine q_nil (fun w28 x29 => ?_)
          refine t_norm ?_
          refine c_ret ?_
          exact c_done rfl rfl (Ret.b (by obtain ⟨a0, a1, a2, a3, a4, a5, a6, a7⟩ := a; obtain ⟨b0, b1, b2, b3, b4, b5, b6, b7⟩ := b; simp_all) ((x3.trans x7).trans x29))
         ·refine q_val (v := .bool false) rfl rfl (fun w' x' => x_pick_t rfl rfl rfl) ?_
          refine q_val (v := .bool false) rfl rfl (fun w' x' => x_assign rfl rfl) ?_
          refine q_nil (fun w30 x31 => ?_)
          refine t_norm ?_
          refine c_ret ?_
          exact c_done rfl rfl (Ret.b ((decide_eq_false (fun h => by subst h; simp_all)).symm) ((x3.trans x7).trans x31))
      ·refine q_val (v := .bool false) rfl rfl (fun w' x' => x_pick_t rfl rfl rfl) ?_
       refine q_val (v := .bool false) rfl rfl (fun w' x' => x_move rfl rfl) ?_
       refine q_skip rfl rfl ?_
       refine q_skip rfl rfl ?_
       refine q_skip rfl rfl ?_
       refine q_skip rfl rfl ?_
       refine q_skip rfl rfl ?_
       refine q_val (v := .bool false) rfl rfl (fun w' x' => x_pick_f rfl rfl rfl) ?_
       refine q_val (v := .bool false) rfl rfl (fun w' x' => x_move rfl rfl) ?_
       refine q_skip rfl rfl ?_
       refine q_skip rfl rfl ?_
       refine q_skip rfl rfl ?_
       refine q_skip rfl rfl ?_
       refine q_skip rfl rfl ?_
       refine q_val (v := .bool false) rfl rfl (fun w' x' => x_pick_f rfl rfl rfl) ?_
       refine q_val (v := .bool false) rfl rfl (fun w' x' => x_assign rfl rfl) ?_
       refine q_nil (fun w32 x33 => ?_)
       refine t_norm ?_
       refine c_ret ?_
       exact c_done rfl rfl (Ret.b ((decide_eq_false (fun h => by subst h; simp_all)).symm) ((x3.trans x7).trans x33))
     ·refine q_val (v := .bool false) rfl rfl (fun w' x' => x_pick_t rfl rfl rfl) ?_
      refine q_val (v := .bool false) rfl rfl (fun w' x' => x_move rfl rfl) ?_
      refine q_skip rfl rfl ?_
      refine q_skip rfl rfl ?_
      refine q_skip rfl rfl ?_
      refine q_skip rfl rfl ?_
      refine q_skip rfl rfl ?_
      refine q_val (v := .bool false) rfl rfl (fun w' x' => x_pick_f rfl rfl rfl) ?_
      refine q_val (v := .bool false) rfl rfl (fun w' x' => x_move rfl rfl) ?_
      refine q_skip rfl rfl ?_
      refine q_skip rfl rfl ?_
      refine q_skip rfl rfl ?_
      refine q_skip rfl rfl ?_
      refine q_skip rfl rfl ?_
      refine q_val (v := .bool false) rfl rfl (fun w' x' => x_pick_f rfl rfl rfl) ?_
      refine q_val (v := .bool false) rfl rfl (fun w' x' => x_move rfl rfl) ?_
      refine q_skip rfl rfl ?_
      refine q_skip rfl rfl ?_
      refine q_skip rfl rfl ?_
      refine q_skip rfl rfl ?_
      refine q_skip rfl rfl ?_
      refine q_val (v := .bool false) rfl rfl (fun w' x' => x_pick_f rfl rfl rfl) ?_
      refine q_val (v := .bool false) rfl rfl (fun w' x' => x_assign rfl rfl) ?_
      refine q_nil (fun w34 x35 => ?_)
      refine t_norm ?_
      refine c_ret ?_
      exact c_done rfl rfl (Ret.b ((decide_eq_false (fun h => by subst h; simp_all)).symm) ((x3.trans x7).trans x35))
    ·refine q_val (v := .bool false) rfl rfl (fun w' x' => x_pick_t rfl rfl rfl) ?_
     refine q_val (v := .bool false) rfl rfl (fun w' x' => x_move rfl rfl) ?_
     refine q_skip rfl rfl ?_
     refine q_skip rfl rfl ?_
     refine q_skip rfl rfl ?_
     refine q_skip rfl rfl ?_
     refine q_skip rfl rfl ?_
     refine q_val (v := .bool false) rfl rfl (fun w' x' => x_pick_f rfl rfl rfl) ?_
     refine q_val (v := .bool false) rfl rfl (fun w' x' => x_move rfl rfl) ?_
     refine q_skip rfl rfl ?_
     refine q_skip rfl rfl ?_
     refine q_skip rfl rfl ?_
     refine q_skip rfl rfl ?_
     refine q_skip rfl rfl ?_
     refine q_val (v := .bool false) rfl rfl (fun w' x' => x_pick_f rfl rfl rfl) ?_
     refine q_val (v := .bool false) rfl rfl (fun w' x' => x_move rfl rfl) ?_
     refine q_skip rfl rfl ?_
     refine q_skip rfl rfl ?_
     refine q_skip rfl rfl ?_
     refine q_skip rfl rfl ?_
     refine q_skip rfl rfl ?_
     refine q_val (v := .bool false) rfl rfl (fun w' x' => x_pick_f rfl rfl rfl) ?_
     refine q_val (v := .bool false) rfl rfl (fun w' x' => x_move rfl rfl) ?_
     refine q_skip rfl rfl ?_
     refine q_skip rfl rfl ?_
     refine q_skip rfl rfl ?_
     refine q_skip rfl rfl ?_
     refine q_skip rfl rfl ?_
     refine q_val (v := .bool false) rfl rfl (fun w' x' => x_pick_f rfl rfl rfl) ?_
     refine q_val (v := .bool false) rfl rfl (fun w' x' => x_assign rfl rfl) ?_
     refine q_nil (fun w36 x37 => ?_)
     refine t_norm ?_
     refine c_ret ?_
     exact c_done rfl rfl (Ret.b ((decide_eq_false (fun h => by subst h; simp_all)).symm) ((x3.trans x7).trans x37))
   ·refine q_val (v := .bool false) rfl rfl (fun w' x' => x_pick_t rfl rfl rfl) ?_
    refine q_val (v := .bool false) rfl rfl (fun w' x' => x_move rfl rfl) ?_
    refine q_skip rfl rfl ?_
    refine q_skip rfl rfl ?_
    refine q_skip rfl rfl ?_
    refine q_skip rfl rfl ?_
    refine q_skip rfl rfl ?_
    refine q_val (v := .bool false) rfl rfl (fun w' x' => x_pick_f rfl rfl rfl) ?_
    refine q_val (v := .bool false) rfl rfl (fun w' x' => x_move rfl rfl) ?_
    refine q_skip rfl rfl ?_
    refine q_skip rfl rfl ?_
    refine q_skip rfl rfl ?_
    refine q_skip rfl rfl ?_
    refine q_skip rfl rfl ?_
    refine q_val (v := .bool false) rfl rfl (fun w' x' => x_pick_f rfl rfl rfl) ?_
    refine q_val (v := .bool false) rfl rfl (fun w' x' => x_move rfl rfl) ?_
    refine q_skip rfl rfl ?_
    refine q_skip rfl rfl ?_
    refine q_skip rfl rfl ?_
    refine q_skip rfl rfl ?_
    refine q_skip rfl rfl ?_
    refine q_val (v := .bool false) rfl rfl (fun w' x' => x_pick_f rfl rfl rfl) ?_
    refine q_val (v := .bool false) rfl rfl (fun w' x' => x_move rfl rfl) ?_
    refine q_skip rfl rfl ?_
    refine q_skip rfl rfl ?_
    refine q_skip rfl rfl ?_
    refine q_skip rfl rfl ?_
    refine q_skip rfl rfl ?_
    refine q_val (v := .bool false) rfl rfl (fun w' x' => x_pick_f rfl rfl rfl) ?_
    refine q_val (v := .bool false) rfl rfl (fun w' x' => x_move rfl rfl) ?_
    refine q_skip rfl rfl ?_
    refine q_skip rfl rfl ?_
    refine q_skip rfl rfl ?_
    refine q_skip rfl rfl ?_
    refine q_skip rfl rfl ?_
    refine q_val (v := .bool false) rfl rfl (fun w' x' => x_pick_f rfl rfl rfl) ?_
    refine q_val (v := .bool false) rfl rfl (fun w' x' => x_assign rfl rfl) ?_
    refine q_nil (fun w38 x39 => ?_)
    refine t_norm ?_
    refine c_ret ?_
    exact c_done rfl rfl (Ret.b ((decide_eq_false (fun h => by subst h; simp_all)).symm) ((x3.trans x7).trans x39))
  ·refine q_val (v := .bool false) rfl rfl (fun w' x' => x_pick_t rfl rfl rfl) ?_
   refine q_val (v := .bool false) rfl rfl (fun w' x' => x_move rfl rfl) ?_
   refine q_skip rfl rfl ?_
   refine q_skip rfl rfl ?_
   refine q_skip rfl rfl ?_
   refine q_skip rfl rfl ?_
   refine q_skip rfl rfl ?_
   refine q_val (v := .bool false) rfl rfl (fun w' x' => x_pick_f rfl rfl rfl) ?_
   refine q_val (v := .bool false) rfl rfl (fun w' x' => x_move rfl rfl) ?_
   refine q_skip rfl rfl ?_
   refine q_skip rfl rfl ?_
   refine q_skip rfl rfl ?_
   refine q_skip rfl rfl ?_
   refine q_skip rfl rfl ?_
   refine q_val (v := .bool false) rfl rfl (fun w' x' => x_pick_f rfl rfl rfl) ?_
   refine q_val (v := .bool false) rfl rfl (fun w' x' => x_move rfl rfl) ?_
   refine q_skip rfl rfl ?_
   refine q_skip rfl rfl ?_
   refine q_skip rfl rfl ?_
   refine q_skip rfl rfl ?_
   refine q_skip rfl rfl ?_
   refine q_val (v := .bool false) rfl rfl (fun w' x' => x_pick_f rfl rfl rfl) ?_
   refine q_val (v := .bool false) rfl rfl (fun w' x' => x_move rfl rfl) ?_
   refine q_skip rfl rfl ?_
   refine q_skip rfl rfl ?_
   refine q_skip rfl rfl ?_
   refine q_skip rfl rfl ?_
   refine q_skip rfl rfl ?_
   refine q_val (v := .bool false) rfl rfl (fun w' x' => x_pick_f rfl rfl rfl) ?_
   refine q_val (v := .bool false) rfl rfl (fun w' x' => x_move rfl rfl) ?_
   refine q_skip rfl rfl ?_
   refine q_skip rfl rfl ?_
   refine q_skip rfl rfl ?_
   refine q_skip rfl rfl ?_
   refine q_skip rfl rfl ?_
   refine q_val (v := .bool false) rfl rfl (fun w' x' => x_pick_f rfl rfl rfl) ?_
   refine q_val (v := .bool false) rfl rfl (fun w' x' => x_move rfl rfl) ?_
   refine q_skip rfl rfl ?_
   refine q_skip rfl rfl ?_
   refine q_skip rfl rfl ?_
   refine q_skip rfl rfl ?_
   refine q_skip rfl rfl ?_
   refine q_val (v := .bool false) rfl rfl (fun w' x' => x_pick_f rfl rfl rfl) ?_
   refine q_val (v := .bool false) rfl rfl (fun w' x' => x_assign rfl rfl) ?_
   refine q_nil (fun w40 x41 => ?_)
   refine t_norm ?_
   refine c_ret ?_
   exact c_done rfl rfl (Ret.b ((decide_eq_false (fun h => by subst h; simp_all)).symm) ((x3.trans x7).trans x41))
 ·refine q_val (v := .bool false) rfl rfl (fun w' x' => x_move rfl rfl) ?_
  refine q_skip rfl rfl ?_
  refine q_skip rfl rfl ?_
  refine q_skip rfl rfl ?_
  refine q_skip rfl rfl ?_
  refine q_skip rfl rfl ?_
  refine q_val (v := .bool false) rfl rfl (fun w' x' => x_pick_f rfl rfl rfl) ?_
  refine q_val (v := .bool false) rfl rfl (fun w' x' => x_move rfl rfl) ?_
  refine q_skip rfl rfl ?_
  refine q_skip rfl rfl ?_
  refine q_skip rfl rfl ?_
  refine q_skip rfl rfl ?_
  refine q_skip rfl rfl ?_
  refine q_val (v := .bool false) rfl rfl (fun w' x' => x_pick_f rfl rfl rfl) ?_
  refine q_val (v := .bool false) rfl rfl (fun w' x' => x_move rfl rfl) ?_
  refine q_skip rfl rfl ?_
  refine q_skip rfl rfl ?_
  refine q_skip rfl rfl ?_
  refine q_skip rfl rfl ?_
  refine q_skip rfl rfl ?_
  refine q_val (v := .bool false) rfl rfl (fun w' x' => x_pick_f rfl rfl rfl) ?_
  refine q_val (v := .bool false) rfl rfl (fun w' x' => x_move rfl rfl) ?_
  refine q_skip rfl rfl ?_
  refine q_skip rfl rfl ?_
  refine q_skip rfl rfl ?_
  refine q_skip rfl rfl ?_
  refine q_skip rfl rfl ?_
  refine q_val (v := .bool false) rfl rfl (fun w' x' => x_pick_f rfl rfl rfl) ?_
  refine q_val (v := .bool false) rfl rfl (fun w' x' => x_move rfl rfl) ?_
  refine q_skip rfl rfl ?_
  refine q_skip rfl rfl ?_
  refine q_skip rfl rfl ?_
  refine q_skip rfl rfl ?_
  refine q_skip rfl rfl ?_
  refine q_val (v := .bool false) rfl rfl (fun w' x' => x_pick_f rfl rfl rfl) ?_
  refine q_val (v := .bool false) rfl rfl (fun w' x' => x_move rfl rfl) ?_
  refine q_skip rfl rfl ?_
  refine q_skip rfl rfl ?_
  refine q_skip rfl rfl ?_
  refine q_skip rfl rfl ?_
  refine q_skip rfl rfl ?_
  refine q_val (v := .bool false) rfl rfl (fun w' x' => x_pick_f rfl rfl rfl) ?_
  refine q_val (v := .bool false) rfl rfl (fun w' x' => x_move rfl rfl) ?_
  refine q_skip rfl rfl ?_
  refine q_skip rfl rfl ?_
  refine q_skip rfl rfl ?_
  refine q_skip rfl rfl ?_
  refine q_skip rfl rfl ?_
  refine q_val (v := .bool false) rfl rfl (fun w' x' => x_pick_f rfl rfl rfl) ?_
  refine q_val (v := .bool false) rfl rfl (fun w' x' => x_assign rfl rfl) ?_
  refine q_nil (fun w42 x43 => ?_)
  refine t_norm ?_
  refine c_ret ?_
  exact c_done rfl rfl (Ret.b ((decide_eq_false (fun h => by subst h; simp_all)).symm) ((x3.trans x7).trans x43))

theorem D_sameRec (w : World) (a : Rec) (pa : Ptr) (ha : CmdAt w a.cmd pa) (b : Rec) (pb : Ptr) (hb : CmdAt w b.cmd pb) :
    Calls Try.prog 14 #[vRec a pa, vRec b pb] w (Ret w (.bool (decide (a = b)))) := by
 refine c_enter (n := 59) Try.func14 rfl rfl rfl ?_
 refine c_seq ?_
 refine c_plain ?_
 refine p_box rfl rfl rfl rfl (fun w1 b2 x3 z4 => ?_)
 refine p_box rfl rfl rfl rfl (fun w5 b6 x7 z8 => ?_)
 refine p_val (v := .bool false) rfl rfl (x_assign rfl rfl) ?_
 refine p_nil ?_
 refine t_norm ?_
 refine c_seq ?_
 refine c_quiet ?_
 refine q_val (v := .pointer (some (⟨w.heap.size, 0, none⟩))) rfl rfl (fun w' x' => x_fieldAddr fld_37_0 rfl rfl rfl) ?_
 refine q_val (v := .agg #[.int .i64 a.inst.replica, .int .i64 a.inst.slot]) rfl rfl (fun w' x' => x_load rfl rfl (((b2.ext x7).ext x').agg (vs := [.int .i64 a.inst.replica, .int .i64 a.inst.slot]) agg_23_2 rfl)) ?_
 refine q_val (v := .pointer (some (⟨w1.heap.size, 0, none⟩))) rfl rfl (fun w' x' => x_fieldAddr fld_37_0 rfl rfl rfl) ?_
 refine q_val (v := .agg #[.int .i64 b.inst.replica, .int .i64 b.inst.slot]) rfl rfl (fun w' x' => x_load rfl rfl ((b6.ext x').agg (vs := [.int .i64 b.inst.replica, .int .i64 b.inst.slot]) agg_23_2 rfl)) ?_
 refine q_bool (b := decide (a.inst = b.inst)) rfl rfl (fun w' x' => x_eqInst ints2_23 rfl rfl rfl) (fun c9 => ?_) (fun c9 => ?_)
 ·refine q_val (v := .bool true) rfl rfl (fun w' x' => x_move rfl rfl) ?_
  refine q_val (v := .pointer (some (⟨w.heap.size, 2, none⟩))) rfl rfl (fun w' x' => x_fieldAddr fld_37_1 rfl rfl rfl) ?_
  refine q_val (v := .int .i64 a.status) rfl rfl (fun w' x' => x_load rfl rfl (((b2.ext x7).ext x').one one_3 rfl)) ?_
  refine q_val (v := .pointer (some (⟨w1.heap.size, 2, none⟩))) rfl rfl (fun w' x' => x_fieldAddr fld_37_1 rfl rfl rfl) ?_
  refine q_val (v := .int .i64 b.status) rfl rfl (fun w' x' => x_load rfl rfl ((b6.ext x').one one_3 rfl)) ?_
  refine q_bool (b := decide (a.status = b.status)) rfl rfl (fun w' x' => x_eql rfl rfl rfl) (fun c10 => ?_) (fun c10 => ?_)
  ·refine q_val (v := .bool true) rfl rfl (fun w' x' => x_pick_t rfl rfl rfl) ?_
   refine q_val (v := .bool true) rfl rfl (fun w' x' => x_move rfl rfl) ?_
   refine q_val (v := .pointer (some (⟨w.heap.size, 3, none⟩))) rfl rfl (fun w' x' => x_fieldAddr fld_37_2 rfl rfl rfl) ?_
   refine q_val (v := .agg #[.int .i64 a.promise.number, .int .i64 a.promise.replica]) rfl rfl (fun w' x' => x_load rfl rfl (((b2.ext x7).ext x').agg (vs := [.int .i64 a.promise.number, .int .i64 a.promise.replica]) agg_25_2 rfl)) ?_
   refine q_val (v := .pointer (some (⟨w1.heap.size, 3, none⟩))) rfl rfl (fun w' x' => x_fieldAddr fld_37_2 rfl rfl rfl) ?_
   refine q_val (v := .agg #[.int .i64 b.promise.number, .int .i64 b.promise.replica]) rfl rfl (fun w' x' => x_load rfl rfl ((b6.ext x').agg (vs := [.int .i64 b.promise.number, .int .i64 b.promise.replica]) agg_25_2 rfl)) ?_
   refine q_bool (b := decide (a.promise = b.promise)) rfl rfl (fun w' x' => x_eqBal ints2_25 rfl rfl rfl) (fun c11 => ?_) (fun c11 => ?_)
   ·refine q_val (v := .bool true) rfl rfl (fun w' x' => x_pick_t rfl rfl rfl) ?_
    refine q_val (v := .bool true) rfl rfl (fun w' x' => x_move rfl rfl) ?_
    refine q_val (v := .pointer (some (⟨w.heap.size, 5, none⟩))) rfl rfl (fun w' x' => x_fieldAddr fld_37_3 rfl rfl rfl) ?_
    refine q_val (v := .agg #[.int .i64 a.ballot.number, .int .i64 a.ballot.replica]) rfl rfl (fun w' x' => x_load rfl rfl (((b2.ext x7).ext x').agg (vs := [.int .i64 a.ballot.number, .int .i64 a.ballot.replica]) agg_25_2 rfl)) ?_
    refine q_val (v := .pointer (some (⟨w1.heap.size, 5, none⟩))) rfl rfl (fun w' x' => x_fieldAddr fld_37_3 rfl rfl rfl) ?_
    refine q_val (v := .agg #[.int .i64 b.ballot.number, .int .i64 b.ballot.replica]) rfl rfl (fun w' x' => x_load rfl rfl ((b6.ext x').agg (vs := [.int .i64 b.ballot.number, .int .i64 b.ballot.replica]) agg_25_2 rfl)) ?_
    refine q_bool (b := decide (a.ballot = b.ballot)) rfl rfl (fun w' x' => x_eqBal ints2_25 rfl rfl rfl) (fun c12 => ?_) (fun c12 => ?_)
    ·refine q_val (v := .bool true) rfl rfl (fun w' x' => x_pick_t rfl rfl rfl) ?_
     refine q_val (v := .bool true) rfl rfl (fun w' x' => x_move rfl rfl) ?_
     refine q_val (v := .pointer (some (⟨w.heap.size, 16, none⟩))) rfl rfl (fun w' x' => x_fieldAddr fld_37_5 rfl rfl rfl) ?_
     refine q_val (v := .int .i64 a.seq) rfl rfl (fun w' x' => x_load rfl rfl (((b2.ext x7).ext x').one one_3 rfl)) ?_
     refine q_val (v := .pointer (some (⟨w1.heap.size, 16, none⟩))) rfl rfl (fun w' x' => x_fieldAddr fld_37_5 rfl rfl rfl) ?_
     refine q_val (v := .int .i64 b.seq) rfl rfl (fun w' x' => x_load rfl rfl ((b6.ext x').one one_3 rfl)) ?_
     refine q_bool (b := decide (a.seq = b.seq)) rfl rfl (fun w' x' => x_eql rfl rfl rfl) (fun c13 => ?_) (fun c13 => ?_)
     ·refine q_val (v := .bool true) rfl rfl (fun w' x' => x_pick_t rfl rfl rfl) ?_
      refine q_val (v := .bool true) rfl rfl (fun w' x' => x_move rfl rfl) ?_
      refine q_val (v := .pointer (some (⟨w.heap.size, 17, none⟩))) rfl rfl (fun w' x' => x_fieldAddr fld_37_6 rfl rfl rfl) ?_
      refine q_val (v := .agg #[.int .i64 a.deps.d0, .int .i64 a.deps.d1, .int .i64 a.deps.d2, .int .i64 a.deps.d3, .int .i64 a.deps.d4, .int .i64 a.deps.d5, .int .i64 a.deps.d6]) rfl rfl (fun w' x' => x_load rfl rfl (((b2.ext x7).ext x').agg (vs := [.int .i64 a.deps.d0, .int .i64 a.deps.d1, .int .i64 a.deps.d2, .int .i64 a.deps.d3, .int .i64 a.deps.d4, .int .i64 a.deps.d5, .int .i64 a.deps.d6]) agg_35_7 rfl)) ?_
      refine q_val (v := .pointer (some (⟨w1.heap.size, 17, none⟩))) rfl rfl (fun w' x' => x_fieldAddr fld_37_6 rfl rfl rfl) ?_
      refine q_val (v := .agg #[.int .i64 b.deps.d0, .int .i64 b.deps.d1, .int .i64 b.deps.d2, .int .i64 b.deps.d3, .int .i64 b.deps.d4, .int .i64 b.deps.d5, .int .i64 b.deps.d6]) rfl rfl (fun w' x' => x_load rfl rfl ((b6.ext x').agg (vs := [.int .i64 b.deps.d0, .int .i64 b.deps.d1, .int .i64 b.deps.d2, .int .i64 b.deps.d3, .int .i64 b.deps.d4, .int .i64 b.deps.d5, .int .i64 b.deps.d6]) agg_35_7 rfl)) ?_
      refine q_bool (b := decide (a.deps = b.deps)) rfl rfl (fun w' x' => x_eqDep intsT_35 rfl rfl rfl) (fun c14 => ?_) (fun c14 => ?_)
      ·refine q_val (v := .bool true) rfl rfl (fun w' x' => x_pick_t rfl rfl rfl) ?_
       refine q_val (v := .bool true) rfl rfl (fun w' x' => x_move rfl rfl) ?_
       refine q_val (v := .pointer (some (⟨w.heap.size, 24, none⟩))) rfl rfl (fun w' x' => x_fieldAddr fld_37_7 rfl rfl rfl) ?_
       refine q_bool (b := a.kept) rfl rfl (fun w' x' => x_load rfl rfl (((b2.ext x7).ext x').one one_4 rfl)) (fun c15 => ?_) (fun c15 => ?_)
       ·refine q_val (v := .pointer (some (⟨w1.heap.size, 24, none⟩))) rfl rfl (fun w' x' => x_fieldAddr fld_37_7 rfl rfl rfl) ?_
        refine q_bool (b := b.kept) rfl rfl (fun w' x' => x_load rfl rfl ((b6.ext x').one one_4 rfl)) (fun c16 => ?_) (fun c16 => ?_)
        ·refine q_val (v := .bool true) rfl rfl (fun w' x' => yb (x_beql (a := true) (b := true) bool_4 rfl rfl rfl) rfl) ?_
         refine q_val (v := .bool true) rfl rfl (fun w' x' => x_pick_t rfl rfl rfl) ?_
         refine q_val (v := .bool true) rfl rfl (fun w' x' => x_move rfl rfl) ?_
         refine q_val (v := .pointer (some (⟨w.heap.size, 7, none⟩))) rfl rfl (fun w' x' => x_fieldAddr fld_37_4 rfl rfl rfl) ?_
         refine q_val (v := .agg #[.int .i64 a.cmd.kind, .int .i64 a.cmd.txn.client, .int .i64 a.cmd.txn.number, .int .i64 a.cmd.stp.time, .int .i64 a.cmd.stp.client, .int .i64 a.cmd.shards, .slice pa.A a.cmd.reads.length pa.n, .slice pa.B a.cmd.writes.length pa.m, .bool a.cmd.commit]) rfl rfl (fun w' x' => x_load rfl rfl (((b2.ext x7).ext x').agg (vs := [.int .i64 a.cmd.kind, .int .i64 a.cmd.txn.client, .int .i64 a.cmd.txn.number, .int .i64 a.cmd.stp.time, .int .i64 a.cmd.stp.client, .int .i64 a.cmd.shards, .slice pa.A a.cmd.reads.length pa.n, .slice pa.B a.cmd.writes.length pa.m, .bool a.cmd.commit]) agg_33_9 rfl)) ?_
         refine q_val (v := .pointer (some (⟨w1.heap.size, 7, none⟩))) rfl rfl (fun w' x' => x_fieldAddr fld_37_4 rfl rfl rfl) ?_
         refine q_val (v := .agg #[.int .i64 b.cmd.kind, .int .i64 b.cmd.txn.client, .int .i64 b.cmd.txn.number, .int .i64 b.cmd.stp.time, .int .i64 b.cmd.stp.client, .int .i64 b.cmd.shards, .slice pb.A b.cmd.reads.length pb.n, .slice pb.B b.cmd.writes.length pb.m, .bool b.cmd.commit]) rfl rfl (fun w' x' => x_load rfl rfl ((b6.ext x').agg (vs := [.int .i64 b.cmd.kind, .int .i64 b.cmd.txn.client, .int .i64 b.cmd.txn.number, .int .i64 b.cmd.stp.time, .int .i64 b.cmd.stp.client, .int .i64 b.cmd.shards, .slice pb.A b.cmd.reads.length pb.n, .slice pb.B b.cmd.writes.length pb.m, .bool b.cmd.commit]) agg_33_9 rfl)) ?_
         refine q_callb (b := decide (a.cmd = b.cmd)) (vs := #[.agg #[.int .i64 a.cmd.kind, .int .i64 a.cmd.txn.client, .int .i64 a.cmd.txn.number, .int .i64 a.cmd.stp.time, .int .i64 a.cmd.stp.client, .int .i64 a.cmd.shards, .slice pa.A a.cmd.reads.length pa.n, .slice pa.B a.cmd.writes.length pa.m, .bool a.cmd.commit], .agg #[.int .i64 b.cmd.kind, .int .i64 b.cmd.txn.client, .int .i64 b.cmd.txn.number, .int .i64 b.cmd.stp.time, .int .i64 b.cmd.stp.client, .int .i64 b.cmd.shards, .slice pb.A b.cmd.reads.length pb.n, .slice pb.B b.cmd.writes.length pb.m, .bool b.cmd.commit]]) fn_33 rfl rfl rfl (args2 rfl rfl) (fun w' x' => D_sameCmd _ a.cmd pa (((ha.ext x3).ext x7).ext x') b.cmd pb (((hb.ext x3).ext x7).ext x')) (fun c17 => ?_) (fun c17 => ?_)
         ·refine q_val (v := .bool true) rfl rfl (fun w' x' => x_pick_t rfl rfl rfl) ?_
          refine q_val (v := .bool true) rfl rfl (fun w' x' => x_assign rfl rfl) ?_
          refine q_nil (fun w18 x19 => ?_)
          refine t_norm ?_
          refine c_ret ?_
          exact c_done rfl rfl (Ret.b (by obtain ⟨a0, a1, a2, a3, a4, a5, a6, a7⟩ := a; obtain ⟨b0, b1, b2, b3, b4, b5, b6, b7⟩ := b; simp_all) ((x3.trans x7).trans x19))
         ·refine q_val (v := .bool false) rfl rfl (fun w' x' => x_pick_t rfl rfl rfl) ?_
          refine q_val (v := .bool false) rfl rfl (fun w' x' => x_assign rfl rfl) ?_
          refine q_nil (fun w20 x21 => ?_)
          refine t_norm ?_
          refine c_ret ?_
          exact c_done rfl rfl (Ret.b ((decide_eq_false (fun h => by subst h; simp_all)).symm) ((x3.trans x7).trans x21))
        ·refine q_val (v := .bool false) rfl rfl (fun w' x' => yb (x_beql (a := true) (b := false) bool_4 rfl rfl rfl) rfl) ?_
         refine q_val (v := .bool false) rfl rfl (fun w' x' => x_pick_t rfl rfl rfl) ?_
         refine q_val (v := .bool false) rfl rfl (fun w' x' => x_move rfl rfl) ?_
         refine q_skip rfl rfl ?_
         refine q_skip rfl rfl ?_
         refine q_skip rfl rfl ?_
         refine q_skip rfl rfl ?_
         refine q_skip rfl rfl ?_
         refine q_val (v := .bool false) rfl rfl (fun w' x' => x_pick_f rfl rfl rfl) ?_
         refine q_val (v := .bool false) rfl rfl (fun w' x' => x_assign rfl rfl) ?_
         refine q_nil (fun w22 x23 => ?_)
         refine t_norm ?_
         refine c_ret ?_
         exact c_done rfl rfl (Ret.b ((decide_eq_false (fun h => by subst h; simp_all)).symm) ((x3.trans x7).trans x23))
       ·refine q_val (v := .pointer (some (⟨w1.heap.size, 24, none⟩))) rfl rfl (fun w' x' => x_fieldAddr fld_37_7 rfl rfl rfl) ?_
        refine q_bool (b := b.kept) rfl rfl (fun w' x' => x_load rfl rfl ((b6.ext x').one one_4 rfl)) (fun c24 => ?_) (fun c24 => ?_)
        ·refine q_val (v := .bool false) rfl rfl (fun w' x' => yb (x_beql (a := false) (b := true) bool_4 rfl rfl rfl) rfl) ?_
         refine q_val (v := .bool false) rfl rfl (fun w' x' => x_pick_t rfl rfl rfl) ?_
         refine q_val (v := .bool false) rfl rfl (fun w' x' => x_move rfl rfl) ?_
         refine q_skip rfl rfl ?_
         refine q_skip rfl rfl ?_
         refine q_skip rfl rfl ?_
         refine q_skip rfl rfl ?_
         refine q_skip rfl rfl ?_
         refine q_val (v := .bool false) rfl rfl (fun w' x' => x_pick_f rfl rfl rfl) ?_
         refine q_val (v := .bool false) rfl rfl (fun w' x' => x_assign rfl rfl) ?_
         refine q_nil (fun w25 x26 => ?_)
         refine t_norm ?_
         refine c_ret ?_
         exact c_done rfl rfl (Ret.b ((decide_eq_false (fun h => by subst h; simp_all)).symm) ((x3.trans x7).trans x26))
        ·refine q_val (v := .bool true) rfl rfl (fun w' x' => yb (x_beql (a := false) (b := false) bool_4 rfl rfl rfl) rfl) ?_
         refine q_val (v := .bool true) rfl rfl (fun w' x' => x_pick_t rfl rfl rfl) ?_
         refine q_val (v := .bool true) rfl rfl (fun w' x' => x_move rfl rfl) ?_
         refine q_val (v := .pointer (some (⟨w.heap.size, 7, none⟩))) rfl rfl (fun w' x' => x_fieldAddr fld_37_4 rfl rfl rfl) ?_
         refine q_val (v := .agg #[.int .i64 a.cmd.kind, .int .i64 a.cmd.txn.client, .int .i64 a.cmd.txn.number, .int .i64 a.cmd.stp.time, .int .i64 a.cmd.stp.client, .int .i64 a.cmd.shards, .slice pa.A a.cmd.reads.length pa.n, .slice pa.B a.cmd.writes.length pa.m, .bool a.cmd.commit]) rfl rfl (fun w' x' => x_load rfl rfl (((b2.ext x7).ext x').agg (vs := [.int .i64 a.cmd.kind, .int .i64 a.cmd.txn.client, .int .i64 a.cmd.txn.number, .int .i64 a.cmd.stp.time, .int .i64 a.cmd.stp.client, .int .i64 a.cmd.shards, .slice pa.A a.cmd.reads.length pa.n, .slice pa.B a.cmd.writes.length pa.m, .bool a.cmd.commit]) agg_33_9 rfl)) ?_
         refine q_val (v := .pointer (some (⟨w1.heap.size, 7, none⟩))) rfl rfl (fun w' x' => x_fieldAddr fld_37_4 rfl rfl rfl) ?_
         refine q_val (v := .agg #[.int .i64 b.cmd.kind, .int .i64 b.cmd.txn.client, .int .i64 b.cmd.txn.number, .int .i64 b.cmd.stp.time, .int .i64 b.cmd.stp.client, .int .i64 b.cmd.shards, .slice pb.A b.cmd.reads.length pb.n, .slice pb.B b.cmd.writes.length pb.m, .bool b.cmd.commit]) rfl rfl (fun w' x' => x_load rfl rfl ((b6.ext x').agg (vs := [.int .i64 b.cmd.kind, .int .i64 b.cmd.txn.client, .int .i64 b.cmd.txn.number, .int .i64 b.cmd.stp.time, .int .i64 b.cmd.stp.client, .int .i64 b.cmd.shards, .slice pb.A b.cmd.reads.length pb.n, .slice pb.B b.cmd.writes.length pb.m, .bool b.cmd.commit]) agg_33_9 rfl)) ?_
         refine q_callb (b := decide (a.cmd = b.cmd)) (vs := #[.agg #[.int .i64 a.cmd.kind, .int .i64 a.cmd.txn.client, .int .i64 a.cmd.txn.number, .int .i64 a.cmd.stp.time, .int .i64 a.cmd.stp.client, .int .i64 a.cmd.shards, .slice pa.A a.cmd.reads.length pa.n, .slice pa.B a.cmd.writes.length pa.m, .bool a.cmd.commit], .agg #[.int .i64 b.cmd.kind, .int .i64 b.cmd.txn.client, .int .i64 b.cmd.txn.number, .int .i64 b.cmd.stp.time, .int .i64 b.cmd.stp.client, .int .i64 b.cmd.shards, .slice pb.A b.cmd.reads.length pb.n, .slice pb.B b.cmd.writes.length pb.m, .bool b.cmd.commit]]) fn_33 rfl rfl rfl (args2 rfl rfl) (fun w' x' => D_sameCmd _ a.cmd pa (((ha.ext x3).ext x7).ext x') b.cmd pb (((hb.ext x3).ext x7).ext x')) (fun c27 => ?_) (fun c27 => ?_)
         ·refine q_val (v := .bool true) rfl rfl (fun w' x' => x_pick_t rfl rfl rfl) ?_
          refine q_val (v := .bool true) rfl rfl (fun w' x' => x_assign rfl rfl) ?_
          refine q_nil (fun w28 x29 => ?_)
          refine t_norm ?_
          refine c_ret ?_
          exact c_done rfl rfl (Ret.b (by obtain ⟨a0, a1, a2, a3, a4, a5, a6, a7⟩ := a; obtain ⟨b0, b1, b2, b3, b4, b5, b6, b7⟩ := b; simp_all) ((x3.trans x7).trans x29))
         ·refine q_val (v := .bool false) rfl rfl (fun w' x' => x_pick_t rfl rfl rfl) ?_
          refine q_val (v := .bool false) rfl rfl (fun w' x' => x_assign rfl rfl) ?_
          refine q_nil (fun w30 x31 => ?_)
          refine t_norm ?_
          refine c_ret ?_
          exact c_done rfl rfl (Ret.b ((decide_eq_false (fun h => by subst h; simp_all)).symm) ((x3.trans x7).trans x31))
      ·refine q_val (v := .bool false) rfl rfl (fun w' x' => x_pick_t rfl rfl rfl) ?_
       refine q_val (v := .bool false) rfl rfl (fun w' x' => x_move rfl rfl) ?_
       refine q_skip rfl rfl ?_
       refine q_skip rfl rfl ?_
       refine q_skip rfl rfl ?_
       refine q_skip rfl rfl ?_
       refine q_skip rfl rfl ?_
       refine q_val (v := .bool false) rfl rfl (fun w' x' => x_pick_f rfl rfl rfl) ?_
       refine q_val (v := .bool false) rfl rfl (fun w' x' => x_move rfl rfl) ?_
       refine q_skip rfl rfl ?_
       refine q_skip rfl rfl ?_
       refine q_skip rfl rfl ?_
       refine q_skip rfl rfl ?_
       refine q_skip rfl rfl ?_
       refine q_val (v := .bool false) rfl rfl (fun w' x' => x_pick_f rfl rfl rfl) ?_
       refine q_val (v := .bool false) rfl rfl (fun w' x' => x_assign rfl rfl) ?_
       refine q_nil (fun w32 x33 => ?_)
       refine t_norm ?_
       refine c_ret ?_
       exact c_done rfl rfl (Ret.b ((decide_eq_false (fun h => by subst h; simp_all)).symm) ((x3.trans x7).trans x33))
     ·refine q_val (v := .bool false) rfl rfl (fun w' x' => x_pick_t rfl rfl rfl) ?_
      refine q_val (v := .bool false) rfl rfl (fun w' x' => x_move rfl rfl) ?_
      refine q_skip rfl rfl ?_
      refine q_skip rfl rfl ?_
      refine q_skip rfl rfl ?_
      refine q_skip rfl rfl ?_
      refine q_skip rfl rfl ?_
      refine q_val (v := .bool false) rfl rfl (fun w' x' => x_pick_f rfl rfl rfl) ?_
      refine q_val (v := .bool false) rfl rfl (fun w' x' => x_move rfl rfl) ?_
      refine q_skip rfl rfl ?_
      refine q_skip rfl rfl ?_
      refine q_skip rfl rfl ?_
      refine q_skip rfl rfl ?_
      refine q_skip rfl rfl ?_
      refine q_val (v := .bool false) rfl rfl (fun w' x' => x_pick_f rfl rfl rfl) ?_
      refine q_val (v := .bool false) rfl rfl (fun w' x' => x_move rfl rfl) ?_
      refine q_skip rfl rfl ?_
      refine q_skip rfl rfl ?_
      refine q_skip rfl rfl ?_
      refine q_skip rfl rfl ?_
      refine q_skip rfl rfl ?_
      refine q_val (v := .bool false) rfl rfl (fun w' x' => x_pick_f rfl rfl rfl) ?_
      refine q_val (v := .bool false) rfl rfl (fun w' x' => x_assign rfl rfl) ?_
      refine q_nil (fun w34 x35 => ?_)
      refine t_norm ?_
      refine c_ret ?_
      exact c_done rfl rfl (Ret.b ((decide_eq_false (fun h => by subst h; simp_all)).symm) ((x3.trans x7).trans x35))
    ·refine q_val (v := .bool false) rfl rfl (fun w' x' => x_pick_t rfl rfl rfl) ?_
     refine q_val (v := .bool false) rfl rfl (fun w' x' => x_move rfl rfl) ?_
     refine q_skip rfl rfl ?_
     refine q_skip rfl rfl ?_
     refine q_skip rfl rfl ?_
     refine q_skip rfl rfl ?_
     refine q_skip rfl rfl ?_
     refine q_val (v := .bool false) rfl rfl (fun w' x' => x_pick_f rfl rfl rfl) ?_
     refine q_val (v := .bool false) rfl rfl (fun w' x' => x_move rfl rfl) ?_
     refine q_skip rfl rfl ?_
     refine q_skip rfl rfl ?_
     refine q_skip rfl rfl ?_
     refine q_skip rfl rfl ?_
     refine q_skip rfl rfl ?_
     refine q_val (v := .bool false) rfl rfl (fun w' x' => x_pick_f rfl rfl rfl) ?_
     refine q_val (v := .bool false) rfl rfl (fun w' x' => x_move rfl rfl) ?_
     refine q_skip rfl rfl ?_
     refine q_skip rfl rfl ?_
     refine q_skip rfl rfl ?_
     refine q_skip rfl rfl ?_
     refine q_skip rfl rfl ?_
     refine q_val (v := .bool false) rfl rfl (fun w' x' => x_pick_f rfl rfl rfl) ?_
     refine q_val (v := .bool false) rfl rfl (fun w' x' => x_move rfl rfl) ?_
     refine q_skip rfl rfl ?_
     refine q_skip rfl rfl ?_
     refine q_skip rfl rfl ?_
     refine q_skip rfl rfl ?_
     refine q_skip rfl rfl ?_
     refine q_val (v := .bool false) rfl rfl (fun w' x' => x_pick_f rfl rfl rfl) ?_
     refine q_val (v := .bool false) rfl rfl (fun w' x' => x_assign rfl rfl) ?_
     refine q_nil (fun w36 x37 => ?_)
     refine t_norm ?_
     refine c_ret ?_
     exact c_done rfl rfl (Ret.b ((decide_eq_false (fun h => by subst h; simp_all)).symm) ((x3.trans x7).trans x37))
   ·refine q_val (v := .bool false) rfl rfl (fun w' x' => x_pick_t rfl rfl rfl) ?_
    refine q_val (v := .bool false) rfl rfl (fun w' x' => x_move rfl rfl) ?_
    refine q_skip rfl rfl ?_
    refine q_skip rfl rfl ?_
    refine q_skip rfl rfl ?_
    refine q_skip rfl rfl ?_
    refine q_skip rfl rfl ?_
    refine q_val (v := .bool false) rfl rfl (fun w' x' => x_pick_f rfl rfl rfl) ?_
    refine q_val (v := .bool false) rfl rfl (fun w' x' => x_move rfl rfl) ?_
    refine q_skip rfl rfl ?_
    refine q_skip rfl rfl ?_
    refine q_skip rfl rfl ?_
    refine q_skip rfl rfl ?_
    refine q_skip rfl rfl ?_
    refine q_val (v := .bool false) rfl rfl (fun w' x' => x_pick_f rfl rfl rfl) ?_
    refine q_val (v := .bool false) rfl rfl (fun w' x' => x_move rfl rfl) ?_
    refine q_skip rfl rfl ?_
    refine q_skip rfl rfl ?_
    refine q_skip rfl rfl ?_
    refine q_skip rfl rfl ?_
    refine q_skip rfl rfl ?_
    refine q_val (v := .bool false) rfl rfl (fun w' x' => x_pick_f rfl rfl rfl) ?_
    refine q_val (v := .bool false) rfl rfl (fun w' x' => x_move rfl rfl) ?_
    refine q_skip rfl rfl ?_
    refine q_skip rfl rfl ?_
    refine q_skip rfl rfl ?_
    refine q_skip rfl rfl ?_
    refine q_skip rfl rfl ?_
    refine q_val (v := .bool false) rfl rfl (fun w' x' => x_pick_f rfl rfl rfl) ?_
    refine q_val (v := .bool false) rfl rfl (fun w' x' => x_move rfl rfl) ?_
    refine q_skip rfl rfl ?_
    refine q_skip rfl rfl ?_
    refine q_skip rfl rfl ?_
    refine q_skip rfl rfl ?_
    refine q_skip rfl rfl ?_
    refine q_val (v := .bool false) rfl rfl (fun w' x' => x_pick_f rfl rfl rfl) ?_
    refine q_val (v := .bool false) rfl rfl (fun w' x' => x_assign rfl rfl) ?_
    refine q_nil (fun w38 x39 => ?_)
    refine t_norm ?_
    refine c_ret ?_
    exact c_done rfl rfl (Ret.b ((decide_eq_false (fun h => by subst h; simp_all)).symm) ((x3.trans x7).trans x39))
  ·refine q_val (v := .bool false) rfl rfl (fun w' x' => x_pick_t rfl rfl rfl) ?_
   refine q_val (v := .bool false) rfl rfl (fun w' x' => x_move rfl rfl) ?_
   refine q_skip rfl rfl ?_
   refine q_skip rfl rfl ?_
   refine q_skip rfl rfl ?_
   refine q_skip rfl rfl ?_
   refine q_skip rfl rfl ?_
   refine q_val (v := .bool false) rfl rfl (fun w' x' => x_pick_f rfl rfl rfl) ?_
   refine q_val (v := .bool false) rfl rfl (fun w' x' => x_move rfl rfl) ?_
   refine q_skip rfl rfl ?_
   refine q_skip rfl rfl ?_
   refine q_skip rfl rfl ?_
   refine q_skip rfl rfl ?_
   refine q_skip rfl rfl ?_
   refine q_val (v := .bool false) rfl rfl (fun w' x' => x_pick_f rfl rfl rfl) ?_
   refine q_val (v := .bool false) rfl rfl (fun w' x' => x_move rfl rfl) ?_
   refine q_skip rfl rfl ?_
   refine q_skip rfl rfl ?_
   refine q_skip rfl rfl ?_
   refine q_skip rfl rfl ?_
   refine q_skip rfl rfl ?_
   refine q_val (v := .bool false) rfl rfl (fun w' x' => x_pick_f rfl rfl rfl) ?_
   refine q_val (v := .bool false) rfl rfl (fun w' x' => x_move rfl rfl) ?_
   refine q_skip rfl rfl ?_
   refine q_skip rfl rfl ?_
   refine q_skip rfl rfl ?_
   refine q_skip rfl rfl ?_
   refine q_skip rfl rfl ?_
   refine q_val (v := .bool false) rfl rfl (fun w' x' => x_pick_f rfl rfl rfl) ?_
   refine q_val (v := .bool false) rfl rfl (fun w' x' => x_move rfl rfl) ?_
   refine q_skip rfl rfl ?_
   refine q_skip rfl rfl ?_
   refine q_skip rfl rfl ?_
   refine q_skip rfl rfl ?_
   refine q_skip rfl rfl ?_
   refine q_val (v := .bool false) rfl rfl (fun w' x' => x_pick_f rfl rfl rfl) ?_
   refine q_val (v := .bool false) rfl rfl (fun w' x' => x_move rfl rfl) ?_
   refine q_skip rfl rfl ?_
   refine q_skip rfl rfl ?_
   refine q_skip rfl rfl ?_
   refine q_skip rfl rfl ?_
   refine q_skip rfl rfl ?_
   refine q_val (v := .bool false) rfl rfl (fun w' x' => x_pick_f rfl rfl rfl) ?_
   refine q_val (v := .bool false) rfl rfl (fun w' x' => x_assign rfl rfl) ?_
   refine q_nil (fun w40 x41 => ?_)
   refine t_norm ?_
   refine c_ret ?_
   exact c_done rfl rfl (Ret.b ((decide_eq_false (fun h => by subst h; simp_all)).symm) ((x3.trans x7).trans x41))
 ·refine q_val (v := .bool false) rfl rfl (fun w' x' => x_move rfl rfl) ?_
  refine q_skip rfl rfl ?_
  refine q_skip rfl rfl ?_
  refine q_skip rfl rfl ?_
  refine q_skip rfl rfl ?_
  refine q_skip rfl rfl ?_
  refine q_val (v := .bool false) rfl rfl (fun w' x' => x_pick_f rfl rfl rfl) ?_
  refine q_val (v := .bool false) rfl rfl (fun w' x' => x_move rfl rfl) ?_
  refine q_skip rfl rfl ?_
  refine q_skip rfl rfl ?_
  refine q_skip rfl rfl ?_
  refine q_skip rfl rfl ?_
  refine q_skip rfl rfl ?_
  refine q_val (v := .bool false) rfl rfl (fun w' x' => x_pick_f rfl rfl rfl) ?_
  refine q_val (v := .bool false) rfl rfl (fun w' x' => x_move rfl rfl) ?_
  refine q_skip rfl rfl ?_
  refine q_skip rfl rfl ?_
  refine q_skip rfl rfl ?_
  refine q_skip rfl rfl ?_
  refine q_skip rfl rfl ?_
  refine q_val (v := .bool false) rfl rfl (fun w' x' => x_pick_f rfl rfl rfl) ?_
  refine q_val (v := .bool false) rfl rfl (fun w' x' => x_move rfl rfl) ?_
  refine q_skip rfl rfl ?_
  refine q_skip rfl rfl ?_
  refine q_skip rfl rfl ?_
  refine q_skip rfl rfl ?_
  refine q_skip rfl rfl ?_
  refine q_val (v := .bool false) rfl rfl (fun w' x' => x_pick_f rfl rfl rfl) ?_
  refine q_val (v := .bool false) rfl rfl (fun w' x' => x_move rfl rfl) ?_
  refine q_skip rfl rfl ?_
  refine q_skip rfl rfl ?_
  refine q_skip rfl rfl ?_
  refine q_skip rfl rfl ?_
  refine q_skip rfl rfl ?_
  refine q_val (v := .bool false) rfl rfl (fun w' x' => x_pick_f rfl rfl rfl) ?_
  refine q_val (v := .bool false) rfl rfl (fun w' x' => x_move rfl rfl) ?_
  refine q_skip rfl rfl ?_
  refine q_skip rfl rfl ?_
  refine q_skip rfl rfl ?_
  refine q_skip rfl rfl ?_
  refine q_skip rfl rfl ?_
  refine q_val (v := .bool false) rfl rfl (fun w' x' => x_pick_f rfl rfl rfl) ?_
  refine q_val (v := .bool false) rfl rfl (fun w' x' => x_move rfl rfl) ?_
  refine q_skip rfl rfl ?_
  refine q_skip rfl rfl ?_
  refine q_skip rfl rfl ?_
  refine q_skip rfl rfl ?_
  refine q_skip rfl rfl ?_
  refine q_val (v := .bool false) rfl rfl (fun w' x' => x_pick_f rfl rfl rfl) ?_
  refine q_val (v := .bool false) rfl rfl (fun w' x' => x_assign rfl rfl) ?_
  refine q_nil (fun w42 x43 => ?_)
  refine t_norm ?_
  refine c_ret ?_
  exact c_done rfl rfl (Ret.b ((decide_eq_false (fun h => by subst h; simp_all)).symm) ((x3.trans x7).trans x43))

set_option maxHeartbeats 1000000 in
theorem C_rightRec (w : World) (a : Rec) (pa : Ptr) (ha : CmdAt w a.cmd pa) (hs : Slim a.cmd) :
    Calls Try.prog 9 #[vRec a pa] w (Ret w (.bool (rightRec a))) := by
 refine c_enter (n := 65) Try.func9 rfl rfl rfl ?_
 refine c_seq ?_
 refine c_plain ?_
 refine p_box rfl rfl rfl rfl (fun w1 b2 x3 z4 => ?_)
 refine p_val (v := .bool false) rfl rfl (x_assign rfl rfl) ?_
 refine p_nil ?_
 refine t_norm ?_
 refine c_seq ?_
 refine c_seq ?_
 refine c_quiet ?_
 refine q_val (v := .pointer (some (⟨w.heap.size, 0, none⟩))) rfl rfl (fun w' x' => x_fieldAddr fld_37_0 rfl rfl rfl) ?_
 refine q_val (v := .agg #[.int .i64 a.inst.replica, .int .i64 a.inst.slot]) rfl rfl (fun w' x' => x_load rfl rfl ((b2.ext x').agg (vs := [.int .i64 a.inst.replica, .int .i64 a.inst.slot]) agg_23_2 rfl)) ?_
 refine q_callb (b := rightInst a.inst) (vs := #[.agg #[.int .i64 a.inst.replica, .int .i64 a.inst.slot]]) fn_24 rfl rfl rfl (args1 rfl) (fun w' x' => C_rightInst _ a.inst) (fun c5 => ?_) (fun c5 => ?_)
 ·refine q_val (v := .bool false) rfl rfl (fun w' x' => x_not (b := true) rfl rfl) ?_
  refine q_val (v := .bool false) rfl rfl (fun w' x' => x_move rfl rfl) ?_
  refine q_val (v := .pointer (some (⟨w.heap.size, 3, none⟩))) rfl rfl (fun w' x' => x_fieldAddr fld_37_2 rfl rfl rfl) ?_
  refine q_val (v := .agg #[.int .i64 a.promise.number, .int .i64 a.promise.replica]) rfl rfl (fun w' x' => x_load rfl rfl ((b2.ext x').agg (vs := [.int .i64 a.promise.number, .int .i64 a.promise.replica]) agg_25_2 rfl)) ?_
  refine q_callb (b := rightBal a.promise) (vs := #[.agg #[.int .i64 a.promise.number, .int .i64 a.promise.replica]]) fn_25 rfl rfl rfl (args1 rfl) (fun w' x' => C_rightBal _ a.promise) (fun c6 => ?_) (fun c6 => ?_)
  ·refine q_val (v := .bool false) rfl rfl (fun w' x' => x_not (b := true) rfl rfl) ?_
   refine q_val (v := .bool false) rfl rfl (fun w' x' => x_pick_f rfl rfl rfl) ?_
   refine q_val (v := .bool false) rfl rfl (fun w' x' => x_move rfl rfl) ?_
   refine q_val (v := .pointer (some (⟨w.heap.size, 5, none⟩))) rfl rfl (fun w' x' => x_fieldAddr fld_37_3 rfl rfl rfl) ?_
   refine q_val (v := .agg #[.int .i64 a.ballot.number, .int .i64 a.ballot.replica]) rfl rfl (fun w' x' => x_load rfl rfl ((b2.ext x').agg (vs := [.int .i64 a.ballot.number, .int .i64 a.ballot.replica]) agg_25_2 rfl)) ?_
   refine q_callb (b := rightBal a.ballot) (vs := #[.agg #[.int .i64 a.ballot.number, .int .i64 a.ballot.replica]]) fn_25 rfl rfl rfl (args1 rfl) (fun w' x' => C_rightBal _ a.ballot) (fun c7 => ?_) (fun c7 => ?_)
   ·refine q_val (v := .bool false) rfl rfl (fun w' x' => x_not (b := true) rfl rfl) ?_
    refine q_val (v := .bool false) rfl rfl (fun w' x' => x_pick_f rfl rfl rfl) ?_
    refine q_val (v := .bool false) rfl rfl (fun w' x' => x_move rfl rfl) ?_
    refine q_val (v := .pointer (some (⟨w.heap.size, 5, none⟩))) rfl rfl (fun w' x' => x_fieldAddr fld_37_3 rfl rfl rfl) ?_
    refine q_val (v := .agg #[.int .i64 a.ballot.number, .int .i64 a.ballot.replica]) rfl rfl (fun w' x' => x_load rfl rfl ((b2.ext x').agg (vs := [.int .i64 a.ballot.number, .int .i64 a.ballot.replica]) agg_25_2 rfl)) ?_
    refine q_val (v := .pointer (some (⟨w.heap.size, 3, none⟩))) rfl rfl (fun w' x' => x_fieldAddr fld_37_2 rfl rfl rfl) ?_
    refine q_val (v := .agg #[.int .i64 a.promise.number, .int .i64 a.promise.replica]) rfl rfl (fun w' x' => x_load rfl rfl ((b2.ext x').agg (vs := [.int .i64 a.promise.number, .int .i64 a.promise.replica]) agg_25_2 rfl)) ?_
    refine q_call (vs := #[.agg #[.int .i64 a.ballot.number, .int .i64 a.ballot.replica], .agg #[.int .i64 a.promise.number, .int .i64 a.promise.replica]]) fn_26 rfl rfl rfl (args2 rfl rfl) (v := .int .i64 (cmpBal a.ballot a.promise)) (fun w' x' => C_cmpBal _ a.ballot a.promise) ?_
    refine q_bool (b := decide (cmpBal a.ballot a.promise > 0)) rfl rfl (fun w' x' => x_gtr rfl rfl rfl) (fun c8 => ?_) (fun c8 => ?_)
    ·refine q_val (v := .bool true) rfl rfl (fun w' x' => x_pick_f rfl rfl rfl) ?_
     refine q_val (v := .bool true) rfl rfl (fun w' x' => x_move rfl rfl) ?_
     refine q_skip rfl rfl ?_
     refine q_skip rfl rfl ?_
     refine q_skip rfl rfl ?_
     refine q_skip rfl rfl ?_
     refine q_val (v := .bool true) rfl rfl (fun w' x' => x_pick_t rfl rfl rfl) ?_
     refine q_val (v := .bool true) rfl rfl (fun w' x' => x_move rfl rfl) ?_
     refine q_skip rfl rfl ?_
     refine q_skip rfl rfl ?_
     refine q_skip rfl rfl ?_
     refine q_skip rfl rfl ?_
     refine q_skip rfl rfl ?_
     refine q_skip rfl rfl ?_
     refine q_skip rfl rfl ?_
     refine q_val (v := .bool true) rfl rfl (fun w' x' => x_pick_t rfl rfl rfl) ?_
     refine q_nil (fun w9 x10 => ?_)
     refine t_norm ?_
     refine c_true rfl ?_
     refine c_seq ?_
     refine c_quiet ?_
     refine q_val (v := .bool false) rfl rfl (fun w' x' => x_assign rfl rfl) ?_
     refine q_nil (fun w11 x12 => ?_)
     refine t_norm ?_
     refine c_ret ?_
     refine t_ret ?_
     exact c_done rfl rfl (Ret.b (by have hq := cmpBal_swap a.promise a.ballot; obtain ⟨i, s, p, b, c, q, d, k⟩ := a; simp_all [rightRec, within, zBal, zDep, noop, zTxn, zStp] <;> first | omega | (intros; omega) | (intros; simp_all <;> omega) | (split <;> intros <;> simp_all <;> omega) | (intros; simp only [decide_eq_true_eq, decide_eq_false_iff_not] at *; simp_all; done) | (intros; split <;> intros <;> first | omega | (simp_all <;> omega))) ((x3.trans x10).trans x12))
    ·refine q_val (v := .bool false) rfl rfl (fun w' x' => x_pick_f rfl rfl rfl) ?_
     refine q_val (v := .bool false) rfl rfl (fun w' x' => x_move rfl rfl) ?_
     refine q_val (v := .pointer (some (⟨w.heap.size, 2, none⟩))) rfl rfl (fun w' x' => x_fieldAddr fld_37_1 rfl rfl rfl) ?_
     refine q_val (v := .int .i64 a.status) rfl rfl (fun w' x' => x_load rfl rfl ((b2.ext x').one one_3 rfl)) ?_
     refine q_callb (b := within a.status 0 3) (vs := #[.int .i64 a.status, .int .i64 0, .int .i64 3]) fn_27 rfl rfl rfl (args3 rfl rfl rfl) (fun w' x' => C_wwithin _ a.status 0 3) (fun c13 => ?_) (fun c13 => ?_)
     ·refine q_val (v := .bool false) rfl rfl (fun w' x' => x_not (b := true) rfl rfl) ?_
      refine q_val (v := .bool false) rfl rfl (fun w' x' => x_pick_f rfl rfl rfl) ?_
      refine q_val (v := .bool false) rfl rfl (fun w' x' => x_move rfl rfl) ?_
      refine q_val (v := .pointer (some (⟨w.heap.size, 24, none⟩))) rfl rfl (fun w' x' => x_fieldAddr fld_37_7 rfl rfl rfl) ?_
      refine q_bool (b := a.kept) rfl rfl (fun w' x' => x_load rfl rfl ((b2.ext x').one one_4 rfl)) (fun c14 => ?_) (fun c14 => ?_)
      ·refine q_val (v := .bool true) rfl rfl (fun w' x' => x_move rfl rfl) ?_
       refine q_val (v := .pointer (some (⟨w.heap.size, 2, none⟩))) rfl rfl (fun w' x' => x_fieldAddr fld_37_1 rfl rfl rfl) ?_
       refine q_val (v := .int .i64 a.status) rfl rfl (fun w' x' => x_load rfl rfl ((b2.ext x').one one_3 rfl)) ?_
       refine q_bool (b := decide (a.status ≠ 1)) rfl rfl (fun w' x' => x_neq rfl rfl rfl) (fun c15 => ?_) (fun c15 => ?_)
       ·refine q_val (v := .bool true) rfl rfl (fun w' x' => x_pick_t rfl rfl rfl) ?_
        refine q_val (v := .bool true) rfl rfl (fun w' x' => x_pick_f rfl rfl rfl) ?_
        refine q_nil (fun w16 x17 => ?_)
        refine t_norm ?_
        refine c_true rfl ?_
        refine c_seq ?_
        refine c_quiet ?_
        refine q_val (v := .bool false) rfl rfl (fun w' x' => x_assign rfl rfl) ?_
        refine q_nil (fun w18 x19 => ?_)
        refine t_norm ?_
        refine c_ret ?_
        refine t_ret ?_
        exact c_done rfl rfl (Ret.b (by have hq := cmpBal_swap a.promise a.ballot; obtain ⟨i, s, p, b, c, q, d, k⟩ := a; simp_all [rightRec, within, zBal, zDep, noop, zTxn, zStp] <;> first | omega | (intros; omega) | (intros; simp_all <;> omega) | (split <;> intros <;> simp_all <;> omega) | (intros; simp only [decide_eq_true_eq, decide_eq_false_iff_not] at *; simp_all; done) | (intros; split <;> intros <;> first | omega | (simp_all <;> omega))) ((x3.trans x17).trans x19))
       ·refine q_val (v := .bool false) rfl rfl (fun w' x' => x_pick_t rfl rfl rfl) ?_
        refine q_val (v := .bool false) rfl rfl (fun w' x' => x_pick_f rfl rfl rfl) ?_
        refine q_nil (fun w20 x21 => ?_)
        refine t_norm ?_
        refine c_false rfl ?_
        refine c_skip ?_
        refine t_norm ?_
        refine c_seq ?_
        refine c_seq ?_
        refine c_quiet ?_
        refine q_val (v := .pointer (some (⟨w.heap.size, 2, none⟩))) rfl rfl (fun w' x' => x_fieldAddr fld_37_1 rfl rfl rfl) ?_
        refine q_val (v := .int .i64 a.status) rfl rfl (fun w' x' => x_load rfl rfl (((b2.ext x21).ext x').one one_3 rfl)) ?_
        refine q_bool (b := decide (a.status = 0)) rfl rfl (fun w' x' => x_eql rfl rfl rfl) (fun c22 => ?_) (fun c22 => ?_)
        ·refine q_nil (fun w23 x24 => ?_)
         refine t_norm ?_
         refine c_true rfl ?_
         refine c_seq ?_
         refine c_quiet ?_
         refine q_val (v := vRec a pa) rfl rfl (fun w' x' => x_load rfl rfl ((((b2.ext x21).ext x24).ext x').agg (vs := [.int .i64 a.inst.replica, .int .i64 a.inst.slot, .int .i64 a.status, .int .i64 a.promise.number, .int .i64 a.promise.replica, .int .i64 a.ballot.number, .int .i64 a.ballot.replica, .int .i64 a.cmd.kind, .int .i64 a.cmd.txn.client, .int .i64 a.cmd.txn.number, .int .i64 a.cmd.stp.time, .int .i64 a.cmd.stp.client, .int .i64 a.cmd.shards, .slice pa.A a.cmd.reads.length pa.n, .slice pa.B a.cmd.writes.length pa.m, .bool a.cmd.commit, .int .i64 a.seq, .int .i64 a.deps.d0, .int .i64 a.deps.d1, .int .i64 a.deps.d2, .int .i64 a.deps.d3, .int .i64 a.deps.d4, .int .i64 a.deps.d5, .int .i64 a.deps.d6, .bool a.kept]) agg_37_25 rfl)) ?_
         refine q_val (v := .pointer (some (⟨w.heap.size, 0, none⟩))) rfl rfl (fun w' x' => x_fieldAddr fld_37_0 rfl rfl rfl) ?_
         refine q_val (v := .agg #[.int .i64 a.inst.replica, .int .i64 a.inst.slot]) rfl rfl (fun w' x' => x_load rfl rfl ((((b2.ext x21).ext x24).ext x').agg (vs := [.int .i64 a.inst.replica, .int .i64 a.inst.slot]) agg_23_2 rfl)) ?_
         refine q_val (v := .pointer (some (⟨w.heap.size, 3, none⟩))) rfl rfl (fun w' x' => x_fieldAddr fld_37_2 rfl rfl rfl) ?_
         refine q_val (v := .agg #[.int .i64 a.promise.number, .int .i64 a.promise.replica]) rfl rfl (fun w' x' => x_load rfl rfl ((((b2.ext x21).ext x24).ext x').agg (vs := [.int .i64 a.promise.number, .int .i64 a.promise.replica]) agg_25_2 rfl)) ?_
         refine q_val (v := .agg #[.int .i64 a.inst.replica, .int .i64 a.inst.slot, .int .i64 0, .int .i64 a.promise.number, .int .i64 a.promise.replica, .int .i64 0, .int .i64 0, .int .i64 0, .int .i64 0, .int .i64 0, .int .i64 0, .int .i64 0, .int .i64 0, .slice none 0 0, .slice none 0 0, .bool false, .int .i64 0, .int .i64 0, .int .i64 0, .int .i64 0, .int .i64 0, .int .i64 0, .int .i64 0, .int .i64 0, .bool false]) rfl rfl (fun w' x' => x_build (z := [.int .i64 0, .int .i64 0, .int .i64 0, .int .i64 0, .int .i64 0, .int .i64 0, .int .i64 0, .int .i64 0, .int .i64 0, .int .i64 0, .int .i64 0, .int .i64 0, .int .i64 0, .slice none 0 0, .slice none 0 0, .bool false, .int .i64 0, .int .i64 0, .int .i64 0, .int .i64 0, .int .i64 0, .int .i64 0, .int .i64 0, .int .i64 0, .bool false]) (r := [.int .i64 a.inst.replica, .int .i64 a.inst.slot, .int .i64 0, .int .i64 a.promise.number, .int .i64 a.promise.replica, .int .i64 0, .int .i64 0, .int .i64 0, .int .i64 0, .int .i64 0, .int .i64 0, .int .i64 0, .int .i64 0, .slice none 0 0, .slice none 0 0, .bool false, .int .i64 0, .int .i64 0, .int .i64 0, .int .i64 0, .int .i64 0, .int .i64 0, .int .i64 0, .int .i64 0, .bool false]) zero_37 pl_37 rfl (partsI2 rfl rfl) (fill_cons (vs := [.int .i64 a.inst.replica, .int .i64 a.inst.slot]) (cs' := [.int .i64 a.inst.replica, .int .i64 a.inst.slot, .int .i64 0, .int .i64 0, .int .i64 0, .int .i64 0, .int .i64 0, .int .i64 0, .int .i64 0, .int .i64 0, .int .i64 0, .int .i64 0, .int .i64 0, .slice none 0 0, .slice none 0 0, .bool false, .int .i64 0, .int .i64 0, .int .i64 0, .int .i64 0, .int .i64 0, .int .i64 0, .int .i64 0, .int .i64 0, .bool false]) rfl rfl rfl rfl rfl (fill_cons (vs := [.int .i64 a.promise.number, .int .i64 a.promise.replica]) (cs' := [.int .i64 a.inst.replica, .int .i64 a.inst.slot, .int .i64 0, .int .i64 a.promise.number, .int .i64 a.promise.replica, .int .i64 0, .int .i64 0, .int .i64 0, .int .i64 0, .int .i64 0, .int .i64 0, .int .i64 0, .int .i64 0, .slice none 0 0, .slice none 0 0, .bool false, .int .i64 0, .int .i64 0, .int .i64 0, .int .i64 0, .int .i64 0, .int .i64 0, .int .i64 0, .int .i64 0, .bool false]) rfl rfl rfl rfl rfl (fill_nil)))) ?_
         refine q_callb (b := decide (a = (⟨a.inst, 0, a.promise, (⟨0, 0⟩ : Bal), (⟨0, (⟨0, 0⟩ : Txn), (⟨0, 0⟩ : Stp), 0, [], [], false⟩ : Cmd), 0, (⟨0, 0, 0, 0, 0, 0, 0⟩ : Dep), false⟩ : Rec))) (vs := #[vRec a pa, .agg #[.int .i64 a.inst.replica, .int .i64 a.inst.slot, .int .i64 0, .int .i64 a.promise.number, .int .i64 a.promise.replica, .int .i64 0, .int .i64 0, .int .i64 0, .int .i64 0, .int .i64 0, .int .i64 0, .int .i64 0, .int .i64 0, .slice none 0 0, .slice none 0 0, .bool false, .int .i64 0, .int .i64 0, .int .i64 0, .int .i64 0, .int .i64 0, .int .i64 0, .int .i64 0, .int .i64 0, .bool false]]) fn_13 rfl rfl rfl (args2 rfl rfl) (fun w' x' => C_sameRec _ a pa ((((ha.ext x3).ext x21).ext x24).ext x') (⟨a.inst, 0, a.promise, (⟨0, 0⟩ : Bal), (⟨0, (⟨0, 0⟩ : Txn), (⟨0, 0⟩ : Stp), 0, [], [], false⟩ : Cmd), 0, (⟨0, 0, 0, 0, 0, 0, 0⟩ : Dep), false⟩ : Rec) (⟨none, 0, none, 0⟩ : Ptr) (CmdAt.nil _ rfl rfl)) (fun c25 => ?_) (fun c25 => ?_)
         ·refine q_val (v := .bool true) rfl rfl (fun w' x' => x_assign rfl rfl) ?_
          refine q_nil (fun w26 x27 => ?_)
          refine t_norm ?_
          refine c_ret ?_
          refine t_ret ?_
          exact c_done rfl rfl (Ret.b (by have hq := cmpBal_swap a.promise a.ballot; obtain ⟨i, s, p, b, c, q, d, k⟩ := a; simp_all [rightRec, within, zBal, zDep, noop, zTxn, zStp] <;> first | omega | (intros; omega) | (intros; simp_all <;> omega) | (split <;> intros <;> simp_all <;> omega) | (intros; simp only [decide_eq_true_eq, decide_eq_false_iff_not] at *; simp_all; done) | (intros; split <;> intros <;> first | omega | (simp_all <;> omega))) (((x3.trans x21).trans x24).trans x27))
         ·refine q_val (v := .bool false) rfl rfl (fun w' x' => x_assign rfl rfl) ?_
          refine q_nil (fun w28 x29 => ?_)
          refine t_norm ?_
          refine c_ret ?_
          refine t_ret ?_
          exact c_done rfl rfl (Ret.b (by have hq := cmpBal_swap a.promise a.ballot; obtain ⟨i, s, p, b, c, q, d, k⟩ := a; simp_all [rightRec, within, zBal, zDep, noop, zTxn, zStp] <;> first | omega | (intros; omega) | (intros; simp_all <;> omega) | (split <;> intros <;> simp_all <;> omega) | (intros; simp only [decide_eq_true_eq, decide_eq_false_iff_not] at *; simp_all; done) | (intros; split <;> intros <;> first | omega | (simp_all <;> omega))) (((x3.trans x21).trans x24).trans x29))
        ·refine q_nil (fun w30 x31 => ?_)
         refine t_norm ?_
         refine c_false rfl ?_
         refine c_skip ?_
         refine t_norm ?_
         refine c_seq ?_
         refine c_quiet ?_
         refine q_val (v := .pointer (some (⟨w.heap.size, 7, none⟩))) rfl rfl (fun w' x' => x_fieldAddr fld_37_4 rfl rfl rfl) ?_
         refine q_val (v := .agg #[.int .i64 a.cmd.kind, .int .i64 a.cmd.txn.client, .int .i64 a.cmd.txn.number, .int .i64 a.cmd.stp.time, .int .i64 a.cmd.stp.client, .int .i64 a.cmd.shards, .slice pa.A a.cmd.reads.length pa.n, .slice pa.B a.cmd.writes.length pa.m, .bool a.cmd.commit]) rfl rfl (fun w' x' => x_load rfl rfl ((((b2.ext x21).ext x31).ext x').agg (vs := [.int .i64 a.cmd.kind, .int .i64 a.cmd.txn.client, .int .i64 a.cmd.txn.number, .int .i64 a.cmd.stp.time, .int .i64 a.cmd.stp.client, .int .i64 a.cmd.shards, .slice pa.A a.cmd.reads.length pa.n, .slice pa.B a.cmd.writes.length pa.m, .bool a.cmd.commit]) agg_33_9 rfl)) ?_
         refine q_callb (b := rightCmd a.cmd) (vs := #[.agg #[.int .i64 a.cmd.kind, .int .i64 a.cmd.txn.client, .int .i64 a.cmd.txn.number, .int .i64 a.cmd.stp.time, .int .i64 a.cmd.stp.client, .int .i64 a.cmd.shards, .slice pa.A a.cmd.reads.length pa.n, .slice pa.B a.cmd.writes.length pa.m, .bool a.cmd.commit]]) fn_28 rfl rfl rfl (args1 rfl) (fun w' x' => C_rightCmd _ a.cmd pa ((((ha.ext x3).ext x21).ext x31).ext x') hs) (fun c32 => ?_) (fun c32 => ?_)
         ·refine q_val (v := .bool true) rfl rfl (fun w' x' => x_move rfl rfl) ?_
          refine q_val (v := .pointer (some (⟨w.heap.size, 16, none⟩))) rfl rfl (fun w' x' => x_fieldAddr fld_37_5 rfl rfl rfl) ?_
          refine q_val (v := .int .i64 a.seq) rfl rfl (fun w' x' => x_load rfl rfl ((((b2.ext x21).ext x31).ext x').one one_3 rfl)) ?_
          refine q_callb (b := within a.seq 1 1099511627776) (vs := #[.int .i64 a.seq, .int .i64 1, .int .i64 1099511627776]) fn_27 rfl rfl rfl (args3 rfl rfl rfl) (fun w' x' => C_wwithin _ a.seq 1 1099511627776) (fun c33 => ?_) (fun c33 => ?_)
          ·refine q_val (v := .bool true) rfl rfl (fun w' x' => x_pick_t rfl rfl rfl) ?_
           refine q_val (v := .bool true) rfl rfl (fun w' x' => x_move rfl rfl) ?_
           refine q_val (v := .pointer (some (⟨w.heap.size, 17, none⟩))) rfl rfl (fun w' x' => x_fieldAddr fld_37_6 rfl rfl rfl) ?_
           refine q_val (v := .agg #[.int .i64 a.deps.d0, .int .i64 a.deps.d1, .int .i64 a.deps.d2, .int .i64 a.deps.d3, .int .i64 a.deps.d4, .int .i64 a.deps.d5, .int .i64 a.deps.d6]) rfl rfl (fun w' x' => x_load rfl rfl ((((b2.ext x21).ext x31).ext x').agg (vs := [.int .i64 a.deps.d0, .int .i64 a.deps.d1, .int .i64 a.deps.d2, .int .i64 a.deps.d3, .int .i64 a.deps.d4, .int .i64 a.deps.d5, .int .i64 a.deps.d6]) agg_35_7 rfl)) ?_
           refine q_callb (b := rightDep a.deps) (vs := #[.agg #[.int .i64 a.deps.d0, .int .i64 a.deps.d1, .int .i64 a.deps.d2, .int .i64 a.deps.d3, .int .i64 a.deps.d4, .int .i64 a.deps.d5, .int .i64 a.deps.d6]]) fn_29 rfl rfl rfl (args1 rfl) (fun w' x' => C_rightDep _ a.deps) (fun c34 => ?_) (fun c34 => ?_)
           ·refine q_val (v := .bool true) rfl rfl (fun w' x' => x_pick_t rfl rfl rfl) ?_
            refine q_val (v := .bool true) rfl rfl (fun w' x' => x_assign rfl rfl) ?_
            refine q_nil (fun w35 x36 => ?_)
            refine t_norm ?_
            refine c_ret ?_
            exact c_done rfl rfl (Ret.b (by have hq := cmpBal_swap a.promise a.ballot; obtain ⟨i, s, p, b, c, q, d, k⟩ := a; simp_all [rightRec, within, zBal, zDep, noop, zTxn, zStp] <;> first | omega | (intros; omega) | (intros; simp_all <;> omega) | (split <;> intros <;> simp_all <;> omega) | (intros; simp only [decide_eq_true_eq, decide_eq_false_iff_not] at *; simp_all; done) | (intros; split <;> intros <;> first | omega | (simp_all <;> omega))) (((x3.trans x21).trans x31).trans x36))
           ·refine q_val (v := .bool false) rfl rfl (fun w' x' => x_pick_t rfl rfl rfl) ?_
            refine q_val (v := .bool false) rfl rfl (fun w' x' => x_assign rfl rfl) ?_
            refine q_nil (fun w37 x38 => ?_)
            refine t_norm ?_
            refine c_ret ?_
            exact c_done rfl rfl (Ret.b (by have hq := cmpBal_swap a.promise a.ballot; obtain ⟨i, s, p, b, c, q, d, k⟩ := a; simp_all [rightRec, within, zBal, zDep, noop, zTxn, zStp] <;> first | omega | (intros; omega) | (intros; simp_all <;> omega) | (split <;> intros <;> simp_all <;> omega) | (intros; simp only [decide_eq_true_eq, decide_eq_false_iff_not] at *; simp_all; done) | (intros; split <;> intros <;> first | omega | (simp_all <;> omega))) (((x3.trans x21).trans x31).trans x38))
          ·refine q_val (v := .bool false) rfl rfl (fun w' x' => x_pick_t rfl rfl rfl) ?_
           refine q_val (v := .bool false) rfl rfl (fun w' x' => x_move rfl rfl) ?_
           refine q_skip rfl rfl ?_
           refine q_skip rfl rfl ?_
           refine q_skip rfl rfl ?_
           refine q_val (v := .bool false) rfl rfl (fun w' x' => x_pick_f rfl rfl rfl) ?_
           refine q_val (v := .bool false) rfl rfl (fun w' x' => x_assign rfl rfl) ?_
           refine q_nil (fun w39 x40 => ?_)
           refine t_norm ?_
           refine c_ret ?_
           exact c_done rfl rfl (Ret.b (by have hq := cmpBal_swap a.promise a.ballot; obtain ⟨i, s, p, b, c, q, d, k⟩ := a; simp_all [rightRec, within, zBal, zDep, noop, zTxn, zStp] <;> first | omega | (intros; omega) | (intros; simp_all <;> omega) | (split <;> intros <;> simp_all <;> omega) | (intros; simp only [decide_eq_true_eq, decide_eq_false_iff_not] at *; simp_all; done) | (intros; split <;> intros <;> first | omega | (simp_all <;> omega))) (((x3.trans x21).trans x31).trans x40))
         ·refine q_val (v := .bool false) rfl rfl (fun w' x' => x_move rfl rfl) ?_
          refine q_skip rfl rfl ?_
          refine q_skip rfl rfl ?_
          refine q_skip rfl rfl ?_
          refine q_val (v := .bool false) rfl rfl (fun w' x' => x_pick_f rfl rfl rfl) ?_
          refine q_val (v := .bool false) rfl rfl (fun w' x' => x_move rfl rfl) ?_
          refine q_skip rfl rfl ?_
          refine q_skip rfl rfl ?_
          refine q_skip rfl rfl ?_
          refine q_val (v := .bool false) rfl rfl (fun w' x' => x_pick_f rfl rfl rfl) ?_
          refine q_val (v := .bool false) rfl rfl (fun w' x' => x_assign rfl rfl) ?_
          refine q_nil (fun w41 x42 => ?_)
          refine t_norm ?_
          refine c_ret ?_
          exact c_done rfl rfl (Ret.b (by have hq := cmpBal_swap a.promise a.ballot; obtain ⟨i, s, p, b, c, q, d, k⟩ := a; simp_all [rightRec, within, zBal, zDep, noop, zTxn, zStp] <;> first | omega | (intros; omega) | (intros; simp_all <;> omega) | (split <;> intros <;> simp_all <;> omega) | (intros; simp only [decide_eq_true_eq, decide_eq_false_iff_not] at *; simp_all; done) | (intros; split <;> intros <;> first | omega | (simp_all <;> omega))) (((x3.trans x21).trans x31).trans x42))
      ·refine q_val (v := .bool false) rfl rfl (fun w' x' => x_move rfl rfl) ?_
       refine q_skip rfl rfl ?_
       refine q_skip rfl rfl ?_
       refine q_skip rfl rfl ?_
       refine q_val (v := .bool false) rfl rfl (fun w' x' => x_pick_f rfl rfl rfl) ?_
       refine q_val (v := .bool false) rfl rfl (fun w' x' => x_pick_f rfl rfl rfl) ?_
       refine q_nil (fun w43 x44 => ?_)
       refine t_norm ?_
       refine c_false rfl ?_
       refine c_skip ?_
       refine t_norm ?_
       refine c_seq ?_
       refine c_seq ?_
       refine c_quiet ?_
       refine q_val (v := .pointer (some (⟨w.heap.size, 2, none⟩))) rfl rfl (fun w' x' => x_fieldAddr fld_37_1 rfl rfl rfl) ?_
       refine q_val (v := .int .i64 a.status) rfl rfl (fun w' x' => x_load rfl rfl (((b2.ext x44).ext x').one one_3 rfl)) ?_
       refine q_bool (b := decide (a.status = 0)) rfl rfl (fun w' x' => x_eql rfl rfl rfl) (fun c45 => ?_) (fun c45 => ?_)
       ·refine q_nil (fun w46 x47 => ?_)
        refine t_norm ?_
        refine c_true rfl ?_
        refine c_seq ?_
        refine c_quiet ?_
        refine q_val (v := vRec a pa) rfl rfl (fun w' x' => x_load rfl rfl ((((b2.ext x44).ext x47).ext x').agg (vs := [.int .i64 a.inst.replica, .int .i64 a.inst.slot, .int .i64 a.status, .int .i64 a.promise.number, .int .i64 a.promise.replica, .int .i64 a.ballot.number, .int .i64 a.ballot.replica, .int .i64 a.cmd.kind, .int .i64 a.cmd.txn.client, .int .i64 a.cmd.txn.number, .int .i64 a.cmd.stp.time, .int .i64 a.cmd.stp.client, .int .i64 a.cmd.shards, .slice pa.A a.cmd.reads.length pa.n, .slice pa.B a.cmd.writes.length pa.m, .bool a.cmd.commit, .int .i64 a.seq, .int .i64 a.deps.d0, .int .i64 a.deps.d1, .int .i64 a.deps.d2, .int .i64 a.deps.d3, .int .i64 a.deps.d4, .int .i64 a.deps.d5, .int .i64 a.deps.d6, .bool a.kept]) agg_37_25 rfl)) ?_
        refine q_val (v := .pointer (some (⟨w.heap.size, 0, none⟩))) rfl rfl (fun w' x' => x_fieldAddr fld_37_0 rfl rfl rfl) ?_
        refine q_val (v := .agg #[.int .i64 a.inst.replica, .int .i64 a.inst.slot]) rfl rfl (fun w' x' => x_load rfl rfl ((((b2.ext x44).ext x47).ext x').agg (vs := [.int .i64 a.inst.replica, .int .i64 a.inst.slot]) agg_23_2 rfl)) ?_
        refine q_val (v := .pointer (some (⟨w.heap.size, 3, none⟩))) rfl rfl (fun w' x' => x_fieldAddr fld_37_2 rfl rfl rfl) ?_
        refine q_val (v := .agg #[.int .i64 a.promise.number, .int .i64 a.promise.replica]) rfl rfl (fun w' x' => x_load rfl rfl ((((b2.ext x44).ext x47).ext x').agg (vs := [.int .i64 a.promise.number, .int .i64 a.promise.replica]) agg_25_2 rfl)) ?_
        refine q_val (v := .agg #[.int .i64 a.inst.replica, .int .i64 a.inst.slot, .int .i64 0, .int .i64 a.promise.number, .int .i64 a.promise.replica, .int .i64 0, .int .i64 0, .int .i64 0, .int .i64 0, .int .i64 0, .int .i64 0, .int .i64 0, .int .i64 0, .slice none 0 0, .slice none 0 0, .bool false, .int .i64 0, .int .i64 0, .int .i64 0, .int .i64 0, .int .i64 0, .int .i64 0, .int .i64 0, .int .i64 0, .bool false]) rfl rfl (fun w' x' => x_build (z := [.int .i64 0, .int .i64 0, .int .i64 0, .int .i64 0, .int .i64 0, .int .i64 0, .int .i64 0, .int .i64 0, .int .i64 0, .int .i64 0, .int .i64 0, .int .i64 0, .int .i64 0, .slice none 0 0, .slice none 0 0, .bool false, .int .i64 0, .int .i64 0, .int .i64 0, .int .i64 0, .int .i64 0, .int .i64 0, .int .i64 0, .int .i64 0, .bool false]) (r := [.int .i64 a.inst.replica, .int .i64 a.inst.slot, .int .i64 0, .int .i64 a.promise.number, .int .i64 a.promise.replica, .int .i64 0, .int .i64 0, .int .i64 0, .int .i64 0, .int .i64 0, .int .i64 0, .int .i64 0, .int .i64 0, .slice none 0 0, .slice none 0 0, .bool false, .int .i64 0, .int .i64 0, .int .i64 0, .int .i64 0, .int .i64 0, .int .i64 0, .int .i64 0, .int .i64 0, .bool false]) zero_37 pl_37 rfl (partsI2 rfl rfl) (fill_cons (vs := [.int .i64 a.inst.replica, .int .i64 a.inst.slot]) (cs' := [.int .i64 a.inst.replica, .int .i64 a.inst.slot, .int .i64 0, .int .i64 0, .int .i64 0, .int .i64 0, .int .i64 0, .int .i64 0, .int .i64 0, .int .i64 0, .int .i64 0, .int .i64 0, .int .i64 0, .slice none 0 0, .slice none 0 0, .bool false, .int .i64 0, .int .i64 0, .int .i64 0, .int .i64 0, .int .i64 0, .int .i64 0, .int .i64 0, .int .i64 0, .bool false]) rfl rfl rfl rfl rfl (fill_cons (vs := [.int .i64 a.promise.number, .int .i64 a.promise.replica]) (cs' := [.int .i64 a.inst.replica, .int .i64 a.inst.slot, .int .i64 0, .int .i64 a.promise.number, .int .i64 a.promise.replica, .int .i64 0, .int .i64 0, .int .i64 0, .int .i64 0, .int .i64 0, .int .i64 0, .int .i64 0, .int .i64 0, .slice none 0 0, .slice none 0 0, .bool false, .int .i64 0, .int .i64 0, .int .i64 0, .int .i64 0, .int .i64 0, .int .i64 0, .int .i64 0, .int .i64 0, .bool false]) rfl rfl rfl rfl rfl (fill_nil)))) ?_
        refine q_callb (b := decide (a = (⟨a.inst, 0, a.promise, (⟨0, 0⟩ : Bal), (⟨0, (⟨0, 0⟩ : Txn), (⟨0, 0⟩ : Stp), 0, [], [], false⟩ : Cmd), 0, (⟨0, 0, 0, 0, 0, 0, 0⟩ : Dep), false⟩ : Rec))) (vs := #[vRec a pa, .agg #[.int .i64 a.inst.replica, .int .i64 a.inst.slot, .int .i64 0, .int .i64 a.promise.number, .int .i64 a.promise.replica, .int .i64 0, .int .i64 0, .int .i64 0, .int .i64 0, .int .i64 0, .int .i64 0, .int .i64 0, .int .i64 0, .slice none 0 0, .slice none 0 0, .bool false, .int .i64 0, .int .i64 0, .int .i64 0, .int .i64 0, .int .i64 0, .int .i64 0, .int .i64 0, .int .i64 0, .bool false]]) fn_13 rfl rfl rfl (args2 rfl rfl) (fun w' x' => C_sameRec _ a pa ((((ha.ext x3).ext x44).ext x47).ext x') (⟨a.inst, 0, a.promise, (⟨0, 0⟩ : Bal), (⟨0, (⟨0, 0⟩ : Txn), (⟨0, 0⟩ : Stp), 0, [], [], false⟩ : Cmd), 0, (⟨0, 0, 0, 0, 0, 0, 0⟩ : Dep), false⟩ : Rec) (⟨none, 0, none, 0⟩ : Ptr) (CmdAt.nil _ rfl rfl)) (fun c48 => ?_) (fun c48 => ?_)
        ·refine q_val (v := .bool true) rfl rfl (fun w' x' => x_assign rfl rfl) ?_
         refine q_nil (fun w49 x50 => ?_)
         refine t_norm ?_
         refine c_ret ?_
         refine t_ret ?_
         exact c_done rfl rfl (Ret.b (by have hq := cmpBal_swap a.promise a.ballot; obtain ⟨i, s, p, b, c, q, d, k⟩ := a; simp_all [rightRec, within, zBal, zDep, noop, zTxn, zStp] <;> first | omega | (intros; omega) | (intros; simp_all <;> omega) | (split <;> intros <;> simp_all <;> omega) | (intros; simp only [decide_eq_true_eq, decide_eq_false_iff_not] at *; simp_all; done) | (intros; split <;> intros <;> first | omega | (simp_all <;> omega))) (((x3.trans x44).trans x47).trans x50))
        ·refine q_val (v := .bool false) rfl rfl (fun w' x' => x_assign rfl rfl) ?_
         refine q_nil (fun w51 x52 => ?_)
         refine t_norm ?_
         refine c_ret ?_
         refine t_ret ?_
         exact c_done rfl rfl (Ret.b (by have hq := cmpBal_swap a.promise a.ballot; obtain ⟨i, s, p, b, c, q, d, k⟩ := a; simp_all [rightRec, within, zBal, zDep, noop, zTxn, zStp] <;> first | omega | (intros; omega) | (intros; simp_all <;> omega) | (split <;> intros <;> simp_all <;> omega) | (intros; simp only [decide_eq_true_eq, decide_eq_false_iff_not] at *; simp_all; done) | (intros; split <;> intros <;> first | omega | (simp_all <;> omega))) (((x3.trans x44).trans x47).trans x52))
       ·refine q_nil (fun w53 x54 => ?_)
        refine t_norm ?_
        refine c_false rfl ?_
        refine c_skip ?_
        refine t_norm ?_
        refine c_seq ?_
        refine c_quiet ?_
        refine q_val (v := .pointer (some (⟨w.heap.size, 7, none⟩))) rfl rfl (fun w' x' => x_fieldAddr fld_37_4 rfl rfl rfl) ?_
        refine q_val (v := .agg #[.int .i64 a.cmd.kind, .int .i64 a.cmd.txn.client, .int .i64 a.cmd.txn.number, .int .i64 a.cmd.stp.time, .int .i64 a.cmd.stp.client, .int .i64 a.cmd.shards, .slice pa.A a.cmd.reads.length pa.n, .slice pa.B a.cmd.writes.length pa.m, .bool a.cmd.commit]) rfl rfl (fun w' x' => x_load rfl rfl ((((b2.ext x44).ext x54).ext x').agg (vs := [.int .i64 a.cmd.kind, .int .i64 a.cmd.txn.client, .int .i64 a.cmd.txn.number, .int .i64 a.cmd.stp.time, .int .i64 a.cmd.stp.client, .int .i64 a.cmd.shards, .slice pa.A a.cmd.reads.length pa.n, .slice pa.B a.cmd.writes.length pa.m, .bool a.cmd.commit]) agg_33_9 rfl)) ?_
        refine q_callb (b := rightCmd a.cmd) (vs := #[.agg #[.int .i64 a.cmd.kind, .int .i64 a.cmd.txn.client, .int .i64 a.cmd.txn.number, .int .i64 a.cmd.stp.time, .int .i64 a.cmd.stp.client, .int .i64 a.cmd.shards, .slice pa.A a.cmd.reads.length pa.n, .slice pa.B a.cmd.writes.length pa.m, .bool a.cmd.commit]]) fn_28 rfl rfl rfl (args1 rfl) (fun w' x' => C_rightCmd _ a.cmd pa ((((ha.ext x3).ext x44).ext x54).ext x') hs) (fun c55 => ?_) (fun c55 => ?_)
        ·refine q_val (v := .bool true) rfl rfl (fun w' x' => x_move rfl rfl) ?_
         refine q_val (v := .pointer (some (⟨w.heap.size, 16, none⟩))) rfl rfl (fun w' x' => x_fieldAddr fld_37_5 rfl rfl rfl) ?_
         refine q_val (v := .int .i64 a.seq) rfl rfl (fun w' x' => x_load rfl rfl ((((b2.ext x44).ext x54).ext x').one one_3 rfl)) ?_
         refine q_callb (b := within a.seq 1 1099511627776) (vs := #[.int .i64 a.seq, .int .i64 1, .int .i64 1099511627776]) fn_27 rfl rfl rfl (args3 rfl rfl rfl) (fun w' x' => C_wwithin _ a.seq 1 1099511627776) (fun c56 => ?_) (fun c56 => ?_)
         ·refine q_val (v := .bool true) rfl rfl (fun w' x' => x_pick_t rfl rfl rfl) ?_
          refine q_val (v := .bool true) rfl rfl (fun w' x' => x_move rfl rfl) ?_
          refine q_val (v := .pointer (some (⟨w.heap.size, 17, none⟩))) rfl rfl (fun w' x' => x_fieldAddr fld_37_6 rfl rfl rfl) ?_
          refine q_val (v := .agg #[.int .i64 a.deps.d0, .int .i64 a.deps.d1, .int .i64 a.deps.d2, .int .i64 a.deps.d3, .int .i64 a.deps.d4, .int .i64 a.deps.d5, .int .i64 a.deps.d6]) rfl rfl (fun w' x' => x_load rfl rfl ((((b2.ext x44).ext x54).ext x').agg (vs := [.int .i64 a.deps.d0, .int .i64 a.deps.d1, .int .i64 a.deps.d2, .int .i64 a.deps.d3, .int .i64 a.deps.d4, .int .i64 a.deps.d5, .int .i64 a.deps.d6]) agg_35_7 rfl)) ?_
          refine q_callb (b := rightDep a.deps) (vs := #[.agg #[.int .i64 a.deps.d0, .int .i64 a.deps.d1, .int .i64 a.deps.d2, .int .i64 a.deps.d3, .int .i64 a.deps.d4, .int .i64 a.deps.d5, .int .i64 a.deps.d6]]) fn_29 rfl rfl rfl (args1 rfl) (fun w' x' => C_rightDep _ a.deps) (fun c57 => ?_) (fun c57 => ?_)
          ·refine q_val (v := .bool true) rfl rfl (fun w' x' => x_pick_t rfl rfl rfl) ?_
           refine q_val (v := .bool true) rfl rfl (fun w' x' => x_assign rfl rfl) ?_
           refine q_nil (fun w58 x59 => ?_)
           refine t_norm ?_
           refine c_ret ?_
           exact c_done rfl rfl (Ret.b (by have hq := cmpBal_swap a.promise a.ballot; obtain ⟨i, s, p, b, c, q, d, k⟩ := a; simp_all [rightRec, within, zBal, zDep, noop, zTxn, zStp] <;> first | omega | (intros; omega) | (intros; simp_all <;> omega) | (split <;> intros <;> simp_all <;> omega) | (intros; simp only [decide_eq_true_eq, decide_eq_false_iff_not] at *; simp_all; done) | (intros; split <;> intros <;> first | omega | (simp_all <;> omega))) (((x3.trans x44).trans x54).trans x59))
          ·refine q_val (v := .bool false) rfl rfl (fun w' x' => x_pick_t rfl rfl rfl) ?_
           refine q_val (v := .bool false) rfl rfl (fun w' x' => x_assign rfl rfl) ?_
           refine q_nil (fun w60 x61 => ?_)
           refine t_norm ?_
           refine c_ret ?_
           exact c_done rfl rfl (Ret.b (by have hq := cmpBal_swap a.promise a.ballot; obtain ⟨i, s, p, b, c, q, d, k⟩ := a; simp_all [rightRec, within, zBal, zDep, noop, zTxn, zStp] <;> first | omega | (intros; omega) | (intros; simp_all <;> omega) | (split <;> intros <;> simp_all <;> omega) | (intros; simp only [decide_eq_true_eq, decide_eq_false_iff_not] at *; simp_all; done) | (intros; split <;> intros <;> first | omega | (simp_all <;> omega))) (((x3.trans x44).trans x54).trans x61))
         ·refine q_val (v := .bool false) rfl rfl (fun w' x' => x_pick_t rfl rfl rfl) ?_
          refine q_val (v := .bool false) rfl rfl (fun w' x' => x_move rfl rfl) ?_
          refine q_skip rfl rfl ?_
          refine q_skip rfl rfl ?_
          refine q_skip rfl rfl ?_
          refine q_val (v := .bool false) rfl rfl (fun w' x' => x_pick_f rfl rfl rfl) ?_
          refine q_val (v := .bool false) rfl rfl (fun w' x' => x_assign rfl rfl) ?_
          refine q_nil (fun w62 x63 => ?_)
          refine t_norm ?_
          refine c_ret ?_
          exact c_done rfl rfl (Ret.b (by have hq := cmpBal_swap a.promise a.ballot; obtain ⟨i, s, p, b, c, q, d, k⟩ := a; simp_all [rightRec, within, zBal, zDep, noop, zTxn, zStp] <;> first | omega | (intros; omega) | (intros; simp_all <;> omega) | (split <;> intros <;> simp_all <;> omega) | (intros; simp only [decide_eq_true_eq, decide_eq_false_iff_not] at *; simp_all; done) | (intros; split <;> intros <;> first | omega | (simp_all <;> omega))) (((x3.trans x44).trans x54).trans x63))
        ·refine q_val (v := .bool false) rfl rfl (fun w' x' => x_move rfl rfl) ?_
         refine q_skip rfl rfl ?_
         refine q_skip rfl rfl ?_
         refine q_skip rfl rfl ?_
         refine q_val (v := .bool false) rfl rfl (fun w' x' => x_pick_f rfl rfl rfl) ?_
         refine q_val (v := .bool false) rfl rfl (fun w' x' => x_move rfl rfl) ?_
         refine q_skip rfl rfl ?_
         refine q_skip rfl rfl ?_
         refine q_skip rfl rfl ?_
         refine q_val (v := .bool false) rfl rfl (fun w' x' => x_pick_f rfl rfl rfl) ?_
         refine q_val (v := .bool false) rfl rfl (fun w' x' => x_assign rfl rfl) ?_
         refine q_nil (fun w64 x65 => ?_)
         refine t_norm ?_
         refine c_ret ?_
         exact c_done rfl rfl (Ret.b (by have hq := cmpBal_swap a.promise a.ballot; obtain ⟨i, s, p, b, c, q, d, k⟩ := a; simp_all [rightRec, within, zBal, zDep, noop, zTxn, zStp] <;> first | omega | (intros; omega) | (intros; simp_all <;> omega) | (split <;> intros <;> simp_all <;> omega) | (intros; simp only [decide_eq_true_eq, decide_eq_false_iff_not] at *; simp_all; done) | (intros; split <;> intros <;> first | omega | (simp_all <;> omega))) (((x3.trans x44).trans x54).trans x65))
     ·refine q_val (v := .bool true) rfl rfl (fun w' x' => x_not (b := false) rfl rfl) ?_
      refine q_val (v := .bool true) rfl rfl (fun w' x' => x_pick_f rfl rfl rfl) ?_
      refine q_val (v := .bool true) rfl rfl (fun w' x' => x_move rfl rfl) ?_
      refine q_skip rfl rfl ?_
      refine q_skip rfl rfl ?_
      refine q_skip rfl rfl ?_
      refine q_skip rfl rfl ?_
      refine q_skip rfl rfl ?_
      refine q_skip rfl rfl ?_
      refine q_skip rfl rfl ?_
      refine q_val (v := .bool true) rfl rfl (fun w' x' => x_pick_t rfl rfl rfl) ?_
      refine q_nil (fun w66 x67 => ?_)
      refine t_norm ?_
      refine c_true rfl ?_
      refine c_seq ?_
      refine c_quiet ?_
      refine q_val (v := .bool false) rfl rfl (fun w' x' => x_assign rfl rfl) ?_
      refine q_nil (fun w68 x69 => ?_)
      refine t_norm ?_
      refine c_ret ?_
      refine t_ret ?_
      exact c_done rfl rfl (Ret.b (by have hq := cmpBal_swap a.promise a.ballot; obtain ⟨i, s, p, b, c, q, d, k⟩ := a; simp_all [rightRec, within, zBal, zDep, noop, zTxn, zStp] <;> first | omega | (intros; omega) | (intros; simp_all <;> omega) | (split <;> intros <;> simp_all <;> omega) | (intros; simp only [decide_eq_true_eq, decide_eq_false_iff_not] at *; simp_all; done) | (intros; split <;> intros <;> first | omega | (simp_all <;> omega))) ((x3.trans x67).trans x69))
   ·refine q_val (v := .bool true) rfl rfl (fun w' x' => x_not (b := false) rfl rfl) ?_
    refine q_val (v := .bool true) rfl rfl (fun w' x' => x_pick_f rfl rfl rfl) ?_
    refine q_val (v := .bool true) rfl rfl (fun w' x' => x_move rfl rfl) ?_
    refine q_skip rfl rfl ?_
    refine q_skip rfl rfl ?_
    refine q_skip rfl rfl ?_
    refine q_skip rfl rfl ?_
    refine q_skip rfl rfl ?_
    refine q_skip rfl rfl ?_
    refine q_val (v := .bool true) rfl rfl (fun w' x' => x_pick_t rfl rfl rfl) ?_
    refine q_val (v := .bool true) rfl rfl (fun w' x' => x_move rfl rfl) ?_
    refine q_skip rfl rfl ?_
    refine q_skip rfl rfl ?_
    refine q_skip rfl rfl ?_
    refine q_skip rfl rfl ?_
    refine q_val (v := .bool true) rfl rfl (fun w' x' => x_pick_t rfl rfl rfl) ?_
    refine q_val (v := .bool true) rfl rfl (fun w' x' => x_move rfl rfl) ?_
    refine q_skip rfl rfl ?_
    refine q_skip rfl rfl ?_
    refine q_skip rfl rfl ?_
    refine q_skip rfl rfl ?_
    refine q_skip rfl rfl ?_
    refine q_skip rfl rfl ?_
    refine q_skip rfl rfl ?_
    refine q_val (v := .bool true) rfl rfl (fun w' x' => x_pick_t rfl rfl rfl) ?_
    refine q_nil (fun w70 x71 => ?_)
    refine t_norm ?_
    refine c_true rfl ?_
    refine c_seq ?_
    refine c_quiet ?_
    refine q_val (v := .bool false) rfl rfl (fun w' x' => x_assign rfl rfl) ?_
    refine q_nil (fun w72 x73 => ?_)
    refine t_norm ?_
    refine c_ret ?_
    refine t_ret ?_
    exact c_done rfl rfl (Ret.b (by have hq := cmpBal_swap a.promise a.ballot; obtain ⟨i, s, p, b, c, q, d, k⟩ := a; simp_all [rightRec, within, zBal, zDep, noop, zTxn, zStp] <;> first | omega | (intros; omega) | (intros; simp_all <;> omega) | (split <;> intros <;> simp_all <;> omega) | (intros; simp only [decide_eq_true_eq, decide_eq_false_iff_not] at *; simp_all; done) | (intros; split <;> intros <;> first | omega | (simp_all <;> omega))) ((x3.trans x71).trans x73))
  ·refine q_val (v := .bool true) rfl rfl (fun w' x' => x_not (b := false) rfl rfl) ?_
   refine q_val (v := .bool true) rfl rfl (fun w' x' => x_pick_f rfl rfl rfl) ?_
   refine q_val (v := .bool true) rfl rfl (fun w' x' => x_move rfl rfl) ?_
   refine q_skip rfl rfl ?_
   refine q_skip rfl rfl ?_
   refine q_skip rfl rfl ?_
   refine q_skip rfl rfl ?_
   refine q_val (v := .bool true) rfl rfl (fun w' x' => x_pick_t rfl rfl rfl) ?_
   refine q_val (v := .bool true) rfl rfl (fun w' x' => x_move rfl rfl) ?_
   refine q_skip rfl rfl ?_
   refine q_skip rfl rfl ?_
   refine q_skip rfl rfl ?_
   refine q_skip rfl rfl ?_
   refine q_skip rfl rfl ?_
   refine q_skip rfl rfl ?_
   refine q_val (v := .bool true) rfl rfl (fun w' x' => x_pick_t rfl rfl rfl) ?_
   refine q_val (v := .bool true) rfl rfl (fun w' x' => x_move rfl rfl) ?_
   refine q_skip rfl rfl ?_
   refine q_skip rfl rfl ?_
   refine q_skip rfl rfl ?_
   refine q_skip rfl rfl ?_
   refine q_val (v := .bool true) rfl rfl (fun w' x' => x_pick_t rfl rfl rfl) ?_
   refine q_val (v := .bool true) rfl rfl (fun w' x' => x_move rfl rfl) ?_
   refine q_skip rfl rfl ?_
   refine q_skip rfl rfl ?_
   refine q_skip rfl rfl ?_
   refine q_skip rfl rfl ?_
   refine q_skip rfl rfl ?_
   refine q_skip rfl rfl ?_
   refine q_skip rfl rfl ?_
   refine q_val (v := .bool true) rfl rfl (fun w' x' => x_pick_t rfl rfl rfl) ?_
   refine q_nil (fun w74 x75 => ?_)
   refine t_norm ?_
   refine c_true rfl ?_
   refine c_seq ?_
   refine c_quiet ?_
   refine q_val (v := .bool false) rfl rfl (fun w' x' => x_assign rfl rfl) ?_
   refine q_nil (fun w76 x77 => ?_)
   refine t_norm ?_
   refine c_ret ?_
   refine t_ret ?_
   exact c_done rfl rfl (Ret.b (by have hq := cmpBal_swap a.promise a.ballot; obtain ⟨i, s, p, b, c, q, d, k⟩ := a; simp_all [rightRec, within, zBal, zDep, noop, zTxn, zStp] <;> first | omega | (intros; omega) | (intros; simp_all <;> omega) | (split <;> intros <;> simp_all <;> omega) | (intros; simp only [decide_eq_true_eq, decide_eq_false_iff_not] at *; simp_all; done) | (intros; split <;> intros <;> first | omega | (simp_all <;> omega))) ((x3.trans x75).trans x77))
 ·refine q_val (v := .bool true) rfl rfl (fun w' x' => x_not (b := false) rfl rfl) ?_
  refine q_val (v := .bool true) rfl rfl (fun w' x' => x_move rfl rfl) ?_
  refine q_skip rfl rfl ?_
  refine q_skip rfl rfl ?_
  refine q_skip rfl rfl ?_
  refine q_skip rfl rfl ?_
  refine q_val (v := .bool true) rfl rfl (fun w' x' => x_pick_t rfl rfl rfl) ?_
  refine q_val (v := .bool true) rfl rfl (fun w' x' => x_move rfl rfl) ?_
  refine q_skip rfl rfl ?_
  refine q_skip rfl rfl ?_
  refine q_skip rfl rfl ?_
  refine q_skip rfl rfl ?_
  refine q_val (v := .bool true) rfl rfl (fun w' x' => x_pick_t rfl rfl rfl) ?_
  refine q_val (v := .bool true) rfl rfl (fun w' x' => x_move rfl rfl) ?_
  refine q_skip rfl rfl ?_
  refine q_skip rfl rfl ?_
  refine q_skip rfl rfl ?_
  refine q_skip rfl rfl ?_
  refine q_skip rfl rfl ?_
  refine q_skip rfl rfl ?_
  refine q_val (v := .bool true) rfl rfl (fun w' x' => x_pick_t rfl rfl rfl) ?_
  refine q_val (v := .bool true) rfl rfl (fun w' x' => x_move rfl rfl) ?_
  refine q_skip rfl rfl ?_
  refine q_skip rfl rfl ?_
  refine q_skip rfl rfl ?_
  refine q_skip rfl rfl ?_
  refine q_val (v := .bool true) rfl rfl (fun w' x' => x_pick_t rfl rfl rfl) ?_
  refine q_val (v := .bool true) rfl rfl (fun w' x' => x_move rfl rfl) ?_
  refine q_skip rfl rfl ?_
  refine q_skip rfl rfl ?_
  refine q_skip rfl rfl ?_
  refine q_skip rfl rfl ?_
  refine q_skip rfl rfl ?_
  refine q_skip rfl rfl ?_
  refine q_skip rfl rfl ?_
  refine q_val (v := .bool true) rfl rfl (fun w' x' => x_pick_t rfl rfl rfl) ?_
  refine q_nil (fun w78 x79 => ?_)
  refine t_norm ?_
  refine c_true rfl ?_
  refine c_seq ?_
  refine c_quiet ?_
  refine q_val (v := .bool false) rfl rfl (fun w' x' => x_assign rfl rfl) ?_
  refine q_nil (fun w80 x81 => ?_)
  refine t_norm ?_
  refine c_ret ?_
  refine t_ret ?_
  exact c_done rfl rfl (Ret.b (by have hq := cmpBal_swap a.promise a.ballot; obtain ⟨i, s, p, b, c, q, d, k⟩ := a; simp_all [rightRec, within, zBal, zDep, noop, zTxn, zStp] <;> first | omega | (intros; omega) | (intros; simp_all <;> omega) | (split <;> intros <;> simp_all <;> omega) | (intros; simp only [decide_eq_true_eq, decide_eq_false_iff_not] at *; simp_all; done) | (intros; split <;> intros <;> first | omega | (simp_all <;> omega))) ((x3.trans x79).trans x81))

set_option maxHeartbeats 1000000 in
theorem D_rightRec (w : World) (a : Rec) (pa : Ptr) (ha : CmdAt w a.cmd pa) (hs : Slim a.cmd) :
    Calls Try.prog 10 #[vRec a pa] w (Ret w (.bool (rightRec a))) := by
 refine c_enter (n := 87) Try.func10 rfl rfl rfl ?_
 refine c_seq ?_
 refine c_plain ?_
 refine p_box rfl rfl rfl rfl (fun w1 b2 x3 z4 => ?_)
 refine p_val (v := .bool false) rfl rfl (x_assign rfl rfl) ?_
 refine p_nil ?_
 refine t_norm ?_
 refine c_seq ?_
 refine c_seq ?_
 refine c_quiet ?_
 refine q_val (v := .pointer (some (⟨w.heap.size, 0, none⟩))) rfl rfl (fun w' x' => x_fieldAddr fld_37_0 rfl rfl rfl) ?_
 refine q_val (v := .agg #[.int .i64 a.inst.replica, .int .i64 a.inst.slot]) rfl rfl (fun w' x' => x_load rfl rfl ((b2.ext x').agg (vs := [.int .i64 a.inst.replica, .int .i64 a.inst.slot]) agg_23_2 rfl)) ?_
 refine q_callb (b := rightInst a.inst) (vs := #[.agg #[.int .i64 a.inst.replica, .int .i64 a.inst.slot]]) fn_30 rfl rfl rfl (args1 rfl) (fun w' x' => D_rightInst _ a.inst) (fun c5 => ?_) (fun c5 => ?_)
 ·refine q_val (v := .bool false) rfl rfl (fun w' x' => x_not (b := true) rfl rfl) ?_
  refine q_val (v := .bool false) rfl rfl (fun w' x' => x_move rfl rfl) ?_
  refine q_val (v := .pointer (some (⟨w.heap.size, 3, none⟩))) rfl rfl (fun w' x' => x_fieldAddr fld_37_2 rfl rfl rfl) ?_
  refine q_val (v := .agg #[.int .i64 a.promise.number, .int .i64 a.promise.replica]) rfl rfl (fun w' x' => x_load rfl rfl ((b2.ext x').agg (vs := [.int .i64 a.promise.number, .int .i64 a.promise.replica]) agg_25_2 rfl)) ?_
  refine q_callb (b := rightBal a.promise) (vs := #[.agg #[.int .i64 a.promise.number, .int .i64 a.promise.replica]]) fn_31 rfl rfl rfl (args1 rfl) (fun w' x' => D_rightBal _ a.promise) (fun c6 => ?_) (fun c6 => ?_)
  ·refine q_val (v := .bool false) rfl rfl (fun w' x' => x_not (b := true) rfl rfl) ?_
   refine q_val (v := .bool false) rfl rfl (fun w' x' => x_pick_f rfl rfl rfl) ?_
   refine q_val (v := .bool false) rfl rfl (fun w' x' => x_move rfl rfl) ?_
   refine q_val (v := .pointer (some (⟨w.heap.size, 5, none⟩))) rfl rfl (fun w' x' => x_fieldAddr fld_37_3 rfl rfl rfl) ?_
   refine q_val (v := .agg #[.int .i64 a.ballot.number, .int .i64 a.ballot.replica]) rfl rfl (fun w' x' => x_load rfl rfl ((b2.ext x').agg (vs := [.int .i64 a.ballot.number, .int .i64 a.ballot.replica]) agg_25_2 rfl)) ?_
   refine q_callb (b := rightBal a.ballot) (vs := #[.agg #[.int .i64 a.ballot.number, .int .i64 a.ballot.replica]]) fn_31 rfl rfl rfl (args1 rfl) (fun w' x' => D_rightBal _ a.ballot) (fun c7 => ?_) (fun c7 => ?_)
   ·refine q_val (v := .bool false) rfl rfl (fun w' x' => x_not (b := true) rfl rfl) ?_
    refine q_val (v := .bool false) rfl rfl (fun w' x' => x_pick_f rfl rfl rfl) ?_
    refine q_val (v := .bool false) rfl rfl (fun w' x' => x_move rfl rfl) ?_
    refine q_val (v := .pointer (some (⟨w.heap.size, 3, none⟩))) rfl rfl (fun w' x' => x_fieldAddr fld_37_2 rfl rfl rfl) ?_
    refine q_val (v := .agg #[.int .i64 a.promise.number, .int .i64 a.promise.replica]) rfl rfl (fun w' x' => x_load rfl rfl ((b2.ext x').agg (vs := [.int .i64 a.promise.number, .int .i64 a.promise.replica]) agg_25_2 rfl)) ?_
    refine q_val (v := .pointer (some (⟨w.heap.size, 5, none⟩))) rfl rfl (fun w' x' => x_fieldAddr fld_37_3 rfl rfl rfl) ?_
    refine q_val (v := .agg #[.int .i64 a.ballot.number, .int .i64 a.ballot.replica]) rfl rfl (fun w' x' => x_load rfl rfl ((b2.ext x').agg (vs := [.int .i64 a.ballot.number, .int .i64 a.ballot.replica]) agg_25_2 rfl)) ?_
    refine q_callb (b := decide (cmpBal a.promise a.ballot < 0)) (vs := #[.agg #[.int .i64 a.promise.number, .int .i64 a.promise.replica], .agg #[.int .i64 a.ballot.number, .int .i64 a.ballot.replica]]) fn_32 rfl rfl rfl (args2 rfl rfl) (fun w' x' => D_lower _ a.promise a.ballot) (fun c8 => ?_) (fun c8 => ?_)
    ·refine q_val (v := .bool true) rfl rfl (fun w' x' => x_pick_f rfl rfl rfl) ?_
     refine q_val (v := .bool true) rfl rfl (fun w' x' => x_move rfl rfl) ?_
     refine q_skip rfl rfl ?_
     refine q_skip rfl rfl ?_
     refine q_skip rfl rfl ?_
     refine q_skip rfl rfl ?_
     refine q_skip rfl rfl ?_
     refine q_skip rfl rfl ?_
     refine q_skip rfl rfl ?_
     refine q_val (v := .bool true) rfl rfl (fun w' x' => x_pick_t rfl rfl rfl) ?_
     refine q_nil (fun w9 x10 => ?_)
     refine t_norm ?_
     refine c_true rfl ?_
     refine c_seq ?_
     refine c_quiet ?_
     refine q_val (v := .bool false) rfl rfl (fun w' x' => x_assign rfl rfl) ?_
     refine q_nil (fun w11 x12 => ?_)
     refine t_norm ?_
     refine c_ret ?_
     refine t_ret ?_
     exact c_done rfl rfl (Ret.b (by have hq := cmpBal_swap a.promise a.ballot; obtain ⟨i, s, p, b, c, q, d, k⟩ := a; simp_all [rightRec, within, zBal, zDep, noop, zTxn, zStp] <;> first | omega | (intros; omega) | (intros; simp_all <;> omega) | (split <;> intros <;> simp_all <;> omega) | (intros; simp only [decide_eq_true_eq, decide_eq_false_iff_not] at *; simp_all; done) | (intros; split <;> intros <;> first | omega | (simp_all <;> omega))) ((x3.trans x10).trans x12))
    ·refine q_val (v := .bool false) rfl rfl (fun w' x' => x_pick_f rfl rfl rfl) ?_
     refine q_val (v := .bool false) rfl rfl (fun w' x' => x_move rfl rfl) ?_
     refine q_val (v := .pointer (some (⟨w.heap.size, 24, none⟩))) rfl rfl (fun w' x' => x_fieldAddr fld_37_7 rfl rfl rfl) ?_
     refine q_bool (b := a.kept) rfl rfl (fun w' x' => x_load rfl rfl ((b2.ext x').one one_4 rfl)) (fun c13 => ?_) (fun c13 => ?_)
     ·refine q_val (v := .bool true) rfl rfl (fun w' x' => x_move rfl rfl) ?_
      refine q_val (v := .pointer (some (⟨w.heap.size, 2, none⟩))) rfl rfl (fun w' x' => x_fieldAddr fld_37_1 rfl rfl rfl) ?_
      refine q_val (v := .int .i64 a.status) rfl rfl (fun w' x' => x_load rfl rfl ((b2.ext x').one one_3 rfl)) ?_
      refine q_bool (b := decide (a.status ≠ 1)) rfl rfl (fun w' x' => x_neq rfl rfl rfl) (fun c14 => ?_) (fun c14 => ?_)
      ·refine q_val (v := .bool true) rfl rfl (fun w' x' => x_pick_t rfl rfl rfl) ?_
       refine q_val (v := .bool true) rfl rfl (fun w' x' => x_pick_f rfl rfl rfl) ?_
       refine q_nil (fun w15 x16 => ?_)
       refine t_norm ?_
       refine c_true rfl ?_
       refine c_seq ?_
       refine c_quiet ?_
       refine q_val (v := .bool false) rfl rfl (fun w' x' => x_assign rfl rfl) ?_
       refine q_nil (fun w17 x18 => ?_)
       refine t_norm ?_
       refine c_ret ?_
       refine t_ret ?_
       exact c_done rfl rfl (Ret.b (by have hq := cmpBal_swap a.promise a.ballot; obtain ⟨i, s, p, b, c, q, d, k⟩ := a; simp_all [rightRec, within, zBal, zDep, noop, zTxn, zStp] <;> first | omega | (intros; omega) | (intros; simp_all <;> omega) | (split <;> intros <;> simp_all <;> omega) | (intros; simp only [decide_eq_true_eq, decide_eq_false_iff_not] at *; simp_all; done) | (intros; split <;> intros <;> first | omega | (simp_all <;> omega))) ((x3.trans x16).trans x18))
      ·refine q_val (v := .bool false) rfl rfl (fun w' x' => x_pick_t rfl rfl rfl) ?_
       refine q_val (v := .bool false) rfl rfl (fun w' x' => x_pick_f rfl rfl rfl) ?_
       refine q_nil (fun w19 x20 => ?_)
       refine t_norm ?_
       refine c_false rfl ?_
       refine c_skip ?_
       refine t_norm ?_
       refine c_seq ?_
       refine c_seq ?_
       refine c_quiet ?_
       refine q_val (v := .pointer (some (⟨w.heap.size, 2, none⟩))) rfl rfl (fun w' x' => x_fieldAddr fld_37_1 rfl rfl rfl) ?_
       refine q_val (v := .int .i64 a.status) rfl rfl (fun w' x' => x_load rfl rfl (((b2.ext x20).ext x').one one_3 rfl)) ?_
       refine q_bool (b := decide (a.status = 0)) rfl rfl (fun w' x' => x_eql rfl rfl rfl) (fun c21 => ?_) (fun c21 => ?_)
       ·refine q_nil (fun w22 x23 => ?_)
        refine t_norm ?_
        refine c_true rfl ?_
        refine c_seq ?_
        refine c_quiet ?_
        refine q_val (v := .pointer (some (⟨w.heap.size, 5, none⟩))) rfl rfl (fun w' x' => x_fieldAddr fld_37_3 rfl rfl rfl) ?_
        refine q_val (v := .agg #[.int .i64 a.ballot.number, .int .i64 a.ballot.replica]) rfl rfl (fun w' x' => x_load rfl rfl ((((b2.ext x20).ext x23).ext x').agg (vs := [.int .i64 a.ballot.number, .int .i64 a.ballot.replica]) agg_25_2 rfl)) ?_
        refine q_val (v := .agg #[.int .i64 0, .int .i64 0]) rfl rfl (fun w' x' => x_build0 zero_25 bld_25 rfl) ?_
        refine q_bool (b := decide (a.ballot = (⟨0, 0⟩ : Bal))) rfl rfl (fun w' x' => x_eqBal ints2_25 rfl rfl rfl) (fun c24 => ?_) (fun c24 => ?_)
        ·refine q_val (v := .bool true) rfl rfl (fun w' x' => x_move rfl rfl) ?_
         refine q_val (v := .pointer (some (⟨w.heap.size, 16, none⟩))) rfl rfl (fun w' x' => x_fieldAddr fld_37_5 rfl rfl rfl) ?_
         refine q_val (v := .int .i64 a.seq) rfl rfl (fun w' x' => x_load rfl rfl ((((b2.ext x20).ext x23).ext x').one one_3 rfl)) ?_
         refine q_bool (b := decide (a.seq = 0)) rfl rfl (fun w' x' => x_eql rfl rfl rfl) (fun c25 => ?_) (fun c25 => ?_)
         ·refine q_val (v := .bool true) rfl rfl (fun w' x' => x_pick_t rfl rfl rfl) ?_
          refine q_val (v := .bool true) rfl rfl (fun w' x' => x_move rfl rfl) ?_
          refine q_val (v := .pointer (some (⟨w.heap.size, 17, none⟩))) rfl rfl (fun w' x' => x_fieldAddr fld_37_6 rfl rfl rfl) ?_
          refine q_val (v := .agg #[.int .i64 a.deps.d0, .int .i64 a.deps.d1, .int .i64 a.deps.d2, .int .i64 a.deps.d3, .int .i64 a.deps.d4, .int .i64 a.deps.d5, .int .i64 a.deps.d6]) rfl rfl (fun w' x' => x_load rfl rfl ((((b2.ext x20).ext x23).ext x').agg (vs := [.int .i64 a.deps.d0, .int .i64 a.deps.d1, .int .i64 a.deps.d2, .int .i64 a.deps.d3, .int .i64 a.deps.d4, .int .i64 a.deps.d5, .int .i64 a.deps.d6]) agg_35_7 rfl)) ?_
          refine q_val (v := .agg #[.int .i64 0, .int .i64 0, .int .i64 0, .int .i64 0, .int .i64 0, .int .i64 0, .int .i64 0]) rfl rfl (fun w' x' => x_build0a zero_35 bld_35 rfl) ?_
          refine q_bool (b := decide (a.deps = (⟨0, 0, 0, 0, 0, 0, 0⟩ : Dep))) rfl rfl (fun w' x' => x_eqDep intsT_35 rfl rfl rfl) (fun c26 => ?_) (fun c26 => ?_)
          ·refine q_val (v := .bool true) rfl rfl (fun w' x' => x_pick_t rfl rfl rfl) ?_
           refine q_val (v := .bool true) rfl rfl (fun w' x' => x_move rfl rfl) ?_
           refine q_val (v := .pointer (some (⟨w.heap.size, 7, none⟩))) rfl rfl (fun w' x' => x_fieldAddr fld_37_4 rfl rfl rfl) ?_
           refine q_val (v := .agg #[.int .i64 a.cmd.kind, .int .i64 a.cmd.txn.client, .int .i64 a.cmd.txn.number, .int .i64 a.cmd.stp.time, .int .i64 a.cmd.stp.client, .int .i64 a.cmd.shards, .slice pa.A a.cmd.reads.length pa.n, .slice pa.B a.cmd.writes.length pa.m, .bool a.cmd.commit]) rfl rfl (fun w' x' => x_load rfl rfl ((((b2.ext x20).ext x23).ext x').agg (vs := [.int .i64 a.cmd.kind, .int .i64 a.cmd.txn.client, .int .i64 a.cmd.txn.number, .int .i64 a.cmd.stp.time, .int .i64 a.cmd.stp.client, .int .i64 a.cmd.shards, .slice pa.A a.cmd.reads.length pa.n, .slice pa.B a.cmd.writes.length pa.m, .bool a.cmd.commit]) agg_33_9 rfl)) ?_
           refine q_val (v := .agg #[.int .i64 0, .int .i64 0, .int .i64 0, .int .i64 0, .int .i64 0, .int .i64 0, .slice none 0 0, .slice none 0 0, .bool false]) rfl rfl (fun w' x' => x_build0 zero_33 bld_33 rfl) ?_
           refine q_callb (b := decide (a.cmd = (⟨0, (⟨0, 0⟩ : Txn), (⟨0, 0⟩ : Stp), 0, [], [], false⟩ : Cmd))) (vs := #[.agg #[.int .i64 a.cmd.kind, .int .i64 a.cmd.txn.client, .int .i64 a.cmd.txn.number, .int .i64 a.cmd.stp.time, .int .i64 a.cmd.stp.client, .int .i64 a.cmd.shards, .slice pa.A a.cmd.reads.length pa.n, .slice pa.B a.cmd.writes.length pa.m, .bool a.cmd.commit], .agg #[.int .i64 0, .int .i64 0, .int .i64 0, .int .i64 0, .int .i64 0, .int .i64 0, .slice none 0 0, .slice none 0 0, .bool false]]) fn_33 rfl rfl rfl (args2 rfl rfl) (fun w' x' => D_sameCmd _ a.cmd pa ((((ha.ext x3).ext x20).ext x23).ext x') (⟨0, (⟨0, 0⟩ : Txn), (⟨0, 0⟩ : Stp), 0, [], [], false⟩ : Cmd) (⟨none, 0, none, 0⟩ : Ptr) (CmdAt.nil _ rfl rfl)) (fun c27 => ?_) (fun c27 => ?_)
           ·refine q_val (v := .bool true) rfl rfl (fun w' x' => x_pick_t rfl rfl rfl) ?_
            refine q_val (v := .bool true) rfl rfl (fun w' x' => x_assign rfl rfl) ?_
            refine q_nil (fun w28 x29 => ?_)
            refine t_norm ?_
            refine c_ret ?_
            refine t_ret ?_
            exact c_done rfl rfl (Ret.b (by have hq := cmpBal_swap a.promise a.ballot; obtain ⟨i, s, p, b, c, q, d, k⟩ := a; simp_all [rightRec, within, zBal, zDep, noop, zTxn, zStp] <;> first | omega | (intros; omega) | (intros; simp_all <;> omega) | (split <;> intros <;> simp_all <;> omega) | (intros; simp only [decide_eq_true_eq, decide_eq_false_iff_not] at *; simp_all; done) | (intros; split <;> intros <;> first | omega | (simp_all <;> omega))) (((x3.trans x20).trans x23).trans x29))
           ·refine q_val (v := .bool false) rfl rfl (fun w' x' => x_pick_t rfl rfl rfl) ?_
            refine q_val (v := .bool false) rfl rfl (fun w' x' => x_assign rfl rfl) ?_
            refine q_nil (fun w30 x31 => ?_)
            refine t_norm ?_
            refine c_ret ?_
            refine t_ret ?_
            exact c_done rfl rfl (Ret.b (by have hq := cmpBal_swap a.promise a.ballot; obtain ⟨i, s, p, b, c, q, d, k⟩ := a; simp_all [rightRec, within, zBal, zDep, noop, zTxn, zStp] <;> first | omega | (intros; omega) | (intros; simp_all <;> omega) | (split <;> intros <;> simp_all <;> omega) | (intros; simp only [decide_eq_true_eq, decide_eq_false_iff_not] at *; simp_all; done) | (intros; split <;> intros <;> first | omega | (simp_all <;> omega))) (((x3.trans x20).trans x23).trans x31))
          ·refine q_val (v := .bool false) rfl rfl (fun w' x' => x_pick_t rfl rfl rfl) ?_
           refine q_val (v := .bool false) rfl rfl (fun w' x' => x_move rfl rfl) ?_
           refine q_skip rfl rfl ?_
           refine q_skip rfl rfl ?_
           refine q_skip rfl rfl ?_
           refine q_skip rfl rfl ?_
           refine q_val (v := .bool false) rfl rfl (fun w' x' => x_pick_f rfl rfl rfl) ?_
           refine q_val (v := .bool false) rfl rfl (fun w' x' => x_assign rfl rfl) ?_
           refine q_nil (fun w32 x33 => ?_)
           refine t_norm ?_
           refine c_ret ?_
           refine t_ret ?_
           exact c_done rfl rfl (Ret.b (by have hq := cmpBal_swap a.promise a.ballot; obtain ⟨i, s, p, b, c, q, d, k⟩ := a; simp_all [rightRec, within, zBal, zDep, noop, zTxn, zStp] <;> first | omega | (intros; omega) | (intros; simp_all <;> omega) | (split <;> intros <;> simp_all <;> omega) | (intros; simp only [decide_eq_true_eq, decide_eq_false_iff_not] at *; simp_all; done) | (intros; split <;> intros <;> first | omega | (simp_all <;> omega))) (((x3.trans x20).trans x23).trans x33))
         ·refine q_val (v := .bool false) rfl rfl (fun w' x' => x_pick_t rfl rfl rfl) ?_
          refine q_val (v := .bool false) rfl rfl (fun w' x' => x_move rfl rfl) ?_
          refine q_skip rfl rfl ?_
          refine q_skip rfl rfl ?_
          refine q_skip rfl rfl ?_
          refine q_skip rfl rfl ?_
          refine q_val (v := .bool false) rfl rfl (fun w' x' => x_pick_f rfl rfl rfl) ?_
          refine q_val (v := .bool false) rfl rfl (fun w' x' => x_move rfl rfl) ?_
          refine q_skip rfl rfl ?_
          refine q_skip rfl rfl ?_
          refine q_skip rfl rfl ?_
          refine q_skip rfl rfl ?_
          refine q_val (v := .bool false) rfl rfl (fun w' x' => x_pick_f rfl rfl rfl) ?_
          refine q_val (v := .bool false) rfl rfl (fun w' x' => x_assign rfl rfl) ?_
          refine q_nil (fun w34 x35 => ?_)
          refine t_norm ?_
          refine c_ret ?_
          refine t_ret ?_
          exact c_done rfl rfl (Ret.b (by have hq := cmpBal_swap a.promise a.ballot; obtain ⟨i, s, p, b, c, q, d, k⟩ := a; simp_all [rightRec, within, zBal, zDep, noop, zTxn, zStp] <;> first | omega | (intros; omega) | (intros; simp_all <;> omega) | (split <;> intros <;> simp_all <;> omega) | (intros; simp only [decide_eq_true_eq, decide_eq_false_iff_not] at *; simp_all; done) | (intros; split <;> intros <;> first | omega | (simp_all <;> omega))) (((x3.trans x20).trans x23).trans x35))
        ·refine q_val (v := .bool false) rfl rfl (fun w' x' => x_move rfl rfl) ?_
         refine q_skip rfl rfl ?_
         refine q_skip rfl rfl ?_
         refine q_skip rfl rfl ?_
         refine q_val (v := .bool false) rfl rfl (fun w' x' => x_pick_f rfl rfl rfl) ?_
         refine q_val (v := .bool false) rfl rfl (fun w' x' => x_move rfl rfl) ?_
         refine q_skip rfl rfl ?_
         refine q_skip rfl rfl ?_
         refine q_skip rfl rfl ?_
         refine q_skip rfl rfl ?_
         refine q_val (v := .bool false) rfl rfl (fun w' x' => x_pick_f rfl rfl rfl) ?_
         refine q_val (v := .bool false) rfl rfl (fun w' x' => x_move rfl rfl) ?_
         refine q_skip rfl rfl ?_
         refine q_skip rfl rfl ?_
         refine q_skip rfl rfl ?_
         refine q_skip rfl rfl ?_
         refine q_val (v := .bool false) rfl rfl (fun w' x' => x_pick_f rfl rfl rfl) ?_
         refine q_val (v := .bool false) rfl rfl (fun w' x' => x_assign rfl rfl) ?_
         refine q_nil (fun w36 x37 => ?_)
         refine t_norm ?_
         refine c_ret ?_
         refine t_ret ?_
         exact c_done rfl rfl (Ret.b (by have hq := cmpBal_swap a.promise a.ballot; obtain ⟨i, s, p, b, c, q, d, k⟩ := a; simp_all [rightRec, within, zBal, zDep, noop, zTxn, zStp] <;> first | omega | (intros; omega) | (intros; simp_all <;> omega) | (split <;> intros <;> simp_all <;> omega) | (intros; simp only [decide_eq_true_eq, decide_eq_false_iff_not] at *; simp_all; done) | (intros; split <;> intros <;> first | omega | (simp_all <;> omega))) (((x3.trans x20).trans x23).trans x37))
       ·refine q_nil (fun w38 x39 => ?_)
        refine t_norm ?_
        refine c_false rfl ?_
        refine c_skip ?_
        refine t_norm ?_
        refine c_seq ?_
        refine c_quiet ?_
        refine q_val (v := .pointer (some (⟨w.heap.size, 2, none⟩))) rfl rfl (fun w' x' => x_fieldAddr fld_37_1 rfl rfl rfl) ?_
        refine q_val (v := .int .i64 a.status) rfl rfl (fun w' x' => x_load rfl rfl ((((b2.ext x20).ext x39).ext x').one one_3 rfl)) ?_
        refine q_bool (b := decide (a.status ≥ 1)) rfl rfl (fun w' x' => x_geq rfl rfl rfl) (fun c40 => ?_) (fun c40 => ?_)
        ·refine q_val (v := .bool true) rfl rfl (fun w' x' => x_move rfl rfl) ?_
         refine q_val (v := .pointer (some (⟨w.heap.size, 2, none⟩))) rfl rfl (fun w' x' => x_fieldAddr fld_37_1 rfl rfl rfl) ?_
         refine q_val (v := .int .i64 a.status) rfl rfl (fun w' x' => x_load rfl rfl ((((b2.ext x20).ext x39).ext x').one one_3 rfl)) ?_
         refine q_bool (b := decide (a.status ≤ 3)) rfl rfl (fun w' x' => x_leq rfl rfl rfl) (fun c41 => ?_) (fun c41 => ?_)
         ·refine q_val (v := .bool true) rfl rfl (fun w' x' => x_pick_t rfl rfl rfl) ?_
          refine q_val (v := .bool true) rfl rfl (fun w' x' => x_move rfl rfl) ?_
          refine q_val (v := .pointer (some (⟨w.heap.size, 7, none⟩))) rfl rfl (fun w' x' => x_fieldAddr fld_37_4 rfl rfl rfl) ?_
          refine q_val (v := .agg #[.int .i64 a.cmd.kind, .int .i64 a.cmd.txn.client, .int .i64 a.cmd.txn.number, .int .i64 a.cmd.stp.time, .int .i64 a.cmd.stp.client, .int .i64 a.cmd.shards, .slice pa.A a.cmd.reads.length pa.n, .slice pa.B a.cmd.writes.length pa.m, .bool a.cmd.commit]) rfl rfl (fun w' x' => x_load rfl rfl ((((b2.ext x20).ext x39).ext x').agg (vs := [.int .i64 a.cmd.kind, .int .i64 a.cmd.txn.client, .int .i64 a.cmd.txn.number, .int .i64 a.cmd.stp.time, .int .i64 a.cmd.stp.client, .int .i64 a.cmd.shards, .slice pa.A a.cmd.reads.length pa.n, .slice pa.B a.cmd.writes.length pa.m, .bool a.cmd.commit]) agg_33_9 rfl)) ?_
          refine q_callb (b := rightCmd a.cmd) (vs := #[.agg #[.int .i64 a.cmd.kind, .int .i64 a.cmd.txn.client, .int .i64 a.cmd.txn.number, .int .i64 a.cmd.stp.time, .int .i64 a.cmd.stp.client, .int .i64 a.cmd.shards, .slice pa.A a.cmd.reads.length pa.n, .slice pa.B a.cmd.writes.length pa.m, .bool a.cmd.commit]]) fn_16 rfl rfl rfl (args1 rfl) (fun w' x' => D_rightCmd _ a.cmd pa ((((ha.ext x3).ext x20).ext x39).ext x') hs) (fun c42 => ?_) (fun c42 => ?_)
          ·refine q_val (v := .bool true) rfl rfl (fun w' x' => x_pick_t rfl rfl rfl) ?_
           refine q_val (v := .bool true) rfl rfl (fun w' x' => x_move rfl rfl) ?_
           refine q_val (v := .pointer (some (⟨w.heap.size, 16, none⟩))) rfl rfl (fun w' x' => x_fieldAddr fld_37_5 rfl rfl rfl) ?_
           refine q_val (v := .int .i64 a.seq) rfl rfl (fun w' x' => x_load rfl rfl ((((b2.ext x20).ext x39).ext x').one one_3 rfl)) ?_
           refine q_bool (b := decide (a.seq ≥ 1)) rfl rfl (fun w' x' => x_geq rfl rfl rfl) (fun c43 => ?_) (fun c43 => ?_)
           ·refine q_val (v := .bool true) rfl rfl (fun w' x' => x_pick_t rfl rfl rfl) ?_
            refine q_val (v := .bool true) rfl rfl (fun w' x' => x_move rfl rfl) ?_
            refine q_val (v := .pointer (some (⟨w.heap.size, 16, none⟩))) rfl rfl (fun w' x' => x_fieldAddr fld_37_5 rfl rfl rfl) ?_
            refine q_val (v := .int .i64 a.seq) rfl rfl (fun w' x' => x_load rfl rfl ((((b2.ext x20).ext x39).ext x').one one_3 rfl)) ?_
            refine q_bool (b := decide (a.seq ≤ 1099511627776)) rfl rfl (fun w' x' => x_leq rfl rfl rfl) (fun c44 => ?_) (fun c44 => ?_)
            ·refine q_val (v := .bool true) rfl rfl (fun w' x' => x_pick_t rfl rfl rfl) ?_
             refine q_val (v := .bool true) rfl rfl (fun w' x' => x_move rfl rfl) ?_
             refine q_val (v := .pointer (some (⟨w.heap.size, 17, none⟩))) rfl rfl (fun w' x' => x_fieldAddr fld_37_6 rfl rfl rfl) ?_
             refine q_val (v := .agg #[.int .i64 a.deps.d0, .int .i64 a.deps.d1, .int .i64 a.deps.d2, .int .i64 a.deps.d3, .int .i64 a.deps.d4, .int .i64 a.deps.d5, .int .i64 a.deps.d6]) rfl rfl (fun w' x' => x_load rfl rfl ((((b2.ext x20).ext x39).ext x').agg (vs := [.int .i64 a.deps.d0, .int .i64 a.deps.d1, .int .i64 a.deps.d2, .int .i64 a.deps.d3, .int .i64 a.deps.d4, .int .i64 a.deps.d5, .int .i64 a.deps.d6]) agg_35_7 rfl)) ?_
             refine q_callb (b := rightDep a.deps) (vs := #[.agg #[.int .i64 a.deps.d0, .int .i64 a.deps.d1, .int .i64 a.deps.d2, .int .i64 a.deps.d3, .int .i64 a.deps.d4, .int .i64 a.deps.d5, .int .i64 a.deps.d6]]) fn_34 rfl rfl rfl (args1 rfl) (fun w' x' => D_rightDep _ a.deps) (fun c45 => ?_) (fun c45 => ?_)
             ·refine q_val (v := .bool true) rfl rfl (fun w' x' => x_pick_t rfl rfl rfl) ?_
              refine q_val (v := .bool true) rfl rfl (fun w' x' => x_assign rfl rfl) ?_
              refine q_nil (fun w46 x47 => ?_)
              refine t_norm ?_
              refine c_ret ?_
              exact c_done rfl rfl (Ret.b (by have hq := cmpBal_swap a.promise a.ballot; obtain ⟨i, s, p, b, c, q, d, k⟩ := a; simp_all [rightRec, within, zBal, zDep, noop, zTxn, zStp] <;> first | omega | (intros; omega) | (intros; simp_all <;> omega) | (split <;> intros <;> simp_all <;> omega) | (intros; simp only [decide_eq_true_eq, decide_eq_false_iff_not] at *; simp_all; done) | (intros; split <;> intros <;> first | omega | (simp_all <;> omega))) (((x3.trans x20).trans x39).trans x47))
             ·refine q_val (v := .bool false) rfl rfl (fun w' x' => x_pick_t rfl rfl rfl) ?_
              refine q_val (v := .bool false) rfl rfl (fun w' x' => x_assign rfl rfl) ?_
              refine q_nil (fun w48 x49 => ?_)
              refine t_norm ?_
              refine c_ret ?_
              exact c_done rfl rfl (Ret.b (by have hq := cmpBal_swap a.promise a.ballot; obtain ⟨i, s, p, b, c, q, d, k⟩ := a; simp_all [rightRec, within, zBal, zDep, noop, zTxn, zStp] <;> first | omega | (intros; omega) | (intros; simp_all <;> omega) | (split <;> intros <;> simp_all <;> omega) | (intros; simp only [decide_eq_true_eq, decide_eq_false_iff_not] at *; simp_all; done) | (intros; split <;> intros <;> first | omega | (simp_all <;> omega))) (((x3.trans x20).trans x39).trans x49))
            ·refine q_val (v := .bool false) rfl rfl (fun w' x' => x_pick_t rfl rfl rfl) ?_
             refine q_val (v := .bool false) rfl rfl (fun w' x' => x_move rfl rfl) ?_
             refine q_skip rfl rfl ?_
             refine q_skip rfl rfl ?_
             refine q_skip rfl rfl ?_
             refine q_val (v := .bool false) rfl rfl (fun w' x' => x_pick_f rfl rfl rfl) ?_
             refine q_val (v := .bool false) rfl rfl (fun w' x' => x_assign rfl rfl) ?_
             refine q_nil (fun w50 x51 => ?_)
             refine t_norm ?_
             refine c_ret ?_
             exact c_done rfl rfl (Ret.b (by have hq := cmpBal_swap a.promise a.ballot; obtain ⟨i, s, p, b, c, q, d, k⟩ := a; simp_all [rightRec, within, zBal, zDep, noop, zTxn, zStp] <;> first | omega | (intros; omega) | (intros; simp_all <;> omega) | (split <;> intros <;> simp_all <;> omega) | (intros; simp only [decide_eq_true_eq, decide_eq_false_iff_not] at *; simp_all; done) | (intros; split <;> intros <;> first | omega | (simp_all <;> omega))) (((x3.trans x20).trans x39).trans x51))
           ·refine q_val (v := .bool false) rfl rfl (fun w' x' => x_pick_t rfl rfl rfl) ?_
            refine q_val (v := .bool false) rfl rfl (fun w' x' => x_move rfl rfl) ?_
            refine q_skip rfl rfl ?_
            refine q_skip rfl rfl ?_
            refine q_skip rfl rfl ?_
            refine q_val (v := .bool false) rfl rfl (fun w' x' => x_pick_f rfl rfl rfl) ?_
            refine q_val (v := .bool false) rfl rfl (fun w' x' => x_move rfl rfl) ?_
            refine q_skip rfl rfl ?_
            refine q_skip rfl rfl ?_
            refine q_skip rfl rfl ?_
            refine q_val (v := .bool false) rfl rfl (fun w' x' => x_pick_f rfl rfl rfl) ?_
            refine q_val (v := .bool false) rfl rfl (fun w' x' => x_assign rfl rfl) ?_
            refine q_nil (fun w52 x53 => ?_)
            refine t_norm ?_
            refine c_ret ?_
            exact c_done rfl rfl (Ret.b (by have hq := cmpBal_swap a.promise a.ballot; obtain ⟨i, s, p, b, c, q, d, k⟩ := a; simp_all [rightRec, within, zBal, zDep, noop, zTxn, zStp] <;> first | omega | (intros; omega) | (intros; simp_all <;> omega) | (split <;> intros <;> simp_all <;> omega) | (intros; simp only [decide_eq_true_eq, decide_eq_false_iff_not] at *; simp_all; done) | (intros; split <;> intros <;> first | omega | (simp_all <;> omega))) (((x3.trans x20).trans x39).trans x53))
          ·refine q_val (v := .bool false) rfl rfl (fun w' x' => x_pick_t rfl rfl rfl) ?_
           refine q_val (v := .bool false) rfl rfl (fun w' x' => x_move rfl rfl) ?_
           refine q_skip rfl rfl ?_
           refine q_skip rfl rfl ?_
           refine q_skip rfl rfl ?_
           refine q_val (v := .bool false) rfl rfl (fun w' x' => x_pick_f rfl rfl rfl) ?_
           refine q_val (v := .bool false) rfl rfl (fun w' x' => x_move rfl rfl) ?_
           refine q_skip rfl rfl ?_
           refine q_skip rfl rfl ?_
           refine q_skip rfl rfl ?_
           refine q_val (v := .bool false) rfl rfl (fun w' x' => x_pick_f rfl rfl rfl) ?_
           refine q_val (v := .bool false) rfl rfl (fun w' x' => x_move rfl rfl) ?_
           refine q_skip rfl rfl ?_
           refine q_skip rfl rfl ?_
           refine q_skip rfl rfl ?_
           refine q_val (v := .bool false) rfl rfl (fun w' x' => x_pick_f rfl rfl rfl) ?_
           refine q_val (v := .bool false) rfl rfl (fun w' x' => x_assign rfl rfl) ?_
           refine q_nil (fun w54 x55 => ?_)
           refine t_norm ?_
           refine c_ret ?_
           exact c_done rfl rfl (Ret.b (by have hq := cmpBal_swap a.promise a.ballot; obtain ⟨i, s, p, b, c, q, d, k⟩ := a; simp_all [rightRec, within, zBal, zDep, noop, zTxn, zStp] <;> first | omega | (intros; omega) | (intros; simp_all <;> omega) | (split <;> intros <;> simp_all <;> omega) | (intros; simp only [decide_eq_true_eq, decide_eq_false_iff_not] at *; simp_all; done) | (intros; split <;> intros <;> first | omega | (simp_all <;> omega))) (((x3.trans x20).trans x39).trans x55))
         ·refine q_val (v := .bool false) rfl rfl (fun w' x' => x_pick_t rfl rfl rfl) ?_
          refine q_val (v := .bool false) rfl rfl (fun w' x' => x_move rfl rfl) ?_
          refine q_skip rfl rfl ?_
          refine q_skip rfl rfl ?_
          refine q_skip rfl rfl ?_
          refine q_val (v := .bool false) rfl rfl (fun w' x' => x_pick_f rfl rfl rfl) ?_
          refine q_val (v := .bool false) rfl rfl (fun w' x' => x_move rfl rfl) ?_
          refine q_skip rfl rfl ?_
          refine q_skip rfl rfl ?_
          refine q_skip rfl rfl ?_
          refine q_val (v := .bool false) rfl rfl (fun w' x' => x_pick_f rfl rfl rfl) ?_
          refine q_val (v := .bool false) rfl rfl (fun w' x' => x_move rfl rfl) ?_
          refine q_skip rfl rfl ?_
          refine q_skip rfl rfl ?_
          refine q_skip rfl rfl ?_
          refine q_val (v := .bool false) rfl rfl (fun w' x' => x_pick_f rfl rfl rfl) ?_
          refine q_val (v := .bool false) rfl rfl (fun w' x' => x_move rfl rfl) ?_
          refine q_skip rfl rfl ?_
          refine q_skip rfl rfl ?_
          refine q_skip rfl rfl ?_
          refine q_val (v := .bool false) rfl rfl (fun w' x' => x_pick_f rfl rfl rfl) ?_
          refine q_val (v := .bool false) rfl rfl (fun w' x' => x_assign rfl rfl) ?_
          refine q_nil (fun w56 x57 => ?_)
          refine t_norm ?_
          refine c_ret ?_
          exact c_done rfl rfl (Ret.b (by have hq := cmpBal_swap a.promise a.ballot; obtain ⟨i, s, p, b, c, q, d, k⟩ := a; simp_all [rightRec, within, zBal, zDep, noop, zTxn, zStp] <;> first | omega | (intros; omega) | (intros; simp_all <;> omega) | (split <;> intros <;> simp_all <;> omega) | (intros; simp only [decide_eq_true_eq, decide_eq_false_iff_not] at *; simp_all; done) | (intros; split <;> intros <;> first | omega | (simp_all <;> omega))) (((x3.trans x20).trans x39).trans x57))
        ·refine q_val (v := .bool false) rfl rfl (fun w' x' => x_move rfl rfl) ?_
         refine q_skip rfl rfl ?_
         refine q_skip rfl rfl ?_
         refine q_skip rfl rfl ?_
         refine q_val (v := .bool false) rfl rfl (fun w' x' => x_pick_f rfl rfl rfl) ?_
         refine q_val (v := .bool false) rfl rfl (fun w' x' => x_move rfl rfl) ?_
         refine q_skip rfl rfl ?_
         refine q_skip rfl rfl ?_
         refine q_skip rfl rfl ?_
         refine q_val (v := .bool false) rfl rfl (fun w' x' => x_pick_f rfl rfl rfl) ?_
         refine q_val (v := .bool false) rfl rfl (fun w' x' => x_move rfl rfl) ?_
         refine q_skip rfl rfl ?_
         refine q_skip rfl rfl ?_
         refine q_skip rfl rfl ?_
         refine q_val (v := .bool false) rfl rfl (fun w' x' => x_pick_f rfl rfl rfl) ?_
         refine q_val (v := .bool false) rfl rfl (fun w' x' => x_move rfl rfl) ?_
         refine q_skip rfl rfl ?_
         refine q_skip rfl rfl ?_
         refine q_skip rfl rfl ?_
         refine q_val (v := .bool false) rfl rfl (fun w' x' => x_pick_f rfl rfl rfl) ?_
         refine q_val (v := .bool false) rfl rfl (fun w' x' => x_move rfl rfl) ?_
         refine q_skip rfl rfl ?_
         refine q_skip rfl rfl ?_
         refine q_skip rfl rfl ?_
         refine q_val (v := .bool false) rfl rfl (fun w' x' => x_pick_f rfl rfl rfl) ?_
         refine q_val (v := .bool false) rfl rfl (fun w' x' => x_assign rfl rfl) ?_
         refine q_nil (fun w58 x59 => ?_)
         refine t_norm ?_
         refine c_ret ?_
         exact c_done rfl rfl (Ret.b (by have hq := cmpBal_swap a.promise a.ballot; obtain ⟨i, s, p, b, c, q, d, k⟩ := a; simp_all [rightRec, within, zBal, zDep, noop, zTxn, zStp] <;> first | omega | (intros; omega) | (intros; simp_all <;> omega) | (split <;> intros <;> simp_all <;> omega) | (intros; simp only [decide_eq_true_eq, decide_eq_false_iff_not] at *; simp_all; done) | (intros; split <;> intros <;> first | omega | (simp_all <;> omega))) (((x3.trans x20).trans x39).trans x59))
     ·refine q_val (v := .bool false) rfl rfl (fun w' x' => x_move rfl rfl) ?_
      refine q_skip rfl rfl ?_
      refine q_skip rfl rfl ?_
      refine q_skip rfl rfl ?_
      refine q_val (v := .bool false) rfl rfl (fun w' x' => x_pick_f rfl rfl rfl) ?_
      refine q_val (v := .bool false) rfl rfl (fun w' x' => x_pick_f rfl rfl rfl) ?_
      refine q_nil (fun w60 x61 => ?_)
      refine t_norm ?_
      refine c_false rfl ?_
      refine c_skip ?_
      refine t_norm ?_
      refine c_seq ?_
      refine c_seq ?_
      refine c_quiet ?_
      refine q_val (v := .pointer (some (⟨w.heap.size, 2, none⟩))) rfl rfl (fun w' x' => x_fieldAddr fld_37_1 rfl rfl rfl) ?_
      refine q_val (v := .int .i64 a.status) rfl rfl (fun w' x' => x_load rfl rfl (((b2.ext x61).ext x').one one_3 rfl)) ?_
      refine q_bool (b := decide (a.status = 0)) rfl rfl (fun w' x' => x_eql rfl rfl rfl) (fun c62 => ?_) (fun c62 => ?_)
      ·refine q_nil (fun w63 x64 => ?_)
       refine t_norm ?_
       refine c_true rfl ?_
       refine c_seq ?_
       refine c_quiet ?_
       refine q_val (v := .pointer (some (⟨w.heap.size, 5, none⟩))) rfl rfl (fun w' x' => x_fieldAddr fld_37_3 rfl rfl rfl) ?_
       refine q_val (v := .agg #[.int .i64 a.ballot.number, .int .i64 a.ballot.replica]) rfl rfl (fun w' x' => x_load rfl rfl ((((b2.ext x61).ext x64).ext x').agg (vs := [.int .i64 a.ballot.number, .int .i64 a.ballot.replica]) agg_25_2 rfl)) ?_
       refine q_val (v := .agg #[.int .i64 0, .int .i64 0]) rfl rfl (fun w' x' => x_build0 zero_25 bld_25 rfl) ?_
       refine q_bool (b := decide (a.ballot = (⟨0, 0⟩ : Bal))) rfl rfl (fun w' x' => x_eqBal ints2_25 rfl rfl rfl) (fun c65 => ?_) (fun c65 => ?_)
       ·refine q_val (v := .bool true) rfl rfl (fun w' x' => x_move rfl rfl) ?_
        refine q_val (v := .pointer (some (⟨w.heap.size, 16, none⟩))) rfl rfl (fun w' x' => x_fieldAddr fld_37_5 rfl rfl rfl) ?_
        refine q_val (v := .int .i64 a.seq) rfl rfl (fun w' x' => x_load rfl rfl ((((b2.ext x61).ext x64).ext x').one one_3 rfl)) ?_
        refine q_bool (b := decide (a.seq = 0)) rfl rfl (fun w' x' => x_eql rfl rfl rfl) (fun c66 => ?_) (fun c66 => ?_)
        ·refine q_val (v := .bool true) rfl rfl (fun w' x' => x_pick_t rfl rfl rfl) ?_
         refine q_val (v := .bool true) rfl rfl (fun w' x' => x_move rfl rfl) ?_
         refine q_val (v := .pointer (some (⟨w.heap.size, 17, none⟩))) rfl rfl (fun w' x' => x_fieldAddr fld_37_6 rfl rfl rfl) ?_
         refine q_val (v := .agg #[.int .i64 a.deps.d0, .int .i64 a.deps.d1, .int .i64 a.deps.d2, .int .i64 a.deps.d3, .int .i64 a.deps.d4, .int .i64 a.deps.d5, .int .i64 a.deps.d6]) rfl rfl (fun w' x' => x_load rfl rfl ((((b2.ext x61).ext x64).ext x').agg (vs := [.int .i64 a.deps.d0, .int .i64 a.deps.d1, .int .i64 a.deps.d2, .int .i64 a.deps.d3, .int .i64 a.deps.d4, .int .i64 a.deps.d5, .int .i64 a.deps.d6]) agg_35_7 rfl)) ?_
         refine q_val (v := .agg #[.int .i64 0, .int .i64 0, .int .i64 0, .int .i64 0, .int .i64 0, .int .i64 0, .int .i64 0]) rfl rfl (fun w' x' => x_build0a zero_35 bld_35 rfl) ?_
         refine q_bool (b := decide (a.deps = (⟨0, 0, 0, 0, 0, 0, 0⟩ : Dep))) rfl rfl (fun w' x' => x_eqDep intsT_35 rfl rfl rfl) (fun c67 => ?_) (fun c67 => ?_)
         ·refine q_val (v := .bool true) rfl rfl (fun w' x' => x_pick_t rfl rfl rfl) ?_
          refine q_val (v := .bool true) rfl rfl (fun w' x' => x_move rfl rfl) ?_
          refine q_val (v := .pointer (some (⟨w.heap.size, 7, none⟩))) rfl rfl (fun w' x' => x_fieldAddr fld_37_4 rfl rfl rfl) ?_
          refine q_val (v := .agg #[.int .i64 a.cmd.kind, .int .i64 a.cmd.txn.client, .int .i64 a.cmd.txn.number, .int .i64 a.cmd.stp.time, .int .i64 a.cmd.stp.client, .int .i64 a.cmd.shards, .slice pa.A a.cmd.reads.length pa.n, .slice pa.B a.cmd.writes.length pa.m, .bool a.cmd.commit]) rfl rfl (fun w' x' => x_load rfl rfl ((((b2.ext x61).ext x64).ext x').agg (vs := [.int .i64 a.cmd.kind, .int .i64 a.cmd.txn.client, .int .i64 a.cmd.txn.number, .int .i64 a.cmd.stp.time, .int .i64 a.cmd.stp.client, .int .i64 a.cmd.shards, .slice pa.A a.cmd.reads.length pa.n, .slice pa.B a.cmd.writes.length pa.m, .bool a.cmd.commit]) agg_33_9 rfl)) ?_
          refine q_val (v := .agg #[.int .i64 0, .int .i64 0, .int .i64 0, .int .i64 0, .int .i64 0, .int .i64 0, .slice none 0 0, .slice none 0 0, .bool false]) rfl rfl (fun w' x' => x_build0 zero_33 bld_33 rfl) ?_
          refine q_callb (b := decide (a.cmd = (⟨0, (⟨0, 0⟩ : Txn), (⟨0, 0⟩ : Stp), 0, [], [], false⟩ : Cmd))) (vs := #[.agg #[.int .i64 a.cmd.kind, .int .i64 a.cmd.txn.client, .int .i64 a.cmd.txn.number, .int .i64 a.cmd.stp.time, .int .i64 a.cmd.stp.client, .int .i64 a.cmd.shards, .slice pa.A a.cmd.reads.length pa.n, .slice pa.B a.cmd.writes.length pa.m, .bool a.cmd.commit], .agg #[.int .i64 0, .int .i64 0, .int .i64 0, .int .i64 0, .int .i64 0, .int .i64 0, .slice none 0 0, .slice none 0 0, .bool false]]) fn_33 rfl rfl rfl (args2 rfl rfl) (fun w' x' => D_sameCmd _ a.cmd pa ((((ha.ext x3).ext x61).ext x64).ext x') (⟨0, (⟨0, 0⟩ : Txn), (⟨0, 0⟩ : Stp), 0, [], [], false⟩ : Cmd) (⟨none, 0, none, 0⟩ : Ptr) (CmdAt.nil _ rfl rfl)) (fun c68 => ?_) (fun c68 => ?_)
          ·refine q_val (v := .bool true) rfl rfl (fun w' x' => x_pick_t rfl rfl rfl) ?_
           refine q_val (v := .bool true) rfl rfl (fun w' x' => x_assign rfl rfl) ?_
           refine q_nil (fun w69 x70 => ?_)
           refine t_norm ?_
           refine c_ret ?_
           refine t_ret ?_
           exact c_done rfl rfl (Ret.b (by have hq := cmpBal_swap a.promise a.ballot; obtain ⟨i, s, p, b, c, q, d, k⟩ := a; simp_all [rightRec, within, zBal, zDep, noop, zTxn, zStp] <;> first | omega | (intros; omega) | (intros; simp_all <;> omega) | (split <;> intros <;> simp_all <;> omega) | (intros; simp only [decide_eq_true_eq, decide_eq_false_iff_not] at *; simp_all; done) | (intros; split <;> intros <;> first | omega | (simp_all <;> omega))) (((x3.trans x61).trans x64).trans x70))
          ·refine q_val (v := .bool false) rfl rfl (fun w' x' => x_pick_t rfl rfl rfl) ?_
           refine q_val (v := .bool false) rfl rfl (fun w' x' => x_assign rfl rfl) ?_
           refine q_nil (fun w71 x72 => ?_)
           refine t_norm ?_
           refine c_ret ?_
           refine t_ret ?_
           exact c_done rfl rfl (Ret.b (by have hq := cmpBal_swap a.promise a.ballot; obtain ⟨i, s, p, b, c, q, d, k⟩ := a; simp_all [rightRec, within, zBal, zDep, noop, zTxn, zStp] <;> first | omega | (intros; omega) | (intros; simp_all <;> omega) | (split <;> intros <;> simp_all <;> omega) | (intros; simp only [decide_eq_true_eq, decide_eq_false_iff_not] at *; simp_all; done) | (intros; split <;> intros <;> first | omega | (simp_all <;> omega))) (((x3.trans x61).trans x64).trans x72))
         ·refine q_val (v := .bool false) rfl rfl (fun w' x' => x_pick_t rfl rfl rfl) ?_
          refine q_val (v := .bool false) rfl rfl (fun w' x' => x_move rfl rfl) ?_
          refine q_skip rfl rfl ?_
          refine q_skip rfl rfl ?_
          refine q_skip rfl rfl ?_
          refine q_skip rfl rfl ?_
          refine q_val (v := .bool false) rfl rfl (fun w' x' => x_pick_f rfl rfl rfl) ?_
          refine q_val (v := .bool false) rfl rfl (fun w' x' => x_assign rfl rfl) ?_
          refine q_nil (fun w73 x74 => ?_)
          refine t_norm ?_
          refine c_ret ?_
          refine t_ret ?_
          exact c_done rfl rfl (Ret.b (by have hq := cmpBal_swap a.promise a.ballot; obtain ⟨i, s, p, b, c, q, d, k⟩ := a; simp_all [rightRec, within, zBal, zDep, noop, zTxn, zStp] <;> first | omega | (intros; omega) | (intros; simp_all <;> omega) | (split <;> intros <;> simp_all <;> omega) | (intros; simp only [decide_eq_true_eq, decide_eq_false_iff_not] at *; simp_all; done) | (intros; split <;> intros <;> first | omega | (simp_all <;> omega))) (((x3.trans x61).trans x64).trans x74))
        ·refine q_val (v := .bool false) rfl rfl (fun w' x' => x_pick_t rfl rfl rfl) ?_
         refine q_val (v := .bool false) rfl rfl (fun w' x' => x_move rfl rfl) ?_
         refine q_skip rfl rfl ?_
         refine q_skip rfl rfl ?_
         refine q_skip rfl rfl ?_
         refine q_skip rfl rfl ?_
         refine q_val (v := .bool false) rfl rfl (fun w' x' => x_pick_f rfl rfl rfl) ?_
         refine q_val (v := .bool false) rfl rfl (fun w' x' => x_move rfl rfl) ?_
         refine q_skip rfl rfl ?_
         refine q_skip rfl rfl ?_
         refine q_skip rfl rfl ?_
         refine q_skip rfl rfl ?_
         refine q_val (v := .bool false) rfl rfl (fun w' x' => x_pick_f rfl rfl rfl) ?_
         refine q_val (v := .bool false) rfl rfl (fun w' x' => x_assign rfl rfl) ?_
         refine q_nil (fun w75 x76 => ?_)
         refine t_norm ?_
         refine c_ret ?_
         refine t_ret ?_
         exact c_done rfl rfl (Ret.b (by have hq := cmpBal_swap a.promise a.ballot; obtain ⟨i, s, p, b, c, q, d, k⟩ := a; simp_all [rightRec, within, zBal, zDep, noop, zTxn, zStp] <;> first | omega | (intros; omega) | (intros; simp_all <;> omega) | (split <;> intros <;> simp_all <;> omega) | (intros; simp only [decide_eq_true_eq, decide_eq_false_iff_not] at *; simp_all; done) | (intros; split <;> intros <;> first | omega | (simp_all <;> omega))) (((x3.trans x61).trans x64).trans x76))
       ·refine q_val (v := .bool false) rfl rfl (fun w' x' => x_move rfl rfl) ?_
        refine q_skip rfl rfl ?_
        refine q_skip rfl rfl ?_
        refine q_skip rfl rfl ?_
        refine q_val (v := .bool false) rfl rfl (fun w' x' => x_pick_f rfl rfl rfl) ?_
        refine q_val (v := .bool false) rfl rfl (fun w' x' => x_move rfl rfl) ?_
        refine q_skip rfl rfl ?_
        refine q_skip rfl rfl ?_
        refine q_skip rfl rfl ?_
        refine q_skip rfl rfl ?_
        refine q_val (v := .bool false) rfl rfl (fun w' x' => x_pick_f rfl rfl rfl) ?_
        refine q_val (v := .bool false) rfl rfl (fun w' x' => x_move rfl rfl) ?_
        refine q_skip rfl rfl ?_
        refine q_skip rfl rfl ?_
        refine q_skip rfl rfl ?_
        refine q_skip rfl rfl ?_
        refine q_val (v := .bool false) rfl rfl (fun w' x' => x_pick_f rfl rfl rfl) ?_
        refine q_val (v := .bool false) rfl rfl (fun w' x' => x_assign rfl rfl) ?_
        refine q_nil (fun w77 x78 => ?_)
        refine t_norm ?_
        refine c_ret ?_
        refine t_ret ?_
        exact c_done rfl rfl (Ret.b (by have hq := cmpBal_swap a.promise a.ballot; obtain ⟨i, s, p, b, c, q, d, k⟩ := a; simp_all [rightRec, within, zBal, zDep, noop, zTxn, zStp] <;> first | omega | (intros; omega) | (intros; simp_all <;> omega) | (split <;> intros <;> simp_all <;> omega) | (intros; simp only [decide_eq_true_eq, decide_eq_false_iff_not] at *; simp_all; done) | (intros; split <;> intros <;> first | omega | (simp_all <;> omega))) (((x3.trans x61).trans x64).trans x78))
      ·refine q_nil (fun w79 x80 => ?_)
       refine t_norm ?_
       refine c_false rfl ?_
       refine c_skip ?_
       refine t_norm ?_
       refine c_seq ?_
       refine c_quiet ?_
       refine q_val (v := .pointer (some (⟨w.heap.size, 2, none⟩))) rfl rfl (fun w' x' => x_fieldAddr fld_37_1 rfl rfl rfl) ?_
       refine q_val (v := .int .i64 a.status) rfl rfl (fun w' x' => x_load rfl rfl ((((b2.ext x61).ext x80).ext x').one one_3 rfl)) ?_
       refine q_bool (b := decide (a.status ≥ 1)) rfl rfl (fun w' x' => x_geq rfl rfl rfl) (fun c81 => ?_) (fun c81 => ?_)
       ·refine q_val (v := .bool true) rfl rfl (fun w' x' => x_move rfl rfl) ?_
        refine q_val (v := .pointer (some (⟨w.heap.size, 2, none⟩))) rfl rfl (fun w' x' => x_fieldAddr fld_37_1 rfl rfl rfl) ?_
        refine q_val (v := .int .i64 a.status) rfl rfl (fun w' x' => x_load rfl rfl ((((b2.ext x61).ext x80).ext x').one one_3 rfl)) ?_
        refine q_bool (b := decide (a.status ≤ 3)) rfl rfl (fun w' x' => x_leq rfl rfl rfl) (fun c82 => ?_) (fun c82 => ?_)
        ·refine q_val (v := .bool true) rfl rfl (fun w' x' => x_pick_t rfl rfl rfl) ?_
         refine q_val (v := .bool true) rfl rfl (fun w' x' => x_move rfl rfl) ?_
         refine q_val (v := .pointer (some (⟨w.heap.size, 7, none⟩))) rfl rfl (fun w' x' => x_fieldAddr fld_37_4 rfl rfl rfl) ?_
         refine q_val (v := .agg #[.int .i64 a.cmd.kind, .int .i64 a.cmd.txn.client, .int .i64 a.cmd.txn.number, .int .i64 a.cmd.stp.time, .int .i64 a.cmd.stp.client, .int .i64 a.cmd.shards, .slice pa.A a.cmd.reads.length pa.n, .slice pa.B a.cmd.writes.length pa.m, .bool a.cmd.commit]) rfl rfl (fun w' x' => x_load rfl rfl ((((b2.ext x61).ext x80).ext x').agg (vs := [.int .i64 a.cmd.kind, .int .i64 a.cmd.txn.client, .int .i64 a.cmd.txn.number, .int .i64 a.cmd.stp.time, .int .i64 a.cmd.stp.client, .int .i64 a.cmd.shards, .slice pa.A a.cmd.reads.length pa.n, .slice pa.B a.cmd.writes.length pa.m, .bool a.cmd.commit]) agg_33_9 rfl)) ?_
         refine q_callb (b := rightCmd a.cmd) (vs := #[.agg #[.int .i64 a.cmd.kind, .int .i64 a.cmd.txn.client, .int .i64 a.cmd.txn.number, .int .i64 a.cmd.stp.time, .int .i64 a.cmd.stp.client, .int .i64 a.cmd.shards, .slice pa.A a.cmd.reads.length pa.n, .slice pa.B a.cmd.writes.length pa.m, .bool a.cmd.commit]]) fn_16 rfl rfl rfl (args1 rfl) (fun w' x' => D_rightCmd _ a.cmd pa ((((ha.ext x3).ext x61).ext x80).ext x') hs) (fun c83 => ?_) (fun c83 => ?_)
         ·refine q_val (v := .bool true) rfl rfl (fun w' x' => x_pick_t rfl rfl rfl) ?_
          refine q_val (v := .bool true) rfl rfl (fun w' x' => x_move rfl rfl) ?_
          refine q_val (v := .pointer (some (⟨w.heap.size, 16, none⟩))) rfl rfl (fun w' x' => x_fieldAddr fld_37_5 rfl rfl rfl) ?_
          refine q_val (v := .int .i64 a.seq) rfl rfl (fun w' x' => x_load rfl rfl ((((b2.ext x61).ext x80).ext x').one one_3 rfl)) ?_
          refine q_bool (b := decide (a.seq ≥ 1)) rfl rfl (fun w' x' => x_geq rfl rfl rfl) (fun c84 => ?_) (fun c84 => ?_)
          ·refine q_val (v := .bool true) rfl rfl (fun w' x' => x_pick_t rfl rfl rfl) ?_
           refine q_val (v := .bool true) rfl rfl (fun w' x' => x_move rfl rfl) ?_
           refine q_val (v := .pointer (some (⟨w.heap.size, 16, none⟩))) rfl rfl (fun w' x' => x_fieldAddr fld_37_5 rfl rfl rfl) ?_
           refine q_val (v := .int .i64 a.seq) rfl rfl (fun w' x' => x_load rfl rfl ((((b2.ext x61).ext x80).ext x').one one_3 rfl)) ?_
           refine q_bool (b := decide (a.seq ≤ 1099511627776)) rfl rfl (fun w' x' => x_leq rfl rfl rfl) (fun c85 => ?_) (fun c85 => ?_)
           ·refine q_val (v := .bool true) rfl rfl (fun w' x' => x_pick_t rfl rfl rfl) ?_
            refine q_val (v := .bool true) rfl rfl (fun w' x' => x_move rfl rfl) ?_
            refine q_val (v := .pointer (some (⟨w.heap.size, 17, none⟩))) rfl rfl (fun w' x' => x_fieldAddr fld_37_6 rfl rfl rfl) ?_
            refine q_val (v := .agg #[.int .i64 a.deps.d0, .int .i64 a.deps.d1, .int .i64 a.deps.d2, .int .i64 a.deps.d3, .int .i64 a.deps.d4, .int .i64 a.deps.d5, .int .i64 a.deps.d6]) rfl rfl (fun w' x' => x_load rfl rfl ((((b2.ext x61).ext x80).ext x').agg (vs := [.int .i64 a.deps.d0, .int .i64 a.deps.d1, .int .i64 a.deps.d2, .int .i64 a.deps.d3, .int .i64 a.deps.d4, .int .i64 a.deps.d5, .int .i64 a.deps.d6]) agg_35_7 rfl)) ?_
            refine q_callb (b := rightDep a.deps) (vs := #[.agg #[.int .i64 a.deps.d0, .int .i64 a.deps.d1, .int .i64 a.deps.d2, .int .i64 a.deps.d3, .int .i64 a.deps.d4, .int .i64 a.deps.d5, .int .i64 a.deps.d6]]) fn_34 rfl rfl rfl (args1 rfl) (fun w' x' => D_rightDep _ a.deps) (fun c86 => ?_) (fun c86 => ?_)
            ·refine q_val (v := .bool true) rfl rfl (fun w' x' => x_pick_t rfl rfl rfl) ?_
             refine q_val (v := .bool true) rfl rfl (fun w' x' => x_assign rfl rfl) ?_
             refine q_nil (fun w87 x88 => ?_)
             refine t_norm ?_
             refine c_ret ?_
             exact c_done rfl rfl (Ret.b (by have hq := cmpBal_swap a.promise a.ballot; obtain ⟨i, s, p, b, c, q, d, k⟩ := a; simp_all [rightRec, within, zBal, zDep, noop, zTxn, zStp] <;> first | omega | (intros; omega) | (intros; simp_all <;> omega) | (split <;> intros <;> simp_all <;> omega) | (intros; simp only [decide_eq_true_eq, decide_eq_false_iff_not] at *; simp_all; done) | (intros; split <;> intros <;> first | omega | (simp_all <;> omega))) (((x3.trans x61).trans x80).trans x88))
            ·refine q_val (v := .bool false) rfl rfl (fun w' x' => x_pick_t rfl rfl rfl) ?_
             refine q_val (v := .bool false) rfl rfl (fun w' x' => x_assign rfl rfl) ?_
             refine q_nil (fun w89 x90 => ?_)
             refine t_norm ?_
             refine c_ret ?_
             exact c_done rfl rfl (Ret.b (by have hq := cmpBal_swap a.promise a.ballot; obtain ⟨i, s, p, b, c, q, d, k⟩ := a; simp_all [rightRec, within, zBal, zDep, noop, zTxn, zStp] <;> first | omega | (intros; omega) | (intros; simp_all <;> omega) | (split <;> intros <;> simp_all <;> omega) | (intros; simp only [decide_eq_true_eq, decide_eq_false_iff_not] at *; simp_all; done) | (intros; split <;> intros <;> first | omega | (simp_all <;> omega))) (((x3.trans x61).trans x80).trans x90))
           ·refine q_val (v := .bool false) rfl rfl (fun w' x' => x_pick_t rfl rfl rfl) ?_
            refine q_val (v := .bool false) rfl rfl (fun w' x' => x_move rfl rfl) ?_
            refine q_skip rfl rfl ?_
            refine q_skip rfl rfl ?_
            refine q_skip rfl rfl ?_
            refine q_val (v := .bool false) rfl rfl (fun w' x' => x_pick_f rfl rfl rfl) ?_
            refine q_val (v := .bool false) rfl rfl (fun w' x' => x_assign rfl rfl) ?_
            refine q_nil (fun w91 x92 => ?_)
            refine t_norm ?_
            refine c_ret ?_
            exact c_done rfl rfl (Ret.b (by have hq := cmpBal_swap a.promise a.ballot; obtain ⟨i, s, p, b, c, q, d, k⟩ := a; simp_all [rightRec, within, zBal, zDep, noop, zTxn, zStp] <;> first | omega | (intros; omega) | (intros; simp_all <;> omega) | (split <;> intros <;> simp_all <;> omega) | (intros; simp only [decide_eq_true_eq, decide_eq_false_iff_not] at *; simp_all; done) | (intros; split <;> intros <;> first | omega | (simp_all <;> omega))) (((x3.trans x61).trans x80).trans x92))
          ·refine q_val (v := .bool false) rfl rfl (fun w' x' => x_pick_t rfl rfl rfl) ?_
           refine q_val (v := .bool false) rfl rfl (fun w' x' => x_move rfl rfl) ?_
           refine q_skip rfl rfl ?_
           refine q_skip rfl rfl ?_
           refine q_skip rfl rfl ?_
           refine q_val (v := .bool false) rfl rfl (fun w' x' => x_pick_f rfl rfl rfl) ?_
           refine q_val (v := .bool false) rfl rfl (fun w' x' => x_move rfl rfl) ?_
           refine q_skip rfl rfl ?_
           refine q_skip rfl rfl ?_
           refine q_skip rfl rfl ?_
           refine q_val (v := .bool false) rfl rfl (fun w' x' => x_pick_f rfl rfl rfl) ?_
           refine q_val (v := .bool false) rfl rfl (fun w' x' => x_assign rfl rfl) ?_
           refine q_nil (fun w93 x94 => ?_)
           refine t_norm ?_
           refine c_ret ?_
           exact c_done rfl rfl (Ret.b (by have hq := cmpBal_swap a.promise a.ballot; obtain ⟨i, s, p, b, c, q, d, k⟩ := a; simp_all [rightRec, within, zBal, zDep, noop, zTxn, zStp] <;> first | omega | (intros; omega) | (intros; simp_all <;> omega) | (split <;> intros <;> simp_all <;> omega) | (intros; simp only [decide_eq_true_eq, decide_eq_false_iff_not] at *; simp_all; done) | (intros; split <;> intros <;> first | omega | (simp_all <;> omega))) (((x3.trans x61).trans x80).trans x94))
         ·refine q_val (v := .bool false) rfl rfl (fun w' x' => x_pick_t rfl rfl rfl) ?_
          refine q_val (v := .bool false) rfl rfl (fun w' x' => x_move rfl rfl) ?_
          refine q_skip rfl rfl ?_
          refine q_skip rfl rfl ?_
          refine q_skip rfl rfl ?_
          refine q_val (v := .bool false) rfl rfl (fun w' x' => x_pick_f rfl rfl rfl) ?_
          refine q_val (v := .bool false) rfl rfl (fun w' x' => x_move rfl rfl) ?_
          refine q_skip rfl rfl ?_
          refine q_skip rfl rfl ?_
          refine q_skip rfl rfl ?_
          refine q_val (v := .bool false) rfl rfl (fun w' x' => x_pick_f rfl rfl rfl) ?_
          refine q_val (v := .bool false) rfl rfl (fun w' x' => x_move rfl rfl) ?_
          refine q_skip rfl rfl ?_
          refine q_skip rfl rfl ?_
          refine q_skip rfl rfl ?_
          refine q_val (v := .bool false) rfl rfl (fun w' x' => x_pick_f rfl rfl rfl) ?_
          refine q_val (v := .bool false) rfl rfl (fun w' x' => x_assign rfl rfl) ?_
          refine q_nil (fun w95 x96 => ?_)
          refine t_norm ?_
          refine c_ret ?_
          exact c_done rfl rfl (Ret.b (by have hq := cmpBal_swap a.promise a.ballot; obtain ⟨i, s, p, b, c, q, d, k⟩ := a; simp_all [rightRec, within, zBal, zDep, noop, zTxn, zStp] <;> first | omega | (intros; omega) | (intros; simp_all <;> omega) | (split <;> intros <;> simp_all <;> omega) | (intros; simp only [decide_eq_true_eq, decide_eq_false_iff_not] at *; simp_all; done) | (intros; split <;> intros <;> first | omega | (simp_all <;> omega))) (((x3.trans x61).trans x80).trans x96))
        ·refine q_val (v := .bool false) rfl rfl (fun w' x' => x_pick_t rfl rfl rfl) ?_
         refine q_val (v := .bool false) rfl rfl (fun w' x' => x_move rfl rfl) ?_
         refine q_skip rfl rfl ?_
         refine q_skip rfl rfl ?_
         refine q_skip rfl rfl ?_
         refine q_val (v := .bool false) rfl rfl (fun w' x' => x_pick_f rfl rfl rfl) ?_
         refine q_val (v := .bool false) rfl rfl (fun w' x' => x_move rfl rfl) ?_
         refine q_skip rfl rfl ?_
         refine q_skip rfl rfl ?_
         refine q_skip rfl rfl ?_
         refine q_val (v := .bool false) rfl rfl (fun w' x' => x_pick_f rfl rfl rfl) ?_
         refine q_val (v := .bool false) rfl rfl (fun w' x' => x_move rfl rfl) ?_
         refine q_skip rfl rfl ?_
         refine q_skip rfl rfl ?_
         refine q_skip rfl rfl ?_
         refine q_val (v := .bool false) rfl rfl (fun w' x' => x_pick_f rfl rfl rfl) ?_
         refine q_val (v := .bool false) rfl rfl (fun w' x' => x_move rfl rfl) ?_
         refine q_skip rfl rfl ?_
         refine q_skip rfl rfl ?_
         refine q_skip rfl rfl ?_
         refine q_val (v := .bool false) rfl rfl (fun w' x' => x_pick_f rfl rfl rfl) ?_
         refine q_val (v := .bool false) rfl rfl (fun w' x' => x_assign rfl rfl) ?_
         refine q_nil (fun w97 x98 => ?_)
         refine t_norm ?_
         refine c_ret ?_
         exact c_done rfl rfl (Ret.b (by have hq := cmpBal_swap a.promise a.ballot; obtain ⟨i, s, p, b, c, q, d, k⟩ := a; simp_all [rightRec, within, zBal, zDep, noop, zTxn, zStp] <;> first | omega | (intros; omega) | (intros; simp_all <;> omega) | (split <;> intros <;> simp_all <;> omega) | (intros; simp only [decide_eq_true_eq, decide_eq_false_iff_not] at *; simp_all; done) | (intros; split <;> intros <;> first | omega | (simp_all <;> omega))) (((x3.trans x61).trans x80).trans x98))
       ·refine q_val (v := .bool false) rfl rfl (fun w' x' => x_move rfl rfl) ?_
        refine q_skip rfl rfl ?_
        refine q_skip rfl rfl ?_
        refine q_skip rfl rfl ?_
        refine q_val (v := .bool false) rfl rfl (fun w' x' => x_pick_f rfl rfl rfl) ?_
        refine q_val (v := .bool false) rfl rfl (fun w' x' => x_move rfl rfl) ?_
        refine q_skip rfl rfl ?_
        refine q_skip rfl rfl ?_
        refine q_skip rfl rfl ?_
        refine q_val (v := .bool false) rfl rfl (fun w' x' => x_pick_f rfl rfl rfl) ?_
        refine q_val (v := .bool false) rfl rfl (fun w' x' => x_move rfl rfl) ?_
        refine q_skip rfl rfl ?_
        refine q_skip rfl rfl ?_
        refine q_skip rfl rfl ?_
        refine q_val (v := .bool false) rfl rfl (fun w' x' => x_pick_f rfl rfl rfl) ?_
        refine q_val (v := .bool false) rfl rfl (fun w' x' => x_move rfl rfl) ?_
        refine q_skip rfl rfl ?_
        refine q_skip rfl rfl ?_
        refine q_skip rfl rfl ?_
        refine q_val (v := .bool false) rfl rfl (fun w' x' => x_pick_f rfl rfl rfl) ?_
        refine q_val (v := .bool false) rfl rfl (fun w' x' => x_move rfl rfl) ?_
        refine q_skip rfl rfl ?_
        refine q_skip rfl rfl ?_
        refine q_skip rfl rfl ?_
        refine q_val (v := .bool false) rfl rfl (fun w' x' => x_pick_f rfl rfl rfl) ?_
        refine q_val (v := .bool false) rfl rfl (fun w' x' => x_assign rfl rfl) ?_
        refine q_nil (fun w99 x100 => ?_)
        refine t_norm ?_
        refine c_ret ?_
        exact c_done rfl rfl (Ret.b (by have hq := cmpBal_swap a.promise a.ballot; obtain ⟨i, s, p, b, c, q, d, k⟩ := a; simp_all [rightRec, within, zBal, zDep, noop, zTxn, zStp] <;> first | omega | (intros; omega) | (intros; simp_all <;> omega) | (split <;> intros <;> simp_all <;> omega) | (intros; simp only [decide_eq_true_eq, decide_eq_false_iff_not] at *; simp_all; done) | (intros; split <;> intros <;> first | omega | (simp_all <;> omega))) (((x3.trans x61).trans x80).trans x100))
   ·refine q_val (v := .bool true) rfl rfl (fun w' x' => x_not (b := false) rfl rfl) ?_
    refine q_val (v := .bool true) rfl rfl (fun w' x' => x_pick_f rfl rfl rfl) ?_
    refine q_val (v := .bool true) rfl rfl (fun w' x' => x_move rfl rfl) ?_
    refine q_skip rfl rfl ?_
    refine q_skip rfl rfl ?_
    refine q_skip rfl rfl ?_
    refine q_skip rfl rfl ?_
    refine q_skip rfl rfl ?_
    refine q_val (v := .bool true) rfl rfl (fun w' x' => x_pick_t rfl rfl rfl) ?_
    refine q_val (v := .bool true) rfl rfl (fun w' x' => x_move rfl rfl) ?_
    refine q_skip rfl rfl ?_
    refine q_skip rfl rfl ?_
    refine q_skip rfl rfl ?_
    refine q_skip rfl rfl ?_
    refine q_skip rfl rfl ?_
    refine q_skip rfl rfl ?_
    refine q_skip rfl rfl ?_
    refine q_val (v := .bool true) rfl rfl (fun w' x' => x_pick_t rfl rfl rfl) ?_
    refine q_nil (fun w101 x102 => ?_)
    refine t_norm ?_
    refine c_true rfl ?_
    refine c_seq ?_
    refine c_quiet ?_
    refine q_val (v := .bool false) rfl rfl (fun w' x' => x_assign rfl rfl) ?_
    refine q_nil (fun w103 x104 => ?_)
    refine t_norm ?_
    refine c_ret ?_
    refine t_ret ?_
    exact c_done rfl rfl (Ret.b (by have hq := cmpBal_swap a.promise a.ballot; obtain ⟨i, s, p, b, c, q, d, k⟩ := a; simp_all [rightRec, within, zBal, zDep, noop, zTxn, zStp] <;> first | omega | (intros; omega) | (intros; simp_all <;> omega) | (split <;> intros <;> simp_all <;> omega) | (intros; simp only [decide_eq_true_eq, decide_eq_false_iff_not] at *; simp_all; done) | (intros; split <;> intros <;> first | omega | (simp_all <;> omega))) ((x3.trans x102).trans x104))
  ·refine q_val (v := .bool true) rfl rfl (fun w' x' => x_not (b := false) rfl rfl) ?_
   refine q_val (v := .bool true) rfl rfl (fun w' x' => x_pick_f rfl rfl rfl) ?_
   refine q_val (v := .bool true) rfl rfl (fun w' x' => x_move rfl rfl) ?_
   refine q_skip rfl rfl ?_
   refine q_skip rfl rfl ?_
   refine q_skip rfl rfl ?_
   refine q_skip rfl rfl ?_
   refine q_val (v := .bool true) rfl rfl (fun w' x' => x_pick_t rfl rfl rfl) ?_
   refine q_val (v := .bool true) rfl rfl (fun w' x' => x_move rfl rfl) ?_
   refine q_skip rfl rfl ?_
   refine q_skip rfl rfl ?_
   refine q_skip rfl rfl ?_
   refine q_skip rfl rfl ?_
   refine q_skip rfl rfl ?_
   refine q_val (v := .bool true) rfl rfl (fun w' x' => x_pick_t rfl rfl rfl) ?_
   refine q_val (v := .bool true) rfl rfl (fun w' x' => x_move rfl rfl) ?_
   refine q_skip rfl rfl ?_
   refine q_skip rfl rfl ?_
   refine q_skip rfl rfl ?_
   refine q_skip rfl rfl ?_
   refine q_skip rfl rfl ?_
   refine q_skip rfl rfl ?_
   refine q_skip rfl rfl ?_
   refine q_val (v := .bool true) rfl rfl (fun w' x' => x_pick_t rfl rfl rfl) ?_
   refine q_nil (fun w105 x106 => ?_)
   refine t_norm ?_
   refine c_true rfl ?_
   refine c_seq ?_
   refine c_quiet ?_
   refine q_val (v := .bool false) rfl rfl (fun w' x' => x_assign rfl rfl) ?_
   refine q_nil (fun w107 x108 => ?_)
   refine t_norm ?_
   refine c_ret ?_
   refine t_ret ?_
   exact c_done rfl rfl (Ret.b (by have hq := cmpBal_swap a.promise a.ballot; obtain ⟨i, s, p, b, c, q, d, k⟩ := a; simp_all [rightRec, within, zBal, zDep, noop, zTxn, zStp] <;> first | omega | (intros; omega) | (intros; simp_all <;> omega) | (split <;> intros <;> simp_all <;> omega) | (intros; simp only [decide_eq_true_eq, decide_eq_false_iff_not] at *; simp_all; done) | (intros; split <;> intros <;> first | omega | (simp_all <;> omega))) ((x3.trans x106).trans x108))
 ·refine q_val (v := .bool true) rfl rfl (fun w' x' => x_not (b := false) rfl rfl) ?_
  refine q_val (v := .bool true) rfl rfl (fun w' x' => x_move rfl rfl) ?_
  refine q_skip rfl rfl ?_
  refine q_skip rfl rfl ?_
  refine q_skip rfl rfl ?_
  refine q_skip rfl rfl ?_
  refine q_val (v := .bool true) rfl rfl (fun w' x' => x_pick_t rfl rfl rfl) ?_
  refine q_val (v := .bool true) rfl rfl (fun w' x' => x_move rfl rfl) ?_
  refine q_skip rfl rfl ?_
  refine q_skip rfl rfl ?_
  refine q_skip rfl rfl ?_
  refine q_skip rfl rfl ?_
  refine q_val (v := .bool true) rfl rfl (fun w' x' => x_pick_t rfl rfl rfl) ?_
  refine q_val (v := .bool true) rfl rfl (fun w' x' => x_move rfl rfl) ?_
  refine q_skip rfl rfl ?_
  refine q_skip rfl rfl ?_
  refine q_skip rfl rfl ?_
  refine q_skip rfl rfl ?_
  refine q_skip rfl rfl ?_
  refine q_val (v := .bool true) rfl rfl (fun w' x' => x_pick_t rfl rfl rfl) ?_
  refine q_val (v := .bool true) rfl rfl (fun w' x' => x_move rfl rfl) ?_
  refine q_skip rfl rfl ?_
  refine q_skip rfl rfl ?_
  refine q_skip rfl rfl ?_
  refine q_skip rfl rfl ?_
  refine q_skip rfl rfl ?_
  refine q_skip rfl rfl ?_
  refine q_skip rfl rfl ?_
  refine q_val (v := .bool true) rfl rfl (fun w' x' => x_pick_t rfl rfl rfl) ?_
  refine q_nil (fun w109 x110 => ?_)
  refine t_norm ?_
  refine c_true rfl ?_
  refine c_seq ?_
  refine c_quiet ?_
  refine q_val (v := .bool false) rfl rfl (fun w' x' => x_assign rfl rfl) ?_
  refine q_nil (fun w111 x112 => ?_)
  refine t_norm ?_
  refine c_ret ?_
  refine t_ret ?_
  exact c_done rfl rfl (Ret.b (by have hq := cmpBal_swap a.promise a.ballot; obtain ⟨i, s, p, b, c, q, d, k⟩ := a; simp_all [rightRec, within, zBal, zDep, noop, zTxn, zStp] <;> first | omega | (intros; omega) | (intros; simp_all <;> omega) | (split <;> intros <;> simp_all <;> omega) | (intros; simp only [decide_eq_true_eq, decide_eq_false_iff_not] at *; simp_all; done) | (intros; split <;> intros <;> first | omega | (simp_all <;> omega))) ((x3.trans x110).trans x112))

theorem C_rightMsg (w : World) (a : Msg) (pa : Ptr) (ha : CmdAt w a.r.cmd pa) (hs : Slim a.r.cmd) :
    Calls Try.prog 11 #[vMsg a pa] w (Ret w (.bool (rightMsg a))) := by
 refine c_enter (n := 26) Try.func11 rfl rfl rfl ?_
 refine c_seq ?_
 refine c_plain ?_
 refine p_box rfl rfl rfl rfl (fun w1 b2 x3 z4 => ?_)
 refine p_val (v := .bool false) rfl rfl (x_assign rfl rfl) ?_
 refine p_nil ?_
 refine t_norm ?_
 refine c_seq ?_
 refine c_quiet ?_
 refine q_val (v := .pointer (some (⟨w.heap.size, 0, none⟩))) rfl rfl (fun w' x' => x_fieldAddr fld_39_0 rfl rfl rfl) ?_
 refine q_val (v := .int .i64 a.kind) rfl rfl (fun w' x' => x_load rfl rfl ((b2.ext x').one one_3 rfl)) ?_
 refine q_callb (b := within a.kind 1 8) (vs := #[.int .i64 a.kind, .int .i64 1, .int .i64 8]) fn_27 rfl rfl rfl (args3 rfl rfl rfl) (fun w' x' => C_wwithin _ a.kind 1 8) (fun c5 => ?_) (fun c5 => ?_)
 ·refine q_val (v := .bool true) rfl rfl (fun w' x' => x_move rfl rfl) ?_
  refine q_val (v := .pointer (some (⟨w.heap.size, 1, none⟩))) rfl rfl (fun w' x' => x_fieldAddr fld_39_1 rfl rfl rfl) ?_
  refine q_val (v := .int .i64 a.src) rfl rfl (fun w' x' => x_load rfl rfl ((b2.ext x').one one_3 rfl)) ?_
  refine q_callb (b := within a.src 0 6) (vs := #[.int .i64 a.src, .int .i64 0, .int .i64 6]) fn_27 rfl rfl rfl (args3 rfl rfl rfl) (fun w' x' => C_wwithin _ a.src 0 6) (fun c6 => ?_) (fun c6 => ?_)
  ·refine q_val (v := .bool true) rfl rfl (fun w' x' => x_pick_t rfl rfl rfl) ?_
   refine q_val (v := .bool true) rfl rfl (fun w' x' => x_move rfl rfl) ?_
   refine q_val (v := .pointer (some (⟨w.heap.size, 2, none⟩))) rfl rfl (fun w' x' => x_fieldAddr fld_39_2 rfl rfl rfl) ?_
   refine q_val (v := .int .i64 a.dst) rfl rfl (fun w' x' => x_load rfl rfl ((b2.ext x').one one_3 rfl)) ?_
   refine q_callb (b := within a.dst 0 6) (vs := #[.int .i64 a.dst, .int .i64 0, .int .i64 6]) fn_27 rfl rfl rfl (args3 rfl rfl rfl) (fun w' x' => C_wwithin _ a.dst 0 6) (fun c7 => ?_) (fun c7 => ?_)
   ·refine q_val (v := .bool true) rfl rfl (fun w' x' => x_pick_t rfl rfl rfl) ?_
    refine q_val (v := .bool true) rfl rfl (fun w' x' => x_move rfl rfl) ?_
    refine q_val (v := .pointer (some (⟨w.heap.size, 3, none⟩))) rfl rfl (fun w' x' => x_fieldAddr fld_39_3 rfl rfl rfl) ?_
    refine q_val (v := .agg #[.int .i64 a.ballot.number, .int .i64 a.ballot.replica]) rfl rfl (fun w' x' => x_load rfl rfl ((b2.ext x').agg (vs := [.int .i64 a.ballot.number, .int .i64 a.ballot.replica]) agg_25_2 rfl)) ?_
    refine q_callb (b := rightBal a.ballot) (vs := #[.agg #[.int .i64 a.ballot.number, .int .i64 a.ballot.replica]]) fn_25 rfl rfl rfl (args1 rfl) (fun w' x' => C_rightBal _ a.ballot) (fun c8 => ?_) (fun c8 => ?_)
    ·refine q_val (v := .bool true) rfl rfl (fun w' x' => x_pick_t rfl rfl rfl) ?_
     refine q_val (v := .bool true) rfl rfl (fun w' x' => x_move rfl rfl) ?_
     refine q_val (v := .pointer (some (⟨w.heap.size, 5, none⟩))) rfl rfl (fun w' x' => x_fieldAddr fld_39_4 rfl rfl rfl) ?_
     refine q_val (v := .agg #[.int .i64 a.r.inst.replica, .int .i64 a.r.inst.slot, .int .i64 a.r.status, .int .i64 a.r.promise.number, .int .i64 a.r.promise.replica, .int .i64 a.r.ballot.number, .int .i64 a.r.ballot.replica, .int .i64 a.r.cmd.kind, .int .i64 a.r.cmd.txn.client, .int .i64 a.r.cmd.txn.number, .int .i64 a.r.cmd.stp.time, .int .i64 a.r.cmd.stp.client, .int .i64 a.r.cmd.shards, .slice pa.A a.r.cmd.reads.length pa.n, .slice pa.B a.r.cmd.writes.length pa.m, .bool a.r.cmd.commit, .int .i64 a.r.seq, .int .i64 a.r.deps.d0, .int .i64 a.r.deps.d1, .int .i64 a.r.deps.d2, .int .i64 a.r.deps.d3, .int .i64 a.r.deps.d4, .int .i64 a.r.deps.d5, .int .i64 a.r.deps.d6, .bool a.r.kept]) rfl rfl (fun w' x' => x_load rfl rfl ((b2.ext x').agg (vs := [.int .i64 a.r.inst.replica, .int .i64 a.r.inst.slot, .int .i64 a.r.status, .int .i64 a.r.promise.number, .int .i64 a.r.promise.replica, .int .i64 a.r.ballot.number, .int .i64 a.r.ballot.replica, .int .i64 a.r.cmd.kind, .int .i64 a.r.cmd.txn.client, .int .i64 a.r.cmd.txn.number, .int .i64 a.r.cmd.stp.time, .int .i64 a.r.cmd.stp.client, .int .i64 a.r.cmd.shards, .slice pa.A a.r.cmd.reads.length pa.n, .slice pa.B a.r.cmd.writes.length pa.m, .bool a.r.cmd.commit, .int .i64 a.r.seq, .int .i64 a.r.deps.d0, .int .i64 a.r.deps.d1, .int .i64 a.r.deps.d2, .int .i64 a.r.deps.d3, .int .i64 a.r.deps.d4, .int .i64 a.r.deps.d5, .int .i64 a.r.deps.d6, .bool a.r.kept]) agg_37_25 rfl)) ?_
     refine q_callb (b := rightRec a.r) (vs := #[.agg #[.int .i64 a.r.inst.replica, .int .i64 a.r.inst.slot, .int .i64 a.r.status, .int .i64 a.r.promise.number, .int .i64 a.r.promise.replica, .int .i64 a.r.ballot.number, .int .i64 a.r.ballot.replica, .int .i64 a.r.cmd.kind, .int .i64 a.r.cmd.txn.client, .int .i64 a.r.cmd.txn.number, .int .i64 a.r.cmd.stp.time, .int .i64 a.r.cmd.stp.client, .int .i64 a.r.cmd.shards, .slice pa.A a.r.cmd.reads.length pa.n, .slice pa.B a.r.cmd.writes.length pa.m, .bool a.r.cmd.commit, .int .i64 a.r.seq, .int .i64 a.r.deps.d0, .int .i64 a.r.deps.d1, .int .i64 a.r.deps.d2, .int .i64 a.r.deps.d3, .int .i64 a.r.deps.d4, .int .i64 a.r.deps.d5, .int .i64 a.r.deps.d6, .bool a.r.kept]]) fn_9 rfl rfl rfl (args1 rfl) (fun w' x' => C_rightRec _ a.r pa ((ha.ext x3).ext x') hs) (fun c9 => ?_) (fun c9 => ?_)
     ·refine q_val (v := .bool true) rfl rfl (fun w' x' => x_pick_t rfl rfl rfl) ?_
      refine q_val (v := .bool true) rfl rfl (fun w' x' => x_assign rfl rfl) ?_
      refine q_nil (fun w10 x11 => ?_)
      refine t_norm ?_
      refine c_ret ?_
      exact c_done rfl rfl (Ret.b (by simp_all [rightMsg, within] <;> omega) (x3.trans x11))
     ·refine q_val (v := .bool false) rfl rfl (fun w' x' => x_pick_t rfl rfl rfl) ?_
      refine q_val (v := .bool false) rfl rfl (fun w' x' => x_assign rfl rfl) ?_
      refine q_nil (fun w12 x13 => ?_)
      refine t_norm ?_
      refine c_ret ?_
      exact c_done rfl rfl (Ret.b (by simp_all [rightMsg, within] <;> omega) (x3.trans x13))
    ·refine q_val (v := .bool false) rfl rfl (fun w' x' => x_pick_t rfl rfl rfl) ?_
     refine q_val (v := .bool false) rfl rfl (fun w' x' => x_move rfl rfl) ?_
     refine q_skip rfl rfl ?_
     refine q_skip rfl rfl ?_
     refine q_skip rfl rfl ?_
     refine q_val (v := .bool false) rfl rfl (fun w' x' => x_pick_f rfl rfl rfl) ?_
     refine q_val (v := .bool false) rfl rfl (fun w' x' => x_assign rfl rfl) ?_
     refine q_nil (fun w14 x15 => ?_)
     refine t_norm ?_
     refine c_ret ?_
     exact c_done rfl rfl (Ret.b (by simp_all [rightMsg, within] <;> omega) (x3.trans x15))
   ·refine q_val (v := .bool false) rfl rfl (fun w' x' => x_pick_t rfl rfl rfl) ?_
    refine q_val (v := .bool false) rfl rfl (fun w' x' => x_move rfl rfl) ?_
    refine q_skip rfl rfl ?_
    refine q_skip rfl rfl ?_
    refine q_skip rfl rfl ?_
    refine q_val (v := .bool false) rfl rfl (fun w' x' => x_pick_f rfl rfl rfl) ?_
    refine q_val (v := .bool false) rfl rfl (fun w' x' => x_move rfl rfl) ?_
    refine q_skip rfl rfl ?_
    refine q_skip rfl rfl ?_
    refine q_skip rfl rfl ?_
    refine q_val (v := .bool false) rfl rfl (fun w' x' => x_pick_f rfl rfl rfl) ?_
    refine q_val (v := .bool false) rfl rfl (fun w' x' => x_assign rfl rfl) ?_
    refine q_nil (fun w16 x17 => ?_)
    refine t_norm ?_
    refine c_ret ?_
    exact c_done rfl rfl (Ret.b (by simp_all [rightMsg, within] <;> omega) (x3.trans x17))
  ·refine q_val (v := .bool false) rfl rfl (fun w' x' => x_pick_t rfl rfl rfl) ?_
   refine q_val (v := .bool false) rfl rfl (fun w' x' => x_move rfl rfl) ?_
   refine q_skip rfl rfl ?_
   refine q_skip rfl rfl ?_
   refine q_skip rfl rfl ?_
   refine q_val (v := .bool false) rfl rfl (fun w' x' => x_pick_f rfl rfl rfl) ?_
   refine q_val (v := .bool false) rfl rfl (fun w' x' => x_move rfl rfl) ?_
   refine q_skip rfl rfl ?_
   refine q_skip rfl rfl ?_
   refine q_skip rfl rfl ?_
   refine q_val (v := .bool false) rfl rfl (fun w' x' => x_pick_f rfl rfl rfl) ?_
   refine q_val (v := .bool false) rfl rfl (fun w' x' => x_move rfl rfl) ?_
   refine q_skip rfl rfl ?_
   refine q_skip rfl rfl ?_
   refine q_skip rfl rfl ?_
   refine q_val (v := .bool false) rfl rfl (fun w' x' => x_pick_f rfl rfl rfl) ?_
   refine q_val (v := .bool false) rfl rfl (fun w' x' => x_assign rfl rfl) ?_
   refine q_nil (fun w18 x19 => ?_)
   refine t_norm ?_
   refine c_ret ?_
   exact c_done rfl rfl (Ret.b (by simp_all [rightMsg, within] <;> omega) (x3.trans x19))
 ·refine q_val (v := .bool false) rfl rfl (fun w' x' => x_move rfl rfl) ?_
  refine q_skip rfl rfl ?_
  refine q_skip rfl rfl ?_
  refine q_skip rfl rfl ?_
  refine q_val (v := .bool false) rfl rfl (fun w' x' => x_pick_f rfl rfl rfl) ?_
  refine q_val (v := .bool false) rfl rfl (fun w' x' => x_move rfl rfl) ?_
  refine q_skip rfl rfl ?_
  refine q_skip rfl rfl ?_
  refine q_skip rfl rfl ?_
  refine q_val (v := .bool false) rfl rfl (fun w' x' => x_pick_f rfl rfl rfl) ?_
  refine q_val (v := .bool false) rfl rfl (fun w' x' => x_move rfl rfl) ?_
  refine q_skip rfl rfl ?_
  refine q_skip rfl rfl ?_
  refine q_skip rfl rfl ?_
  refine q_val (v := .bool false) rfl rfl (fun w' x' => x_pick_f rfl rfl rfl) ?_
  refine q_val (v := .bool false) rfl rfl (fun w' x' => x_move rfl rfl) ?_
  refine q_skip rfl rfl ?_
  refine q_skip rfl rfl ?_
  refine q_skip rfl rfl ?_
  refine q_val (v := .bool false) rfl rfl (fun w' x' => x_pick_f rfl rfl rfl) ?_
  refine q_val (v := .bool false) rfl rfl (fun w' x' => x_assign rfl rfl) ?_
  refine q_nil (fun w20 x21 => ?_)
  refine t_norm ?_
  refine c_ret ?_
  exact c_done rfl rfl (Ret.b (by simp_all [rightMsg, within] <;> omega) (x3.trans x21))

theorem D_rightMsg (w : World) (a : Msg) (pa : Ptr) (ha : CmdAt w a.r.cmd pa) (hs : Slim a.r.cmd) :
    Calls Try.prog 12 #[vMsg a pa] w (Ret w (.bool (rightMsg a))) := by
 refine c_enter (n := 41) Try.func12 rfl rfl rfl ?_
 refine c_seq ?_
 refine c_plain ?_
 refine p_box rfl rfl rfl rfl (fun w1 b2 x3 z4 => ?_)
 refine p_val (v := .bool false) rfl rfl (x_assign rfl rfl) ?_
 refine p_nil ?_
 refine t_norm ?_
 refine c_seq ?_
 refine c_quiet ?_
 refine q_val (v := .pointer (some (⟨w.heap.size, 0, none⟩))) rfl rfl (fun w' x' => x_fieldAddr fld_39_0 rfl rfl rfl) ?_
 refine q_val (v := .int .i64 a.kind) rfl rfl (fun w' x' => x_load rfl rfl ((b2.ext x').one one_3 rfl)) ?_
 refine q_bool (b := decide (a.kind ≥ 1)) rfl rfl (fun w' x' => x_geq rfl rfl rfl) (fun c5 => ?_) (fun c5 => ?_)
 ·refine q_val (v := .bool true) rfl rfl (fun w' x' => x_move rfl rfl) ?_
  refine q_val (v := .pointer (some (⟨w.heap.size, 0, none⟩))) rfl rfl (fun w' x' => x_fieldAddr fld_39_0 rfl rfl rfl) ?_
  refine q_val (v := .int .i64 a.kind) rfl rfl (fun w' x' => x_load rfl rfl ((b2.ext x').one one_3 rfl)) ?_
  refine q_bool (b := decide (a.kind ≤ 8)) rfl rfl (fun w' x' => x_leq rfl rfl rfl) (fun c6 => ?_) (fun c6 => ?_)
  ·refine q_val (v := .bool true) rfl rfl (fun w' x' => x_pick_t rfl rfl rfl) ?_
   refine q_val (v := .bool true) rfl rfl (fun w' x' => x_move rfl rfl) ?_
   refine q_val (v := .pointer (some (⟨w.heap.size, 1, none⟩))) rfl rfl (fun w' x' => x_fieldAddr fld_39_1 rfl rfl rfl) ?_
   refine q_val (v := .int .i64 a.src) rfl rfl (fun w' x' => x_load rfl rfl ((b2.ext x').one one_3 rfl)) ?_
   refine q_bool (b := decide (a.src ≥ 0)) rfl rfl (fun w' x' => x_geq rfl rfl rfl) (fun c7 => ?_) (fun c7 => ?_)
   ·refine q_val (v := .bool true) rfl rfl (fun w' x' => x_pick_t rfl rfl rfl) ?_
    refine q_val (v := .bool true) rfl rfl (fun w' x' => x_move rfl rfl) ?_
    refine q_val (v := .pointer (some (⟨w.heap.size, 1, none⟩))) rfl rfl (fun w' x' => x_fieldAddr fld_39_1 rfl rfl rfl) ?_
    refine q_val (v := .int .i64 a.src) rfl rfl (fun w' x' => x_load rfl rfl ((b2.ext x').one one_3 rfl)) ?_
    refine q_bool (b := decide (a.src ≤ 6)) rfl rfl (fun w' x' => x_leq rfl rfl rfl) (fun c8 => ?_) (fun c8 => ?_)
    ·refine q_val (v := .bool true) rfl rfl (fun w' x' => x_pick_t rfl rfl rfl) ?_
     refine q_val (v := .bool true) rfl rfl (fun w' x' => x_move rfl rfl) ?_
     refine q_val (v := .pointer (some (⟨w.heap.size, 2, none⟩))) rfl rfl (fun w' x' => x_fieldAddr fld_39_2 rfl rfl rfl) ?_
     refine q_val (v := .int .i64 a.dst) rfl rfl (fun w' x' => x_load rfl rfl ((b2.ext x').one one_3 rfl)) ?_
     refine q_bool (b := decide (a.dst ≥ 0)) rfl rfl (fun w' x' => x_geq rfl rfl rfl) (fun c9 => ?_) (fun c9 => ?_)
     ·refine q_val (v := .bool true) rfl rfl (fun w' x' => x_pick_t rfl rfl rfl) ?_
      refine q_val (v := .bool true) rfl rfl (fun w' x' => x_move rfl rfl) ?_
      refine q_val (v := .pointer (some (⟨w.heap.size, 2, none⟩))) rfl rfl (fun w' x' => x_fieldAddr fld_39_2 rfl rfl rfl) ?_
      refine q_val (v := .int .i64 a.dst) rfl rfl (fun w' x' => x_load rfl rfl ((b2.ext x').one one_3 rfl)) ?_
      refine q_bool (b := decide (a.dst ≤ 6)) rfl rfl (fun w' x' => x_leq rfl rfl rfl) (fun c10 => ?_) (fun c10 => ?_)
      ·refine q_val (v := .bool true) rfl rfl (fun w' x' => x_pick_t rfl rfl rfl) ?_
       refine q_val (v := .bool true) rfl rfl (fun w' x' => x_move rfl rfl) ?_
       refine q_val (v := .pointer (some (⟨w.heap.size, 3, none⟩))) rfl rfl (fun w' x' => x_fieldAddr fld_39_3 rfl rfl rfl) ?_
       refine q_val (v := .agg #[.int .i64 a.ballot.number, .int .i64 a.ballot.replica]) rfl rfl (fun w' x' => x_load rfl rfl ((b2.ext x').agg (vs := [.int .i64 a.ballot.number, .int .i64 a.ballot.replica]) agg_25_2 rfl)) ?_
       refine q_callb (b := rightBal a.ballot) (vs := #[.agg #[.int .i64 a.ballot.number, .int .i64 a.ballot.replica]]) fn_31 rfl rfl rfl (args1 rfl) (fun w' x' => D_rightBal _ a.ballot) (fun c11 => ?_) (fun c11 => ?_)
       ·refine q_val (v := .bool true) rfl rfl (fun w' x' => x_pick_t rfl rfl rfl) ?_
        refine q_val (v := .bool true) rfl rfl (fun w' x' => x_move rfl rfl) ?_
        refine q_val (v := .pointer (some (⟨w.heap.size, 5, none⟩))) rfl rfl (fun w' x' => x_fieldAddr fld_39_4 rfl rfl rfl) ?_
        refine q_val (v := .agg #[.int .i64 a.r.inst.replica, .int .i64 a.r.inst.slot, .int .i64 a.r.status, .int .i64 a.r.promise.number, .int .i64 a.r.promise.replica, .int .i64 a.r.ballot.number, .int .i64 a.r.ballot.replica, .int .i64 a.r.cmd.kind, .int .i64 a.r.cmd.txn.client, .int .i64 a.r.cmd.txn.number, .int .i64 a.r.cmd.stp.time, .int .i64 a.r.cmd.stp.client, .int .i64 a.r.cmd.shards, .slice pa.A a.r.cmd.reads.length pa.n, .slice pa.B a.r.cmd.writes.length pa.m, .bool a.r.cmd.commit, .int .i64 a.r.seq, .int .i64 a.r.deps.d0, .int .i64 a.r.deps.d1, .int .i64 a.r.deps.d2, .int .i64 a.r.deps.d3, .int .i64 a.r.deps.d4, .int .i64 a.r.deps.d5, .int .i64 a.r.deps.d6, .bool a.r.kept]) rfl rfl (fun w' x' => x_load rfl rfl ((b2.ext x').agg (vs := [.int .i64 a.r.inst.replica, .int .i64 a.r.inst.slot, .int .i64 a.r.status, .int .i64 a.r.promise.number, .int .i64 a.r.promise.replica, .int .i64 a.r.ballot.number, .int .i64 a.r.ballot.replica, .int .i64 a.r.cmd.kind, .int .i64 a.r.cmd.txn.client, .int .i64 a.r.cmd.txn.number, .int .i64 a.r.cmd.stp.time, .int .i64 a.r.cmd.stp.client, .int .i64 a.r.cmd.shards, .slice pa.A a.r.cmd.reads.length pa.n, .slice pa.B a.r.cmd.writes.length pa.m, .bool a.r.cmd.commit, .int .i64 a.r.seq, .int .i64 a.r.deps.d0, .int .i64 a.r.deps.d1, .int .i64 a.r.deps.d2, .int .i64 a.r.deps.d3, .int .i64 a.r.deps.d4, .int .i64 a.r.deps.d5, .int .i64 a.r.deps.d6, .bool a.r.kept]) agg_37_25 rfl)) ?_
        refine q_callb (b := rightRec a.r) (vs := #[.agg #[.int .i64 a.r.inst.replica, .int .i64 a.r.inst.slot, .int .i64 a.r.status, .int .i64 a.r.promise.number, .int .i64 a.r.promise.replica, .int .i64 a.r.ballot.number, .int .i64 a.r.ballot.replica, .int .i64 a.r.cmd.kind, .int .i64 a.r.cmd.txn.client, .int .i64 a.r.cmd.txn.number, .int .i64 a.r.cmd.stp.time, .int .i64 a.r.cmd.stp.client, .int .i64 a.r.cmd.shards, .slice pa.A a.r.cmd.reads.length pa.n, .slice pa.B a.r.cmd.writes.length pa.m, .bool a.r.cmd.commit, .int .i64 a.r.seq, .int .i64 a.r.deps.d0, .int .i64 a.r.deps.d1, .int .i64 a.r.deps.d2, .int .i64 a.r.deps.d3, .int .i64 a.r.deps.d4, .int .i64 a.r.deps.d5, .int .i64 a.r.deps.d6, .bool a.r.kept]]) fn_10 rfl rfl rfl (args1 rfl) (fun w' x' => D_rightRec _ a.r pa ((ha.ext x3).ext x') hs) (fun c12 => ?_) (fun c12 => ?_)
        ·refine q_val (v := .bool true) rfl rfl (fun w' x' => x_pick_t rfl rfl rfl) ?_
         refine q_val (v := .bool true) rfl rfl (fun w' x' => x_assign rfl rfl) ?_
         refine q_nil (fun w13 x14 => ?_)
         refine t_norm ?_
         refine c_ret ?_
         exact c_done rfl rfl (Ret.b (by simp_all [rightMsg, within] <;> omega) (x3.trans x14))
        ·refine q_val (v := .bool false) rfl rfl (fun w' x' => x_pick_t rfl rfl rfl) ?_
         refine q_val (v := .bool false) rfl rfl (fun w' x' => x_assign rfl rfl) ?_
         refine q_nil (fun w15 x16 => ?_)
         refine t_norm ?_
         refine c_ret ?_
         exact c_done rfl rfl (Ret.b (by simp_all [rightMsg, within] <;> omega) (x3.trans x16))
       ·refine q_val (v := .bool false) rfl rfl (fun w' x' => x_pick_t rfl rfl rfl) ?_
        refine q_val (v := .bool false) rfl rfl (fun w' x' => x_move rfl rfl) ?_
        refine q_skip rfl rfl ?_
        refine q_skip rfl rfl ?_
        refine q_skip rfl rfl ?_
        refine q_val (v := .bool false) rfl rfl (fun w' x' => x_pick_f rfl rfl rfl) ?_
        refine q_val (v := .bool false) rfl rfl (fun w' x' => x_assign rfl rfl) ?_
        refine q_nil (fun w17 x18 => ?_)
        refine t_norm ?_
        refine c_ret ?_
        exact c_done rfl rfl (Ret.b (by simp_all [rightMsg, within] <;> omega) (x3.trans x18))
      ·refine q_val (v := .bool false) rfl rfl (fun w' x' => x_pick_t rfl rfl rfl) ?_
       refine q_val (v := .bool false) rfl rfl (fun w' x' => x_move rfl rfl) ?_
       refine q_skip rfl rfl ?_
       refine q_skip rfl rfl ?_
       refine q_skip rfl rfl ?_
       refine q_val (v := .bool false) rfl rfl (fun w' x' => x_pick_f rfl rfl rfl) ?_
       refine q_val (v := .bool false) rfl rfl (fun w' x' => x_move rfl rfl) ?_
       refine q_skip rfl rfl ?_
       refine q_skip rfl rfl ?_
       refine q_skip rfl rfl ?_
       refine q_val (v := .bool false) rfl rfl (fun w' x' => x_pick_f rfl rfl rfl) ?_
       refine q_val (v := .bool false) rfl rfl (fun w' x' => x_assign rfl rfl) ?_
       refine q_nil (fun w19 x20 => ?_)
       refine t_norm ?_
       refine c_ret ?_
       exact c_done rfl rfl (Ret.b (by simp_all [rightMsg, within] <;> omega) (x3.trans x20))
     ·refine q_val (v := .bool false) rfl rfl (fun w' x' => x_pick_t rfl rfl rfl) ?_
      refine q_val (v := .bool false) rfl rfl (fun w' x' => x_move rfl rfl) ?_
      refine q_skip rfl rfl ?_
      refine q_skip rfl rfl ?_
      refine q_skip rfl rfl ?_
      refine q_val (v := .bool false) rfl rfl (fun w' x' => x_pick_f rfl rfl rfl) ?_
      refine q_val (v := .bool false) rfl rfl (fun w' x' => x_move rfl rfl) ?_
      refine q_skip rfl rfl ?_
      refine q_skip rfl rfl ?_
      refine q_skip rfl rfl ?_
      refine q_val (v := .bool false) rfl rfl (fun w' x' => x_pick_f rfl rfl rfl) ?_
      refine q_val (v := .bool false) rfl rfl (fun w' x' => x_move rfl rfl) ?_
      refine q_skip rfl rfl ?_
      refine q_skip rfl rfl ?_
      refine q_skip rfl rfl ?_
      refine q_val (v := .bool false) rfl rfl (fun w' x' => x_pick_f rfl rfl rfl) ?_
      refine q_val (v := .bool false) rfl rfl (fun w' x' => x_assign rfl rfl) ?_
      refine q_nil (fun w21 x22 => ?_)
      refine t_norm ?_
      refine c_ret ?_
      exact c_done rfl rfl (Ret.b (by simp_all [rightMsg, within] <;> omega) (x3.trans x22))
    ·refine q_val (v := .bool false) rfl rfl (fun w' x' => x_pick_t rfl rfl rfl) ?_
     refine q_val (v := .bool false) rfl rfl (fun w' x' => x_move rfl rfl) ?_
     refine q_skip rfl rfl ?_
     refine q_skip rfl rfl ?_
     refine q_skip rfl rfl ?_
     refine q_val (v := .bool false) rfl rfl (fun w' x' => x_pick_f rfl rfl rfl) ?_
     refine q_val (v := .bool false) rfl rfl (fun w' x' => x_move rfl rfl) ?_
     refine q_skip rfl rfl ?_
     refine q_skip rfl rfl ?_
     refine q_skip rfl rfl ?_
     refine q_val (v := .bool false) rfl rfl (fun w' x' => x_pick_f rfl rfl rfl) ?_
     refine q_val (v := .bool false) rfl rfl (fun w' x' => x_move rfl rfl) ?_
     refine q_skip rfl rfl ?_
     refine q_skip rfl rfl ?_
     refine q_skip rfl rfl ?_
     refine q_val (v := .bool false) rfl rfl (fun w' x' => x_pick_f rfl rfl rfl) ?_
     refine q_val (v := .bool false) rfl rfl (fun w' x' => x_move rfl rfl) ?_
     refine q_skip rfl rfl ?_
     refine q_skip rfl rfl ?_
     refine q_skip rfl rfl ?_
     refine q_val (v := .bool false) rfl rfl (fun w' x' => x_pick_f rfl rfl rfl) ?_
     refine q_val (v := .bool false) rfl rfl (fun w' x' => x_assign rfl rfl) ?_
     refine q_nil (fun w23 x24 => ?_)
     refine t_norm ?_
     refine c_ret ?_
     exact c_done rfl rfl (Ret.b (by simp_all [rightMsg, within] <;> omega) (x3.trans x24))
   ·refine q_val (v := .bool false) rfl rfl (fun w' x' => x_pick_t rfl rfl rfl) ?_
    refine q_val (v := .bool false) rfl rfl (fun w' x' => x_move rfl rfl) ?_
    refine q_skip rfl rfl ?_
    refine q_skip rfl rfl ?_
    refine q_skip rfl rfl ?_
    refine q_val (v := .bool false) rfl rfl (fun w' x' => x_pick_f rfl rfl rfl) ?_
    refine q_val (v := .bool false) rfl rfl (fun w' x' => x_move rfl rfl) ?_
    refine q_skip rfl rfl ?_
    refine q_skip rfl rfl ?_
    refine q_skip rfl rfl ?_
    refine q_val (v := .bool false) rfl rfl (fun w' x' => x_pick_f rfl rfl rfl) ?_
    refine q_val (v := .bool false) rfl rfl (fun w' x' => x_move rfl rfl) ?_
    refine q_skip rfl rfl ?_
    refine q_skip rfl rfl ?_
    refine q_skip rfl rfl ?_
    refine q_val (v := .bool false) rfl rfl (fun w' x' => x_pick_f rfl rfl rfl) ?_
    refine q_val (v := .bool false) rfl rfl (fun w' x' => x_move rfl rfl) ?_
    refine q_skip rfl rfl ?_
    refine q_skip rfl rfl ?_
    refine q_skip rfl rfl ?_
    refine q_val (v := .bool false) rfl rfl (fun w' x' => x_pick_f rfl rfl rfl) ?_
    refine q_val (v := .bool false) rfl rfl (fun w' x' => x_move rfl rfl) ?_
    refine q_skip rfl rfl ?_
    refine q_skip rfl rfl ?_
    refine q_skip rfl rfl ?_
    refine q_val (v := .bool false) rfl rfl (fun w' x' => x_pick_f rfl rfl rfl) ?_
    refine q_val (v := .bool false) rfl rfl (fun w' x' => x_assign rfl rfl) ?_
    refine q_nil (fun w25 x26 => ?_)
    refine t_norm ?_
    refine c_ret ?_
    exact c_done rfl rfl (Ret.b (by simp_all [rightMsg, within] <;> omega) (x3.trans x26))
  ·refine q_val (v := .bool false) rfl rfl (fun w' x' => x_pick_t rfl rfl rfl) ?_
   refine q_val (v := .bool false) rfl rfl (fun w' x' => x_move rfl rfl) ?_
   refine q_skip rfl rfl ?_
   refine q_skip rfl rfl ?_
   refine q_skip rfl rfl ?_
   refine q_val (v := .bool false) rfl rfl (fun w' x' => x_pick_f rfl rfl rfl) ?_
   refine q_val (v := .bool false) rfl rfl (fun w' x' => x_move rfl rfl) ?_
   refine q_skip rfl rfl ?_
   refine q_skip rfl rfl ?_
   refine q_skip rfl rfl ?_
   refine q_val (v := .bool false) rfl rfl (fun w' x' => x_pick_f rfl rfl rfl) ?_
   refine q_val (v := .bool false) rfl rfl (fun w' x' => x_move rfl rfl) ?_
   refine q_skip rfl rfl ?_
   refine q_skip rfl rfl ?_
   refine q_skip rfl rfl ?_
   refine q_val (v := .bool false) rfl rfl (fun w' x' => x_pick_f rfl rfl rfl) ?_
   refine q_val (v := .bool false) rfl rfl (fun w' x' => x_move rfl rfl) ?_
   refine q_skip rfl rfl ?_
   refine q_skip rfl rfl ?_
   refine q_skip rfl rfl ?_
   refine q_val (v := .bool false) rfl rfl (fun w' x' => x_pick_f rfl rfl rfl) ?_
   refine q_val (v := .bool false) rfl rfl (fun w' x' => x_move rfl rfl) ?_
   refine q_skip rfl rfl ?_
   refine q_skip rfl rfl ?_
   refine q_skip rfl rfl ?_
   refine q_val (v := .bool false) rfl rfl (fun w' x' => x_pick_f rfl rfl rfl) ?_
   refine q_val (v := .bool false) rfl rfl (fun w' x' => x_move rfl rfl) ?_
   refine q_skip rfl rfl ?_
   refine q_skip rfl rfl ?_
   refine q_skip rfl rfl ?_
   refine q_val (v := .bool false) rfl rfl (fun w' x' => x_pick_f rfl rfl rfl) ?_
   refine q_val (v := .bool false) rfl rfl (fun w' x' => x_assign rfl rfl) ?_
   refine q_nil (fun w27 x28 => ?_)
   refine t_norm ?_
   refine c_ret ?_
   exact c_done rfl rfl (Ret.b (by simp_all [rightMsg, within] <;> omega) (x3.trans x28))
 ·refine q_val (v := .bool false) rfl rfl (fun w' x' => x_move rfl rfl) ?_
  refine q_skip rfl rfl ?_
  refine q_skip rfl rfl ?_
  refine q_skip rfl rfl ?_
  refine q_val (v := .bool false) rfl rfl (fun w' x' => x_pick_f rfl rfl rfl) ?_
  refine q_val (v := .bool false) rfl rfl (fun w' x' => x_move rfl rfl) ?_
  refine q_skip rfl rfl ?_
  refine q_skip rfl rfl ?_
  refine q_skip rfl rfl ?_
  refine q_val (v := .bool false) rfl rfl (fun w' x' => x_pick_f rfl rfl rfl) ?_
  refine q_val (v := .bool false) rfl rfl (fun w' x' => x_move rfl rfl) ?_
  refine q_skip rfl rfl ?_
  refine q_skip rfl rfl ?_
  refine q_skip rfl rfl ?_
  refine q_val (v := .bool false) rfl rfl (fun w' x' => x_pick_f rfl rfl rfl) ?_
  refine q_val (v := .bool false) rfl rfl (fun w' x' => x_move rfl rfl) ?_
  refine q_skip rfl rfl ?_
  refine q_skip rfl rfl ?_
  refine q_skip rfl rfl ?_
  refine q_val (v := .bool false) rfl rfl (fun w' x' => x_pick_f rfl rfl rfl) ?_
  refine q_val (v := .bool false) rfl rfl (fun w' x' => x_move rfl rfl) ?_
  refine q_skip rfl rfl ?_
  refine q_skip rfl rfl ?_
  refine q_skip rfl rfl ?_
  refine q_val (v := .bool false) rfl rfl (fun w' x' => x_pick_f rfl rfl rfl) ?_
  refine q_val (v := .bool false) rfl rfl (fun w' x' => x_move rfl rfl) ?_
  refine q_skip rfl rfl ?_
  refine q_skip rfl rfl ?_
  refine q_skip rfl rfl ?_
  refine q_val (v := .bool false) rfl rfl (fun w' x' => x_pick_f rfl rfl rfl) ?_
  refine q_val (v := .bool false) rfl rfl (fun w' x' => x_move rfl rfl) ?_
  refine q_skip rfl rfl ?_
  refine q_skip rfl rfl ?_
  refine q_skip rfl rfl ?_
  refine q_val (v := .bool false) rfl rfl (fun w' x' => x_pick_f rfl rfl rfl) ?_
  refine q_val (v := .bool false) rfl rfl (fun w' x' => x_assign rfl rfl) ?_
  refine q_nil (fun w29 x30 => ?_)
  refine t_norm ?_
  refine c_ret ?_
  exact c_done rfl rfl (Ret.b (by simp_all [rightMsg, within] <;> omega) (x3.trans x30))

end Go.Proofs.Ytibhkdomoknnfaa
