/- What WireLong answers. -/
import Derived.Test.YtibhkdomoknnfaaEnc
import Derived.Test.YtibhkdomoknnfaaA9
namespace Go.Proofs.Ytibhkdomoknnfaa
open Go.RowKit Go.Eng
set_option linter.unusedVariables false
set_option linter.unusedSimpArgs false
set_option maxHeartbeats 4000000 in
theorem C_WireLong (w : World) (c : Cmd) (pc : Ptr) (hc : CmdAt w c pc) (m : Msg) (pm : Ptr) (hm : CmdAt w m.r.cmd pm) :
    Calls Try.prog 5 #[vCmd c pc, vMsg m pm] w (Ret w (.bool true)) := by
 refine c_enter (n := 66) Try.func5 rfl rfl rfl ?_
 refine c_seq ?_
 refine c_plain ?_
 refine p_box rfl rfl rfl rfl (fun w1 b2 x3 z4 => ?_)
 refine p_box rfl rfl rfl rfl (fun w5 b6 x7 z8 => ?_)
 refine p_val (v := .bool false) rfl rfl (x_assign rfl rfl) ?_
 refine p_nil ?_
 refine t_norm ?_
 refine c_seq ?_
 refine c_seq ?_
 refine c_plain ?_
 refine p_val (v := vCmd c pc) rfl rfl (x_load rfl rfl ((b2.ext x7).agg (vs := [.int .i64 c.kind, .int .i64 c.txn.client, .int .i64 c.txn.number, .int .i64 c.stp.time, .int .i64 c.stp.client, .int .i64 c.shards, .slice pc.A c.reads.length pc.n, .slice pc.B c.writes.length pc.m, .bool c.commit]) agg_33_9 rfl)) ?_
 refine p_val (v := .pointer (some (⟨w1.heap.size, 5, none⟩))) rfl rfl (x_fieldAddr fld_39_4 rfl rfl rfl) ?_
 refine p_val (v := .pointer (some (⟨w1.heap.size, 12, none⟩))) rfl rfl (x_fieldAddr fld_37_4 rfl rfl rfl) ?_
 refine p_val (v := .agg #[.int .i64 m.r.cmd.kind, .int .i64 m.r.cmd.txn.client, .int .i64 m.r.cmd.txn.number, .int .i64 m.r.cmd.stp.time, .int .i64 m.r.cmd.stp.client, .int .i64 m.r.cmd.shards, .slice pm.A m.r.cmd.reads.length pm.n, .slice pm.B m.r.cmd.writes.length pm.m, .bool m.r.cmd.commit]) rfl rfl (x_load rfl rfl (b6.agg (vs := [.int .i64 m.r.cmd.kind, .int .i64 m.r.cmd.txn.client, .int .i64 m.r.cmd.txn.number, .int .i64 m.r.cmd.stp.time, .int .i64 m.r.cmd.stp.client, .int .i64 m.r.cmd.shards, .slice pm.A m.r.cmd.reads.length pm.n, .slice pm.B m.r.cmd.writes.length pm.m, .bool m.r.cmd.commit]) agg_33_9 rfl)) ?_
 refine p_buildSlice (cs := [.int .i64 c.kind, .int .i64 c.txn.client, .int .i64 c.txn.number, .int .i64 c.stp.time, .int .i64 c.stp.client, .int .i64 c.shards, .slice pc.A c.reads.length pc.n, .slice pc.B c.writes.length pc.m, .bool c.commit, .int .i64 m.r.cmd.kind, .int .i64 m.r.cmd.txn.client, .int .i64 m.r.cmd.txn.number, .int .i64 m.r.cmd.stp.time, .int .i64 m.r.cmd.stp.client, .int .i64 m.r.cmd.shards, .slice pm.A m.r.cmd.reads.length pm.n, .slice pm.B m.r.cmd.writes.length pm.m, .bool m.r.cmd.commit]) el_62 rfl rfl rfl (parts2 rfl rfl) (by decide) (by decide) (fill_ok [vCmd c pc, .agg #[.int .i64 m.r.cmd.kind, .int .i64 m.r.cmd.txn.client, .int .i64 m.r.cmd.txn.number, .int .i64 m.r.cmd.stp.time, .int .i64 m.r.cmd.stp.client, .int .i64 m.r.cmd.shards, .slice pm.A m.r.cmd.reads.length pm.n, .slice pm.B m.r.cmd.writes.length pm.m, .bool m.r.cmd.commit]] [.int .i64 c.kind, .int .i64 c.txn.client, .int .i64 c.txn.number, .int .i64 c.stp.time, .int .i64 c.stp.client, .int .i64 c.shards, .slice pc.A c.reads.length pc.n, .slice pc.B c.writes.length pc.m, .bool c.commit, .int .i64 m.r.cmd.kind, .int .i64 m.r.cmd.txn.client, .int .i64 m.r.cmd.txn.number, .int .i64 m.r.cmd.stp.time, .int .i64 m.r.cmd.stp.client, .int .i64 m.r.cmd.shards, .slice pm.A m.r.cmd.reads.length pm.n, .slice pm.B m.r.cmd.writes.length pm.m, .bool m.r.cmd.commit] rfl rfl) (fun w9 b10 x11 z12 => ?_)
 refine p_call (vs := #[.slice (some ⟨w5.heap.size, 0, none⟩) 2 2]) fn_7 rfl rfl rfl (args1 rfl) ?_
 refine (C_few _ _ _ [(c, pc), (m.r.cmd, pm)] (lies_box (f := fCmd) b10 rfl (fun _ => rfl) (by simp only [List.mem_cons, List.not_mem_nil, or_false]; rintro z (rfl | rfl) <;> first | exact ⟨rfl, (((hc.ext x3).ext x7).ext x11)⟩ | exact ⟨rfl, (((hm.ext x3).ext x7).ext x11)⟩)) (by simp)).mono ?_
 rintro e w13 ⟨rfl, x14⟩
 refine ⟨_, rfl, ?_⟩
 cases c15 : few [(c, pc), (m.r.cmd, pm)]
 case false =>
  refine p_val (v := .bool true) rfl rfl (x_not (b := false) rfl rfl) ?_
  refine p_nil ?_
  refine t_norm ?_
  refine c_true rfl ?_
  refine c_seq ?_
  refine c_quiet ?_
  refine q_call (vs := #[]) fn_8 rfl rfl rfl (args0) (v := .bool true) (fun w' x' => C_awake _) ?_
  refine q_val (v := .bool true) rfl rfl (fun w' x' => x_assign rfl rfl) ?_
  refine q_nil (fun w16 x17 => ?_)
  refine t_norm ?_
  refine c_ret ?_
  refine t_ret ?_
  exact c_done rfl rfl (Ret.b (rfl) ((((x3.trans x7).trans x11).trans x14).trans x17))
 case true =>
  have hf18 := c15
  simp only [few, List.all_cons, List.all_nil, Bool.and_true, Bool.and_eq_true] at hf18
  have sl19 := few_slim hf18.1
  have sl20 := few_slim hf18.2
  refine p_val (v := .bool false) rfl rfl (x_not (b := true) rfl rfl) ?_
  refine p_nil ?_
  refine t_norm ?_
  refine c_false rfl ?_
  refine c_skip ?_
  refine t_norm ?_
  refine c_seq ?_
  refine c_plain ?_
  refine p_val (v := vCmd c pc) rfl rfl (x_load rfl rfl ((((b2.ext x7).ext x11).ext x14).agg (vs := [.int .i64 c.kind, .int .i64 c.txn.client, .int .i64 c.txn.number, .int .i64 c.stp.time, .int .i64 c.stp.client, .int .i64 c.shards, .slice pc.A c.reads.length pc.n, .slice pc.B c.writes.length pc.m, .bool c.commit]) agg_33_9 rfl)) ?_
  refine p_val (v := .iface 33 (vCmd c pc)) rfl rfl (x_makeIface pl_33_ rfl rfl) ?_
  refine p_call (vs := #[.iface 33 (vCmd c pc)]) fn_15 rfl rfl rfl (args1 rfl) ?_
  refine (C_encC _ c pc ((((hc.ext x3).ext x7).ext x11).ext x14) sl19).mono ?_
  rintro e w23 ⟨A21, k22, rfl, hb24, x25⟩
  refine ⟨_, rfl, ?_⟩
  have hl26 := hb24.lies
  refine p_val (v := .tuple #[.slice A21 ((outC c).length) k22, .int .i64 (errOf (rightCmd c))]) rfl rfl (x_move rfl rfl) ?_
  refine p_val (v := .slice A21 ((outC c).length) k22) rfl rfl (x_extract rfl rfl rfl) ?_
  refine p_val (v := .int .i64 (errOf (rightCmd c))) rfl rfl (x_extract rfl rfl rfl) ?_
  refine p_val (v := .slice A21 ((outC c).length) k22) rfl rfl (x_assign rfl rfl) ?_
  refine p_val (v := .int .i64 (errOf (rightCmd c))) rfl rfl (x_assign rfl rfl) ?_
  refine p_nil ?_
  refine t_norm ?_
  refine c_seq ?_
  refine c_plain ?_
  refine p_val (v := .pointer (some (⟨w1.heap.size, 5, none⟩))) rfl rfl (x_fieldAddr fld_39_4 rfl rfl rfl) ?_
  refine p_val (v := .agg #[.int .i64 m.r.inst.replica, .int .i64 m.r.inst.slot, .int .i64 m.r.status, .int .i64 m.r.promise.number, .int .i64 m.r.promise.replica, .int .i64 m.r.ballot.number, .int .i64 m.r.ballot.replica, .int .i64 m.r.cmd.kind, .int .i64 m.r.cmd.txn.client, .int .i64 m.r.cmd.txn.number, .int .i64 m.r.cmd.stp.time, .int .i64 m.r.cmd.stp.client, .int .i64 m.r.cmd.shards, .slice pm.A m.r.cmd.reads.length pm.n, .slice pm.B m.r.cmd.writes.length pm.m, .bool m.r.cmd.commit, .int .i64 m.r.seq, .int .i64 m.r.deps.d0, .int .i64 m.r.deps.d1, .int .i64 m.r.deps.d2, .int .i64 m.r.deps.d3, .int .i64 m.r.deps.d4, .int .i64 m.r.deps.d5, .int .i64 m.r.deps.d6, .bool m.r.kept]) rfl rfl (x_load rfl rfl ((((b6.ext x11).ext x14).ext x25).agg (vs := [.int .i64 m.r.inst.replica, .int .i64 m.r.inst.slot, .int .i64 m.r.status, .int .i64 m.r.promise.number, .int .i64 m.r.promise.replica, .int .i64 m.r.ballot.number, .int .i64 m.r.ballot.replica, .int .i64 m.r.cmd.kind, .int .i64 m.r.cmd.txn.client, .int .i64 m.r.cmd.txn.number, .int .i64 m.r.cmd.stp.time, .int .i64 m.r.cmd.stp.client, .int .i64 m.r.cmd.shards, .slice pm.A m.r.cmd.reads.length pm.n, .slice pm.B m.r.cmd.writes.length pm.m, .bool m.r.cmd.commit, .int .i64 m.r.seq, .int .i64 m.r.deps.d0, .int .i64 m.r.deps.d1, .int .i64 m.r.deps.d2, .int .i64 m.r.deps.d3, .int .i64 m.r.deps.d4, .int .i64 m.r.deps.d5, .int .i64 m.r.deps.d6, .bool m.r.kept]) agg_37_25 rfl)) ?_
  refine p_val (v := .iface 37 (.agg #[.int .i64 m.r.inst.replica, .int .i64 m.r.inst.slot, .int .i64 m.r.status, .int .i64 m.r.promise.number, .int .i64 m.r.promise.replica, .int .i64 m.r.ballot.number, .int .i64 m.r.ballot.replica, .int .i64 m.r.cmd.kind, .int .i64 m.r.cmd.txn.client, .int .i64 m.r.cmd.txn.number, .int .i64 m.r.cmd.stp.time, .int .i64 m.r.cmd.stp.client, .int .i64 m.r.cmd.shards, .slice pm.A m.r.cmd.reads.length pm.n, .slice pm.B m.r.cmd.writes.length pm.m, .bool m.r.cmd.commit, .int .i64 m.r.seq, .int .i64 m.r.deps.d0, .int .i64 m.r.deps.d1, .int .i64 m.r.deps.d2, .int .i64 m.r.deps.d3, .int .i64 m.r.deps.d4, .int .i64 m.r.deps.d5, .int .i64 m.r.deps.d6, .bool m.r.kept])) rfl rfl (x_makeIface pl_37_ rfl rfl) ?_
  refine p_call (vs := #[.iface 37 (.agg #[.int .i64 m.r.inst.replica, .int .i64 m.r.inst.slot, .int .i64 m.r.status, .int .i64 m.r.promise.number, .int .i64 m.r.promise.replica, .int .i64 m.r.ballot.number, .int .i64 m.r.ballot.replica, .int .i64 m.r.cmd.kind, .int .i64 m.r.cmd.txn.client, .int .i64 m.r.cmd.txn.number, .int .i64 m.r.cmd.stp.time, .int .i64 m.r.cmd.stp.client, .int .i64 m.r.cmd.shards, .slice pm.A m.r.cmd.reads.length pm.n, .slice pm.B m.r.cmd.writes.length pm.m, .bool m.r.cmd.commit, .int .i64 m.r.seq, .int .i64 m.r.deps.d0, .int .i64 m.r.deps.d1, .int .i64 m.r.deps.d2, .int .i64 m.r.deps.d3, .int .i64 m.r.deps.d4, .int .i64 m.r.deps.d5, .int .i64 m.r.deps.d6, .bool m.r.kept])]) fn_15 rfl rfl rfl (args1 rfl) ?_
  refine (C_encR _ m.r pm (((((hm.ext x3).ext x7).ext x11).ext x14).ext x25) sl20).mono ?_
  rintro e w29 ⟨A27, k28, rfl, hb30, x31⟩
  refine ⟨_, rfl, ?_⟩
  have hl32 := hb30.lies
  refine p_val (v := .tuple #[.slice A27 ((outR m.r).length) k28, .int .i64 (errOf (rightRec m.r))]) rfl rfl (x_move rfl rfl) ?_
  refine p_val (v := .slice A27 ((outR m.r).length) k28) rfl rfl (x_extract rfl rfl rfl) ?_
  refine p_val (v := .int .i64 (errOf (rightRec m.r))) rfl rfl (x_extract rfl rfl rfl) ?_
  refine p_val (v := .slice A27 ((outR m.r).length) k28) rfl rfl (x_assign rfl rfl) ?_
  refine p_val (v := .int .i64 (errOf (rightRec m.r))) rfl rfl (x_assign rfl rfl) ?_
  refine p_nil ?_
  refine t_norm ?_
  refine c_seq ?_
  refine c_plain ?_
  refine p_val (v := vMsg m pm) rfl rfl (x_load rfl rfl (((((b6.ext x11).ext x14).ext x25).ext x31).agg (vs := [.int .i64 m.kind, .int .i64 m.src, .int .i64 m.dst, .int .i64 m.ballot.number, .int .i64 m.ballot.replica, .int .i64 m.r.inst.replica, .int .i64 m.r.inst.slot, .int .i64 m.r.status, .int .i64 m.r.promise.number, .int .i64 m.r.promise.replica, .int .i64 m.r.ballot.number, .int .i64 m.r.ballot.replica, .int .i64 m.r.cmd.kind, .int .i64 m.r.cmd.txn.client, .int .i64 m.r.cmd.txn.number, .int .i64 m.r.cmd.stp.time, .int .i64 m.r.cmd.stp.client, .int .i64 m.r.cmd.shards, .slice pm.A m.r.cmd.reads.length pm.n, .slice pm.B m.r.cmd.writes.length pm.m, .bool m.r.cmd.commit, .int .i64 m.r.seq, .int .i64 m.r.deps.d0, .int .i64 m.r.deps.d1, .int .i64 m.r.deps.d2, .int .i64 m.r.deps.d3, .int .i64 m.r.deps.d4, .int .i64 m.r.deps.d5, .int .i64 m.r.deps.d6, .bool m.r.kept]) agg_39_30 rfl)) ?_
  refine p_val (v := .iface 39 (vMsg m pm)) rfl rfl (x_makeIface pl_39_ rfl rfl) ?_
  refine p_call (vs := #[.iface 39 (vMsg m pm)]) fn_15 rfl rfl rfl (args1 rfl) ?_
  refine (C_encM _ m pm ((((((hm.ext x3).ext x7).ext x11).ext x14).ext x25).ext x31) sl20).mono ?_
  rintro e w35 ⟨A33, k34, rfl, hb36, x37⟩
  refine ⟨_, rfl, ?_⟩
  have hl38 := hb36.lies
  refine p_val (v := .tuple #[.slice A33 ((outM m).length) k34, .int .i64 (errOf (rightMsg m))]) rfl rfl (x_move rfl rfl) ?_
  refine p_val (v := .slice A33 ((outM m).length) k34) rfl rfl (x_extract rfl rfl rfl) ?_
  refine p_val (v := .int .i64 (errOf (rightMsg m))) rfl rfl (x_extract rfl rfl rfl) ?_
  refine p_val (v := .slice A33 ((outM m).length) k34) rfl rfl (x_assign rfl rfl) ?_
  refine p_val (v := .int .i64 (errOf (rightMsg m))) rfl rfl (x_assign rfl rfl) ?_
  refine p_nil ?_
  refine t_norm ?_
  refine c_seq ?_
  refine c_quiet ?_
  refine q_val (v := .slice A21 ((outC c).length) k22) rfl rfl (fun w' x' => x_move rfl rfl) ?_
  refine q_val (v := .int .i64 ((outC c).length : Int)) rfl rfl (fun w' x' => x_len_slice sl_46 rfl rfl) ?_
  refine q_val (v := .bool true) rfl rfl (fun w' x' => yb (x_leq rfl rfl rfl) (decide_eq_true (outC_len c))) ?_
  refine q_val (v := .bool true) rfl rfl (fun w' x' => x_move rfl rfl) ?_
  refine q_val (v := .slice A27 ((outR m.r).length) k28) rfl rfl (fun w' x' => x_move rfl rfl) ?_
  refine q_val (v := .int .i64 ((outR m.r).length : Int)) rfl rfl (fun w' x' => x_len_slice sl_46 rfl rfl) ?_
  refine q_val (v := .bool true) rfl rfl (fun w' x' => yb (x_leq rfl rfl rfl) (decide_eq_true (outR_len m.r))) ?_
  refine q_val (v := .bool true) rfl rfl (fun w' x' => x_pick_t rfl rfl rfl) ?_
  refine q_val (v := .bool true) rfl rfl (fun w' x' => x_move rfl rfl) ?_
  refine q_val (v := .slice A33 ((outM m).length) k34) rfl rfl (fun w' x' => x_move rfl rfl) ?_
  refine q_val (v := .int .i64 ((outM m).length : Int)) rfl rfl (fun w' x' => x_len_slice sl_46 rfl rfl) ?_
  refine q_val (v := .bool true) rfl rfl (fun w' x' => yb (x_leq rfl rfl rfl) (decide_eq_true (outM_len m))) ?_
  refine q_val (v := .bool true) rfl rfl (fun w' x' => x_pick_t rfl rfl rfl) ?_
  refine q_val (v := .bool true) rfl rfl (fun w' x' => x_move rfl rfl) ?_
  refine q_val (v := .slice A33 ((outM m).length) k34) rfl rfl (fun w' x' => x_move rfl rfl) ?_
  refine q_val (v := .int .i64 ((outM m).length : Int)) rfl rfl (fun w' x' => x_len_slice sl_46 rfl rfl) ?_
  refine q_bool (b := decide (((outM m).length : Int) = 0)) rfl rfl (fun w' x' => x_eql rfl rfl rfl) (fun c39 => ?_) (fun c39 => ?_)
  ·refine q_val (v := .bool true) rfl rfl (fun w' x' => x_move rfl rfl) ?_
   refine q_skip rfl rfl ?_
   refine q_skip rfl rfl ?_
   refine q_skip rfl rfl ?_
   refine q_skip rfl rfl ?_
   refine q_skip rfl rfl ?_
   refine q_val (v := .bool true) rfl rfl (fun w' x' => x_pick_t rfl rfl rfl) ?_
   refine q_val (v := .bool true) rfl rfl (fun w' x' => x_pick_t rfl rfl rfl) ?_
   refine q_val (v := .bool true) rfl rfl (fun w' x' => x_move rfl rfl) ?_
   refine q_call (vs := #[]) fn_8 rfl rfl rfl (args0) (v := .bool true) (fun w' x' => C_awake _) ?_
   refine q_val (v := .bool true) rfl rfl (fun w' x' => x_pick_t rfl rfl rfl) ?_
   refine q_val (v := .bool true) rfl rfl (fun w' x' => x_assign rfl rfl) ?_
   refine q_nil (fun w40 x41 => ?_)
   refine t_norm ?_
   refine c_ret ?_
   exact c_done rfl rfl (Ret.b (rfl) (((((((x3.trans x7).trans x11).trans x14).trans x25).trans x31).trans x37).trans x41))
  ·refine q_val (v := .bool false) rfl rfl (fun w' x' => x_move rfl rfl) ?_
   refine q_val (v := .slice A33 ((outM m).length) k34) rfl rfl (fun w' x' => x_move rfl rfl) ?_
   refine q_val (v := .int .i64 ((outM m).length : Int)) rfl rfl (fun w' x' => x_len_slice sl_46 rfl rfl) ?_
   refine q_val (v := .slice A27 ((outR m.r).length) k28) rfl rfl (fun w' x' => x_move rfl rfl) ?_
   refine q_val (v := .int .i64 ((outR m.r).length : Int)) rfl rfl (fun w' x' => x_len_slice sl_46 rfl rfl) ?_
   refine q_bool (b := decide (((outM m).length : Int) > ((outR m.r).length : Int))) rfl rfl (fun w' x' => x_gtr rfl rfl rfl) (fun c42 => ?_) (fun c42 => ?_)
   ·refine q_val (v := .bool true) rfl rfl (fun w' x' => x_pick_f rfl rfl rfl) ?_
    refine q_val (v := .bool true) rfl rfl (fun w' x' => x_pick_t rfl rfl rfl) ?_
    refine q_val (v := .bool true) rfl rfl (fun w' x' => x_move rfl rfl) ?_
    refine q_call (vs := #[]) fn_8 rfl rfl rfl (args0) (v := .bool true) (fun w' x' => C_awake _) ?_
    refine q_val (v := .bool true) rfl rfl (fun w' x' => x_pick_t rfl rfl rfl) ?_
    refine q_val (v := .bool true) rfl rfl (fun w' x' => x_assign rfl rfl) ?_
    refine q_nil (fun w43 x44 => ?_)
    refine t_norm ?_
    refine c_ret ?_
    exact c_done rfl rfl (Ret.b (rfl) (((((((x3.trans x7).trans x11).trans x14).trans x25).trans x31).trans x37).trans x44))
   ·
    exact absurd (outM_more m) (by have h1 := of_decide_eq_false c39; have h2 := of_decide_eq_false c42; omega)

end Go.Proofs.Ytibhkdomoknnfaa
