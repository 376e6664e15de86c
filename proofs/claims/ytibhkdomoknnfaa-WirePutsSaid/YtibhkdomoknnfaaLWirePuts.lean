/- What WirePuts answers. -/
import Derived.Test.YtibhkdomoknnfaaEnc
import Derived.Test.YtibhkdomoknnfaaAD
namespace Go.Proofs.Ytibhkdomoknnfaa
open Go.RowKit Go.Eng
set_option linter.unusedVariables false
set_option linter.unusedSimpArgs false
set_option maxHeartbeats 4000000 in
theorem C_WirePuts (w : World) (c : Cmd) (pc : Ptr) (hc : CmdAt w c pc) (r : Rec) (pr : Ptr) (hr : CmdAt w r.cmd pr) (m : Msg) (pm : Ptr) (hm : CmdAt w m.r.cmd pm) :
    Calls Try.prog 4 #[vCmd c pc, vRec r pr, vMsg m pm] w (Ret w (.bool true)) := by
 refine c_enter (n := 127) Try.func4 rfl rfl rfl ?_
 refine c_seq ?_
 refine c_plain ?_
 refine p_box rfl rfl rfl rfl (fun w1 b2 x3 z4 => ?_)
 refine p_box rfl rfl rfl rfl (fun w5 b6 x7 z8 => ?_)
 refine p_box rfl rfl rfl rfl (fun w9 b10 x11 z12 => ?_)
 refine p_val (v := .bool false) rfl rfl (x_assign rfl rfl) ?_
 refine p_nil ?_
 refine t_norm ?_
 refine c_seq ?_
 refine c_seq ?_
 refine c_plain ?_
 refine p_val (v := vCmd c pc) rfl rfl (x_load rfl rfl (((b2.ext x7).ext x11).agg (vs := [.int .i64 c.kind, .int .i64 c.txn.client, .int .i64 c.txn.number, .int .i64 c.stp.time, .int .i64 c.stp.client, .int .i64 c.shards, .slice pc.A c.reads.length pc.n, .slice pc.B c.writes.length pc.m, .bool c.commit]) agg_33_9 rfl)) ?_
 refine p_val (v := .pointer (some (⟨w1.heap.size, 7, none⟩))) rfl rfl (x_fieldAddr fld_37_4 rfl rfl rfl) ?_
 refine p_val (v := .agg #[.int .i64 r.cmd.kind, .int .i64 r.cmd.txn.client, .int .i64 r.cmd.txn.number, .int .i64 r.cmd.stp.time, .int .i64 r.cmd.stp.client, .int .i64 r.cmd.shards, .slice pr.A r.cmd.reads.length pr.n, .slice pr.B r.cmd.writes.length pr.m, .bool r.cmd.commit]) rfl rfl (x_load rfl rfl ((b6.ext x11).agg (vs := [.int .i64 r.cmd.kind, .int .i64 r.cmd.txn.client, .int .i64 r.cmd.txn.number, .int .i64 r.cmd.stp.time, .int .i64 r.cmd.stp.client, .int .i64 r.cmd.shards, .slice pr.A r.cmd.reads.length pr.n, .slice pr.B r.cmd.writes.length pr.m, .bool r.cmd.commit]) agg_33_9 rfl)) ?_
 refine p_val (v := .pointer (some (⟨w5.heap.size, 5, none⟩))) rfl rfl (x_fieldAddr fld_39_4 rfl rfl rfl) ?_
 refine p_val (v := .pointer (some (⟨w5.heap.size, 12, none⟩))) rfl rfl (x_fieldAddr fld_37_4 rfl rfl rfl) ?_
 refine p_val (v := .agg #[.int .i64 m.r.cmd.kind, .int .i64 m.r.cmd.txn.client, .int .i64 m.r.cmd.txn.number, .int .i64 m.r.cmd.stp.time, .int .i64 m.r.cmd.stp.client, .int .i64 m.r.cmd.shards, .slice pm.A m.r.cmd.reads.length pm.n, .slice pm.B m.r.cmd.writes.length pm.m, .bool m.r.cmd.commit]) rfl rfl (x_load rfl rfl (b10.agg (vs := [.int .i64 m.r.cmd.kind, .int .i64 m.r.cmd.txn.client, .int .i64 m.r.cmd.txn.number, .int .i64 m.r.cmd.stp.time, .int .i64 m.r.cmd.stp.client, .int .i64 m.r.cmd.shards, .slice pm.A m.r.cmd.reads.length pm.n, .slice pm.B m.r.cmd.writes.length pm.m, .bool m.r.cmd.commit]) agg_33_9 rfl)) ?_
 refine p_buildSlice (cs := [.int .i64 c.kind, .int .i64 c.txn.client, .int .i64 c.txn.number, .int .i64 c.stp.time, .int .i64 c.stp.client, .int .i64 c.shards, .slice pc.A c.reads.length pc.n, .slice pc.B c.writes.length pc.m, .bool c.commit, .int .i64 r.cmd.kind, .int .i64 r.cmd.txn.client, .int .i64 r.cmd.txn.number, .int .i64 r.cmd.stp.time, .int .i64 r.cmd.stp.client, .int .i64 r.cmd.shards, .slice pr.A r.cmd.reads.length pr.n, .slice pr.B r.cmd.writes.length pr.m, .bool r.cmd.commit, .int .i64 m.r.cmd.kind, .int .i64 m.r.cmd.txn.client, .int .i64 m.r.cmd.txn.number, .int .i64 m.r.cmd.stp.time, .int .i64 m.r.cmd.stp.client, .int .i64 m.r.cmd.shards, .slice pm.A m.r.cmd.reads.length pm.n, .slice pm.B m.r.cmd.writes.length pm.m, .bool m.r.cmd.commit]) el_62 rfl rfl rfl (parts3 rfl rfl rfl) (by decide) (by decide) (fill_ok [vCmd c pc, .agg #[.int .i64 r.cmd.kind, .int .i64 r.cmd.txn.client, .int .i64 r.cmd.txn.number, .int .i64 r.cmd.stp.time, .int .i64 r.cmd.stp.client, .int .i64 r.cmd.shards, .slice pr.A r.cmd.reads.length pr.n, .slice pr.B r.cmd.writes.length pr.m, .bool r.cmd.commit], .agg #[.int .i64 m.r.cmd.kind, .int .i64 m.r.cmd.txn.client, .int .i64 m.r.cmd.txn.number, .int .i64 m.r.cmd.stp.time, .int .i64 m.r.cmd.stp.client, .int .i64 m.r.cmd.shards, .slice pm.A m.r.cmd.reads.length pm.n, .slice pm.B m.r.cmd.writes.length pm.m, .bool m.r.cmd.commit]] [.int .i64 c.kind, .int .i64 c.txn.client, .int .i64 c.txn.number, .int .i64 c.stp.time, .int .i64 c.stp.client, .int .i64 c.shards, .slice pc.A c.reads.length pc.n, .slice pc.B c.writes.length pc.m, .bool c.commit, .int .i64 r.cmd.kind, .int .i64 r.cmd.txn.client, .int .i64 r.cmd.txn.number, .int .i64 r.cmd.stp.time, .int .i64 r.cmd.stp.client, .int .i64 r.cmd.shards, .slice pr.A r.cmd.reads.length pr.n, .slice pr.B r.cmd.writes.length pr.m, .bool r.cmd.commit, .int .i64 m.r.cmd.kind, .int .i64 m.r.cmd.txn.client, .int .i64 m.r.cmd.txn.number, .int .i64 m.r.cmd.stp.time, .int .i64 m.r.cmd.stp.client, .int .i64 m.r.cmd.shards, .slice pm.A m.r.cmd.reads.length pm.n, .slice pm.B m.r.cmd.writes.length pm.m, .bool m.r.cmd.commit] rfl rfl) (fun w13 b14 x15 z16 => ?_)
 refine p_call (vs := #[.slice (some ⟨w9.heap.size, 0, none⟩) 3 3]) fn_7 rfl rfl rfl (args1 rfl) ?_
 refine (C_few _ _ _ [(c, pc), (r.cmd, pr), (m.r.cmd, pm)] (lies_box (f := fCmd) b14 rfl (fun _ => rfl) (by simp only [List.mem_cons, List.not_mem_nil, or_false]; rintro z (rfl | rfl | rfl) <;> first | exact ⟨rfl, ((((hc.ext x3).ext x7).ext x11).ext x15)⟩ | exact ⟨rfl, ((((hr.ext x3).ext x7).ext x11).ext x15)⟩ | exact ⟨rfl, ((((hm.ext x3).ext x7).ext x11).ext x15)⟩)) (by simp)).mono ?_
 rintro e w17 ⟨rfl, x18⟩
 refine ⟨_, rfl, ?_⟩
 cases c19 : few [(c, pc), (r.cmd, pr), (m.r.cmd, pm)]
 case false =>
  refine p_val (v := .bool true) rfl rfl (x_not (b := false) rfl rfl) ?_
  refine p_nil ?_
  refine t_norm ?_
  refine c_true rfl ?_
  refine c_seq ?_
  refine c_quiet ?_
  refine q_call (vs := #[]) fn_8 rfl rfl rfl (args0) (v := .bool true) (fun w' x' => C_awake _) ?_
  refine q_val (v := .bool true) rfl rfl (fun w' x' => x_assign rfl rfl) ?_
  refine q_nil (fun w20 x21 => ?_)
  refine t_norm ?_
  refine c_ret ?_
  refine t_ret ?_
  exact c_done rfl rfl (Ret.b (rfl) (((((x3.trans x7).trans x11).trans x15).trans x18).trans x21))
 case true =>
  have hf22 := c19
  simp only [few, List.all_cons, List.all_nil, Bool.and_true, Bool.and_eq_true] at hf22
  have sl23 := few_slim hf22.1
  have sl24 := few_slim hf22.2.1
  have sl25 := few_slim hf22.2.2
  refine p_val (v := .bool false) rfl rfl (x_not (b := true) rfl rfl) ?_
  refine p_nil ?_
  refine t_norm ?_
  refine c_false rfl ?_
  refine c_skip ?_
  refine t_norm ?_
  refine c_seq ?_
  refine c_plain ?_
  refine p_val (v := vCmd c pc) rfl rfl (x_load rfl rfl (((((b2.ext x7).ext x11).ext x15).ext x18).agg (vs := [.int .i64 c.kind, .int .i64 c.txn.client, .int .i64 c.txn.number, .int .i64 c.stp.time, .int .i64 c.stp.client, .int .i64 c.shards, .slice pc.A c.reads.length pc.n, .slice pc.B c.writes.length pc.m, .bool c.commit]) agg_33_9 rfl)) ?_
  refine p_val (v := .iface 33 (vCmd c pc)) rfl rfl (x_makeIface pl_33_ rfl rfl) ?_
  refine p_call (vs := #[.iface 33 (vCmd c pc)]) fn_15 rfl rfl rfl (args1 rfl) ?_
  refine (C_encC _ c pc (((((hc.ext x3).ext x7).ext x11).ext x15).ext x18) sl23).mono ?_
  rintro e w28 ⟨A26, k27, rfl, hb29, x30⟩
  refine ⟨_, rfl, ?_⟩
  have hl31 := hb29.lies
  refine p_val (v := .tuple #[.slice A26 ((outC c).length) k27, .int .i64 (errOf (rightCmd c))]) rfl rfl (x_move rfl rfl) ?_
  refine p_val (v := .slice A26 ((outC c).length) k27) rfl rfl (x_extract rfl rfl rfl) ?_
  refine p_val (v := .int .i64 (errOf (rightCmd c))) rfl rfl (x_extract rfl rfl rfl) ?_
  refine p_val (v := .slice A26 ((outC c).length) k27) rfl rfl (x_assign rfl rfl) ?_
  refine p_val (v := .int .i64 (errOf (rightCmd c))) rfl rfl (x_assign rfl rfl) ?_
  refine p_nil ?_
  refine t_norm ?_
  refine c_seq ?_
  refine c_plain ?_
  refine p_val (v := vRec r pr) rfl rfl (x_load rfl rfl (((((b6.ext x11).ext x15).ext x18).ext x30).agg (vs := [.int .i64 r.inst.replica, .int .i64 r.inst.slot, .int .i64 r.status, .int .i64 r.promise.number, .int .i64 r.promise.replica, .int .i64 r.ballot.number, .int .i64 r.ballot.replica, .int .i64 r.cmd.kind, .int .i64 r.cmd.txn.client, .int .i64 r.cmd.txn.number, .int .i64 r.cmd.stp.time, .int .i64 r.cmd.stp.client, .int .i64 r.cmd.shards, .slice pr.A r.cmd.reads.length pr.n, .slice pr.B r.cmd.writes.length pr.m, .bool r.cmd.commit, .int .i64 r.seq, .int .i64 r.deps.d0, .int .i64 r.deps.d1, .int .i64 r.deps.d2, .int .i64 r.deps.d3, .int .i64 r.deps.d4, .int .i64 r.deps.d5, .int .i64 r.deps.d6, .bool r.kept]) agg_37_25 rfl)) ?_
  refine p_val (v := .iface 37 (vRec r pr)) rfl rfl (x_makeIface pl_37_ rfl rfl) ?_
  refine p_call (vs := #[.iface 37 (vRec r pr)]) fn_15 rfl rfl rfl (args1 rfl) ?_
  refine (C_encR _ r pr ((((((hr.ext x3).ext x7).ext x11).ext x15).ext x18).ext x30) sl24).mono ?_
  rintro e w34 ⟨A32, k33, rfl, hb35, x36⟩
  refine ⟨_, rfl, ?_⟩
  have hl37 := hb35.lies
  refine p_val (v := .tuple #[.slice A32 ((outR r).length) k33, .int .i64 (errOf (rightRec r))]) rfl rfl (x_move rfl rfl) ?_
  refine p_val (v := .slice A32 ((outR r).length) k33) rfl rfl (x_extract rfl rfl rfl) ?_
  refine p_val (v := .int .i64 (errOf (rightRec r))) rfl rfl (x_extract rfl rfl rfl) ?_
  refine p_val (v := .slice A32 ((outR r).length) k33) rfl rfl (x_assign rfl rfl) ?_
  refine p_val (v := .int .i64 (errOf (rightRec r))) rfl rfl (x_assign rfl rfl) ?_
  refine p_nil ?_
  refine t_norm ?_
  refine c_seq ?_
  refine c_plain ?_
  refine p_val (v := vMsg m pm) rfl rfl (x_load rfl rfl (((((b10.ext x15).ext x18).ext x30).ext x36).agg (vs := [.int .i64 m.kind, .int .i64 m.src, .int .i64 m.dst, .int .i64 m.ballot.number, .int .i64 m.ballot.replica, .int .i64 m.r.inst.replica, .int .i64 m.r.inst.slot, .int .i64 m.r.status, .int .i64 m.r.promise.number, .int .i64 m.r.promise.replica, .int .i64 m.r.ballot.number, .int .i64 m.r.ballot.replica, .int .i64 m.r.cmd.kind, .int .i64 m.r.cmd.txn.client, .int .i64 m.r.cmd.txn.number, .int .i64 m.r.cmd.stp.time, .int .i64 m.r.cmd.stp.client, .int .i64 m.r.cmd.shards, .slice pm.A m.r.cmd.reads.length pm.n, .slice pm.B m.r.cmd.writes.length pm.m, .bool m.r.cmd.commit, .int .i64 m.r.seq, .int .i64 m.r.deps.d0, .int .i64 m.r.deps.d1, .int .i64 m.r.deps.d2, .int .i64 m.r.deps.d3, .int .i64 m.r.deps.d4, .int .i64 m.r.deps.d5, .int .i64 m.r.deps.d6, .bool m.r.kept]) agg_39_30 rfl)) ?_
  refine p_val (v := .iface 39 (vMsg m pm)) rfl rfl (x_makeIface pl_39_ rfl rfl) ?_
  refine p_call (vs := #[.iface 39 (vMsg m pm)]) fn_15 rfl rfl rfl (args1 rfl) ?_
  refine (C_encM _ m pm (((((((hm.ext x3).ext x7).ext x11).ext x15).ext x18).ext x30).ext x36) sl25).mono ?_
  rintro e w40 ⟨A38, k39, rfl, hb41, x42⟩
  refine ⟨_, rfl, ?_⟩
  have hl43 := hb41.lies
  refine p_val (v := .tuple #[.slice A38 ((outM m).length) k39, .int .i64 (errOf (rightMsg m))]) rfl rfl (x_move rfl rfl) ?_
  refine p_val (v := .slice A38 ((outM m).length) k39) rfl rfl (x_extract rfl rfl rfl) ?_
  refine p_val (v := .int .i64 (errOf (rightMsg m))) rfl rfl (x_extract rfl rfl rfl) ?_
  refine p_val (v := .slice A38 ((outM m).length) k39) rfl rfl (x_assign rfl rfl) ?_
  refine p_val (v := .int .i64 (errOf (rightMsg m))) rfl rfl (x_assign rfl rfl) ?_
  refine p_nil ?_
  refine t_norm ?_
  refine c_seq ?_
  refine c_seq ?_
  refine c_quiet ?_
  refine q_val (v := .int .i64 (errOf (rightCmd c))) rfl rfl (fun w' x' => x_move rfl rfl) ?_
  refine q_bool (b := decide (errOf (rightCmd c) = 0)) rfl rfl (fun w' x' => x_eql rfl rfl rfl) (fun c44 => ?_) (fun c44 => ?_)
  ·have hh45 := (errOf_eq (rightCmd c)).symm.trans c44
   refine q_val (v := vCmd c pc) rfl rfl (fun w' x' => x_load rfl rfl (((((((((b2.ext x7).ext x11).ext x15).ext x18).ext x30).ext x36).ext x42).ext x').agg (vs := [.int .i64 c.kind, .int .i64 c.txn.client, .int .i64 c.txn.number, .int .i64 c.stp.time, .int .i64 c.stp.client, .int .i64 c.shards, .slice pc.A c.reads.length pc.n, .slice pc.B c.writes.length pc.m, .bool c.commit]) agg_33_9 rfl)) ?_
   refine q_call (vs := #[vCmd c pc]) fn_16 rfl rfl rfl (args1 rfl) (v := .bool true) (fun w' x' => (hh45) ▸ D_rightCmd _ c pc (((((((((hc.ext x3).ext x7).ext x11).ext x15).ext x18).ext x30).ext x36).ext x42).ext x') sl23) ?_
   refine q_val (v := .bool false) rfl rfl (fun w' x' => yb (x_bneq (a := true) (b := true) bool_4 rfl rfl rfl) rfl) ?_
   refine q_val (v := .bool false) rfl rfl (fun w' x' => x_move rfl rfl) ?_
   refine q_val (v := .int .i64 (errOf (rightRec r))) rfl rfl (fun w' x' => x_move rfl rfl) ?_
   refine q_bool (b := decide (errOf (rightRec r) = 0)) rfl rfl (fun w' x' => x_eql rfl rfl rfl) (fun c46 => ?_) (fun c46 => ?_)
   ·have hh47 := (errOf_eq (rightRec r)).symm.trans c46
    refine q_val (v := vRec r pr) rfl rfl (fun w' x' => x_load rfl rfl ((((((((b6.ext x11).ext x15).ext x18).ext x30).ext x36).ext x42).ext x').agg (vs := [.int .i64 r.inst.replica, .int .i64 r.inst.slot, .int .i64 r.status, .int .i64 r.promise.number, .int .i64 r.promise.replica, .int .i64 r.ballot.number, .int .i64 r.ballot.replica, .int .i64 r.cmd.kind, .int .i64 r.cmd.txn.client, .int .i64 r.cmd.txn.number, .int .i64 r.cmd.stp.time, .int .i64 r.cmd.stp.client, .int .i64 r.cmd.shards, .slice pr.A r.cmd.reads.length pr.n, .slice pr.B r.cmd.writes.length pr.m, .bool r.cmd.commit, .int .i64 r.seq, .int .i64 r.deps.d0, .int .i64 r.deps.d1, .int .i64 r.deps.d2, .int .i64 r.deps.d3, .int .i64 r.deps.d4, .int .i64 r.deps.d5, .int .i64 r.deps.d6, .bool r.kept]) agg_37_25 rfl)) ?_
    refine q_call (vs := #[vRec r pr]) fn_10 rfl rfl rfl (args1 rfl) (v := .bool true) (fun w' x' => (hh47) ▸ D_rightRec _ r pr (((((((((hr.ext x3).ext x7).ext x11).ext x15).ext x18).ext x30).ext x36).ext x42).ext x') sl24) ?_
    refine q_val (v := .bool false) rfl rfl (fun w' x' => yb (x_bneq (a := true) (b := true) bool_4 rfl rfl rfl) rfl) ?_
    refine q_val (v := .bool false) rfl rfl (fun w' x' => x_pick_f rfl rfl rfl) ?_
    refine q_val (v := .bool false) rfl rfl (fun w' x' => x_move rfl rfl) ?_
    refine q_val (v := .int .i64 (errOf (rightMsg m))) rfl rfl (fun w' x' => x_move rfl rfl) ?_
    refine q_bool (b := decide (errOf (rightMsg m) = 0)) rfl rfl (fun w' x' => x_eql rfl rfl rfl) (fun c48 => ?_) (fun c48 => ?_)
    ·have hh49 := (errOf_eq (rightMsg m)).symm.trans c48
     refine q_val (v := vMsg m pm) rfl rfl (fun w' x' => x_load rfl rfl (((((((b10.ext x15).ext x18).ext x30).ext x36).ext x42).ext x').agg (vs := [.int .i64 m.kind, .int .i64 m.src, .int .i64 m.dst, .int .i64 m.ballot.number, .int .i64 m.ballot.replica, .int .i64 m.r.inst.replica, .int .i64 m.r.inst.slot, .int .i64 m.r.status, .int .i64 m.r.promise.number, .int .i64 m.r.promise.replica, .int .i64 m.r.ballot.number, .int .i64 m.r.ballot.replica, .int .i64 m.r.cmd.kind, .int .i64 m.r.cmd.txn.client, .int .i64 m.r.cmd.txn.number, .int .i64 m.r.cmd.stp.time, .int .i64 m.r.cmd.stp.client, .int .i64 m.r.cmd.shards, .slice pm.A m.r.cmd.reads.length pm.n, .slice pm.B m.r.cmd.writes.length pm.m, .bool m.r.cmd.commit, .int .i64 m.r.seq, .int .i64 m.r.deps.d0, .int .i64 m.r.deps.d1, .int .i64 m.r.deps.d2, .int .i64 m.r.deps.d3, .int .i64 m.r.deps.d4, .int .i64 m.r.deps.d5, .int .i64 m.r.deps.d6, .bool m.r.kept]) agg_39_30 rfl)) ?_
     refine q_call (vs := #[vMsg m pm]) fn_12 rfl rfl rfl (args1 rfl) (v := .bool true) (fun w' x' => (hh49) ▸ D_rightMsg _ m pm (((((((((hm.ext x3).ext x7).ext x11).ext x15).ext x18).ext x30).ext x36).ext x42).ext x') sl25) ?_
     refine q_val (v := .bool false) rfl rfl (fun w' x' => yb (x_bneq (a := true) (b := true) bool_4 rfl rfl rfl) rfl) ?_
     refine q_val (v := .bool false) rfl rfl (fun w' x' => x_pick_f rfl rfl rfl) ?_
     refine q_nil (fun w50 x51 => ?_)
     refine t_norm ?_
     refine c_false rfl ?_
     refine c_skip ?_
     refine t_norm ?_
     refine c_seq ?_
     refine c_seq ?_
     refine c_plain ?_
     refine p_val (v := .int .i64 (errOf (rightCmd c))) rfl rfl (x_move rfl rfl) ?_
     refine p_val (v := .bool true) rfl rfl (yb (x_eql rfl rfl rfl) c44) ?_
     refine p_val (v := .bool true) rfl rfl (x_move rfl rfl) ?_
     refine p_val (v := .slice A26 ((outC c).length) k27) rfl rfl (x_move rfl rfl) ?_
     refine p_val (v := vCmd c pc) rfl rfl (x_load rfl rfl (((((((((b2.ext x7).ext x11).ext x15).ext x18).ext x30).ext x36).ext x42).ext x51).agg (vs := [.int .i64 c.kind, .int .i64 c.txn.client, .int .i64 c.txn.number, .int .i64 c.stp.time, .int .i64 c.stp.client, .int .i64 c.shards, .slice pc.A c.reads.length pc.n, .slice pc.B c.writes.length pc.m, .bool c.commit]) agg_33_9 rfl)) ?_
     refine p_call (vs := #[vCmd c pc]) fn_18 rfl rfl rfl (args1 rfl) ?_
     refine (D_Command _ c pc (((((((((hc.ext x3).ext x7).ext x11).ext x15).ext x18).ext x30).ext x36).ext x42).ext x51) (good_of hh45)).mono ?_
     rintro e w52 ⟨A55, c56, rfl, hb53, x54⟩
     refine ⟨_, rfl, ?_⟩
     refine p_call (vs := #[.slice A26 ((outC c).length) k27, .slice A55 ((encCmd c).length) c56]) fn_17 rfl rfl rfl (args2 rfl rfl) ?_
     refine (Calls.asBool (decide_eq_true (by simp [outC, hh45])) (C_same _ _ _ _ (outC c) rfl _ _ _ (encCmd c) rfl ((((hl31.ext x36).ext x42).ext x51).ext x54) (hb53.mono ((((((((x3.trans x7).trans x11).trans x15).trans x18).trans x30).trans x36).trans x42).trans x51).size).lies hb29.small)).mono ?_
     rintro e w57 ⟨rfl, x58⟩
     refine ⟨_, rfl, ?_⟩
     refine p_val (v := .bool false) rfl rfl (x_not (b := true) rfl rfl) ?_
     refine p_val (v := .bool false) rfl rfl (x_pick_t rfl rfl rfl) ?_
     refine p_val (v := .bool false) rfl rfl (x_move rfl rfl) ?_
     refine p_val (v := .int .i64 (errOf (rightCmd c))) rfl rfl (x_move rfl rfl) ?_
     refine p_val (v := .bool false) rfl rfl (yb (x_neq rfl rfl rfl) (by simp [errOf, hh45])) ?_
     refine p_val (v := .bool false) rfl rfl (x_move rfl rfl) ?_
     refine p_skip rfl rfl ?_
     refine p_skip rfl rfl ?_
     refine p_skip rfl rfl ?_
     refine p_skip rfl rfl ?_
     refine p_skip rfl rfl ?_
     refine p_skip rfl rfl ?_
     refine p_skip rfl rfl ?_
     refine p_val (v := .bool false) rfl rfl (x_pick_f rfl rfl rfl) ?_
     refine p_val (v := .bool false) rfl rfl (x_pick_f rfl rfl rfl) ?_
     refine p_nil ?_
     refine t_norm ?_
     refine c_false rfl ?_
     refine c_skip ?_
     refine t_norm ?_
     refine c_seq ?_
     refine c_seq ?_
     refine c_plain ?_
     refine p_val (v := .int .i64 (errOf (rightRec r))) rfl rfl (x_move rfl rfl) ?_
     refine p_val (v := .bool true) rfl rfl (yb (x_eql rfl rfl rfl) c46) ?_
     refine p_val (v := .bool true) rfl rfl (x_move rfl rfl) ?_
     refine p_val (v := .slice A32 ((outR r).length) k33) rfl rfl (x_move rfl rfl) ?_
     refine p_val (v := vRec r pr) rfl rfl (x_load rfl rfl ((((((((((b6.ext x11).ext x15).ext x18).ext x30).ext x36).ext x42).ext x51).ext x54).ext x58).agg (vs := [.int .i64 r.inst.replica, .int .i64 r.inst.slot, .int .i64 r.status, .int .i64 r.promise.number, .int .i64 r.promise.replica, .int .i64 r.ballot.number, .int .i64 r.ballot.replica, .int .i64 r.cmd.kind, .int .i64 r.cmd.txn.client, .int .i64 r.cmd.txn.number, .int .i64 r.cmd.stp.time, .int .i64 r.cmd.stp.client, .int .i64 r.cmd.shards, .slice pr.A r.cmd.reads.length pr.n, .slice pr.B r.cmd.writes.length pr.m, .bool r.cmd.commit, .int .i64 r.seq, .int .i64 r.deps.d0, .int .i64 r.deps.d1, .int .i64 r.deps.d2, .int .i64 r.deps.d3, .int .i64 r.deps.d4, .int .i64 r.deps.d5, .int .i64 r.deps.d6, .bool r.kept]) agg_37_25 rfl)) ?_
     refine p_call (vs := #[vRec r pr]) fn_19 rfl rfl rfl (args1 rfl) ?_
     refine (D_Record _ r pr (((((((((((hr.ext x3).ext x7).ext x11).ext x15).ext x18).ext x30).ext x36).ext x42).ext x51).ext x54).ext x58) (good_rec hh47)).mono ?_
     rintro e w59 ⟨A62, c63, rfl, hb60, x61⟩
     refine ⟨_, rfl, ?_⟩
     refine p_call (vs := #[.slice A32 ((outR r).length) k33, .slice A62 ((encRec r).length) c63]) fn_17 rfl rfl rfl (args2 rfl rfl) ?_
     refine (Calls.asBool (decide_eq_true (by simp [outR, hh47])) (C_same _ _ _ _ (outR r) rfl _ _ _ (encRec r) rfl (((((hl37.ext x42).ext x51).ext x54).ext x58).ext x61) (hb60.mono ((((((((((x3.trans x7).trans x11).trans x15).trans x18).trans x30).trans x36).trans x42).trans x51).trans x54).trans x58).size).lies hb35.small)).mono ?_
     rintro e w64 ⟨rfl, x65⟩
     refine ⟨_, rfl, ?_⟩
     refine p_val (v := .bool false) rfl rfl (x_not (b := true) rfl rfl) ?_
     refine p_val (v := .bool false) rfl rfl (x_pick_t rfl rfl rfl) ?_
     refine p_val (v := .bool false) rfl rfl (x_move rfl rfl) ?_
     refine p_val (v := .int .i64 (errOf (rightRec r))) rfl rfl (x_move rfl rfl) ?_
     refine p_val (v := .bool false) rfl rfl (yb (x_neq rfl rfl rfl) (by simp [errOf, hh47])) ?_
     refine p_val (v := .bool false) rfl rfl (x_move rfl rfl) ?_
     refine p_skip rfl rfl ?_
     refine p_skip rfl rfl ?_
     refine p_skip rfl rfl ?_
     refine p_skip rfl rfl ?_
     refine p_skip rfl rfl ?_
     refine p_skip rfl rfl ?_
     refine p_skip rfl rfl ?_
     refine p_val (v := .bool false) rfl rfl (x_pick_f rfl rfl rfl) ?_
     refine p_val (v := .bool false) rfl rfl (x_pick_f rfl rfl rfl) ?_
     refine p_nil ?_
     refine t_norm ?_
     refine c_false rfl ?_
     refine c_skip ?_
     refine t_norm ?_
     refine c_seq ?_
     refine c_seq ?_
     refine c_plain ?_
     refine p_val (v := .int .i64 (errOf (rightMsg m))) rfl rfl (x_move rfl rfl) ?_
     refine p_val (v := .bool true) rfl rfl (yb (x_eql rfl rfl rfl) c48) ?_
     refine p_val (v := .bool true) rfl rfl (x_move rfl rfl) ?_
     refine p_val (v := .slice A38 ((outM m).length) k39) rfl rfl (x_move rfl rfl) ?_
     refine p_val (v := vMsg m pm) rfl rfl (x_load rfl rfl (((((((((((b10.ext x15).ext x18).ext x30).ext x36).ext x42).ext x51).ext x54).ext x58).ext x61).ext x65).agg (vs := [.int .i64 m.kind, .int .i64 m.src, .int .i64 m.dst, .int .i64 m.ballot.number, .int .i64 m.ballot.replica, .int .i64 m.r.inst.replica, .int .i64 m.r.inst.slot, .int .i64 m.r.status, .int .i64 m.r.promise.number, .int .i64 m.r.promise.replica, .int .i64 m.r.ballot.number, .int .i64 m.r.ballot.replica, .int .i64 m.r.cmd.kind, .int .i64 m.r.cmd.txn.client, .int .i64 m.r.cmd.txn.number, .int .i64 m.r.cmd.stp.time, .int .i64 m.r.cmd.stp.client, .int .i64 m.r.cmd.shards, .slice pm.A m.r.cmd.reads.length pm.n, .slice pm.B m.r.cmd.writes.length pm.m, .bool m.r.cmd.commit, .int .i64 m.r.seq, .int .i64 m.r.deps.d0, .int .i64 m.r.deps.d1, .int .i64 m.r.deps.d2, .int .i64 m.r.deps.d3, .int .i64 m.r.deps.d4, .int .i64 m.r.deps.d5, .int .i64 m.r.deps.d6, .bool m.r.kept]) agg_39_30 rfl)) ?_
     refine p_call (vs := #[vMsg m pm]) fn_20 rfl rfl rfl (args1 rfl) ?_
     refine (D_Message _ m pm (((((((((((((hm.ext x3).ext x7).ext x11).ext x15).ext x18).ext x30).ext x36).ext x42).ext x51).ext x54).ext x58).ext x61).ext x65) (good_msg hh49)).mono ?_
     rintro e w66 ⟨A69, c70, rfl, hb67, x68⟩
     refine ⟨_, rfl, ?_⟩
     refine p_call (vs := #[.slice A38 ((outM m).length) k39, .slice A69 ((encMsg m).length) c70]) fn_17 rfl rfl rfl (args2 rfl rfl) ?_
     refine (Calls.asBool (decide_eq_true (by simp [outM, hh49])) (C_same _ _ _ _ (outM m) rfl _ _ _ (encMsg m) rfl ((((((hl43.ext x51).ext x54).ext x58).ext x61).ext x65).ext x68) (hb67.mono ((((((((((((x3.trans x7).trans x11).trans x15).trans x18).trans x30).trans x36).trans x42).trans x51).trans x54).trans x58).trans x61).trans x65).size).lies hb41.small)).mono ?_
     rintro e w71 ⟨rfl, x72⟩
     refine ⟨_, rfl, ?_⟩
     refine p_val (v := .bool false) rfl rfl (x_not (b := true) rfl rfl) ?_
     refine p_val (v := .bool false) rfl rfl (x_pick_t rfl rfl rfl) ?_
     refine p_val (v := .bool false) rfl rfl (x_move rfl rfl) ?_
     refine p_val (v := .int .i64 (errOf (rightMsg m))) rfl rfl (x_move rfl rfl) ?_
     refine p_val (v := .bool false) rfl rfl (yb (x_neq rfl rfl rfl) (by simp [errOf, hh49])) ?_
     refine p_val (v := .bool false) rfl rfl (x_move rfl rfl) ?_
     refine p_skip rfl rfl ?_
     refine p_skip rfl rfl ?_
     refine p_skip rfl rfl ?_
     refine p_skip rfl rfl ?_
     refine p_skip rfl rfl ?_
     refine p_skip rfl rfl ?_
     refine p_skip rfl rfl ?_
     refine p_val (v := .bool false) rfl rfl (x_pick_f rfl rfl rfl) ?_
     refine p_val (v := .bool false) rfl rfl (x_pick_f rfl rfl rfl) ?_
     refine p_nil ?_
     refine t_norm ?_
     refine c_false rfl ?_
     refine c_skip ?_
     refine t_norm ?_
     refine c_seq ?_
     refine c_quiet ?_
     refine q_call (vs := #[]) fn_8 rfl rfl rfl (args0) (v := .bool true) (fun w' x' => C_awake _) ?_
     refine q_val (v := .bool true) rfl rfl (fun w' x' => x_assign rfl rfl) ?_
     refine q_nil (fun w73 x74 => ?_)
     refine t_norm ?_
     refine c_ret ?_
     exact c_done rfl rfl (Ret.b (rfl) (((((((((((((((x3.trans x7).trans x11).trans x15).trans x18).trans x30).trans x36).trans x42).trans x51).trans x54).trans x58).trans x61).trans x65).trans x68).trans x72).trans x74))
    ·have hh75 := (errOf_eq (rightMsg m)).symm.trans c48
     refine q_val (v := vMsg m pm) rfl rfl (fun w' x' => x_load rfl rfl (((((((b10.ext x15).ext x18).ext x30).ext x36).ext x42).ext x').agg (vs := [.int .i64 m.kind, .int .i64 m.src, .int .i64 m.dst, .int .i64 m.ballot.number, .int .i64 m.ballot.replica, .int .i64 m.r.inst.replica, .int .i64 m.r.inst.slot, .int .i64 m.r.status, .int .i64 m.r.promise.number, .int .i64 m.r.promise.replica, .int .i64 m.r.ballot.number, .int .i64 m.r.ballot.replica, .int .i64 m.r.cmd.kind, .int .i64 m.r.cmd.txn.client, .int .i64 m.r.cmd.txn.number, .int .i64 m.r.cmd.stp.time, .int .i64 m.r.cmd.stp.client, .int .i64 m.r.cmd.shards, .slice pm.A m.r.cmd.reads.length pm.n, .slice pm.B m.r.cmd.writes.length pm.m, .bool m.r.cmd.commit, .int .i64 m.r.seq, .int .i64 m.r.deps.d0, .int .i64 m.r.deps.d1, .int .i64 m.r.deps.d2, .int .i64 m.r.deps.d3, .int .i64 m.r.deps.d4, .int .i64 m.r.deps.d5, .int .i64 m.r.deps.d6, .bool m.r.kept]) agg_39_30 rfl)) ?_
     refine q_call (vs := #[vMsg m pm]) fn_12 rfl rfl rfl (args1 rfl) (v := .bool false) (fun w' x' => (hh75) ▸ D_rightMsg _ m pm (((((((((hm.ext x3).ext x7).ext x11).ext x15).ext x18).ext x30).ext x36).ext x42).ext x') sl25) ?_
     refine q_val (v := .bool false) rfl rfl (fun w' x' => yb (x_bneq (a := false) (b := false) bool_4 rfl rfl rfl) rfl) ?_
     refine q_val (v := .bool false) rfl rfl (fun w' x' => x_pick_f rfl rfl rfl) ?_
     refine q_nil (fun w76 x77 => ?_)
     refine t_norm ?_
     refine c_false rfl ?_
     refine c_skip ?_
     refine t_norm ?_
     refine c_seq ?_
     refine c_seq ?_
     refine c_plain ?_
     refine p_val (v := .int .i64 (errOf (rightCmd c))) rfl rfl (x_move rfl rfl) ?_
     refine p_val (v := .bool true) rfl rfl (yb (x_eql rfl rfl rfl) c44) ?_
     refine p_val (v := .bool true) rfl rfl (x_move rfl rfl) ?_
     refine p_val (v := .slice A26 ((outC c).length) k27) rfl rfl (x_move rfl rfl) ?_
     refine p_val (v := vCmd c pc) rfl rfl (x_load rfl rfl (((((((((b2.ext x7).ext x11).ext x15).ext x18).ext x30).ext x36).ext x42).ext x77).agg (vs := [.int .i64 c.kind, .int .i64 c.txn.client, .int .i64 c.txn.number, .int .i64 c.stp.time, .int .i64 c.stp.client, .int .i64 c.shards, .slice pc.A c.reads.length pc.n, .slice pc.B c.writes.length pc.m, .bool c.commit]) agg_33_9 rfl)) ?_
     refine p_call (vs := #[vCmd c pc]) fn_18 rfl rfl rfl (args1 rfl) ?_
     refine (D_Command _ c pc (((((((((hc.ext x3).ext x7).ext x11).ext x15).ext x18).ext x30).ext x36).ext x42).ext x77) (good_of hh45)).mono ?_
     rintro e w78 ⟨A81, c82, rfl, hb79, x80⟩
     refine ⟨_, rfl, ?_⟩
     refine p_call (vs := #[.slice A26 ((outC c).length) k27, .slice A81 ((encCmd c).length) c82]) fn_17 rfl rfl rfl (args2 rfl rfl) ?_
     refine (Calls.asBool (decide_eq_true (by simp [outC, hh45])) (C_same _ _ _ _ (outC c) rfl _ _ _ (encCmd c) rfl ((((hl31.ext x36).ext x42).ext x77).ext x80) (hb79.mono ((((((((x3.trans x7).trans x11).trans x15).trans x18).trans x30).trans x36).trans x42).trans x77).size).lies hb29.small)).mono ?_
     rintro e w83 ⟨rfl, x84⟩
     refine ⟨_, rfl, ?_⟩
     refine p_val (v := .bool false) rfl rfl (x_not (b := true) rfl rfl) ?_
     refine p_val (v := .bool false) rfl rfl (x_pick_t rfl rfl rfl) ?_
     refine p_val (v := .bool false) rfl rfl (x_move rfl rfl) ?_
     refine p_val (v := .int .i64 (errOf (rightCmd c))) rfl rfl (x_move rfl rfl) ?_
     refine p_val (v := .bool false) rfl rfl (yb (x_neq rfl rfl rfl) (by simp [errOf, hh45])) ?_
     refine p_val (v := .bool false) rfl rfl (x_move rfl rfl) ?_
     refine p_skip rfl rfl ?_
     refine p_skip rfl rfl ?_
     refine p_skip rfl rfl ?_
     refine p_skip rfl rfl ?_
     refine p_skip rfl rfl ?_
     refine p_skip rfl rfl ?_
     refine p_skip rfl rfl ?_
     refine p_val (v := .bool false) rfl rfl (x_pick_f rfl rfl rfl) ?_
     refine p_val (v := .bool false) rfl rfl (x_pick_f rfl rfl rfl) ?_
     refine p_nil ?_
     refine t_norm ?_
     refine c_false rfl ?_
     refine c_skip ?_
     refine t_norm ?_
     refine c_seq ?_
     refine c_seq ?_
     refine c_plain ?_
     refine p_val (v := .int .i64 (errOf (rightRec r))) rfl rfl (x_move rfl rfl) ?_
     refine p_val (v := .bool true) rfl rfl (yb (x_eql rfl rfl rfl) c46) ?_
     refine p_val (v := .bool true) rfl rfl (x_move rfl rfl) ?_
     refine p_val (v := .slice A32 ((outR r).length) k33) rfl rfl (x_move rfl rfl) ?_
     refine p_val (v := vRec r pr) rfl rfl (x_load rfl rfl ((((((((((b6.ext x11).ext x15).ext x18).ext x30).ext x36).ext x42).ext x77).ext x80).ext x84).agg (vs := [.int .i64 r.inst.replica, .int .i64 r.inst.slot, .int .i64 r.status, .int .i64 r.promise.number, .int .i64 r.promise.replica, .int .i64 r.ballot.number, .int .i64 r.ballot.replica, .int .i64 r.cmd.kind, .int .i64 r.cmd.txn.client, .int .i64 r.cmd.txn.number, .int .i64 r.cmd.stp.time, .int .i64 r.cmd.stp.client, .int .i64 r.cmd.shards, .slice pr.A r.cmd.reads.length pr.n, .slice pr.B r.cmd.writes.length pr.m, .bool r.cmd.commit, .int .i64 r.seq, .int .i64 r.deps.d0, .int .i64 r.deps.d1, .int .i64 r.deps.d2, .int .i64 r.deps.d3, .int .i64 r.deps.d4, .int .i64 r.deps.d5, .int .i64 r.deps.d6, .bool r.kept]) agg_37_25 rfl)) ?_
     refine p_call (vs := #[vRec r pr]) fn_19 rfl rfl rfl (args1 rfl) ?_
     refine (D_Record _ r pr (((((((((((hr.ext x3).ext x7).ext x11).ext x15).ext x18).ext x30).ext x36).ext x42).ext x77).ext x80).ext x84) (good_rec hh47)).mono ?_
     rintro e w85 ⟨A88, c89, rfl, hb86, x87⟩
     refine ⟨_, rfl, ?_⟩
     refine p_call (vs := #[.slice A32 ((outR r).length) k33, .slice A88 ((encRec r).length) c89]) fn_17 rfl rfl rfl (args2 rfl rfl) ?_
     refine (Calls.asBool (decide_eq_true (by simp [outR, hh47])) (C_same _ _ _ _ (outR r) rfl _ _ _ (encRec r) rfl (((((hl37.ext x42).ext x77).ext x80).ext x84).ext x87) (hb86.mono ((((((((((x3.trans x7).trans x11).trans x15).trans x18).trans x30).trans x36).trans x42).trans x77).trans x80).trans x84).size).lies hb35.small)).mono ?_
     rintro e w90 ⟨rfl, x91⟩
     refine ⟨_, rfl, ?_⟩
     refine p_val (v := .bool false) rfl rfl (x_not (b := true) rfl rfl) ?_
     refine p_val (v := .bool false) rfl rfl (x_pick_t rfl rfl rfl) ?_
     refine p_val (v := .bool false) rfl rfl (x_move rfl rfl) ?_
     refine p_val (v := .int .i64 (errOf (rightRec r))) rfl rfl (x_move rfl rfl) ?_
     refine p_val (v := .bool false) rfl rfl (yb (x_neq rfl rfl rfl) (by simp [errOf, hh47])) ?_
     refine p_val (v := .bool false) rfl rfl (x_move rfl rfl) ?_
     refine p_skip rfl rfl ?_
     refine p_skip rfl rfl ?_
     refine p_skip rfl rfl ?_
     refine p_skip rfl rfl ?_
     refine p_skip rfl rfl ?_
     refine p_skip rfl rfl ?_
     refine p_skip rfl rfl ?_
     refine p_val (v := .bool false) rfl rfl (x_pick_f rfl rfl rfl) ?_
     refine p_val (v := .bool false) rfl rfl (x_pick_f rfl rfl rfl) ?_
     refine p_nil ?_
     refine t_norm ?_
     refine c_false rfl ?_
     refine c_skip ?_
     refine t_norm ?_
     refine c_seq ?_
     refine c_seq ?_
     refine c_plain ?_
     refine p_val (v := .int .i64 (errOf (rightMsg m))) rfl rfl (x_move rfl rfl) ?_
     refine p_val (v := .bool false) rfl rfl (yb (x_eql rfl rfl rfl) c48) ?_
     refine p_val (v := .bool false) rfl rfl (x_move rfl rfl) ?_
     refine p_skip rfl rfl ?_
     refine p_skip rfl rfl ?_
     refine p_skip rfl rfl ?_
     refine p_skip rfl rfl ?_
     refine p_skip rfl rfl ?_
     refine p_val (v := .bool false) rfl rfl (x_pick_f rfl rfl rfl) ?_
     refine p_val (v := .bool false) rfl rfl (x_move rfl rfl) ?_
     refine p_val (v := .int .i64 (errOf (rightMsg m))) rfl rfl (x_move rfl rfl) ?_
     refine p_val (v := .bool true) rfl rfl (yb (x_neq rfl rfl rfl) (by simp [errOf, hh75])) ?_
     refine p_val (v := .bool true) rfl rfl (x_move rfl rfl) ?_
     refine p_val (v := .slice A38 ((outM m).length) k39) rfl rfl (x_move rfl rfl) ?_
     refine p_val (v := .int .i64 ((outM m).length : Int)) rfl rfl (x_len_slice sl_46 rfl rfl) ?_
     refine p_val (v := .bool false) rfl rfl (yb (x_gtr rfl rfl rfl) (by simp [outM, hh75])) ?_
     refine p_val (v := .bool false) rfl rfl (x_move rfl rfl) ?_
     refine p_val (v := .int .i64 (errOf (rightMsg m))) rfl rfl (x_move rfl rfl) ?_
     refine p_val (v := .bool false) rfl rfl (yb (x_neq rfl rfl rfl) (by simp [errOf, hh75])) ?_
     refine p_val (v := .bool false) rfl rfl (x_pick_f rfl rfl rfl) ?_
     refine p_val (v := .bool false) rfl rfl (x_pick_t rfl rfl rfl) ?_
     refine p_val (v := .bool false) rfl rfl (x_pick_f rfl rfl rfl) ?_
     refine p_nil ?_
     refine t_norm ?_
     refine c_false rfl ?_
     refine c_skip ?_
     refine t_norm ?_
     refine c_seq ?_
     refine c_quiet ?_
     refine q_call (vs := #[]) fn_8 rfl rfl rfl (args0) (v := .bool true) (fun w' x' => C_awake _) ?_
     refine q_val (v := .bool true) rfl rfl (fun w' x' => x_assign rfl rfl) ?_
     refine q_nil (fun w92 x93 => ?_)
     refine t_norm ?_
     refine c_ret ?_
     exact c_done rfl rfl (Ret.b (rfl) (((((((((((((x3.trans x7).trans x11).trans x15).trans x18).trans x30).trans x36).trans x42).trans x77).trans x80).trans x84).trans x87).trans x91).trans x93))
   ·have hh94 := (errOf_eq (rightRec r)).symm.trans c46
    refine q_val (v := vRec r pr) rfl rfl (fun w' x' => x_load rfl rfl ((((((((b6.ext x11).ext x15).ext x18).ext x30).ext x36).ext x42).ext x').agg (vs := [.int .i64 r.inst.replica, .int .i64 r.inst.slot, .int .i64 r.status, .int .i64 r.promise.number, .int .i64 r.promise.replica, .int .i64 r.ballot.number, .int .i64 r.ballot.replica, .int .i64 r.cmd.kind, .int .i64 r.cmd.txn.client, .int .i64 r.cmd.txn.number, .int .i64 r.cmd.stp.time, .int .i64 r.cmd.stp.client, .int .i64 r.cmd.shards, .slice pr.A r.cmd.reads.length pr.n, .slice pr.B r.cmd.writes.length pr.m, .bool r.cmd.commit, .int .i64 r.seq, .int .i64 r.deps.d0, .int .i64 r.deps.d1, .int .i64 r.deps.d2, .int .i64 r.deps.d3, .int .i64 r.deps.d4, .int .i64 r.deps.d5, .int .i64 r.deps.d6, .bool r.kept]) agg_37_25 rfl)) ?_
    refine q_call (vs := #[vRec r pr]) fn_10 rfl rfl rfl (args1 rfl) (v := .bool false) (fun w' x' => (hh94) ▸ D_rightRec _ r pr (((((((((hr.ext x3).ext x7).ext x11).ext x15).ext x18).ext x30).ext x36).ext x42).ext x') sl24) ?_
    refine q_val (v := .bool false) rfl rfl (fun w' x' => yb (x_bneq (a := false) (b := false) bool_4 rfl rfl rfl) rfl) ?_
    refine q_val (v := .bool false) rfl rfl (fun w' x' => x_pick_f rfl rfl rfl) ?_
    refine q_val (v := .bool false) rfl rfl (fun w' x' => x_move rfl rfl) ?_
    refine q_val (v := .int .i64 (errOf (rightMsg m))) rfl rfl (fun w' x' => x_move rfl rfl) ?_
    refine q_bool (b := decide (errOf (rightMsg m) = 0)) rfl rfl (fun w' x' => x_eql rfl rfl rfl) (fun c95 => ?_) (fun c95 => ?_)
    ·have hh96 := (errOf_eq (rightMsg m)).symm.trans c95
     refine q_val (v := vMsg m pm) rfl rfl (fun w' x' => x_load rfl rfl (((((((b10.ext x15).ext x18).ext x30).ext x36).ext x42).ext x').agg (vs := [.int .i64 m.kind, .int .i64 m.src, .int .i64 m.dst, .int .i64 m.ballot.number, .int .i64 m.ballot.replica, .int .i64 m.r.inst.replica, .int .i64 m.r.inst.slot, .int .i64 m.r.status, .int .i64 m.r.promise.number, .int .i64 m.r.promise.replica, .int .i64 m.r.ballot.number, .int .i64 m.r.ballot.replica, .int .i64 m.r.cmd.kind, .int .i64 m.r.cmd.txn.client, .int .i64 m.r.cmd.txn.number, .int .i64 m.r.cmd.stp.time, .int .i64 m.r.cmd.stp.client, .int .i64 m.r.cmd.shards, .slice pm.A m.r.cmd.reads.length pm.n, .slice pm.B m.r.cmd.writes.length pm.m, .bool m.r.cmd.commit, .int .i64 m.r.seq, .int .i64 m.r.deps.d0, .int .i64 m.r.deps.d1, .int .i64 m.r.deps.d2, .int .i64 m.r.deps.d3, .int .i64 m.r.deps.d4, .int .i64 m.r.deps.d5, .int .i64 m.r.deps.d6, .bool m.r.kept]) agg_39_30 rfl)) ?_
     refine q_call (vs := #[vMsg m pm]) fn_12 rfl rfl rfl (args1 rfl) (v := .bool true) (fun w' x' => (hh96) ▸ D_rightMsg _ m pm (((((((((hm.ext x3).ext x7).ext x11).ext x15).ext x18).ext x30).ext x36).ext x42).ext x') sl25) ?_
     refine q_val (v := .bool false) rfl rfl (fun w' x' => yb (x_bneq (a := true) (b := true) bool_4 rfl rfl rfl) rfl) ?_
     refine q_val (v := .bool false) rfl rfl (fun w' x' => x_pick_f rfl rfl rfl) ?_
     refine q_nil (fun w97 x98 => ?_)
     refine t_norm ?_
     refine c_false rfl ?_
     refine c_skip ?_
     refine t_norm ?_
     refine c_seq ?_
     refine c_seq ?_
     refine c_plain ?_
     refine p_val (v := .int .i64 (errOf (rightCmd c))) rfl rfl (x_move rfl rfl) ?_
     refine p_val (v := .bool true) rfl rfl (yb (x_eql rfl rfl rfl) c44) ?_
     refine p_val (v := .bool true) rfl rfl (x_move rfl rfl) ?_
     refine p_val (v := .slice A26 ((outC c).length) k27) rfl rfl (x_move rfl rfl) ?_
     refine p_val (v := vCmd c pc) rfl rfl (x_load rfl rfl (((((((((b2.ext x7).ext x11).ext x15).ext x18).ext x30).ext x36).ext x42).ext x98).agg (vs := [.int .i64 c.kind, .int .i64 c.txn.client, .int .i64 c.txn.number, .int .i64 c.stp.time, .int .i64 c.stp.client, .int .i64 c.shards, .slice pc.A c.reads.length pc.n, .slice pc.B c.writes.length pc.m, .bool c.commit]) agg_33_9 rfl)) ?_
     refine p_call (vs := #[vCmd c pc]) fn_18 rfl rfl rfl (args1 rfl) ?_
     refine (D_Command _ c pc (((((((((hc.ext x3).ext x7).ext x11).ext x15).ext x18).ext x30).ext x36).ext x42).ext x98) (good_of hh45)).mono ?_
     rintro e w99 ⟨A102, c103, rfl, hb100, x101⟩
     refine ⟨_, rfl, ?_⟩
     refine p_call (vs := #[.slice A26 ((outC c).length) k27, .slice A102 ((encCmd c).length) c103]) fn_17 rfl rfl rfl (args2 rfl rfl) ?_
     refine (Calls.asBool (decide_eq_true (by simp [outC, hh45])) (C_same _ _ _ _ (outC c) rfl _ _ _ (encCmd c) rfl ((((hl31.ext x36).ext x42).ext x98).ext x101) (hb100.mono ((((((((x3.trans x7).trans x11).trans x15).trans x18).trans x30).trans x36).trans x42).trans x98).size).lies hb29.small)).mono ?_
     rintro e w104 ⟨rfl, x105⟩
     refine ⟨_, rfl, ?_⟩
     refine p_val (v := .bool false) rfl rfl (x_not (b := true) rfl rfl) ?_
     refine p_val (v := .bool false) rfl rfl (x_pick_t rfl rfl rfl) ?_
     refine p_val (v := .bool false) rfl rfl (x_move rfl rfl) ?_
     refine p_val (v := .int .i64 (errOf (rightCmd c))) rfl rfl (x_move rfl rfl) ?_
     refine p_val (v := .bool false) rfl rfl (yb (x_neq rfl rfl rfl) (by simp [errOf, hh45])) ?_
     refine p_val (v := .bool false) rfl rfl (x_move rfl rfl) ?_
     refine p_skip rfl rfl ?_
     refine p_skip rfl rfl ?_
     refine p_skip rfl rfl ?_
     refine p_skip rfl rfl ?_
     refine p_skip rfl rfl ?_
     refine p_skip rfl rfl ?_
     refine p_skip rfl rfl ?_
     refine p_val (v := .bool false) rfl rfl (x_pick_f rfl rfl rfl) ?_
     refine p_val (v := .bool false) rfl rfl (x_pick_f rfl rfl rfl) ?_
     refine p_nil ?_
     refine t_norm ?_
     refine c_false rfl ?_
     refine c_skip ?_
     refine t_norm ?_
     refine c_seq ?_
     refine c_seq ?_
     refine c_plain ?_
     refine p_val (v := .int .i64 (errOf (rightRec r))) rfl rfl (x_move rfl rfl) ?_
     refine p_val (v := .bool false) rfl rfl (yb (x_eql rfl rfl rfl) c46) ?_
     refine p_val (v := .bool false) rfl rfl (x_move rfl rfl) ?_
     refine p_skip rfl rfl ?_
     refine p_skip rfl rfl ?_
     refine p_skip rfl rfl ?_
     refine p_skip rfl rfl ?_
     refine p_skip rfl rfl ?_
     refine p_val (v := .bool false) rfl rfl (x_pick_f rfl rfl rfl) ?_
     refine p_val (v := .bool false) rfl rfl (x_move rfl rfl) ?_
     refine p_val (v := .int .i64 (errOf (rightRec r))) rfl rfl (x_move rfl rfl) ?_
     refine p_val (v := .bool true) rfl rfl (yb (x_neq rfl rfl rfl) (by simp [errOf, hh94])) ?_
     refine p_val (v := .bool true) rfl rfl (x_move rfl rfl) ?_
     refine p_val (v := .slice A32 ((outR r).length) k33) rfl rfl (x_move rfl rfl) ?_
     refine p_val (v := .int .i64 ((outR r).length : Int)) rfl rfl (x_len_slice sl_46 rfl rfl) ?_
     refine p_val (v := .bool false) rfl rfl (yb (x_gtr rfl rfl rfl) (by simp [outR, hh94])) ?_
     refine p_val (v := .bool false) rfl rfl (x_move rfl rfl) ?_
     refine p_val (v := .int .i64 (errOf (rightRec r))) rfl rfl (x_move rfl rfl) ?_
     refine p_val (v := .bool false) rfl rfl (yb (x_neq rfl rfl rfl) (by simp [errOf, hh94])) ?_
     refine p_val (v := .bool false) rfl rfl (x_pick_f rfl rfl rfl) ?_
     refine p_val (v := .bool false) rfl rfl (x_pick_t rfl rfl rfl) ?_
     refine p_val (v := .bool false) rfl rfl (x_pick_f rfl rfl rfl) ?_
     refine p_nil ?_
     refine t_norm ?_
     refine c_false rfl ?_
     refine c_skip ?_
     refine t_norm ?_
     refine c_seq ?_
     refine c_seq ?_
     refine c_plain ?_
     refine p_val (v := .int .i64 (errOf (rightMsg m))) rfl rfl (x_move rfl rfl) ?_
     refine p_val (v := .bool true) rfl rfl (yb (x_eql rfl rfl rfl) c95) ?_
     refine p_val (v := .bool true) rfl rfl (x_move rfl rfl) ?_
     refine p_val (v := .slice A38 ((outM m).length) k39) rfl rfl (x_move rfl rfl) ?_
     refine p_val (v := vMsg m pm) rfl rfl (x_load rfl rfl (((((((((b10.ext x15).ext x18).ext x30).ext x36).ext x42).ext x98).ext x101).ext x105).agg (vs := [.int .i64 m.kind, .int .i64 m.src, .int .i64 m.dst, .int .i64 m.ballot.number, .int .i64 m.ballot.replica, .int .i64 m.r.inst.replica, .int .i64 m.r.inst.slot, .int .i64 m.r.status, .int .i64 m.r.promise.number, .int .i64 m.r.promise.replica, .int .i64 m.r.ballot.number, .int .i64 m.r.ballot.replica, .int .i64 m.r.cmd.kind, .int .i64 m.r.cmd.txn.client, .int .i64 m.r.cmd.txn.number, .int .i64 m.r.cmd.stp.time, .int .i64 m.r.cmd.stp.client, .int .i64 m.r.cmd.shards, .slice pm.A m.r.cmd.reads.length pm.n, .slice pm.B m.r.cmd.writes.length pm.m, .bool m.r.cmd.commit, .int .i64 m.r.seq, .int .i64 m.r.deps.d0, .int .i64 m.r.deps.d1, .int .i64 m.r.deps.d2, .int .i64 m.r.deps.d3, .int .i64 m.r.deps.d4, .int .i64 m.r.deps.d5, .int .i64 m.r.deps.d6, .bool m.r.kept]) agg_39_30 rfl)) ?_
     refine p_call (vs := #[vMsg m pm]) fn_20 rfl rfl rfl (args1 rfl) ?_
     refine (D_Message _ m pm (((((((((((hm.ext x3).ext x7).ext x11).ext x15).ext x18).ext x30).ext x36).ext x42).ext x98).ext x101).ext x105) (good_msg hh96)).mono ?_
     rintro e w106 ⟨A109, c110, rfl, hb107, x108⟩
     refine ⟨_, rfl, ?_⟩
     refine p_call (vs := #[.slice A38 ((outM m).length) k39, .slice A109 ((encMsg m).length) c110]) fn_17 rfl rfl rfl (args2 rfl rfl) ?_
     refine (Calls.asBool (decide_eq_true (by simp [outM, hh96])) (C_same _ _ _ _ (outM m) rfl _ _ _ (encMsg m) rfl ((((hl43.ext x98).ext x101).ext x105).ext x108) (hb107.mono ((((((((((x3.trans x7).trans x11).trans x15).trans x18).trans x30).trans x36).trans x42).trans x98).trans x101).trans x105).size).lies hb41.small)).mono ?_
     rintro e w111 ⟨rfl, x112⟩
     refine ⟨_, rfl, ?_⟩
     refine p_val (v := .bool false) rfl rfl (x_not (b := true) rfl rfl) ?_
     refine p_val (v := .bool false) rfl rfl (x_pick_t rfl rfl rfl) ?_
     refine p_val (v := .bool false) rfl rfl (x_move rfl rfl) ?_
     refine p_val (v := .int .i64 (errOf (rightMsg m))) rfl rfl (x_move rfl rfl) ?_
     refine p_val (v := .bool false) rfl rfl (yb (x_neq rfl rfl rfl) (by simp [errOf, hh96])) ?_
     refine p_val (v := .bool false) rfl rfl (x_move rfl rfl) ?_
     refine p_skip rfl rfl ?_
     refine p_skip rfl rfl ?_
     refine p_skip rfl rfl ?_
     refine p_skip rfl rfl ?_
     refine p_skip rfl rfl ?_
     refine p_skip rfl rfl ?_
     refine p_skip rfl rfl ?_
     refine p_val (v := .bool false) rfl rfl (x_pick_f rfl rfl rfl) ?_
     refine p_val (v := .bool false) rfl rfl (x_pick_f rfl rfl rfl) ?_
     refine p_nil ?_
     refine t_norm ?_
     refine c_false rfl ?_
     refine c_skip ?_
     refine t_norm ?_
     refine c_seq ?_
     refine c_quiet ?_
     refine q_call (vs := #[]) fn_8 rfl rfl rfl (args0) (v := .bool true) (fun w' x' => C_awake _) ?_
     refine q_val (v := .bool true) rfl rfl (fun w' x' => x_assign rfl rfl) ?_
     refine q_nil (fun w113 x114 => ?_)
     refine t_norm ?_
     refine c_ret ?_
     exact c_done rfl rfl (Ret.b (rfl) (((((((((((((x3.trans x7).trans x11).trans x15).trans x18).trans x30).trans x36).trans x42).trans x98).trans x101).trans x105).trans x108).trans x112).trans x114))
    ·have hh115 := (errOf_eq (rightMsg m)).symm.trans c95
     refine q_val (v := vMsg m pm) rfl rfl (fun w' x' => x_load rfl rfl (((((((b10.ext x15).ext x18).ext x30).ext x36).ext x42).ext x').agg (vs := [.int .i64 m.kind, .int .i64 m.src, .int .i64 m.dst, .int .i64 m.ballot.number, .int .i64 m.ballot.replica, .int .i64 m.r.inst.replica, .int .i64 m.r.inst.slot, .int .i64 m.r.status, .int .i64 m.r.promise.number, .int .i64 m.r.promise.replica, .int .i64 m.r.ballot.number, .int .i64 m.r.ballot.replica, .int .i64 m.r.cmd.kind, .int .i64 m.r.cmd.txn.client, .int .i64 m.r.cmd.txn.number, .int .i64 m.r.cmd.stp.time, .int .i64 m.r.cmd.stp.client, .int .i64 m.r.cmd.shards, .slice pm.A m.r.cmd.reads.length pm.n, .slice pm.B m.r.cmd.writes.length pm.m, .bool m.r.cmd.commit, .int .i64 m.r.seq, .int .i64 m.r.deps.d0, .int .i64 m.r.deps.d1, .int .i64 m.r.deps.d2, .int .i64 m.r.deps.d3, .int .i64 m.r.deps.d4, .int .i64 m.r.deps.d5, .int .i64 m.r.deps.d6, .bool m.r.kept]) agg_39_30 rfl)) ?_
     refine q_call (vs := #[vMsg m pm]) fn_12 rfl rfl rfl (args1 rfl) (v := .bool false) (fun w' x' => (hh115) ▸ D_rightMsg _ m pm (((((((((hm.ext x3).ext x7).ext x11).ext x15).ext x18).ext x30).ext x36).ext x42).ext x') sl25) ?_
     refine q_val (v := .bool false) rfl rfl (fun w' x' => yb (x_bneq (a := false) (b := false) bool_4 rfl rfl rfl) rfl) ?_
     refine q_val (v := .bool false) rfl rfl (fun w' x' => x_pick_f rfl rfl rfl) ?_
     refine q_nil (fun w116 x117 => ?_)
     refine t_norm ?_
     refine c_false rfl ?_
     refine c_skip ?_
     refine t_norm ?_
     refine c_seq ?_
     refine c_seq ?_
     refine c_plain ?_
     refine p_val (v := .int .i64 (errOf (rightCmd c))) rfl rfl (x_move rfl rfl) ?_
     refine p_val (v := .bool true) rfl rfl (yb (x_eql rfl rfl rfl) c44) ?_
     refine p_val (v := .bool true) rfl rfl (x_move rfl rfl) ?_
     refine p_val (v := .slice A26 ((outC c).length) k27) rfl rfl (x_move rfl rfl) ?_
     refine p_val (v := vCmd c pc) rfl rfl (x_load rfl rfl (((((((((b2.ext x7).ext x11).ext x15).ext x18).ext x30).ext x36).ext x42).ext x117).agg (vs := [.int .i64 c.kind, .int .i64 c.txn.client, .int .i64 c.txn.number, .int .i64 c.stp.time, .int .i64 c.stp.client, .int .i64 c.shards, .slice pc.A c.reads.length pc.n, .slice pc.B c.writes.length pc.m, .bool c.commit]) agg_33_9 rfl)) ?_
     refine p_call (vs := #[vCmd c pc]) fn_18 rfl rfl rfl (args1 rfl) ?_
     refine (D_Command _ c pc (((((((((hc.ext x3).ext x7).ext x11).ext x15).ext x18).ext x30).ext x36).ext x42).ext x117) (good_of hh45)).mono ?_
     rintro e w118 ⟨A121, c122, rfl, hb119, x120⟩
     refine ⟨_, rfl, ?_⟩
     refine p_call (vs := #[.slice A26 ((outC c).length) k27, .slice A121 ((encCmd c).length) c122]) fn_17 rfl rfl rfl (args2 rfl rfl) ?_
     refine (Calls.asBool (decide_eq_true (by simp [outC, hh45])) (C_same _ _ _ _ (outC c) rfl _ _ _ (encCmd c) rfl ((((hl31.ext x36).ext x42).ext x117).ext x120) (hb119.mono ((((((((x3.trans x7).trans x11).trans x15).trans x18).trans x30).trans x36).trans x42).trans x117).size).lies hb29.small)).mono ?_
     rintro e w123 ⟨rfl, x124⟩
     refine ⟨_, rfl, ?_⟩
     refine p_val (v := .bool false) rfl rfl (x_not (b := true) rfl rfl) ?_
     refine p_val (v := .bool false) rfl rfl (x_pick_t rfl rfl rfl) ?_
     refine p_val (v := .bool false) rfl rfl (x_move rfl rfl) ?_
     refine p_val (v := .int .i64 (errOf (rightCmd c))) rfl rfl (x_move rfl rfl) ?_
     refine p_val (v := .bool false) rfl rfl (yb (x_neq rfl rfl rfl) (by simp [errOf, hh45])) ?_
     refine p_val (v := .bool false) rfl rfl (x_move rfl rfl) ?_
     refine p_skip rfl rfl ?_
     refine p_skip rfl rfl ?_
     refine p_skip rfl rfl ?_
     refine p_skip rfl rfl ?_
     refine p_skip rfl rfl ?_
     refine p_skip rfl rfl ?_
     refine p_skip rfl rfl ?_
     refine p_val (v := .bool false) rfl rfl (x_pick_f rfl rfl rfl) ?_
     refine p_val (v := .bool false) rfl rfl (x_pick_f rfl rfl rfl) ?_
     refine p_nil ?_
     refine t_norm ?_
     refine c_false rfl ?_
     refine c_skip ?_
     refine t_norm ?_
     refine c_seq ?_
     refine c_seq ?_
     refine c_plain ?_
     refine p_val (v := .int .i64 (errOf (rightRec r))) rfl rfl (x_move rfl rfl) ?_
     refine p_val (v := .bool false) rfl rfl (yb (x_eql rfl rfl rfl) c46) ?_
     refine p_val (v := .bool false) rfl rfl (x_move rfl rfl) ?_
     refine p_skip rfl rfl ?_
     refine p_skip rfl rfl ?_
     refine p_skip rfl rfl ?_
     refine p_skip rfl rfl ?_
     refine p_skip rfl rfl ?_
     refine p_val (v := .bool false) rfl rfl (x_pick_f rfl rfl rfl) ?_
     refine p_val (v := .bool false) rfl rfl (x_move rfl rfl) ?_
     refine p_val (v := .int .i64 (errOf (rightRec r))) rfl rfl (x_move rfl rfl) ?_
     refine p_val (v := .bool true) rfl rfl (yb (x_neq rfl rfl rfl) (by simp [errOf, hh94])) ?_
     refine p_val (v := .bool true) rfl rfl (x_move rfl rfl) ?_
     refine p_val (v := .slice A32 ((outR r).length) k33) rfl rfl (x_move rfl rfl) ?_
     refine p_val (v := .int .i64 ((outR r).length : Int)) rfl rfl (x_len_slice sl_46 rfl rfl) ?_
     refine p_val (v := .bool false) rfl rfl (yb (x_gtr rfl rfl rfl) (by simp [outR, hh94])) ?_
     refine p_val (v := .bool false) rfl rfl (x_move rfl rfl) ?_
     refine p_val (v := .int .i64 (errOf (rightRec r))) rfl rfl (x_move rfl rfl) ?_
     refine p_val (v := .bool false) rfl rfl (yb (x_neq rfl rfl rfl) (by simp [errOf, hh94])) ?_
     refine p_val (v := .bool false) rfl rfl (x_pick_f rfl rfl rfl) ?_
     refine p_val (v := .bool false) rfl rfl (x_pick_t rfl rfl rfl) ?_
     refine p_val (v := .bool false) rfl rfl (x_pick_f rfl rfl rfl) ?_
     refine p_nil ?_
     refine t_norm ?_
     refine c_false rfl ?_
     refine c_skip ?_
     refine t_norm ?_
     refine c_seq ?_
     refine c_seq ?_
     refine c_plain ?_
     refine p_val (v := .int .i64 (errOf (rightMsg m))) rfl rfl (x_move rfl rfl) ?_
     refine p_val (v := .bool false) rfl rfl (yb (x_eql rfl rfl rfl) c95) ?_
     refine p_val (v := .bool false) rfl rfl (x_move rfl rfl) ?_
     refine p_skip rfl rfl ?_
     refine p_skip rfl rfl ?_
     refine p_skip rfl rfl ?_
     refine p_skip rfl rfl ?_
     refine p_skip rfl rfl ?_
     refine p_val (v := .bool false) rfl rfl (x_pick_f rfl rfl rfl) ?_
     refine p_val (v := .bool false) rfl rfl (x_move rfl rfl) ?_
     refine p_val (v := .int .i64 (errOf (rightMsg m))) rfl rfl (x_move rfl rfl) ?_
     refine p_val (v := .bool true) rfl rfl (yb (x_neq rfl rfl rfl) (by simp [errOf, hh115])) ?_
     refine p_val (v := .bool true) rfl rfl (x_move rfl rfl) ?_
     refine p_val (v := .slice A38 ((outM m).length) k39) rfl rfl (x_move rfl rfl) ?_
     refine p_val (v := .int .i64 ((outM m).length : Int)) rfl rfl (x_len_slice sl_46 rfl rfl) ?_
     refine p_val (v := .bool false) rfl rfl (yb (x_gtr rfl rfl rfl) (by simp [outM, hh115])) ?_
     refine p_val (v := .bool false) rfl rfl (x_move rfl rfl) ?_
     refine p_val (v := .int .i64 (errOf (rightMsg m))) rfl rfl (x_move rfl rfl) ?_
     refine p_val (v := .bool false) rfl rfl (yb (x_neq rfl rfl rfl) (by simp [errOf, hh115])) ?_
     refine p_val (v := .bool false) rfl rfl (x_pick_f rfl rfl rfl) ?_
     refine p_val (v := .bool false) rfl rfl (x_pick_t rfl rfl rfl) ?_
     refine p_val (v := .bool false) rfl rfl (x_pick_f rfl rfl rfl) ?_
     refine p_nil ?_
     refine t_norm ?_
     refine c_false rfl ?_
     refine c_skip ?_
     refine t_norm ?_
     refine c_seq ?_
     refine c_quiet ?_
     refine q_call (vs := #[]) fn_8 rfl rfl rfl (args0) (v := .bool true) (fun w' x' => C_awake _) ?_
     refine q_val (v := .bool true) rfl rfl (fun w' x' => x_assign rfl rfl) ?_
     refine q_nil (fun w125 x126 => ?_)
     refine t_norm ?_
     refine c_ret ?_
     exact c_done rfl rfl (Ret.b (rfl) (((((((((((x3.trans x7).trans x11).trans x15).trans x18).trans x30).trans x36).trans x42).trans x117).trans x120).trans x124).trans x126))
  ·have hh127 := (errOf_eq (rightCmd c)).symm.trans c44
   refine q_val (v := vCmd c pc) rfl rfl (fun w' x' => x_load rfl rfl (((((((((b2.ext x7).ext x11).ext x15).ext x18).ext x30).ext x36).ext x42).ext x').agg (vs := [.int .i64 c.kind, .int .i64 c.txn.client, .int .i64 c.txn.number, .int .i64 c.stp.time, .int .i64 c.stp.client, .int .i64 c.shards, .slice pc.A c.reads.length pc.n, .slice pc.B c.writes.length pc.m, .bool c.commit]) agg_33_9 rfl)) ?_
   refine q_call (vs := #[vCmd c pc]) fn_16 rfl rfl rfl (args1 rfl) (v := .bool false) (fun w' x' => (hh127) ▸ D_rightCmd _ c pc (((((((((hc.ext x3).ext x7).ext x11).ext x15).ext x18).ext x30).ext x36).ext x42).ext x') sl23) ?_
   refine q_val (v := .bool false) rfl rfl (fun w' x' => yb (x_bneq (a := false) (b := false) bool_4 rfl rfl rfl) rfl) ?_
   refine q_val (v := .bool false) rfl rfl (fun w' x' => x_move rfl rfl) ?_
   refine q_val (v := .int .i64 (errOf (rightRec r))) rfl rfl (fun w' x' => x_move rfl rfl) ?_
   refine q_bool (b := decide (errOf (rightRec r) = 0)) rfl rfl (fun w' x' => x_eql rfl rfl rfl) (fun c128 => ?_) (fun c128 => ?_)
   ·have hh129 := (errOf_eq (rightRec r)).symm.trans c128
    refine q_val (v := vRec r pr) rfl rfl (fun w' x' => x_load rfl rfl ((((((((b6.ext x11).ext x15).ext x18).ext x30).ext x36).ext x42).ext x').agg (vs := [.int .i64 r.inst.replica, .int .i64 r.inst.slot, .int .i64 r.status, .int .i64 r.promise.number, .int .i64 r.promise.replica, .int .i64 r.ballot.number, .int .i64 r.ballot.replica, .int .i64 r.cmd.kind, .int .i64 r.cmd.txn.client, .int .i64 r.cmd.txn.number, .int .i64 r.cmd.stp.time, .int .i64 r.cmd.stp.client, .int .i64 r.cmd.shards, .slice pr.A r.cmd.reads.length pr.n, .slice pr.B r.cmd.writes.length pr.m, .bool r.cmd.commit, .int .i64 r.seq, .int .i64 r.deps.d0, .int .i64 r.deps.d1, .int .i64 r.deps.d2, .int .i64 r.deps.d3, .int .i64 r.deps.d4, .int .i64 r.deps.d5, .int .i64 r.deps.d6, .bool r.kept]) agg_37_25 rfl)) ?_
    refine q_call (vs := #[vRec r pr]) fn_10 rfl rfl rfl (args1 rfl) (v := .bool true) (fun w' x' => (hh129) ▸ D_rightRec _ r pr (((((((((hr.ext x3).ext x7).ext x11).ext x15).ext x18).ext x30).ext x36).ext x42).ext x') sl24) ?_
    refine q_val (v := .bool false) rfl rfl (fun w' x' => yb (x_bneq (a := true) (b := true) bool_4 rfl rfl rfl) rfl) ?_
    refine q_val (v := .bool false) rfl rfl (fun w' x' => x_pick_f rfl rfl rfl) ?_
    refine q_val (v := .bool false) rfl rfl (fun w' x' => x_move rfl rfl) ?_
    refine q_val (v := .int .i64 (errOf (rightMsg m))) rfl rfl (fun w' x' => x_move rfl rfl) ?_
    refine q_bool (b := decide (errOf (rightMsg m) = 0)) rfl rfl (fun w' x' => x_eql rfl rfl rfl) (fun c130 => ?_) (fun c130 => ?_)
    ·have hh131 := (errOf_eq (rightMsg m)).symm.trans c130
     refine q_val (v := vMsg m pm) rfl rfl (fun w' x' => x_load rfl rfl (((((((b10.ext x15).ext x18).ext x30).ext x36).ext x42).ext x').agg (vs := [.int .i64 m.kind, .int .i64 m.src, .int .i64 m.dst, .int .i64 m.ballot.number, .int .i64 m.ballot.replica, .int .i64 m.r.inst.replica, .int .i64 m.r.inst.slot, .int .i64 m.r.status, .int .i64 m.r.promise.number, .int .i64 m.r.promise.replica, .int .i64 m.r.ballot.number, .int .i64 m.r.ballot.replica, .int .i64 m.r.cmd.kind, .int .i64 m.r.cmd.txn.client, .int .i64 m.r.cmd.txn.number, .int .i64 m.r.cmd.stp.time, .int .i64 m.r.cmd.stp.client, .int .i64 m.r.cmd.shards, .slice pm.A m.r.cmd.reads.length pm.n, .slice pm.B m.r.cmd.writes.length pm.m, .bool m.r.cmd.commit, .int .i64 m.r.seq, .int .i64 m.r.deps.d0, .int .i64 m.r.deps.d1, .int .i64 m.r.deps.d2, .int .i64 m.r.deps.d3, .int .i64 m.r.deps.d4, .int .i64 m.r.deps.d5, .int .i64 m.r.deps.d6, .bool m.r.kept]) agg_39_30 rfl)) ?_
     refine q_call (vs := #[vMsg m pm]) fn_12 rfl rfl rfl (args1 rfl) (v := .bool true) (fun w' x' => (hh131) ▸ D_rightMsg _ m pm (((((((((hm.ext x3).ext x7).ext x11).ext x15).ext x18).ext x30).ext x36).ext x42).ext x') sl25) ?_
     refine q_val (v := .bool false) rfl rfl (fun w' x' => yb (x_bneq (a := true) (b := true) bool_4 rfl rfl rfl) rfl) ?_
     refine q_val (v := .bool false) rfl rfl (fun w' x' => x_pick_f rfl rfl rfl) ?_
     refine q_nil (fun w132 x133 => ?_)
     refine t_norm ?_
     refine c_false rfl ?_
     refine c_skip ?_
     refine t_norm ?_
     refine c_seq ?_
     refine c_seq ?_
     refine c_plain ?_
     refine p_val (v := .int .i64 (errOf (rightCmd c))) rfl rfl (x_move rfl rfl) ?_
     refine p_val (v := .bool false) rfl rfl (yb (x_eql rfl rfl rfl) c44) ?_
     refine p_val (v := .bool false) rfl rfl (x_move rfl rfl) ?_
     refine p_skip rfl rfl ?_
     refine p_skip rfl rfl ?_
     refine p_skip rfl rfl ?_
     refine p_skip rfl rfl ?_
     refine p_skip rfl rfl ?_
     refine p_val (v := .bool false) rfl rfl (x_pick_f rfl rfl rfl) ?_
     refine p_val (v := .bool false) rfl rfl (x_move rfl rfl) ?_
     refine p_val (v := .int .i64 (errOf (rightCmd c))) rfl rfl (x_move rfl rfl) ?_
     refine p_val (v := .bool true) rfl rfl (yb (x_neq rfl rfl rfl) (by simp [errOf, hh127])) ?_
     refine p_val (v := .bool true) rfl rfl (x_move rfl rfl) ?_
     refine p_val (v := .slice A26 ((outC c).length) k27) rfl rfl (x_move rfl rfl) ?_
     refine p_val (v := .int .i64 ((outC c).length : Int)) rfl rfl (x_len_slice sl_46 rfl rfl) ?_
     refine p_val (v := .bool false) rfl rfl (yb (x_gtr rfl rfl rfl) (by simp [outC, hh127])) ?_
     refine p_val (v := .bool false) rfl rfl (x_move rfl rfl) ?_
     refine p_val (v := .int .i64 (errOf (rightCmd c))) rfl rfl (x_move rfl rfl) ?_
     refine p_val (v := .bool false) rfl rfl (yb (x_neq rfl rfl rfl) (by simp [errOf, hh127])) ?_
     refine p_val (v := .bool false) rfl rfl (x_pick_f rfl rfl rfl) ?_
     refine p_val (v := .bool false) rfl rfl (x_pick_t rfl rfl rfl) ?_
     refine p_val (v := .bool false) rfl rfl (x_pick_f rfl rfl rfl) ?_
     refine p_nil ?_
     refine t_norm ?_
     refine c_false rfl ?_
     refine c_skip ?_
     refine t_norm ?_
     refine c_seq ?_
     refine c_seq ?_
     refine c_plain ?_
     refine p_val (v := .int .i64 (errOf (rightRec r))) rfl rfl (x_move rfl rfl) ?_
     refine p_val (v := .bool true) rfl rfl (yb (x_eql rfl rfl rfl) c128) ?_
     refine p_val (v := .bool true) rfl rfl (x_move rfl rfl) ?_
     refine p_val (v := .slice A32 ((outR r).length) k33) rfl rfl (x_move rfl rfl) ?_
     refine p_val (v := vRec r pr) rfl rfl (x_load rfl rfl ((((((((b6.ext x11).ext x15).ext x18).ext x30).ext x36).ext x42).ext x133).agg (vs := [.int .i64 r.inst.replica, .int .i64 r.inst.slot, .int .i64 r.status, .int .i64 r.promise.number, .int .i64 r.promise.replica, .int .i64 r.ballot.number, .int .i64 r.ballot.replica, .int .i64 r.cmd.kind, .int .i64 r.cmd.txn.client, .int .i64 r.cmd.txn.number, .int .i64 r.cmd.stp.time, .int .i64 r.cmd.stp.client, .int .i64 r.cmd.shards, .slice pr.A r.cmd.reads.length pr.n, .slice pr.B r.cmd.writes.length pr.m, .bool r.cmd.commit, .int .i64 r.seq, .int .i64 r.deps.d0, .int .i64 r.deps.d1, .int .i64 r.deps.d2, .int .i64 r.deps.d3, .int .i64 r.deps.d4, .int .i64 r.deps.d5, .int .i64 r.deps.d6, .bool r.kept]) agg_37_25 rfl)) ?_
     refine p_call (vs := #[vRec r pr]) fn_19 rfl rfl rfl (args1 rfl) ?_
     refine (D_Record _ r pr (((((((((hr.ext x3).ext x7).ext x11).ext x15).ext x18).ext x30).ext x36).ext x42).ext x133) (good_rec hh129)).mono ?_
     rintro e w134 ⟨A137, c138, rfl, hb135, x136⟩
     refine ⟨_, rfl, ?_⟩
     refine p_call (vs := #[.slice A32 ((outR r).length) k33, .slice A137 ((encRec r).length) c138]) fn_17 rfl rfl rfl (args2 rfl rfl) ?_
     refine (Calls.asBool (decide_eq_true (by simp [outR, hh129])) (C_same _ _ _ _ (outR r) rfl _ _ _ (encRec r) rfl (((hl37.ext x42).ext x133).ext x136) (hb135.mono ((((((((x3.trans x7).trans x11).trans x15).trans x18).trans x30).trans x36).trans x42).trans x133).size).lies hb35.small)).mono ?_
     rintro e w139 ⟨rfl, x140⟩
     refine ⟨_, rfl, ?_⟩
     refine p_val (v := .bool false) rfl rfl (x_not (b := true) rfl rfl) ?_
     refine p_val (v := .bool false) rfl rfl (x_pick_t rfl rfl rfl) ?_
     refine p_val (v := .bool false) rfl rfl (x_move rfl rfl) ?_
     refine p_val (v := .int .i64 (errOf (rightRec r))) rfl rfl (x_move rfl rfl) ?_
     refine p_val (v := .bool false) rfl rfl (yb (x_neq rfl rfl rfl) (by simp [errOf, hh129])) ?_
     refine p_val (v := .bool false) rfl rfl (x_move rfl rfl) ?_
     refine p_skip rfl rfl ?_
     refine p_skip rfl rfl ?_
     refine p_skip rfl rfl ?_
     refine p_skip rfl rfl ?_
     refine p_skip rfl rfl ?_
     refine p_skip rfl rfl ?_
     refine p_skip rfl rfl ?_
     refine p_val (v := .bool false) rfl rfl (x_pick_f rfl rfl rfl) ?_
     refine p_val (v := .bool false) rfl rfl (x_pick_f rfl rfl rfl) ?_
     refine p_nil ?_
     refine t_norm ?_
     refine c_false rfl ?_
     refine c_skip ?_
     refine t_norm ?_
     refine c_seq ?_
     refine c_seq ?_
     refine c_plain ?_
     refine p_val (v := .int .i64 (errOf (rightMsg m))) rfl rfl (x_move rfl rfl) ?_
     refine p_val (v := .bool true) rfl rfl (yb (x_eql rfl rfl rfl) c130) ?_
     refine p_val (v := .bool true) rfl rfl (x_move rfl rfl) ?_
     refine p_val (v := .slice A38 ((outM m).length) k39) rfl rfl (x_move rfl rfl) ?_
     refine p_val (v := vMsg m pm) rfl rfl (x_load rfl rfl (((((((((b10.ext x15).ext x18).ext x30).ext x36).ext x42).ext x133).ext x136).ext x140).agg (vs := [.int .i64 m.kind, .int .i64 m.src, .int .i64 m.dst, .int .i64 m.ballot.number, .int .i64 m.ballot.replica, .int .i64 m.r.inst.replica, .int .i64 m.r.inst.slot, .int .i64 m.r.status, .int .i64 m.r.promise.number, .int .i64 m.r.promise.replica, .int .i64 m.r.ballot.number, .int .i64 m.r.ballot.replica, .int .i64 m.r.cmd.kind, .int .i64 m.r.cmd.txn.client, .int .i64 m.r.cmd.txn.number, .int .i64 m.r.cmd.stp.time, .int .i64 m.r.cmd.stp.client, .int .i64 m.r.cmd.shards, .slice pm.A m.r.cmd.reads.length pm.n, .slice pm.B m.r.cmd.writes.length pm.m, .bool m.r.cmd.commit, .int .i64 m.r.seq, .int .i64 m.r.deps.d0, .int .i64 m.r.deps.d1, .int .i64 m.r.deps.d2, .int .i64 m.r.deps.d3, .int .i64 m.r.deps.d4, .int .i64 m.r.deps.d5, .int .i64 m.r.deps.d6, .bool m.r.kept]) agg_39_30 rfl)) ?_
     refine p_call (vs := #[vMsg m pm]) fn_20 rfl rfl rfl (args1 rfl) ?_
     refine (D_Message _ m pm (((((((((((hm.ext x3).ext x7).ext x11).ext x15).ext x18).ext x30).ext x36).ext x42).ext x133).ext x136).ext x140) (good_msg hh131)).mono ?_
     rintro e w141 ⟨A144, c145, rfl, hb142, x143⟩
     refine ⟨_, rfl, ?_⟩
     refine p_call (vs := #[.slice A38 ((outM m).length) k39, .slice A144 ((encMsg m).length) c145]) fn_17 rfl rfl rfl (args2 rfl rfl) ?_
     refine (Calls.asBool (decide_eq_true (by simp [outM, hh131])) (C_same _ _ _ _ (outM m) rfl _ _ _ (encMsg m) rfl ((((hl43.ext x133).ext x136).ext x140).ext x143) (hb142.mono ((((((((((x3.trans x7).trans x11).trans x15).trans x18).trans x30).trans x36).trans x42).trans x133).trans x136).trans x140).size).lies hb41.small)).mono ?_
     rintro e w146 ⟨rfl, x147⟩
     refine ⟨_, rfl, ?_⟩
     refine p_val (v := .bool false) rfl rfl (x_not (b := true) rfl rfl) ?_
     refine p_val (v := .bool false) rfl rfl (x_pick_t rfl rfl rfl) ?_
     refine p_val (v := .bool false) rfl rfl (x_move rfl rfl) ?_
     refine p_val (v := .int .i64 (errOf (rightMsg m))) rfl rfl (x_move rfl rfl) ?_
     refine p_val (v := .bool false) rfl rfl (yb (x_neq rfl rfl rfl) (by simp [errOf, hh131])) ?_
     refine p_val (v := .bool false) rfl rfl (x_move rfl rfl) ?_
     refine p_skip rfl rfl ?_
     refine p_skip rfl rfl ?_
     refine p_skip rfl rfl ?_
     refine p_skip rfl rfl ?_
     refine p_skip rfl rfl ?_
     refine p_skip rfl rfl ?_
     refine p_skip rfl rfl ?_
     refine p_val (v := .bool false) rfl rfl (x_pick_f rfl rfl rfl) ?_
     refine p_val (v := .bool false) rfl rfl (x_pick_f rfl rfl rfl) ?_
     refine p_nil ?_
     refine t_norm ?_
     refine c_false rfl ?_
     refine c_skip ?_
     refine t_norm ?_
     refine c_seq ?_
     refine c_quiet ?_
     refine q_call (vs := #[]) fn_8 rfl rfl rfl (args0) (v := .bool true) (fun w' x' => C_awake _) ?_
     refine q_val (v := .bool true) rfl rfl (fun w' x' => x_assign rfl rfl) ?_
     refine q_nil (fun w148 x149 => ?_)
     refine t_norm ?_
     refine c_ret ?_
     exact c_done rfl rfl (Ret.b (rfl) (((((((((((((x3.trans x7).trans x11).trans x15).trans x18).trans x30).trans x36).trans x42).trans x133).trans x136).trans x140).trans x143).trans x147).trans x149))
    ·have hh150 := (errOf_eq (rightMsg m)).symm.trans c130
     refine q_val (v := vMsg m pm) rfl rfl (fun w' x' => x_load rfl rfl (((((((b10.ext x15).ext x18).ext x30).ext x36).ext x42).ext x').agg (vs := [.int .i64 m.kind, .int .i64 m.src, .int .i64 m.dst, .int .i64 m.ballot.number, .int .i64 m.ballot.replica, .int .i64 m.r.inst.replica, .int .i64 m.r.inst.slot, .int .i64 m.r.status, .int .i64 m.r.promise.number, .int .i64 m.r.promise.replica, .int .i64 m.r.ballot.number, .int .i64 m.r.ballot.replica, .int .i64 m.r.cmd.kind, .int .i64 m.r.cmd.txn.client, .int .i64 m.r.cmd.txn.number, .int .i64 m.r.cmd.stp.time, .int .i64 m.r.cmd.stp.client, .int .i64 m.r.cmd.shards, .slice pm.A m.r.cmd.reads.length pm.n, .slice pm.B m.r.cmd.writes.length pm.m, .bool m.r.cmd.commit, .int .i64 m.r.seq, .int .i64 m.r.deps.d0, .int .i64 m.r.deps.d1, .int .i64 m.r.deps.d2, .int .i64 m.r.deps.d3, .int .i64 m.r.deps.d4, .int .i64 m.r.deps.d5, .int .i64 m.r.deps.d6, .bool m.r.kept]) agg_39_30 rfl)) ?_
     refine q_call (vs := #[vMsg m pm]) fn_12 rfl rfl rfl (args1 rfl) (v := .bool false) (fun w' x' => (hh150) ▸ D_rightMsg _ m pm (((((((((hm.ext x3).ext x7).ext x11).ext x15).ext x18).ext x30).ext x36).ext x42).ext x') sl25) ?_
     refine q_val (v := .bool false) rfl rfl (fun w' x' => yb (x_bneq (a := false) (b := false) bool_4 rfl rfl rfl) rfl) ?_
     refine q_val (v := .bool false) rfl rfl (fun w' x' => x_pick_f rfl rfl rfl) ?_
     refine q_nil (fun w151 x152 => ?_)
     refine t_norm ?_
     refine c_false rfl ?_
     refine c_skip ?_
     refine t_norm ?_
     refine c_seq ?_
     refine c_seq ?_
     refine c_plain ?_
     refine p_val (v := .int .i64 (errOf (rightCmd c))) rfl rfl (x_move rfl rfl) ?_
     refine p_val (v := .bool false) rfl rfl (yb (x_eql rfl rfl rfl) c44) ?_
     refine p_val (v := .bool false) rfl rfl (x_move rfl rfl) ?_
     refine p_skip rfl rfl ?_
     refine p_skip rfl rfl ?_
     refine p_skip rfl rfl ?_
     refine p_skip rfl rfl ?_
     refine p_skip rfl rfl ?_
     refine p_val (v := .bool false) rfl rfl (x_pick_f rfl rfl rfl) ?_
     refine p_val (v := .bool false) rfl rfl (x_move rfl rfl) ?_
     refine p_val (v := .int .i64 (errOf (rightCmd c))) rfl rfl (x_move rfl rfl) ?_
     refine p_val (v := .bool true) rfl rfl (yb (x_neq rfl rfl rfl) (by simp [errOf, hh127])) ?_
     refine p_val (v := .bool true) rfl rfl (x_move rfl rfl) ?_
     refine p_val (v := .slice A26 ((outC c).length) k27) rfl rfl (x_move rfl rfl) ?_
     refine p_val (v := .int .i64 ((outC c).length : Int)) rfl rfl (x_len_slice sl_46 rfl rfl) ?_
     refine p_val (v := .bool false) rfl rfl (yb (x_gtr rfl rfl rfl) (by simp [outC, hh127])) ?_
     refine p_val (v := .bool false) rfl rfl (x_move rfl rfl) ?_
     refine p_val (v := .int .i64 (errOf (rightCmd c))) rfl rfl (x_move rfl rfl) ?_
     refine p_val (v := .bool false) rfl rfl (yb (x_neq rfl rfl rfl) (by simp [errOf, hh127])) ?_
     refine p_val (v := .bool false) rfl rfl (x_pick_f rfl rfl rfl) ?_
     refine p_val (v := .bool false) rfl rfl (x_pick_t rfl rfl rfl) ?_
     refine p_val (v := .bool false) rfl rfl (x_pick_f rfl rfl rfl) ?_
     refine p_nil ?_
     refine t_norm ?_
     refine c_false rfl ?_
     refine c_skip ?_
     refine t_norm ?_
     refine c_seq ?_
     refine c_seq ?_
     refine c_plain ?_
     refine p_val (v := .int .i64 (errOf (rightRec r))) rfl rfl (x_move rfl rfl) ?_
     refine p_val (v := .bool true) rfl rfl (yb (x_eql rfl rfl rfl) c128) ?_
     refine p_val (v := .bool true) rfl rfl (x_move rfl rfl) ?_
     refine p_val (v := .slice A32 ((outR r).length) k33) rfl rfl (x_move rfl rfl) ?_
     refine p_val (v := vRec r pr) rfl rfl (x_load rfl rfl ((((((((b6.ext x11).ext x15).ext x18).ext x30).ext x36).ext x42).ext x152).agg (vs := [.int .i64 r.inst.replica, .int .i64 r.inst.slot, .int .i64 r.status, .int .i64 r.promise.number, .int .i64 r.promise.replica, .int .i64 r.ballot.number, .int .i64 r.ballot.replica, .int .i64 r.cmd.kind, .int .i64 r.cmd.txn.client, .int .i64 r.cmd.txn.number, .int .i64 r.cmd.stp.time, .int .i64 r.cmd.stp.client, .int .i64 r.cmd.shards, .slice pr.A r.cmd.reads.length pr.n, .slice pr.B r.cmd.writes.length pr.m, .bool r.cmd.commit, .int .i64 r.seq, .int .i64 r.deps.d0, .int .i64 r.deps.d1, .int .i64 r.deps.d2, .int .i64 r.deps.d3, .int .i64 r.deps.d4, .int .i64 r.deps.d5, .int .i64 r.deps.d6, .bool r.kept]) agg_37_25 rfl)) ?_
     refine p_call (vs := #[vRec r pr]) fn_19 rfl rfl rfl (args1 rfl) ?_
     refine (D_Record _ r pr (((((((((hr.ext x3).ext x7).ext x11).ext x15).ext x18).ext x30).ext x36).ext x42).ext x152) (good_rec hh129)).mono ?_
     rintro e w153 ⟨A156, c157, rfl, hb154, x155⟩
     refine ⟨_, rfl, ?_⟩
     refine p_call (vs := #[.slice A32 ((outR r).length) k33, .slice A156 ((encRec r).length) c157]) fn_17 rfl rfl rfl (args2 rfl rfl) ?_
     refine (Calls.asBool (decide_eq_true (by simp [outR, hh129])) (C_same _ _ _ _ (outR r) rfl _ _ _ (encRec r) rfl (((hl37.ext x42).ext x152).ext x155) (hb154.mono ((((((((x3.trans x7).trans x11).trans x15).trans x18).trans x30).trans x36).trans x42).trans x152).size).lies hb35.small)).mono ?_
     rintro e w158 ⟨rfl, x159⟩
     refine ⟨_, rfl, ?_⟩
     refine p_val (v := .bool false) rfl rfl (x_not (b := true) rfl rfl) ?_
     refine p_val (v := .bool false) rfl rfl (x_pick_t rfl rfl rfl) ?_
     refine p_val (v := .bool false) rfl rfl (x_move rfl rfl) ?_
     refine p_val (v := .int .i64 (errOf (rightRec r))) rfl rfl (x_move rfl rfl) ?_
     refine p_val (v := .bool false) rfl rfl (yb (x_neq rfl rfl rfl) (by simp [errOf, hh129])) ?_
     refine p_val (v := .bool false) rfl rfl (x_move rfl rfl) ?_
     refine p_skip rfl rfl ?_
     refine p_skip rfl rfl ?_
     refine p_skip rfl rfl ?_
     refine p_skip rfl rfl ?_
     refine p_skip rfl rfl ?_
     refine p_skip rfl rfl ?_
     refine p_skip rfl rfl ?_
     refine p_val (v := .bool false) rfl rfl (x_pick_f rfl rfl rfl) ?_
     refine p_val (v := .bool false) rfl rfl (x_pick_f rfl rfl rfl) ?_
     refine p_nil ?_
     refine t_norm ?_
     refine c_false rfl ?_
     refine c_skip ?_
     refine t_norm ?_
     refine c_seq ?_
     refine c_seq ?_
     refine c_plain ?_
     refine p_val (v := .int .i64 (errOf (rightMsg m))) rfl rfl (x_move rfl rfl) ?_
     refine p_val (v := .bool false) rfl rfl (yb (x_eql rfl rfl rfl) c130) ?_
     refine p_val (v := .bool false) rfl rfl (x_move rfl rfl) ?_
     refine p_skip rfl rfl ?_
     refine p_skip rfl rfl ?_
     refine p_skip rfl rfl ?_
     refine p_skip rfl rfl ?_
     refine p_skip rfl rfl ?_
     refine p_val (v := .bool false) rfl rfl (x_pick_f rfl rfl rfl) ?_
     refine p_val (v := .bool false) rfl rfl (x_move rfl rfl) ?_
     refine p_val (v := .int .i64 (errOf (rightMsg m))) rfl rfl (x_move rfl rfl) ?_
     refine p_val (v := .bool true) rfl rfl (yb (x_neq rfl rfl rfl) (by simp [errOf, hh150])) ?_
     refine p_val (v := .bool true) rfl rfl (x_move rfl rfl) ?_
     refine p_val (v := .slice A38 ((outM m).length) k39) rfl rfl (x_move rfl rfl) ?_
     refine p_val (v := .int .i64 ((outM m).length : Int)) rfl rfl (x_len_slice sl_46 rfl rfl) ?_
     refine p_val (v := .bool false) rfl rfl (yb (x_gtr rfl rfl rfl) (by simp [outM, hh150])) ?_
     refine p_val (v := .bool false) rfl rfl (x_move rfl rfl) ?_
     refine p_val (v := .int .i64 (errOf (rightMsg m))) rfl rfl (x_move rfl rfl) ?_
     refine p_val (v := .bool false) rfl rfl (yb (x_neq rfl rfl rfl) (by simp [errOf, hh150])) ?_
     refine p_val (v := .bool false) rfl rfl (x_pick_f rfl rfl rfl) ?_
     refine p_val (v := .bool false) rfl rfl (x_pick_t rfl rfl rfl) ?_
     refine p_val (v := .bool false) rfl rfl (x_pick_f rfl rfl rfl) ?_
     refine p_nil ?_
     refine t_norm ?_
     refine c_false rfl ?_
     refine c_skip ?_
     refine t_norm ?_
     refine c_seq ?_
     refine c_quiet ?_
     refine q_call (vs := #[]) fn_8 rfl rfl rfl (args0) (v := .bool true) (fun w' x' => C_awake _) ?_
     refine q_val (v := .bool true) rfl rfl (fun w' x' => x_assign rfl rfl) ?_
     refine q_nil (fun w160 x161 => ?_)
     refine t_norm ?_
     refine c_ret ?_
     exact c_done rfl rfl (Ret.b (rfl) (((((((((((x3.trans x7).trans x11).trans x15).trans x18).trans x30).trans x36).trans x42).trans x152).trans x155).trans x159).trans x161))
   ·have hh162 := (errOf_eq (rightRec r)).symm.trans c128
    refine q_val (v := vRec r pr) rfl rfl (fun w' x' => x_load rfl rfl ((((((((b6.ext x11).ext x15).ext x18).ext x30).ext x36).ext x42).ext x').agg (vs := [.int .i64 r.inst.replica, .int .i64 r.inst.slot, .int .i64 r.status, .int .i64 r.promise.number, .int .i64 r.promise.replica, .int .i64 r.ballot.number, .int .i64 r.ballot.replica, .int .i64 r.cmd.kind, .int .i64 r.cmd.txn.client, .int .i64 r.cmd.txn.number, .int .i64 r.cmd.stp.time, .int .i64 r.cmd.stp.client, .int .i64 r.cmd.shards, .slice pr.A r.cmd.reads.length pr.n, .slice pr.B r.cmd.writes.length pr.m, .bool r.cmd.commit, .int .i64 r.seq, .int .i64 r.deps.d0, .int .i64 r.deps.d1, .int .i64 r.deps.d2, .int .i64 r.deps.d3, .int .i64 r.deps.d4, .int .i64 r.deps.d5, .int .i64 r.deps.d6, .bool r.kept]) agg_37_25 rfl)) ?_
    refine q_call (vs := #[vRec r pr]) fn_10 rfl rfl rfl (args1 rfl) (v := .bool false) (fun w' x' => (hh162) ▸ D_rightRec _ r pr (((((((((hr.ext x3).ext x7).ext x11).ext x15).ext x18).ext x30).ext x36).ext x42).ext x') sl24) ?_
    refine q_val (v := .bool false) rfl rfl (fun w' x' => yb (x_bneq (a := false) (b := false) bool_4 rfl rfl rfl) rfl) ?_
    refine q_val (v := .bool false) rfl rfl (fun w' x' => x_pick_f rfl rfl rfl) ?_
    refine q_val (v := .bool false) rfl rfl (fun w' x' => x_move rfl rfl) ?_
    refine q_val (v := .int .i64 (errOf (rightMsg m))) rfl rfl (fun w' x' => x_move rfl rfl) ?_
    refine q_bool (b := decide (errOf (rightMsg m) = 0)) rfl rfl (fun w' x' => x_eql rfl rfl rfl) (fun c163 => ?_) (fun c163 => ?_)
    ·have hh164 := (errOf_eq (rightMsg m)).symm.trans c163
     refine q_val (v := vMsg m pm) rfl rfl (fun w' x' => x_load rfl rfl (((((((b10.ext x15).ext x18).ext x30).ext x36).ext x42).ext x').agg (vs := [.int .i64 m.kind, .int .i64 m.src, .int .i64 m.dst, .int .i64 m.ballot.number, .int .i64 m.ballot.replica, .int .i64 m.r.inst.replica, .int .i64 m.r.inst.slot, .int .i64 m.r.status, .int .i64 m.r.promise.number, .int .i64 m.r.promise.replica, .int .i64 m.r.ballot.number, .int .i64 m.r.ballot.replica, .int .i64 m.r.cmd.kind, .int .i64 m.r.cmd.txn.client, .int .i64 m.r.cmd.txn.number, .int .i64 m.r.cmd.stp.time, .int .i64 m.r.cmd.stp.client, .int .i64 m.r.cmd.shards, .slice pm.A m.r.cmd.reads.length pm.n, .slice pm.B m.r.cmd.writes.length pm.m, .bool m.r.cmd.commit, .int .i64 m.r.seq, .int .i64 m.r.deps.d0, .int .i64 m.r.deps.d1, .int .i64 m.r.deps.d2, .int .i64 m.r.deps.d3, .int .i64 m.r.deps.d4, .int .i64 m.r.deps.d5, .int .i64 m.r.deps.d6, .bool m.r.kept]) agg_39_30 rfl)) ?_
     refine q_call (vs := #[vMsg m pm]) fn_12 rfl rfl rfl (args1 rfl) (v := .bool true) (fun w' x' => (hh164) ▸ D_rightMsg _ m pm (((((((((hm.ext x3).ext x7).ext x11).ext x15).ext x18).ext x30).ext x36).ext x42).ext x') sl25) ?_
     refine q_val (v := .bool false) rfl rfl (fun w' x' => yb (x_bneq (a := true) (b := true) bool_4 rfl rfl rfl) rfl) ?_
     refine q_val (v := .bool false) rfl rfl (fun w' x' => x_pick_f rfl rfl rfl) ?_
     refine q_nil (fun w165 x166 => ?_)
     refine t_norm ?_
     refine c_false rfl ?_
     refine c_skip ?_
     refine t_norm ?_
     refine c_seq ?_
     refine c_seq ?_
     refine c_plain ?_
     refine p_val (v := .int .i64 (errOf (rightCmd c))) rfl rfl (x_move rfl rfl) ?_
     refine p_val (v := .bool false) rfl rfl (yb (x_eql rfl rfl rfl) c44) ?_
     refine p_val (v := .bool false) rfl rfl (x_move rfl rfl) ?_
     refine p_skip rfl rfl ?_
     refine p_skip rfl rfl ?_
     refine p_skip rfl rfl ?_
     refine p_skip rfl rfl ?_
     refine p_skip rfl rfl ?_
     refine p_val (v := .bool false) rfl rfl (x_pick_f rfl rfl rfl) ?_
     refine p_val (v := .bool false) rfl rfl (x_move rfl rfl) ?_
     refine p_val (v := .int .i64 (errOf (rightCmd c))) rfl rfl (x_move rfl rfl) ?_
     refine p_val (v := .bool true) rfl rfl (yb (x_neq rfl rfl rfl) (by simp [errOf, hh127])) ?_
     refine p_val (v := .bool true) rfl rfl (x_move rfl rfl) ?_
     refine p_val (v := .slice A26 ((outC c).length) k27) rfl rfl (x_move rfl rfl) ?_
     refine p_val (v := .int .i64 ((outC c).length : Int)) rfl rfl (x_len_slice sl_46 rfl rfl) ?_
     refine p_val (v := .bool false) rfl rfl (yb (x_gtr rfl rfl rfl) (by simp [outC, hh127])) ?_
     refine p_val (v := .bool false) rfl rfl (x_move rfl rfl) ?_
     refine p_val (v := .int .i64 (errOf (rightCmd c))) rfl rfl (x_move rfl rfl) ?_
     refine p_val (v := .bool false) rfl rfl (yb (x_neq rfl rfl rfl) (by simp [errOf, hh127])) ?_
     refine p_val (v := .bool false) rfl rfl (x_pick_f rfl rfl rfl) ?_
     refine p_val (v := .bool false) rfl rfl (x_pick_t rfl rfl rfl) ?_
     refine p_val (v := .bool false) rfl rfl (x_pick_f rfl rfl rfl) ?_
     refine p_nil ?_
     refine t_norm ?_
     refine c_false rfl ?_
     refine c_skip ?_
     refine t_norm ?_
     refine c_seq ?_
     refine c_seq ?_
     refine c_plain ?_
     refine p_val (v := .int .i64 (errOf (rightRec r))) rfl rfl (x_move rfl rfl) ?_
     refine p_val (v := .bool false) rfl rfl (yb (x_eql rfl rfl rfl) c128) ?_
     refine p_val (v := .bool false) rfl rfl (x_move rfl rfl) ?_
     refine p_skip rfl rfl ?_
     refine p_skip rfl rfl ?_
     refine p_skip rfl rfl ?_
     refine p_skip rfl rfl ?_
     refine p_skip rfl rfl ?_
     refine p_val (v := .bool false) rfl rfl (x_pick_f rfl rfl rfl) ?_
     refine p_val (v := .bool false) rfl rfl (x_move rfl rfl) ?_
     refine p_val (v := .int .i64 (errOf (rightRec r))) rfl rfl (x_move rfl rfl) ?_
     refine p_val (v := .bool true) rfl rfl (yb (x_neq rfl rfl rfl) (by simp [errOf, hh162])) ?_
     refine p_val (v := .bool true) rfl rfl (x_move rfl rfl) ?_
     refine p_val (v := .slice A32 ((outR r).length) k33) rfl rfl (x_move rfl rfl) ?_
     refine p_val (v := .int .i64 ((outR r).length : Int)) rfl rfl (x_len_slice sl_46 rfl rfl) ?_
     refine p_val (v := .bool false) rfl rfl (yb (x_gtr rfl rfl rfl) (by simp [outR, hh162])) ?_
     refine p_val (v := .bool false) rfl rfl (x_move rfl rfl) ?_
     refine p_val (v := .int .i64 (errOf (rightRec r))) rfl rfl (x_move rfl rfl) ?_
     refine p_val (v := .bool false) rfl rfl (yb (x_neq rfl rfl rfl) (by simp [errOf, hh162])) ?_
     refine p_val (v := .bool false) rfl rfl (x_pick_f rfl rfl rfl) ?_
     refine p_val (v := .bool false) rfl rfl (x_pick_t rfl rfl rfl) ?_
     refine p_val (v := .bool false) rfl rfl (x_pick_f rfl rfl rfl) ?_
     refine p_nil ?_
     refine t_norm ?_
     refine c_false rfl ?_
     refine c_skip ?_
     refine t_norm ?_
     refine c_seq ?_
     refine c_seq ?_
     refine c_plain ?_
     refine p_val (v := .int .i64 (errOf (rightMsg m))) rfl rfl (x_move rfl rfl) ?_
     refine p_val (v := .bool true) rfl rfl (yb (x_eql rfl rfl rfl) c163) ?_
     refine p_val (v := .bool true) rfl rfl (x_move rfl rfl) ?_
     refine p_val (v := .slice A38 ((outM m).length) k39) rfl rfl (x_move rfl rfl) ?_
     refine p_val (v := vMsg m pm) rfl rfl (x_load rfl rfl (((((((b10.ext x15).ext x18).ext x30).ext x36).ext x42).ext x166).agg (vs := [.int .i64 m.kind, .int .i64 m.src, .int .i64 m.dst, .int .i64 m.ballot.number, .int .i64 m.ballot.replica, .int .i64 m.r.inst.replica, .int .i64 m.r.inst.slot, .int .i64 m.r.status, .int .i64 m.r.promise.number, .int .i64 m.r.promise.replica, .int .i64 m.r.ballot.number, .int .i64 m.r.ballot.replica, .int .i64 m.r.cmd.kind, .int .i64 m.r.cmd.txn.client, .int .i64 m.r.cmd.txn.number, .int .i64 m.r.cmd.stp.time, .int .i64 m.r.cmd.stp.client, .int .i64 m.r.cmd.shards, .slice pm.A m.r.cmd.reads.length pm.n, .slice pm.B m.r.cmd.writes.length pm.m, .bool m.r.cmd.commit, .int .i64 m.r.seq, .int .i64 m.r.deps.d0, .int .i64 m.r.deps.d1, .int .i64 m.r.deps.d2, .int .i64 m.r.deps.d3, .int .i64 m.r.deps.d4, .int .i64 m.r.deps.d5, .int .i64 m.r.deps.d6, .bool m.r.kept]) agg_39_30 rfl)) ?_
     refine p_call (vs := #[vMsg m pm]) fn_20 rfl rfl rfl (args1 rfl) ?_
     refine (D_Message _ m pm (((((((((hm.ext x3).ext x7).ext x11).ext x15).ext x18).ext x30).ext x36).ext x42).ext x166) (good_msg hh164)).mono ?_
     rintro e w167 ⟨A170, c171, rfl, hb168, x169⟩
     refine ⟨_, rfl, ?_⟩
     refine p_call (vs := #[.slice A38 ((outM m).length) k39, .slice A170 ((encMsg m).length) c171]) fn_17 rfl rfl rfl (args2 rfl rfl) ?_
     refine (Calls.asBool (decide_eq_true (by simp [outM, hh164])) (C_same _ _ _ _ (outM m) rfl _ _ _ (encMsg m) rfl ((hl43.ext x166).ext x169) (hb168.mono ((((((((x3.trans x7).trans x11).trans x15).trans x18).trans x30).trans x36).trans x42).trans x166).size).lies hb41.small)).mono ?_
     rintro e w172 ⟨rfl, x173⟩
     refine ⟨_, rfl, ?_⟩
     refine p_val (v := .bool false) rfl rfl (x_not (b := true) rfl rfl) ?_
     refine p_val (v := .bool false) rfl rfl (x_pick_t rfl rfl rfl) ?_
     refine p_val (v := .bool false) rfl rfl (x_move rfl rfl) ?_
     refine p_val (v := .int .i64 (errOf (rightMsg m))) rfl rfl (x_move rfl rfl) ?_
     refine p_val (v := .bool false) rfl rfl (yb (x_neq rfl rfl rfl) (by simp [errOf, hh164])) ?_
     refine p_val (v := .bool false) rfl rfl (x_move rfl rfl) ?_
     refine p_skip rfl rfl ?_
     refine p_skip rfl rfl ?_
     refine p_skip rfl rfl ?_
     refine p_skip rfl rfl ?_
     refine p_skip rfl rfl ?_
     refine p_skip rfl rfl ?_
     refine p_skip rfl rfl ?_
     refine p_val (v := .bool false) rfl rfl (x_pick_f rfl rfl rfl) ?_
     refine p_val (v := .bool false) rfl rfl (x_pick_f rfl rfl rfl) ?_
     refine p_nil ?_
     refine t_norm ?_
     refine c_false rfl ?_
     refine c_skip ?_
     refine t_norm ?_
     refine c_seq ?_
     refine c_quiet ?_
     refine q_call (vs := #[]) fn_8 rfl rfl rfl (args0) (v := .bool true) (fun w' x' => C_awake _) ?_
     refine q_val (v := .bool true) rfl rfl (fun w' x' => x_assign rfl rfl) ?_
     refine q_nil (fun w174 x175 => ?_)
     refine t_norm ?_
     refine c_ret ?_
     exact c_done rfl rfl (Ret.b (rfl) (((((((((((x3.trans x7).trans x11).trans x15).trans x18).trans x30).trans x36).trans x42).trans x166).trans x169).trans x173).trans x175))
    ·have hh176 := (errOf_eq (rightMsg m)).symm.trans c163
     refine q_val (v := vMsg m pm) rfl rfl (fun w' x' => x_load rfl rfl (((((((b10.ext x15).ext x18).ext x30).ext x36).ext x42).ext x').agg (vs := [.int .i64 m.kind, .int .i64 m.src, .int .i64 m.dst, .int .i64 m.ballot.number, .int .i64 m.ballot.replica, .int .i64 m.r.inst.replica, .int .i64 m.r.inst.slot, .int .i64 m.r.status, .int .i64 m.r.promise.number, .int .i64 m.r.promise.replica, .int .i64 m.r.ballot.number, .int .i64 m.r.ballot.replica, .int .i64 m.r.cmd.kind, .int .i64 m.r.cmd.txn.client, .int .i64 m.r.cmd.txn.number, .int .i64 m.r.cmd.stp.time, .int .i64 m.r.cmd.stp.client, .int .i64 m.r.cmd.shards, .slice pm.A m.r.cmd.reads.length pm.n, .slice pm.B m.r.cmd.writes.length pm.m, .bool m.r.cmd.commit, .int .i64 m.r.seq, .int .i64 m.r.deps.d0, .int .i64 m.r.deps.d1, .int .i64 m.r.deps.d2, .int .i64 m.r.deps.d3, .int .i64 m.r.deps.d4, .int .i64 m.r.deps.d5, .int .i64 m.r.deps.d6, .bool m.r.kept]) agg_39_30 rfl)) ?_
     refine q_call (vs := #[vMsg m pm]) fn_12 rfl rfl rfl (args1 rfl) (v := .bool false) (fun w' x' => (hh176) ▸ D_rightMsg _ m pm (((((((((hm.ext x3).ext x7).ext x11).ext x15).ext x18).ext x30).ext x36).ext x42).ext x') sl25) ?_
     refine q_val (v := .bool false) rfl rfl (fun w' x' => yb (x_bneq (a := false) (b := false) bool_4 rfl rfl rfl) rfl) ?_
     refine q_val (v := .bool false) rfl rfl (fun w' x' => x_pick_f rfl rfl rfl) ?_
     refine q_nil (fun w177 x178 => ?_)
     refine t_norm ?_
     refine c_false rfl ?_
     refine c_skip ?_
     refine t_norm ?_
     refine c_seq ?_
     refine c_seq ?_
     refine c_plain ?_
     refine p_val (v := .int .i64 (errOf (rightCmd c))) rfl rfl (x_move rfl rfl) ?_
     refine p_val (v := .bool false) rfl rfl (yb (x_eql rfl rfl rfl) c44) ?_
     refine p_val (v := .bool false) rfl rfl (x_move rfl rfl) ?_
     refine p_skip rfl rfl ?_
     refine p_skip rfl rfl ?_
     refine p_skip rfl rfl ?_
     refine p_skip rfl rfl ?_
     refine p_skip rfl rfl ?_
     refine p_val (v := .bool false) rfl rfl (x_pick_f rfl rfl rfl) ?_
     refine p_val (v := .bool false) rfl rfl (x_move rfl rfl) ?_
     refine p_val (v := .int .i64 (errOf (rightCmd c))) rfl rfl (x_move rfl rfl) ?_
     refine p_val (v := .bool true) rfl rfl (yb (x_neq rfl rfl rfl) (by simp [errOf, hh127])) ?_
     refine p_val (v := .bool true) rfl rfl (x_move rfl rfl) ?_
     refine p_val (v := .slice A26 ((outC c).length) k27) rfl rfl (x_move rfl rfl) ?_
     refine p_val (v := .int .i64 ((outC c).length : Int)) rfl rfl (x_len_slice sl_46 rfl rfl) ?_
     refine p_val (v := .bool false) rfl rfl (yb (x_gtr rfl rfl rfl) (by simp [outC, hh127])) ?_
     refine p_val (v := .bool false) rfl rfl (x_move rfl rfl) ?_
     refine p_val (v := .int .i64 (errOf (rightCmd c))) rfl rfl (x_move rfl rfl) ?_
     refine p_val (v := .bool false) rfl rfl (yb (x_neq rfl rfl rfl) (by simp [errOf, hh127])) ?_
     refine p_val (v := .bool false) rfl rfl (x_pick_f rfl rfl rfl) ?_
     refine p_val (v := .bool false) rfl rfl (x_pick_t rfl rfl rfl) ?_
     refine p_val (v := .bool false) rfl rfl (x_pick_f rfl rfl rfl) ?_
     refine p_nil ?_
     refine t_norm ?_
     refine c_false rfl ?_
     refine c_skip ?_
     refine t_norm ?_
     refine c_seq ?_
     refine c_seq ?_
     refine c_plain ?_
     refine p_val (v := .int .i64 (errOf (rightRec r))) rfl rfl (x_move rfl rfl) ?_
     refine p_val (v := .bool false) rfl rfl (yb (x_eql rfl rfl rfl) c128) ?_
     refine p_val (v := .bool false) rfl rfl (x_move rfl rfl) ?_
     refine p_skip rfl rfl ?_
     refine p_skip rfl rfl ?_
     refine p_skip rfl rfl ?_
     refine p_skip rfl rfl ?_
     refine p_skip rfl rfl ?_
     refine p_val (v := .bool false) rfl rfl (x_pick_f rfl rfl rfl) ?_
     refine p_val (v := .bool false) rfl rfl (x_move rfl rfl) ?_
     refine p_val (v := .int .i64 (errOf (rightRec r))) rfl rfl (x_move rfl rfl) ?_
     refine p_val (v := .bool true) rfl rfl (yb (x_neq rfl rfl rfl) (by simp [errOf, hh162])) ?_
     refine p_val (v := .bool true) rfl rfl (x_move rfl rfl) ?_
     refine p_val (v := .slice A32 ((outR r).length) k33) rfl rfl (x_move rfl rfl) ?_
     refine p_val (v := .int .i64 ((outR r).length : Int)) rfl rfl (x_len_slice sl_46 rfl rfl) ?_
     refine p_val (v := .bool false) rfl rfl (yb (x_gtr rfl rfl rfl) (by simp [outR, hh162])) ?_
     refine p_val (v := .bool false) rfl rfl (x_move rfl rfl) ?_
     refine p_val (v := .int .i64 (errOf (rightRec r))) rfl rfl (x_move rfl rfl) ?_
     refine p_val (v := .bool false) rfl rfl (yb (x_neq rfl rfl rfl) (by simp [errOf, hh162])) ?_
     refine p_val (v := .bool false) rfl rfl (x_pick_f rfl rfl rfl) ?_
     refine p_val (v := .bool false) rfl rfl (x_pick_t rfl rfl rfl) ?_
     refine p_val (v := .bool false) rfl rfl (x_pick_f rfl rfl rfl) ?_
     refine p_nil ?_
     refine t_norm ?_
     refine c_false rfl ?_
     refine c_skip ?_
     refine t_norm ?_
     refine c_seq ?_
     refine c_seq ?_
     refine c_plain ?_
     refine p_val (v := .int .i64 (errOf (rightMsg m))) rfl rfl (x_move rfl rfl) ?_
     refine p_val (v := .bool false) rfl rfl (yb (x_eql rfl rfl rfl) c163) ?_
     refine p_val (v := .bool false) rfl rfl (x_move rfl rfl) ?_
     refine p_skip rfl rfl ?_
     refine p_skip rfl rfl ?_
     refine p_skip rfl rfl ?_
     refine p_skip rfl rfl ?_
     refine p_skip rfl rfl ?_
     refine p_val (v := .bool false) rfl rfl (x_pick_f rfl rfl rfl) ?_
     refine p_val (v := .bool false) rfl rfl (x_move rfl rfl) ?_
     refine p_val (v := .int .i64 (errOf (rightMsg m))) rfl rfl (x_move rfl rfl) ?_
     refine p_val (v := .bool true) rfl rfl (yb (x_neq rfl rfl rfl) (by simp [errOf, hh176])) ?_
     refine p_val (v := .bool true) rfl rfl (x_move rfl rfl) ?_
     refine p_val (v := .slice A38 ((outM m).length) k39) rfl rfl (x_move rfl rfl) ?_
     refine p_val (v := .int .i64 ((outM m).length : Int)) rfl rfl (x_len_slice sl_46 rfl rfl) ?_
     refine p_val (v := .bool false) rfl rfl (yb (x_gtr rfl rfl rfl) (by simp [outM, hh176])) ?_
     refine p_val (v := .bool false) rfl rfl (x_move rfl rfl) ?_
     refine p_val (v := .int .i64 (errOf (rightMsg m))) rfl rfl (x_move rfl rfl) ?_
     refine p_val (v := .bool false) rfl rfl (yb (x_neq rfl rfl rfl) (by simp [errOf, hh176])) ?_
     refine p_val (v := .bool false) rfl rfl (x_pick_f rfl rfl rfl) ?_
     refine p_val (v := .bool false) rfl rfl (x_pick_t rfl rfl rfl) ?_
     refine p_val (v := .bool false) rfl rfl (x_pick_f rfl rfl rfl) ?_
     refine p_nil ?_
     refine t_norm ?_
     refine c_false rfl ?_
     refine c_skip ?_
     refine t_norm ?_
     refine c_seq ?_
     refine c_quiet ?_
     refine q_call (vs := #[]) fn_8 rfl rfl rfl (args0) (v := .bool true) (fun w' x' => C_awake _) ?_
     refine q_val (v := .bool true) rfl rfl (fun w' x' => x_assign rfl rfl) ?_
     refine q_nil (fun w179 x180 => ?_)
     refine t_norm ?_
     refine c_ret ?_
     exact c_done rfl rfl (Ret.b (rfl) (((((((((x3.trans x7).trans x11).trans x15).trans x18).trans x30).trans x36).trans x42).trans x178).trans x180))

end Go.Proofs.Ytibhkdomoknnfaa
