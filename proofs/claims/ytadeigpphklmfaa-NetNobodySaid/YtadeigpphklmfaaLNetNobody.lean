/- A walk through the code of layers below, or of layer 10. -/
import Derived.Test.YtadeigpphklmfaaNet
import Derived.Test.YtadeigpphklmfaaDrs
import Derived.Test.YtadeigpphklmfaaPan
import Derived.Test.YtadeigpphklmfaaB4
namespace Go.Proofs.Ytadeigpphklmfaa
open Go.RowKit Go.Eng
set_option linter.unusedVariables false
set_option linter.unusedSimpArgs false
set_option maxHeartbeats 1000000 in
theorem C_NetNobody (w : World) (z : Dz) (hz : CmdAt w z.m.r.cmd z.p) :
    Calls Try.prog 8 #[vDz z] w (Ret w (.bool true)) := by
 refine c_enter (n := 77) Try.func8 rfl rfl rfl ?_
 refine c_seq (c_plain (p_box rfl rfl rfl rfl (fun w1 b2 x3 z4 => ?_)))
 refine pv (.bool false) (x_assign rfl rfl) ?_
 refine p_nil (t_norm (c_seq (c_seq (c_plain (pv (vDz z) (x_load rfl rfl (b2.agg (vs := [iJ z.verb, iJ z.k, iJ z.m.kind, iJ z.m.src, iJ z.m.dst, iJ z.m.ballot.number, iJ z.m.ballot.replica, iJ z.m.r.inst.replica, iJ z.m.r.inst.slot, iJ z.m.r.status, iJ z.m.r.promise.number, iJ z.m.r.promise.replica, iJ z.m.r.ballot.number, iJ z.m.r.ballot.replica, iJ z.m.r.cmd.kind, iJ z.m.r.cmd.txn.client, iJ z.m.r.cmd.txn.number, iJ z.m.r.cmd.stp.time, iJ z.m.r.cmd.stp.client, iJ z.m.r.cmd.shards, .slice z.p.A z.m.r.cmd.reads.length z.p.n, .slice z.p.B z.m.r.cmd.writes.length z.p.m, .bool z.m.r.cmd.commit, iJ z.m.r.seq, iJ z.m.r.deps.d0, iJ z.m.r.deps.d1, iJ z.m.r.deps.d2, iJ z.m.r.deps.d3, iJ z.m.r.deps.d4, iJ z.m.r.deps.d5, iJ z.m.r.deps.d6, .bool z.m.r.kept]) agg_54_32 rfl)) ?_)))))
 refine p_buildSlice (cs := [iJ z.verb, iJ z.k, iJ z.m.kind, iJ z.m.src, iJ z.m.dst, iJ z.m.ballot.number, iJ z.m.ballot.replica, iJ z.m.r.inst.replica, iJ z.m.r.inst.slot, iJ z.m.r.status, iJ z.m.r.promise.number, iJ z.m.r.promise.replica, iJ z.m.r.ballot.number, iJ z.m.r.ballot.replica, iJ z.m.r.cmd.kind, iJ z.m.r.cmd.txn.client, iJ z.m.r.cmd.txn.number, iJ z.m.r.cmd.stp.time, iJ z.m.r.cmd.stp.client, iJ z.m.r.cmd.shards, .slice z.p.A z.m.r.cmd.reads.length z.p.n, .slice z.p.B z.m.r.cmd.writes.length z.p.m, .bool z.m.r.cmd.commit, iJ z.m.r.seq, iJ z.m.r.deps.d0, iJ z.m.r.deps.d1, iJ z.m.r.deps.d2, iJ z.m.r.deps.d3, iJ z.m.r.deps.d4, iJ z.m.r.deps.d5, iJ z.m.r.deps.d6, .bool z.m.r.kept]) el_55 rfl rfl rfl (parts1 rfl) (by decide) (by decide) (fill_ok [vDz z] [iJ z.verb, iJ z.k, iJ z.m.kind, iJ z.m.src, iJ z.m.dst, iJ z.m.ballot.number, iJ z.m.ballot.replica, iJ z.m.r.inst.replica, iJ z.m.r.inst.slot, iJ z.m.r.status, iJ z.m.r.promise.number, iJ z.m.r.promise.replica, iJ z.m.r.ballot.number, iJ z.m.r.ballot.replica, iJ z.m.r.cmd.kind, iJ z.m.r.cmd.txn.client, iJ z.m.r.cmd.txn.number, iJ z.m.r.cmd.stp.time, iJ z.m.r.cmd.stp.client, iJ z.m.r.cmd.shards, .slice z.p.A z.m.r.cmd.reads.length z.p.n, .slice z.p.B z.m.r.cmd.writes.length z.p.m, .bool z.m.r.cmd.commit, iJ z.m.r.seq, iJ z.m.r.deps.d0, iJ z.m.r.deps.d1, iJ z.m.r.deps.d2, iJ z.m.r.deps.d3, iJ z.m.r.deps.d4, iJ z.m.r.deps.d5, iJ z.m.r.deps.d6, .bool z.m.r.kept] rfl rfl) (fun w5 b6 x7 z8 => ?_)
 refine p_call (vs := #[.slice (some ⟨w1.heap.size, 0, none⟩) 1 1]) fn_16 rfl rfl rfl (args1 rfl) ?_
 refine (C_fewD _ _ _ [z] (D0.one b6 rfl ((hz.ext x3).ext x7))).mono ?_
 rintro e w9 ⟨rfl, x10⟩
 refine ⟨_, rfl, ?_⟩
 cases c11 : fewD [z]
 case false =>
  refine pv (.bool true) (x_not (b := false) rfl rfl) ?_
  refine p_nil (t_norm (c_true rfl (c_seq (c_quiet (q_call (vs := #[]) fn_10 rfl rfl rfl (args0) (v := .bool true) (fun _ x' => C_awake _) ?_)))))
  refine qv (.bool true) (fun _ x' => x_assign rfl rfl) ?_
  exact q_nil (fun w12 x13 => t_norm (c_ret (t_ret (c_done rfl rfl (Ret.b (rfl) (((x3.trans x7).trans x10).trans x13))))))
 have hs : Slim z.m.r.cmd := few_slim (by simpa [fewD] using c11)
 refine pv (.bool false) (x_not (b := true) rfl rfl) ?_
 refine p_nil (t_norm (c_false rfl (c_skip (t_norm (c_seq (c_quiet (qv (.pointer none) (fun _ x' => x_assign rfl rfl) ?_)))))))
 refine q_nil (fun w14 x15 => t_norm (c_seq (c_plain (pv (.pointer none) (x_move rfl rfl) ?_))))
 refine pv (.pointer (some (⟨w.heap.size, 1, none⟩))) (x_fieldAddr fld_54_1 rfl rfl rfl) ?_
 refine pv (iJ z.k) (x_load rfl rfl ((((b2.ext x7).ext x10).ext x15).one one_3 rfl)) ?_
 refine p_call (vs := #[.pointer none, iJ z.k]) fn_24 rfl rfl rfl (args2 rfl rfl) ?_
 refine (N_look _ z.k).mono ?_
 rintro e w16 ⟨rfl, x19⟩
 refine ⟨_, rfl, ?_⟩
 refine pv (.tuple #[.agg #[iJ 0, iJ 0, iJ 0, iJ 0, iJ 0, iJ 0, iJ 0, iJ 0, iJ 0, iJ 0, iJ 0, iJ 0, iJ 0, iJ 0, iJ 0, iJ 0, iJ 0, iJ 0, .slice none 0 0, .slice none 0 0, .bool false, iJ 0, iJ 0, iJ 0, iJ 0, iJ 0, iJ 0, iJ 0, iJ 0, .bool false], iJ 1]) (x_move rfl rfl) ?_
 refine pv (.agg #[iJ 0, iJ 0, iJ 0, iJ 0, iJ 0, iJ 0, iJ 0, iJ 0, iJ 0, iJ 0, iJ 0, iJ 0, iJ 0, iJ 0, iJ 0, iJ 0, iJ 0, iJ 0, .slice none 0 0, .slice none 0 0, .bool false, iJ 0, iJ 0, iJ 0, iJ 0, iJ 0, iJ 0, iJ 0, iJ 0, .bool false]) (x_extract rfl rfl rfl) ?_
 refine pv (iJ 1) (x_extract rfl rfl rfl) ?_
 refine p_var (v := .agg #[iJ 0, iJ 0, iJ 0, iJ 0, iJ 0, iJ 0, iJ 0, iJ 0, iJ 0, iJ 0, iJ 0, iJ 0, iJ 0, iJ 0, iJ 0, iJ 0, iJ 0, iJ 0, .slice none 0 0, .slice none 0 0, .bool false, iJ 0, iJ 0, iJ 0, iJ 0, iJ 0, iJ 0, iJ 0, iJ 0, .bool false]) (vs := [iJ 0, iJ 0, iJ 0, iJ 0, iJ 0, iJ 0, iJ 0, iJ 0, iJ 0, iJ 0, iJ 0, iJ 0, iJ 0, iJ 0, iJ 0, iJ 0, iJ 0, iJ 0, .slice none 0 0, .slice none 0 0, .bool false, iJ 0, iJ 0, iJ 0, iJ 0, iJ 0, iJ 0, iJ 0, iJ 0, .bool false]) rfl rfl rfl zero_43 rfl rfl rfl rfl rfl rfl rfl size_43 rfl (fun w22 b23 x24 z25 => ?_)
 refine pv (iJ 1) (x_assign rfl rfl) ?_
 refine p_nil (t_norm (c_seq (c_plain (pv (.pointer none) (x_move rfl rfl) ?_))))
 refine pv (.pointer (some (⟨w.heap.size, 1, none⟩))) (x_fieldAddr fld_54_1 rfl rfl rfl) ?_
 refine pv (iJ z.k) (x_load rfl rfl ((((((b2.ext x7).ext x10).ext x15).ext x19).ext x24).one one_3 rfl)) ?_
 refine p_call (vs := #[.pointer none, iJ z.k]) fn_13 rfl rfl rfl (args2 rfl rfl) ?_
 refine (N_take _ z.k).mono ?_
 rintro e w26 ⟨rfl, o29⟩
 refine ⟨_, rfl, ?_⟩
 refine pv (.tuple #[.agg #[iJ 0, iJ 0, iJ 0, iJ 0, iJ 0, iJ 0, iJ 0, iJ 0, iJ 0, iJ 0, iJ 0, iJ 0, iJ 0, iJ 0, iJ 0, iJ 0, iJ 0, iJ 0, .slice none 0 0, .slice none 0 0, .bool false, iJ 0, iJ 0, iJ 0, iJ 0, iJ 0, iJ 0, iJ 0, iJ 0, .bool false], iJ 1]) (x_move rfl rfl) ?_
 refine pv (.agg #[iJ 0, iJ 0, iJ 0, iJ 0, iJ 0, iJ 0, iJ 0, iJ 0, iJ 0, iJ 0, iJ 0, iJ 0, iJ 0, iJ 0, iJ 0, iJ 0, iJ 0, iJ 0, .slice none 0 0, .slice none 0 0, .bool false, iJ 0, iJ 0, iJ 0, iJ 0, iJ 0, iJ 0, iJ 0, iJ 0, .bool false]) (x_extract rfl rfl rfl) ?_
 refine pv (iJ 1) (x_extract rfl rfl rfl) ?_
 refine p_var (v := .agg #[iJ 0, iJ 0, iJ 0, iJ 0, iJ 0, iJ 0, iJ 0, iJ 0, iJ 0, iJ 0, iJ 0, iJ 0, iJ 0, iJ 0, iJ 0, iJ 0, iJ 0, iJ 0, .slice none 0 0, .slice none 0 0, .bool false, iJ 0, iJ 0, iJ 0, iJ 0, iJ 0, iJ 0, iJ 0, iJ 0, .bool false]) (vs := [iJ 0, iJ 0, iJ 0, iJ 0, iJ 0, iJ 0, iJ 0, iJ 0, iJ 0, iJ 0, iJ 0, iJ 0, iJ 0, iJ 0, iJ 0, iJ 0, iJ 0, iJ 0, .slice none 0 0, .slice none 0 0, .bool false, iJ 0, iJ 0, iJ 0, iJ 0, iJ 0, iJ 0, iJ 0, iJ 0, .bool false]) rfl rfl rfl zero_43 rfl rfl rfl rfl rfl rfl rfl size_43 rfl (fun w32 b33 x34 z35 => ?_)
 refine pv (iJ 1) (x_assign rfl rfl) ?_
 refine p_nil (t_norm (c_seq (c_plain (pv (.pointer none) (x_move rfl rfl) ?_))))
 refine pv (.pointer (some (⟨w.heap.size, 2, none⟩))) (x_fieldAddr fld_54_2 rfl rfl rfl) ?_
 refine pv (.agg #[iJ z.m.kind, iJ z.m.src, iJ z.m.dst, iJ z.m.ballot.number, iJ z.m.ballot.replica, iJ z.m.r.inst.replica, iJ z.m.r.inst.slot, iJ z.m.r.status, iJ z.m.r.promise.number, iJ z.m.r.promise.replica, iJ z.m.r.ballot.number, iJ z.m.r.ballot.replica, iJ z.m.r.cmd.kind, iJ z.m.r.cmd.txn.client, iJ z.m.r.cmd.txn.number, iJ z.m.r.cmd.stp.time, iJ z.m.r.cmd.stp.client, iJ z.m.r.cmd.shards, .slice z.p.A z.m.r.cmd.reads.length z.p.n, .slice z.p.B z.m.r.cmd.writes.length z.p.m, .bool z.m.r.cmd.commit, iJ z.m.r.seq, iJ z.m.r.deps.d0, iJ z.m.r.deps.d1, iJ z.m.r.deps.d2, iJ z.m.r.deps.d3, iJ z.m.r.deps.d4, iJ z.m.r.deps.d5, iJ z.m.r.deps.d6, .bool z.m.r.kept]) (x_load rfl rfl ((((((((b2.ext x7).ext x10).ext x15).ext x19).ext x24).ext o29).ext x34).agg (vs := [iJ z.m.kind, iJ z.m.src, iJ z.m.dst, iJ z.m.ballot.number, iJ z.m.ballot.replica, iJ z.m.r.inst.replica, iJ z.m.r.inst.slot, iJ z.m.r.status, iJ z.m.r.promise.number, iJ z.m.r.promise.replica, iJ z.m.r.ballot.number, iJ z.m.r.ballot.replica, iJ z.m.r.cmd.kind, iJ z.m.r.cmd.txn.client, iJ z.m.r.cmd.txn.number, iJ z.m.r.cmd.stp.time, iJ z.m.r.cmd.stp.client, iJ z.m.r.cmd.shards, .slice z.p.A z.m.r.cmd.reads.length z.p.n, .slice z.p.B z.m.r.cmd.writes.length z.p.m, .bool z.m.r.cmd.commit, iJ z.m.r.seq, iJ z.m.r.deps.d0, iJ z.m.r.deps.d1, iJ z.m.r.deps.d2, iJ z.m.r.deps.d3, iJ z.m.r.deps.d4, iJ z.m.r.deps.d5, iJ z.m.r.deps.d6, .bool z.m.r.kept]) agg_43_30 rfl)) ?_
 refine p_call (vs := #[.pointer none, .agg #[iJ z.m.kind, iJ z.m.src, iJ z.m.dst, iJ z.m.ballot.number, iJ z.m.ballot.replica, iJ z.m.r.inst.replica, iJ z.m.r.inst.slot, iJ z.m.r.status, iJ z.m.r.promise.number, iJ z.m.r.promise.replica, iJ z.m.r.ballot.number, iJ z.m.r.ballot.replica, iJ z.m.r.cmd.kind, iJ z.m.r.cmd.txn.client, iJ z.m.r.cmd.txn.number, iJ z.m.r.cmd.stp.time, iJ z.m.r.cmd.stp.client, iJ z.m.r.cmd.shards, .slice z.p.A z.m.r.cmd.reads.length z.p.n, .slice z.p.B z.m.r.cmd.writes.length z.p.m, .bool z.m.r.cmd.commit, iJ z.m.r.seq, iJ z.m.r.deps.d0, iJ z.m.r.deps.d1, iJ z.m.r.deps.d2, iJ z.m.r.deps.d3, iJ z.m.r.deps.d4, iJ z.m.r.deps.d5, iJ z.m.r.deps.d6, .bool z.m.r.kept]]) fn_12 rfl rfl rfl (args2 rfl rfl) ?_
 refine (N_send _ z.m z.p ((((((((hz.ext x3).ext x7).ext x10).ext x15).ext x19).ext x24).ext o29).ext x34) hs).mono ?_
 rintro e w36 ⟨rfl, o37⟩
 refine ⟨_, rfl, ?_⟩
 refine pv (.bool true) (yb (x_eql rfl rfl rfl) rfl) ?_
 refine pv (.bool true) (x_move rfl rfl) ?_
 refine pv (iJ 1) (x_move rfl rfl) ?_
 refine pv (.bool true) (yb (x_eql rfl rfl rfl) rfl) ?_
 refine pv (.bool true) (x_pick_t rfl rfl rfl) ?_
 refine pv (.bool true) (x_move rfl rfl) ?_
 refine pv (iJ 1) (x_move rfl rfl) ?_
 refine pv (.bool true) (yb (x_eql rfl rfl rfl) rfl) ?_
 refine pv (.bool true) (x_pick_t rfl rfl rfl) ?_
 refine pv (.bool true) (x_move rfl rfl) ?_
 refine pv (.pointer none) (x_move rfl rfl) ?_
 refine pv (.pointer (some (⟨w.heap.size, 1, none⟩))) (x_fieldAddr fld_54_1 rfl rfl rfl) ?_
 refine pv (iJ z.k) (x_load rfl rfl (((((((((b2.ext x7).ext x10).ext x15).ext x19).ext x24).ext o29).ext x34).ext o37).one one_3 rfl)) ?_
 refine p_call (vs := #[.pointer none, iJ z.k]) fn_25 rfl rfl rfl (args2 rfl rfl) ?_
 refine (N_lose _ z.k).mono ?_
 rintro e w38 ⟨rfl, o39⟩
 refine ⟨_, rfl, ?_⟩
 refine pv (.bool true) (yb (x_eql rfl rfl rfl) rfl) ?_
 refine pv (.bool true) (x_pick_t rfl rfl rfl) ?_
 refine pv (.bool true) (x_move rfl rfl) ?_
 refine pv (.pointer none) (x_move rfl rfl) ?_
 refine pv (.pointer (some (⟨w.heap.size, 1, none⟩))) (x_fieldAddr fld_54_1 rfl rfl rfl) ?_
 refine pv (iJ z.k) (x_load rfl rfl ((((((((((b2.ext x7).ext x10).ext x15).ext x19).ext x24).ext o29).ext x34).ext o37).ext o39).one one_3 rfl)) ?_
 refine p_call (vs := #[.pointer none, iJ z.k]) fn_18 rfl rfl rfl (args2 rfl rfl) ?_
 refine (N_twice _ z.k).mono ?_
 rintro e w40 ⟨rfl, o41⟩
 refine ⟨_, rfl, ?_⟩
 refine pv (.bool true) (yb (x_eql rfl rfl rfl) rfl) ?_
 refine pv (.bool true) (x_pick_t rfl rfl rfl) ?_
 refine pv (.bool true) (x_move rfl rfl) ?_
 refine pv (.pointer none) (x_move rfl rfl) ?_
 refine p_call (vs := #[.pointer none]) fn_15 rfl rfl rfl (args1 rfl) ?_
 refine (N_len _).mono ?_
 rintro e w42 ⟨rfl, x43⟩
 refine ⟨_, rfl, ?_⟩
 refine pv (.bool true) (yb (x_eql rfl rfl rfl) rfl) ?_
 refine pv (.bool true) (x_pick_t rfl rfl rfl) ?_
 refine pv (.bool true) (x_move rfl rfl) ?_
 refine pv (.pointer none) (x_move rfl rfl) ?_
 refine pv (.pointer (some (⟨w.heap.size, 1, none⟩))) (x_fieldAddr fld_54_1 rfl rfl rfl) ?_
 refine pv (iJ z.k) (x_load rfl rfl ((((((((((((b2.ext x7).ext x10).ext x15).ext x19).ext x24).ext o29).ext x34).ext o37).ext o39).ext o41).ext x43).one one_3 rfl)) ?_
 refine pv (.pointer (some (⟨w.heap.size, 1, none⟩))) (x_fieldAddr fld_54_1 rfl rfl rfl) ?_
 refine pv (iJ z.k) (x_load rfl rfl ((((((((((((b2.ext x7).ext x10).ext x15).ext x19).ext x24).ext o29).ext x34).ext o37).ext o39).ext o41).ext x43).one one_3 rfl)) ?_
 refine p_call (vs := #[.pointer none, iJ z.k, iJ z.k]) fn_23 rfl rfl rfl (args3 rfl rfl rfl) ?_
 refine (N_find _ z.k z.k).mono ?_
 rintro e w44 ⟨rfl, x45⟩
 refine ⟨_, rfl, ?_⟩
 refine pv (.bool true) (yb (x_eql rfl rfl rfl) rfl) ?_
 refine pv (.bool true) (x_pick_t rfl rfl rfl) ?_
 refine pv (.bool true) (x_move rfl rfl) ?_
 refine pv (.pointer none) (x_move rfl rfl) ?_
 refine p_call (vs := #[.pointer none]) fn_22 rfl rfl rfl (args1 rfl) ?_
 refine (N_tally _).mono ?_
 rintro e w46 ⟨rfl, x47⟩
 refine ⟨_, rfl, ?_⟩
 refine pv (.agg #[iJ 0, iJ 0, iJ 0]) (x_build0 zero_66 bld_66 rfl) ?_
 refine pv (.bool true) (yb (x_eqCn (a := (⟨0, 0, 0⟩ : Cn)) (b := (⟨0, 0, 0⟩ : Cn)) ints3_66 rfl rfl rfl) (by simp)) ?_
 refine pv (.bool true) (x_pick_t rfl rfl rfl) ?_
 refine pv (.bool true) (x_move rfl rfl) ?_
 refine p_call (vs := #[]) fn_10 rfl rfl rfl (args0) ?_
 refine (C_awake _).mono ?_
 rintro e w48 ⟨rfl, x49⟩
 refine ⟨_, rfl, ?_⟩
 refine pv (.bool true) (x_pick_t rfl rfl rfl) ?_
 refine pv (.bool true) (x_assign rfl rfl) ?_
 exact p_nil (t_norm (c_ret (c_done rfl rfl (Ret.b (rfl) ((((((((((((((x3.trans x7).trans x10).trans x15).trans x19).trans x24).trans o29).trans x34).trans o37).trans o39).trans o41).trans x43).trans x45).trans x47).trans x49)))))
end Go.Proofs.Ytadeigpphklmfaa
