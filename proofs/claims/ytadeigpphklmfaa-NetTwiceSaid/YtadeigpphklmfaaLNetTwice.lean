/- A walk through the code of layers below, or of layer 10. -/
import Derived.Test.YtadeigpphklmfaaNet
import Derived.Test.YtadeigpphklmfaaDrs
import Derived.Test.YtadeigpphklmfaaPan
import Derived.Test.YtadeigpphklmfaaB4
namespace Go.Proofs.Ytadeigpphklmfaa
open Go.RowKit Go.Eng
set_option linter.unusedVariables false
set_option linter.unusedSimpArgs false
set_option maxHeartbeats 1000000 in
theorem C_NetTwice (w : World) (m : Msg) (p : Ptr) (hm : CmdAt w m.r.cmd p) :
    Calls Try.prog 4 #[vMsg m p] w (Ret w (.bool true)) := by
 refine c_enter (n := 76) Try.func4 rfl rfl rfl ?_
 refine c_seq (c_plain (p_box rfl rfl rfl rfl (fun w1 b2 x3 z4 => ?_)))
 refine pv (.bool false) (x_assign rfl rfl) ?_
 refine p_nil (t_norm (c_seq (c_seq (c_plain (pv (vMsg m p) (x_load rfl rfl (b2.agg (vs := [iJ m.kind, iJ m.src, iJ m.dst, iJ m.ballot.number, iJ m.ballot.replica, iJ m.r.inst.replica, iJ m.r.inst.slot, iJ m.r.status, iJ m.r.promise.number, iJ m.r.promise.replica, iJ m.r.ballot.number, iJ m.r.ballot.replica, iJ m.r.cmd.kind, iJ m.r.cmd.txn.client, iJ m.r.cmd.txn.number, iJ m.r.cmd.stp.time, iJ m.r.cmd.stp.client, iJ m.r.cmd.shards, .slice p.A m.r.cmd.reads.length p.n, .slice p.B m.r.cmd.writes.length p.m, .bool m.r.cmd.commit, iJ m.r.seq, iJ m.r.deps.d0, iJ m.r.deps.d1, iJ m.r.deps.d2, iJ m.r.deps.d3, iJ m.r.deps.d4, iJ m.r.deps.d5, iJ m.r.deps.d6, .bool m.r.kept]) agg_43_30 rfl)) ?_)))))
 refine pv (.agg #[iJ 0, iJ 0, iJ m.kind, iJ m.src, iJ m.dst, iJ m.ballot.number, iJ m.ballot.replica, iJ m.r.inst.replica, iJ m.r.inst.slot, iJ m.r.status, iJ m.r.promise.number, iJ m.r.promise.replica, iJ m.r.ballot.number, iJ m.r.ballot.replica, iJ m.r.cmd.kind, iJ m.r.cmd.txn.client, iJ m.r.cmd.txn.number, iJ m.r.cmd.stp.time, iJ m.r.cmd.stp.client, iJ m.r.cmd.shards, .slice p.A m.r.cmd.reads.length p.n, .slice p.B m.r.cmd.writes.length p.m, .bool m.r.cmd.commit, iJ m.r.seq, iJ m.r.deps.d0, iJ m.r.deps.d1, iJ m.r.deps.d2, iJ m.r.deps.d3, iJ m.r.deps.d4, iJ m.r.deps.d5, iJ m.r.deps.d6, .bool m.r.kept]) (x_build (z := [iJ 0, iJ 0, iJ 0, iJ 0, iJ 0, iJ 0, iJ 0, iJ 0, iJ 0, iJ 0, iJ 0, iJ 0, iJ 0, iJ 0, iJ 0, iJ 0, iJ 0, iJ 0, iJ 0, iJ 0, .slice none 0 0, .slice none 0 0, .bool false, iJ 0, iJ 0, iJ 0, iJ 0, iJ 0, iJ 0, iJ 0, iJ 0, .bool false]) (r := [iJ 0, iJ 0, iJ m.kind, iJ m.src, iJ m.dst, iJ m.ballot.number, iJ m.ballot.replica, iJ m.r.inst.replica, iJ m.r.inst.slot, iJ m.r.status, iJ m.r.promise.number, iJ m.r.promise.replica, iJ m.r.ballot.number, iJ m.r.ballot.replica, iJ m.r.cmd.kind, iJ m.r.cmd.txn.client, iJ m.r.cmd.txn.number, iJ m.r.cmd.stp.time, iJ m.r.cmd.stp.client, iJ m.r.cmd.shards, .slice p.A m.r.cmd.reads.length p.n, .slice p.B m.r.cmd.writes.length p.m, .bool m.r.cmd.commit, iJ m.r.seq, iJ m.r.deps.d0, iJ m.r.deps.d1, iJ m.r.deps.d2, iJ m.r.deps.d3, iJ m.r.deps.d4, iJ m.r.deps.d5, iJ m.r.deps.d6, .bool m.r.kept]) zero_54 pl_54 rfl (partsI1 rfl) (fill_cons (vs := [iJ m.kind, iJ m.src, iJ m.dst, iJ m.ballot.number, iJ m.ballot.replica, iJ m.r.inst.replica, iJ m.r.inst.slot, iJ m.r.status, iJ m.r.promise.number, iJ m.r.promise.replica, iJ m.r.ballot.number, iJ m.r.ballot.replica, iJ m.r.cmd.kind, iJ m.r.cmd.txn.client, iJ m.r.cmd.txn.number, iJ m.r.cmd.stp.time, iJ m.r.cmd.stp.client, iJ m.r.cmd.shards, .slice p.A m.r.cmd.reads.length p.n, .slice p.B m.r.cmd.writes.length p.m, .bool m.r.cmd.commit, iJ m.r.seq, iJ m.r.deps.d0, iJ m.r.deps.d1, iJ m.r.deps.d2, iJ m.r.deps.d3, iJ m.r.deps.d4, iJ m.r.deps.d5, iJ m.r.deps.d6, .bool m.r.kept]) (cs' := [iJ 0, iJ 0, iJ m.kind, iJ m.src, iJ m.dst, iJ m.ballot.number, iJ m.ballot.replica, iJ m.r.inst.replica, iJ m.r.inst.slot, iJ m.r.status, iJ m.r.promise.number, iJ m.r.promise.replica, iJ m.r.ballot.number, iJ m.r.ballot.replica, iJ m.r.cmd.kind, iJ m.r.cmd.txn.client, iJ m.r.cmd.txn.number, iJ m.r.cmd.stp.time, iJ m.r.cmd.stp.client, iJ m.r.cmd.shards, .slice p.A m.r.cmd.reads.length p.n, .slice p.B m.r.cmd.writes.length p.m, .bool m.r.cmd.commit, iJ m.r.seq, iJ m.r.deps.d0, iJ m.r.deps.d1, iJ m.r.deps.d2, iJ m.r.deps.d3, iJ m.r.deps.d4, iJ m.r.deps.d5, iJ m.r.deps.d6, .bool m.r.kept]) rfl rfl rfl rfl rfl (fill_nil))) ?_
 refine p_buildSlice (cs := [iJ 0, iJ 0, iJ m.kind, iJ m.src, iJ m.dst, iJ m.ballot.number, iJ m.ballot.replica, iJ m.r.inst.replica, iJ m.r.inst.slot, iJ m.r.status, iJ m.r.promise.number, iJ m.r.promise.replica, iJ m.r.ballot.number, iJ m.r.ballot.replica, iJ m.r.cmd.kind, iJ m.r.cmd.txn.client, iJ m.r.cmd.txn.number, iJ m.r.cmd.stp.time, iJ m.r.cmd.stp.client, iJ m.r.cmd.shards, .slice p.A m.r.cmd.reads.length p.n, .slice p.B m.r.cmd.writes.length p.m, .bool m.r.cmd.commit, iJ m.r.seq, iJ m.r.deps.d0, iJ m.r.deps.d1, iJ m.r.deps.d2, iJ m.r.deps.d3, iJ m.r.deps.d4, iJ m.r.deps.d5, iJ m.r.deps.d6, .bool m.r.kept]) el_55 rfl rfl rfl (parts1 rfl) (by decide) (by decide) (fill_ok [.agg #[iJ 0, iJ 0, iJ m.kind, iJ m.src, iJ m.dst, iJ m.ballot.number, iJ m.ballot.replica, iJ m.r.inst.replica, iJ m.r.inst.slot, iJ m.r.status, iJ m.r.promise.number, iJ m.r.promise.replica, iJ m.r.ballot.number, iJ m.r.ballot.replica, iJ m.r.cmd.kind, iJ m.r.cmd.txn.client, iJ m.r.cmd.txn.number, iJ m.r.cmd.stp.time, iJ m.r.cmd.stp.client, iJ m.r.cmd.shards, .slice p.A m.r.cmd.reads.length p.n, .slice p.B m.r.cmd.writes.length p.m, .bool m.r.cmd.commit, iJ m.r.seq, iJ m.r.deps.d0, iJ m.r.deps.d1, iJ m.r.deps.d2, iJ m.r.deps.d3, iJ m.r.deps.d4, iJ m.r.deps.d5, iJ m.r.deps.d6, .bool m.r.kept]] [iJ 0, iJ 0, iJ m.kind, iJ m.src, iJ m.dst, iJ m.ballot.number, iJ m.ballot.replica, iJ m.r.inst.replica, iJ m.r.inst.slot, iJ m.r.status, iJ m.r.promise.number, iJ m.r.promise.replica, iJ m.r.ballot.number, iJ m.r.ballot.replica, iJ m.r.cmd.kind, iJ m.r.cmd.txn.client, iJ m.r.cmd.txn.number, iJ m.r.cmd.stp.time, iJ m.r.cmd.stp.client, iJ m.r.cmd.shards, .slice p.A m.r.cmd.reads.length p.n, .slice p.B m.r.cmd.writes.length p.m, .bool m.r.cmd.commit, iJ m.r.seq, iJ m.r.deps.d0, iJ m.r.deps.d1, iJ m.r.deps.d2, iJ m.r.deps.d3, iJ m.r.deps.d4, iJ m.r.deps.d5, iJ m.r.deps.d6, .bool m.r.kept] rfl rfl) (fun w5 b6 x7 z8 => ?_)
 refine p_call (vs := #[.slice (some ⟨w1.heap.size, 0, none⟩) 1 1]) fn_16 rfl rfl rfl (args1 rfl) ?_
 refine (C_fewD _ _ _ [(⟨0, 0, m, p⟩ : Dz)] (D0.one b6 rfl ((hm.ext x3).ext x7))).mono ?_
 rintro e w9 ⟨rfl, x10⟩
 refine ⟨_, rfl, ?_⟩
 cases c11 : fewD [(⟨0, 0, m, p⟩ : Dz)]
 case false =>
  refine pv (.bool true) (x_not (b := false) rfl rfl) ?_
  refine pv (.bool true) (x_move rfl rfl) ?_
  refine p_skip rfl rfl ?_
  refine p_skip rfl rfl ?_
  refine p_skip rfl rfl ?_
  refine pv (.bool true) (x_pick_t rfl rfl rfl) ?_
  refine p_nil (t_norm (c_true rfl (c_seq (c_quiet (q_call (vs := #[]) fn_10 rfl rfl rfl (args0) (v := .bool true) (fun _ x' => C_awake _) ?_)))))
  refine qv (.bool true) (fun _ x' => x_assign rfl rfl) ?_
  exact q_nil (fun w12 x13 => t_norm (c_ret (t_ret (c_done rfl rfl (Ret.b (rfl) (((x3.trans x7).trans x10).trans x13))))))
 have hs : Slim m.r.cmd := few_slim (by simpa [fewD] using c11)
 refine pv (.bool false) (x_not (b := true) rfl rfl) ?_
 refine pv (.bool false) (x_move rfl rfl) ?_
 refine pv (vMsg m p) (x_load rfl rfl (((b2.ext x7).ext x10).agg (vs := [iJ m.kind, iJ m.src, iJ m.dst, iJ m.ballot.number, iJ m.ballot.replica, iJ m.r.inst.replica, iJ m.r.inst.slot, iJ m.r.status, iJ m.r.promise.number, iJ m.r.promise.replica, iJ m.r.ballot.number, iJ m.r.ballot.replica, iJ m.r.cmd.kind, iJ m.r.cmd.txn.client, iJ m.r.cmd.txn.number, iJ m.r.cmd.stp.time, iJ m.r.cmd.stp.client, iJ m.r.cmd.shards, .slice p.A m.r.cmd.reads.length p.n, .slice p.B m.r.cmd.writes.length p.m, .bool m.r.cmd.commit, iJ m.r.seq, iJ m.r.deps.d0, iJ m.r.deps.d1, iJ m.r.deps.d2, iJ m.r.deps.d3, iJ m.r.deps.d4, iJ m.r.deps.d5, iJ m.r.deps.d6, .bool m.r.kept]) agg_43_30 rfl)) ?_
 refine p_call (vs := #[vMsg m p]) fn_17 rfl rfl rfl (args1 rfl) ?_
 refine (D_rightMsg _ m p (((hm.ext x3).ext x7).ext x10) hs).mono ?_
 rintro e w14 ⟨rfl, x15⟩
 refine ⟨_, rfl, ?_⟩
 cases c16 : rightMsg m
 case false =>
  refine pv (.bool true) (x_not (b := false) rfl rfl) ?_
  refine pv (.bool true) (x_pick_f rfl rfl rfl) ?_
  refine p_nil (t_norm (c_true rfl (c_seq (c_quiet (q_call (vs := #[]) fn_10 rfl rfl rfl (args0) (v := .bool true) (fun _ x' => C_awake _) ?_)))))
  refine qv (.bool true) (fun _ x' => x_assign rfl rfl) ?_
  exact q_nil (fun w17 x18 => t_norm (c_ret (t_ret (c_done rfl rfl (Ret.b (rfl) ((((x3.trans x7).trans x10).trans x15).trans x18))))))
 refine pv (.bool false) (x_not (b := true) rfl rfl) ?_
 refine pv (.bool false) (x_pick_f rfl rfl rfl) ?_
 refine p_nil (t_norm (c_false rfl (c_skip (t_norm (c_seq (c_plain (p_call (vs := #[iJ 2]) fn_9 rfl rfl rfl (args1 rfl) ?_)))))))
 refine (C_new _ 2).mono ?_
 rintro e w19 ⟨x20, ⟨hr21, _⟩ | ⟨hr21, g22, rfl, hg23, hN24⟩⟩
 ·omega
 refine ⟨_, rfl, ?_⟩
 have hN24l := hN24.box.lt
 have hg23b := Nat.le_trans (Nat.le_trans (Nat.le_trans (Nat.le_trans x3.size x7.size) x10.size) x15.size) hg23
 refine pv (pJ g22) (x_assign rfl rfl) ?_
 refine p_nil (t_norm (c_seq (c_plain (pv (pJ g22) (x_move rfl rfl) ?_))))
 refine pv (vMsg m p) (x_load rfl rfl (((((b2.ext x7).ext x10).ext x15).ext x20).agg (vs := [iJ m.kind, iJ m.src, iJ m.dst, iJ m.ballot.number, iJ m.ballot.replica, iJ m.r.inst.replica, iJ m.r.inst.slot, iJ m.r.status, iJ m.r.promise.number, iJ m.r.promise.replica, iJ m.r.ballot.number, iJ m.r.ballot.replica, iJ m.r.cmd.kind, iJ m.r.cmd.txn.client, iJ m.r.cmd.txn.number, iJ m.r.cmd.stp.time, iJ m.r.cmd.stp.client, iJ m.r.cmd.shards, .slice p.A m.r.cmd.reads.length p.n, .slice p.B m.r.cmd.writes.length p.m, .bool m.r.cmd.commit, iJ m.r.seq, iJ m.r.deps.d0, iJ m.r.deps.d1, iJ m.r.deps.d2, iJ m.r.deps.d3, iJ m.r.deps.d4, iJ m.r.deps.d5, iJ m.r.deps.d6, .bool m.r.kept]) agg_43_30 rfl)) ?_
 refine p_call (vs := #[pJ g22, vMsg m p]) fn_12 rfl rfl rfl (args2 rfl rfl) ?_
 refine (C_send _ g22 (newP 2) none 0 ([] : List (Msg × Ptr)) hN24 (by simp [Tame, newP]) m p (((((hm.ext x3).ext x7).ext x10).ext x15).ext x20) hs).mono ?_
 rw [tw_1 c16]
 rintro e w25 ⟨A28, c29, zs30, rfl, hN27, o26, hN27k⟩
 refine ⟨_, rfl, ?_⟩
 refine pv (pJ g22) (x_move rfl rfl) ?_
 refine p_call (vs := #[pJ g22, iJ 0]) fn_18 rfl rfl rfl (args2 rfl rfl) ?_
 refine (C_twice _ g22 (⟨1, 0, 0, [m], 2⟩ : PN) A28 c29 zs30 hN27 (by simp [Tame, newP]) 0).mono ?_
 rw [tw_2 m]
 rintro e w31 ⟨A34, c35, zs36, rfl, hN33, o32, hN33k⟩
 refine ⟨_, rfl, ?_⟩
 refine pv (pJ g22) (x_move rfl rfl) ?_
 refine p_call (vs := #[pJ g22, iJ 0]) fn_18 rfl rfl rfl (args2 rfl rfl) ?_
 refine (C_twice _ g22 (⟨2, 0, 0, [m, m], 2⟩ : PN) A34 c35 zs36 hN33 (by simp [Tame, newP]) 0).mono ?_
 rw [tw_3 m]
 rintro e w37 ⟨A40, c41, zs42, rfl, hN39, o38, hN39k⟩
 refine ⟨_, rfl, ?_⟩
 refine pv (iJ 0) (x_assign rfl rfl) ?_
 refine pv (iJ 0) (x_assign rfl rfl) ?_
 refine pv (iJ 7) (x_assign rfl rfl) ?_
 refine p_nil (t_norm (c_seq (c_plain (pv (pJ g22) (x_move rfl rfl) ?_))))
 refine p_call (vs := #[pJ g22, iJ 1]) fn_13 rfl rfl rfl (args2 rfl rfl) ?_
 refine (C_take _ g22 (⟨2, 0, 0, [m, m], 2⟩ : PN) A40 c41 zs42 hN39 (by simp [Tame, newP]) 1).mono ?_
 rw [tw_4 m]
 rintro e w43 ⟨A50, c51, zs52, p44, rfl, hc45, hN49, o46, hN49k, fa47, fb48⟩
 refine ⟨_, rfl, ?_⟩
 refine pv (.tuple #[vMsg m p44, iJ 0]) (x_move rfl rfl) ?_
 refine pv (vMsg m p44) (x_extract rfl rfl rfl) ?_
 refine pv (iJ 0) (x_extract rfl rfl rfl) ?_
 refine p_var (v := vMsg m p44) (vs := [iJ m.kind, iJ m.src, iJ m.dst, iJ m.ballot.number, iJ m.ballot.replica, iJ m.r.inst.replica, iJ m.r.inst.slot, iJ m.r.status, iJ m.r.promise.number, iJ m.r.promise.replica, iJ m.r.ballot.number, iJ m.r.ballot.replica, iJ m.r.cmd.kind, iJ m.r.cmd.txn.client, iJ m.r.cmd.txn.number, iJ m.r.cmd.stp.time, iJ m.r.cmd.stp.client, iJ m.r.cmd.shards, .slice p44.A m.r.cmd.reads.length p44.n, .slice p44.B m.r.cmd.writes.length p44.m, .bool m.r.cmd.commit, iJ m.r.seq, iJ m.r.deps.d0, iJ m.r.deps.d1, iJ m.r.deps.d2, iJ m.r.deps.d3, iJ m.r.deps.d4, iJ m.r.deps.d5, iJ m.r.deps.d6, .bool m.r.kept]) rfl rfl rfl zero_43 rfl rfl rfl rfl rfl rfl rfl size_43 rfl (fun w53 b54 x55 z56 => ?_)
 refine pv (iJ 0) (x_assign rfl rfl) ?_
 refine p_nil (t_norm (c_seq (c_plain (pv (pJ g22) (x_move rfl rfl) ?_))))
 refine p_call (vs := #[pJ g22, iJ 0]) fn_13 rfl rfl rfl (args2 rfl rfl) ?_
 refine (C_take _ g22 (⟨2, 1, 0, [m], 2⟩ : PN) A50 c51 zs52 (hN49.ext x55) (by simp [Tame, newP]) 0).mono ?_
 rw [tw_5 m]
 rintro e w57 ⟨A64, c65, zs66, p58, rfl, hc59, hN63, o60, hN63k, fa61, fb62⟩
 refine ⟨_, rfl, ?_⟩
 have hc67 := (hc45.ext x55).off o60 ⟨fun ad h => by have hf := fa47 ad h; have hz := (Nat.le_trans (Nat.le_trans o26.size o32.size) o38.size); omega, fun ad h => by have hf := fb48 ad h; have hz := (Nat.le_trans (Nat.le_trans o26.size o32.size) o38.size); omega⟩
 refine pv (.tuple #[vMsg m p58, iJ 0]) (x_move rfl rfl) ?_
 refine pv (vMsg m p58) (x_extract rfl rfl rfl) ?_
 refine pv (iJ 0) (x_extract rfl rfl rfl) ?_
 refine p_var (v := vMsg m p58) (vs := [iJ m.kind, iJ m.src, iJ m.dst, iJ m.ballot.number, iJ m.ballot.replica, iJ m.r.inst.replica, iJ m.r.inst.slot, iJ m.r.status, iJ m.r.promise.number, iJ m.r.promise.replica, iJ m.r.ballot.number, iJ m.r.ballot.replica, iJ m.r.cmd.kind, iJ m.r.cmd.txn.client, iJ m.r.cmd.txn.number, iJ m.r.cmd.stp.time, iJ m.r.cmd.stp.client, iJ m.r.cmd.shards, .slice p58.A m.r.cmd.reads.length p58.n, .slice p58.B m.r.cmd.writes.length p58.m, .bool m.r.cmd.commit, iJ m.r.seq, iJ m.r.deps.d0, iJ m.r.deps.d1, iJ m.r.deps.d2, iJ m.r.deps.d3, iJ m.r.deps.d4, iJ m.r.deps.d5, iJ m.r.deps.d6, .bool m.r.kept]) rfl rfl rfl zero_43 rfl rfl rfl rfl rfl rfl rfl size_43 rfl (fun w68 b69 x70 z71 => ?_)
 refine pv (iJ 0) (x_assign rfl rfl) ?_
 refine p_nil (t_norm (c_seq (c_quiet (qv (iJ 0) (fun _ x' => x_move rfl rfl) ?_))))
 refine qv (.bool true) (fun _ x' => yb (x_eql rfl rfl rfl) rfl) ?_
 refine qv (.bool true) (fun _ x' => x_move rfl rfl) ?_
 refine qv (iJ 0) (fun _ x' => x_move rfl rfl) ?_
 refine qv (.bool true) (fun _ x' => yb (x_eql rfl rfl rfl) rfl) ?_
 refine qv (.bool true) (fun _ x' => x_pick_t rfl rfl rfl) ?_
 refine qv (.bool true) (fun _ x' => x_move rfl rfl) ?_
 refine qv (iJ 7) (fun _ x' => x_move rfl rfl) ?_
 refine qv (.bool true) (fun _ x' => yb (x_eql rfl rfl rfl) rfl) ?_
 refine qv (.bool true) (fun _ x' => x_pick_t rfl rfl rfl) ?_
 refine qv (.bool true) (fun _ x' => x_move rfl rfl) ?_
 refine qv (iJ 0) (fun _ x' => x_move rfl rfl) ?_
 refine qv (.bool true) (fun _ x' => yb (x_eql rfl rfl rfl) rfl) ?_
 refine qv (.bool true) (fun _ x' => x_pick_t rfl rfl rfl) ?_
 refine qv (.bool true) (fun _ x' => x_move rfl rfl) ?_
 refine qv (iJ 0) (fun _ x' => x_move rfl rfl) ?_
 refine qv (.bool true) (fun _ x' => yb (x_eql rfl rfl rfl) rfl) ?_
 refine qv (.bool true) (fun _ x' => x_pick_t rfl rfl rfl) ?_
 refine qv (.bool true) (fun _ x' => x_move rfl rfl) ?_
 refine qv (vMsg m p44) (fun _ x' => x_load rfl rfl ((((b54.off (hN49.box.ext x55) o60 (by decide)).ext x70).ext x').agg (vs := [iJ m.kind, iJ m.src, iJ m.dst, iJ m.ballot.number, iJ m.ballot.replica, iJ m.r.inst.replica, iJ m.r.inst.slot, iJ m.r.status, iJ m.r.promise.number, iJ m.r.promise.replica, iJ m.r.ballot.number, iJ m.r.ballot.replica, iJ m.r.cmd.kind, iJ m.r.cmd.txn.client, iJ m.r.cmd.txn.number, iJ m.r.cmd.stp.time, iJ m.r.cmd.stp.client, iJ m.r.cmd.shards, .slice p44.A m.r.cmd.reads.length p44.n, .slice p44.B m.r.cmd.writes.length p44.m, .bool m.r.cmd.commit, iJ m.r.seq, iJ m.r.deps.d0, iJ m.r.deps.d1, iJ m.r.deps.d2, iJ m.r.deps.d3, iJ m.r.deps.d4, iJ m.r.deps.d5, iJ m.r.deps.d6, .bool m.r.kept]) agg_43_30 rfl)) ?_
 refine qv (vMsg m p) (fun _ x' => x_load rfl rfl (((((((((((((b2.ext x7).ext x10).ext x15).ext x20).off hN24.box o26 (by decide)).off hN27.box o32 (by decide)).off hN33.box o38 (by decide)).off hN39.box o46 (by decide)).ext x55).off (hN49.box.ext x55) o60 (by decide)).ext x70).ext x').agg (vs := [iJ m.kind, iJ m.src, iJ m.dst, iJ m.ballot.number, iJ m.ballot.replica, iJ m.r.inst.replica, iJ m.r.inst.slot, iJ m.r.status, iJ m.r.promise.number, iJ m.r.promise.replica, iJ m.r.ballot.number, iJ m.r.ballot.replica, iJ m.r.cmd.kind, iJ m.r.cmd.txn.client, iJ m.r.cmd.txn.number, iJ m.r.cmd.stp.time, iJ m.r.cmd.stp.client, iJ m.r.cmd.shards, .slice p.A m.r.cmd.reads.length p.n, .slice p.B m.r.cmd.writes.length p.m, .bool m.r.cmd.commit, iJ m.r.seq, iJ m.r.deps.d0, iJ m.r.deps.d1, iJ m.r.deps.d2, iJ m.r.deps.d3, iJ m.r.deps.d4, iJ m.r.deps.d5, iJ m.r.deps.d6, .bool m.r.kept]) agg_43_30 rfl)) ?_
 refine q_call (vs := #[vMsg m p44, vMsg m p]) fn_14 rfl rfl rfl (args2 rfl rfl) (v := .bool true) (fun _ x' => ((decide_eq_true (rfl : m = m))) ▸ D_sameMsg _ m p44 ((hc67.ext x70).ext x') m p (hm.ext (Ext.trans (((((((((Below.refl _ _).trans (((((x3.trans x7).trans x10).trans x15).trans x20).mono (Nat.le_refl _))).trans (below_off o26 (Nat.le_trans (Nat.le_trans (Nat.le_trans (Nat.le_trans x3.size x7.size) x10.size) x15.size) x20.size) hg23b)).trans (below_off o32 (Nat.le_trans (Nat.le_trans (Nat.le_trans (Nat.le_trans (Nat.le_trans x3.size x7.size) x10.size) x15.size) x20.size) o26.size) hg23b)).trans (below_off o38 (Nat.le_trans (Nat.le_trans (Nat.le_trans (Nat.le_trans (Nat.le_trans (Nat.le_trans x3.size x7.size) x10.size) x15.size) x20.size) o26.size) o32.size) hg23b)).trans (below_off o46 (Nat.le_trans (Nat.le_trans (Nat.le_trans (Nat.le_trans (Nat.le_trans (Nat.le_trans (Nat.le_trans x3.size x7.size) x10.size) x15.size) x20.size) o26.size) o32.size) o38.size) hg23b)).trans (x55.mono (Nat.le_trans (Nat.le_trans (Nat.le_trans (Nat.le_trans (Nat.le_trans (Nat.le_trans (Nat.le_trans (Nat.le_trans x3.size x7.size) x10.size) x15.size) x20.size) o26.size) o32.size) o38.size) o46.size))).trans (below_off o60 (Nat.le_trans (Nat.le_trans (Nat.le_trans (Nat.le_trans (Nat.le_trans (Nat.le_trans (Nat.le_trans (Nat.le_trans (Nat.le_trans x3.size x7.size) x10.size) x15.size) x20.size) o26.size) o32.size) o38.size) o46.size) x55.size) hg23b)).trans (x70.mono (Nat.le_trans (Nat.le_trans (Nat.le_trans (Nat.le_trans (Nat.le_trans (Nat.le_trans (Nat.le_trans (Nat.le_trans (Nat.le_trans (Nat.le_trans x3.size x7.size) x10.size) x15.size) x20.size) o26.size) o32.size) o38.size) o46.size) x55.size) o60.size))) x'))) ?_
 refine qv (.bool true) (fun _ x' => x_pick_t rfl rfl rfl) ?_
 refine qv (.bool true) (fun _ x' => x_move rfl rfl) ?_
 refine qv (vMsg m p58) (fun _ x' => x_load rfl rfl ((b69.ext x').agg (vs := [iJ m.kind, iJ m.src, iJ m.dst, iJ m.ballot.number, iJ m.ballot.replica, iJ m.r.inst.replica, iJ m.r.inst.slot, iJ m.r.status, iJ m.r.promise.number, iJ m.r.promise.replica, iJ m.r.ballot.number, iJ m.r.ballot.replica, iJ m.r.cmd.kind, iJ m.r.cmd.txn.client, iJ m.r.cmd.txn.number, iJ m.r.cmd.stp.time, iJ m.r.cmd.stp.client, iJ m.r.cmd.shards, .slice p58.A m.r.cmd.reads.length p58.n, .slice p58.B m.r.cmd.writes.length p58.m, .bool m.r.cmd.commit, iJ m.r.seq, iJ m.r.deps.d0, iJ m.r.deps.d1, iJ m.r.deps.d2, iJ m.r.deps.d3, iJ m.r.deps.d4, iJ m.r.deps.d5, iJ m.r.deps.d6, .bool m.r.kept]) agg_43_30 rfl)) ?_
 refine qv (vMsg m p) (fun _ x' => x_load rfl rfl (((((((((((((b2.ext x7).ext x10).ext x15).ext x20).off hN24.box o26 (by decide)).off hN27.box o32 (by decide)).off hN33.box o38 (by decide)).off hN39.box o46 (by decide)).ext x55).off (hN49.box.ext x55) o60 (by decide)).ext x70).ext x').agg (vs := [iJ m.kind, iJ m.src, iJ m.dst, iJ m.ballot.number, iJ m.ballot.replica, iJ m.r.inst.replica, iJ m.r.inst.slot, iJ m.r.status, iJ m.r.promise.number, iJ m.r.promise.replica, iJ m.r.ballot.number, iJ m.r.ballot.replica, iJ m.r.cmd.kind, iJ m.r.cmd.txn.client, iJ m.r.cmd.txn.number, iJ m.r.cmd.stp.time, iJ m.r.cmd.stp.client, iJ m.r.cmd.shards, .slice p.A m.r.cmd.reads.length p.n, .slice p.B m.r.cmd.writes.length p.m, .bool m.r.cmd.commit, iJ m.r.seq, iJ m.r.deps.d0, iJ m.r.deps.d1, iJ m.r.deps.d2, iJ m.r.deps.d3, iJ m.r.deps.d4, iJ m.r.deps.d5, iJ m.r.deps.d6, .bool m.r.kept]) agg_43_30 rfl)) ?_
 refine q_call (vs := #[vMsg m p58, vMsg m p]) fn_14 rfl rfl rfl (args2 rfl rfl) (v := .bool true) (fun _ x' => ((decide_eq_true (rfl : m = m))) ▸ D_sameMsg _ m p58 ((hc59.ext x70).ext x') m p (hm.ext (Ext.trans (((((((((Below.refl _ _).trans (((((x3.trans x7).trans x10).trans x15).trans x20).mono (Nat.le_refl _))).trans (below_off o26 (Nat.le_trans (Nat.le_trans (Nat.le_trans (Nat.le_trans x3.size x7.size) x10.size) x15.size) x20.size) hg23b)).trans (below_off o32 (Nat.le_trans (Nat.le_trans (Nat.le_trans (Nat.le_trans (Nat.le_trans x3.size x7.size) x10.size) x15.size) x20.size) o26.size) hg23b)).trans (below_off o38 (Nat.le_trans (Nat.le_trans (Nat.le_trans (Nat.le_trans (Nat.le_trans (Nat.le_trans x3.size x7.size) x10.size) x15.size) x20.size) o26.size) o32.size) hg23b)).trans (below_off o46 (Nat.le_trans (Nat.le_trans (Nat.le_trans (Nat.le_trans (Nat.le_trans (Nat.le_trans (Nat.le_trans x3.size x7.size) x10.size) x15.size) x20.size) o26.size) o32.size) o38.size) hg23b)).trans (x55.mono (Nat.le_trans (Nat.le_trans (Nat.le_trans (Nat.le_trans (Nat.le_trans (Nat.le_trans (Nat.le_trans (Nat.le_trans x3.size x7.size) x10.size) x15.size) x20.size) o26.size) o32.size) o38.size) o46.size))).trans (below_off o60 (Nat.le_trans (Nat.le_trans (Nat.le_trans (Nat.le_trans (Nat.le_trans (Nat.le_trans (Nat.le_trans (Nat.le_trans (Nat.le_trans x3.size x7.size) x10.size) x15.size) x20.size) o26.size) o32.size) o38.size) o46.size) x55.size) hg23b)).trans (x70.mono (Nat.le_trans (Nat.le_trans (Nat.le_trans (Nat.le_trans (Nat.le_trans (Nat.le_trans (Nat.le_trans (Nat.le_trans (Nat.le_trans (Nat.le_trans x3.size x7.size) x10.size) x15.size) x20.size) o26.size) o32.size) o38.size) o46.size) x55.size) o60.size))) x'))) ?_
 refine qv (.bool true) (fun _ x' => x_pick_t rfl rfl rfl) ?_
 refine qv (.bool true) (fun _ x' => x_move rfl rfl) ?_
 refine qv (pJ g22) (fun _ x' => x_move rfl rfl) ?_
 refine q_call (vs := #[pJ g22]) fn_15 rfl rfl rfl (args1 rfl) (v := iJ 0) (fun _ x' => C_len _ g22 (⟨2, 2, 0, [], 2⟩ : PN) A64 c65 zs66 ((hN63.ext x70).ext x')) ?_
 refine qv (.bool true) (fun _ x' => yb (x_eql rfl rfl rfl) rfl) ?_
 refine qv (.bool true) (fun _ x' => x_pick_t rfl rfl rfl) ?_
 refine qv (.bool true) (fun _ x' => x_move rfl rfl) ?_
 refine q_call (vs := #[]) fn_10 rfl rfl rfl (args0) (v := .bool true) (fun _ x' => C_awake _) ?_
 refine qv (.bool true) (fun _ x' => x_pick_t rfl rfl rfl) ?_
 refine qv (.bool true) (fun _ x' => x_assign rfl rfl) ?_
 exact q_nil (fun w72 x73 => t_norm (c_ret (c_done rfl rfl (Ret.b (rfl) (((((((((Below.refl _ _).trans (((((x3.trans x7).trans x10).trans x15).trans x20).mono (Nat.le_refl _))).trans (below_off o26 (Nat.le_trans (Nat.le_trans (Nat.le_trans (Nat.le_trans x3.size x7.size) x10.size) x15.size) x20.size) hg23b)).trans (below_off o32 (Nat.le_trans (Nat.le_trans (Nat.le_trans (Nat.le_trans (Nat.le_trans x3.size x7.size) x10.size) x15.size) x20.size) o26.size) hg23b)).trans (below_off o38 (Nat.le_trans (Nat.le_trans (Nat.le_trans (Nat.le_trans (Nat.le_trans (Nat.le_trans x3.size x7.size) x10.size) x15.size) x20.size) o26.size) o32.size) hg23b)).trans (below_off o46 (Nat.le_trans (Nat.le_trans (Nat.le_trans (Nat.le_trans (Nat.le_trans (Nat.le_trans (Nat.le_trans x3.size x7.size) x10.size) x15.size) x20.size) o26.size) o32.size) o38.size) hg23b)).trans (x55.mono (Nat.le_trans (Nat.le_trans (Nat.le_trans (Nat.le_trans (Nat.le_trans (Nat.le_trans (Nat.le_trans (Nat.le_trans x3.size x7.size) x10.size) x15.size) x20.size) o26.size) o32.size) o38.size) o46.size))).trans (below_off o60 (Nat.le_trans (Nat.le_trans (Nat.le_trans (Nat.le_trans (Nat.le_trans (Nat.le_trans (Nat.le_trans (Nat.le_trans (Nat.le_trans x3.size x7.size) x10.size) x15.size) x20.size) o26.size) o32.size) o38.size) o46.size) x55.size) hg23b)).trans ((x70.trans x73).mono (Nat.le_trans (Nat.le_trans (Nat.le_trans (Nat.le_trans (Nat.le_trans (Nat.le_trans (Nat.le_trans (Nat.le_trans (Nat.le_trans (Nat.le_trans x3.size x7.size) x10.size) x15.size) x20.size) o26.size) o32.size) o38.size) o46.size) x55.size) o60.size)))))))
end Go.Proofs.Ytadeigpphklmfaa
