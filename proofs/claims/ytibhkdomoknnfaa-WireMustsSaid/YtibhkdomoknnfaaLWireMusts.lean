/- What WireMusts answers. -/
import Derived.Test.YtibhkdomoknnfaaEnc
import Derived.Test.YtibhkdomoknnfaaA9
import Derived.Test.YtibhkdomoknnfaaPan
import Derived.Test.YtibhkdomoknnfaaRows
import Derived.Tactics
import Derived.Tactics2
import Derived.Defers
import Derived.Recover
import Derived.Laws.Pointers
namespace Go.Proofs.Ytibhkdomoknnfaa
open Go.RowKit Go.Eng
set_option linter.unusedVariables false
set_option linter.unusedSimpArgs false
theorem C_mustYes (w : World) (r : Rec) (p : Ptr) :
    Calls Try.prog 23 #[.iface 37 (vRec r p)] w (Ret w (vRec r p)) := by
 refine c_enter (n := 5) Try.func23 rfl rfl rfl ?_
 refine c_seq ?_
 refine c_plain ?_
 refine p_alloc (cs := [.int .i64 0, .int .i64 0, .int .i64 0, .int .i64 0, .int .i64 0, .int .i64 0, .int .i64 0, .int .i64 0, .int .i64 0, .int .i64 0, .int .i64 0, .int .i64 0, .int .i64 0, .slice none 0 0, .slice none 0 0, .bool false, .int .i64 0, .int .i64 0, .int .i64 0, .int .i64 0, .int .i64 0, .int .i64 0, .int .i64 0, .int .i64 0, .bool false]) rfl rfl rfl zero_37 rfl (fun w1 b2 x3 z4 => ?_)
 refine p_nil ?_
 refine t_norm ?_
 refine c_seq ?_
 refine c_plain ?_
 refine p_val (v := .iface 37 (vRec r p)) rfl rfl (x_move rfl rfl) ?_
 refine p_val (v := vRec r p) rfl rfl (x_assert_one pl_37_ rfl rfl) ?_
 refine p_store (v := vRec r p) (vs := [.int .i64 r.inst.replica, .int .i64 r.inst.slot, .int .i64 r.status, .int .i64 r.promise.number, .int .i64 r.promise.replica, .int .i64 r.ballot.number, .int .i64 r.ballot.replica, .int .i64 r.cmd.kind, .int .i64 r.cmd.txn.client, .int .i64 r.cmd.txn.number, .int .i64 r.cmd.stp.time, .int .i64 r.cmd.stp.client, .int .i64 r.cmd.shards, .slice p.A r.cmd.reads.length p.n, .slice p.B r.cmd.writes.length p.m, .bool r.cmd.commit, .int .i64 r.seq, .int .i64 r.deps.d0, .int .i64 r.deps.d1, .int .i64 r.deps.d2, .int .i64 r.deps.d3, .int .i64 r.deps.d4, .int .i64 r.deps.d5, .int .i64 r.deps.d6, .bool r.kept]) (cs' := [.int .i64 r.inst.replica, .int .i64 r.inst.slot, .int .i64 r.status, .int .i64 r.promise.number, .int .i64 r.promise.replica, .int .i64 r.ballot.number, .int .i64 r.ballot.replica, .int .i64 r.cmd.kind, .int .i64 r.cmd.txn.client, .int .i64 r.cmd.txn.number, .int .i64 r.cmd.stp.time, .int .i64 r.cmd.stp.client, .int .i64 r.cmd.shards, .slice p.A r.cmd.reads.length p.n, .slice p.B r.cmd.writes.length p.m, .bool r.cmd.commit, .int .i64 r.seq, .int .i64 r.deps.d0, .int .i64 r.deps.d1, .int .i64 r.deps.d2, .int .i64 r.deps.d3, .int .i64 r.deps.d4, .int .i64 r.deps.d5, .int .i64 r.deps.d6, .bool r.kept]) rfl rfl rfl rfl rfl rfl b2 size_37 rfl rfl rfl (fun w5 b6 s7 => ?_)
 refine p_nil ?_
 refine t_norm ?_
 refine c_ret ?_
 exact c_doneC rfl rfl (b6.agg (vs := [.int .i64 r.inst.replica, .int .i64 r.inst.slot, .int .i64 r.status, .int .i64 r.promise.number, .int .i64 r.promise.replica, .int .i64 r.ballot.number, .int .i64 r.ballot.replica, .int .i64 r.cmd.kind, .int .i64 r.cmd.txn.client, .int .i64 r.cmd.txn.number, .int .i64 r.cmd.stp.time, .int .i64 r.cmd.stp.client, .int .i64 r.cmd.shards, .slice p.A r.cmd.reads.length p.n, .slice p.B r.cmd.writes.length p.m, .bool r.cmd.commit, .int .i64 r.seq, .int .i64 r.deps.d0, .int .i64 r.deps.d1, .int .i64 r.deps.d2, .int .i64 r.deps.d3, .int .i64 r.deps.d4, .int .i64 r.deps.d5, .int .i64 r.deps.d6, .bool r.kept]) agg_37_25 rfl) ⟨rfl, (x3.stored (Nat.le_refl _) s7)⟩

theorem C_recYes (w : World) (r : Rec) (p : Ptr) :
    Calls Try.prog 21 #[.iface 37 (vRec r p)] w (Ret w (.tuple #[vRec r p, .bool true])) := by
 refine c_enter (n := 13) Try.func21 rfl rfl rfl ?_
 refine c_seq ?_
 refine c_plain ?_
 refine p_alloc (cs := [.int .i64 0, .int .i64 0, .int .i64 0, .int .i64 0, .int .i64 0, .int .i64 0, .int .i64 0, .int .i64 0, .int .i64 0, .int .i64 0, .int .i64 0, .int .i64 0, .int .i64 0, .slice none 0 0, .slice none 0 0, .bool false, .int .i64 0, .int .i64 0, .int .i64 0, .int .i64 0, .int .i64 0, .int .i64 0, .int .i64 0, .int .i64 0, .bool false]) rfl rfl rfl zero_37 rfl (fun w1 b2 x3 z4 => ?_)
 refine p_val (v := .bool false) rfl rfl (x_assign rfl rfl) ?_
 refine p_nil ?_
 refine t_norm ?_
 refine c_seq ?_
 refine c_plain ?_
 refine p_val (v := .iface 37 (vRec r p)) rfl rfl (x_move rfl rfl) ?_
 refine p_val (v := .tuple #[vRec r p, .bool true]) rfl rfl (x_assert_yes pl_37_ rfl rfl) ?_
 refine p_val (v := .tuple #[vRec r p, .bool true]) rfl rfl (x_move rfl rfl) ?_
 refine p_val (v := vRec r p) rfl rfl (x_extract rfl rfl rfl) ?_
 refine p_val (v := .bool true) rfl rfl (x_extract rfl rfl rfl) ?_
 refine p_var (v := vRec r p) (vs := [.int .i64 r.inst.replica, .int .i64 r.inst.slot, .int .i64 r.status, .int .i64 r.promise.number, .int .i64 r.promise.replica, .int .i64 r.ballot.number, .int .i64 r.ballot.replica, .int .i64 r.cmd.kind, .int .i64 r.cmd.txn.client, .int .i64 r.cmd.txn.number, .int .i64 r.cmd.stp.time, .int .i64 r.cmd.stp.client, .int .i64 r.cmd.shards, .slice p.A r.cmd.reads.length p.n, .slice p.B r.cmd.writes.length p.m, .bool r.cmd.commit, .int .i64 r.seq, .int .i64 r.deps.d0, .int .i64 r.deps.d1, .int .i64 r.deps.d2, .int .i64 r.deps.d3, .int .i64 r.deps.d4, .int .i64 r.deps.d5, .int .i64 r.deps.d6, .bool r.kept]) rfl rfl rfl zero_37 rfl rfl rfl rfl rfl rfl rfl size_37 rfl (fun w5 b6 x7 z8 => ?_)
 refine p_val (v := .bool true) rfl rfl (x_assign rfl rfl) ?_
 refine p_nil ?_
 refine t_norm ?_
 refine c_seq ?_
 refine c_plain ?_
 refine p_val (v := vRec r p) rfl rfl (x_load rfl rfl (b6.agg (vs := [.int .i64 r.inst.replica, .int .i64 r.inst.slot, .int .i64 r.status, .int .i64 r.promise.number, .int .i64 r.promise.replica, .int .i64 r.ballot.number, .int .i64 r.ballot.replica, .int .i64 r.cmd.kind, .int .i64 r.cmd.txn.client, .int .i64 r.cmd.txn.number, .int .i64 r.cmd.stp.time, .int .i64 r.cmd.stp.client, .int .i64 r.cmd.shards, .slice p.A r.cmd.reads.length p.n, .slice p.B r.cmd.writes.length p.m, .bool r.cmd.commit, .int .i64 r.seq, .int .i64 r.deps.d0, .int .i64 r.deps.d1, .int .i64 r.deps.d2, .int .i64 r.deps.d3, .int .i64 r.deps.d4, .int .i64 r.deps.d5, .int .i64 r.deps.d6, .bool r.kept]) agg_37_25 rfl)) ?_
 refine p_val (v := .bool true) rfl rfl (x_move rfl rfl) ?_
 refine p_store (v := vRec r p) (vs := [.int .i64 r.inst.replica, .int .i64 r.inst.slot, .int .i64 r.status, .int .i64 r.promise.number, .int .i64 r.promise.replica, .int .i64 r.ballot.number, .int .i64 r.ballot.replica, .int .i64 r.cmd.kind, .int .i64 r.cmd.txn.client, .int .i64 r.cmd.txn.number, .int .i64 r.cmd.stp.time, .int .i64 r.cmd.stp.client, .int .i64 r.cmd.shards, .slice p.A r.cmd.reads.length p.n, .slice p.B r.cmd.writes.length p.m, .bool r.cmd.commit, .int .i64 r.seq, .int .i64 r.deps.d0, .int .i64 r.deps.d1, .int .i64 r.deps.d2, .int .i64 r.deps.d3, .int .i64 r.deps.d4, .int .i64 r.deps.d5, .int .i64 r.deps.d6, .bool r.kept]) (cs' := [.int .i64 r.inst.replica, .int .i64 r.inst.slot, .int .i64 r.status, .int .i64 r.promise.number, .int .i64 r.promise.replica, .int .i64 r.ballot.number, .int .i64 r.ballot.replica, .int .i64 r.cmd.kind, .int .i64 r.cmd.txn.client, .int .i64 r.cmd.txn.number, .int .i64 r.cmd.stp.time, .int .i64 r.cmd.stp.client, .int .i64 r.cmd.shards, .slice p.A r.cmd.reads.length p.n, .slice p.B r.cmd.writes.length p.m, .bool r.cmd.commit, .int .i64 r.seq, .int .i64 r.deps.d0, .int .i64 r.deps.d1, .int .i64 r.deps.d2, .int .i64 r.deps.d3, .int .i64 r.deps.d4, .int .i64 r.deps.d5, .int .i64 r.deps.d6, .bool r.kept]) rfl rfl rfl rfl rfl rfl (b2.ext x7) size_37 rfl rfl rfl (fun w9 b10 s11 => ?_)
 have b12 := b6.far s11 (by omega)
 refine p_val (v := .bool true) rfl rfl (x_assign rfl rfl) ?_
 refine p_nil ?_
 refine t_norm ?_
 refine c_ret ?_
 exact c_doneC2 rfl rfl rfl (b10.agg (vs := [.int .i64 r.inst.replica, .int .i64 r.inst.slot, .int .i64 r.status, .int .i64 r.promise.number, .int .i64 r.promise.replica, .int .i64 r.ballot.number, .int .i64 r.ballot.replica, .int .i64 r.cmd.kind, .int .i64 r.cmd.txn.client, .int .i64 r.cmd.txn.number, .int .i64 r.cmd.stp.time, .int .i64 r.cmd.stp.client, .int .i64 r.cmd.shards, .slice p.A r.cmd.reads.length p.n, .slice p.B r.cmd.writes.length p.m, .bool r.cmd.commit, .int .i64 r.seq, .int .i64 r.deps.d0, .int .i64 r.deps.d1, .int .i64 r.deps.d2, .int .i64 r.deps.d3, .int .i64 r.deps.d4, .int .i64 r.deps.d5, .int .i64 r.deps.d6, .bool r.kept]) agg_37_25 rfl) ⟨rfl, ((x3.trans x7).stored (Nat.le_refl _) s11)⟩

theorem C_recNil (w : World) :
    Calls Try.prog 21 #[.nilIface] w (Ret w (.tuple #[.agg #[.int .i64 0, .int .i64 0, .int .i64 0, .int .i64 0, .int .i64 0, .int .i64 0, .int .i64 0, .int .i64 0, .int .i64 0, .int .i64 0, .int .i64 0, .int .i64 0, .int .i64 0, .slice none 0 0, .slice none 0 0, .bool false, .int .i64 0, .int .i64 0, .int .i64 0, .int .i64 0, .int .i64 0, .int .i64 0, .int .i64 0, .int .i64 0, .bool false], .bool false])) := by
 refine c_enter (n := 13) Try.func21 rfl rfl rfl ?_
 refine c_seq ?_
 refine c_plain ?_
 refine p_alloc (cs := [.int .i64 0, .int .i64 0, .int .i64 0, .int .i64 0, .int .i64 0, .int .i64 0, .int .i64 0, .int .i64 0, .int .i64 0, .int .i64 0, .int .i64 0, .int .i64 0, .int .i64 0, .slice none 0 0, .slice none 0 0, .bool false, .int .i64 0, .int .i64 0, .int .i64 0, .int .i64 0, .int .i64 0, .int .i64 0, .int .i64 0, .int .i64 0, .bool false]) rfl rfl rfl zero_37 rfl (fun w1 b2 x3 z4 => ?_)
 refine p_val (v := .bool false) rfl rfl (x_assign rfl rfl) ?_
 refine p_nil ?_
 refine t_norm ?_
 refine c_seq ?_
 refine c_plain ?_
 refine p_val (v := .nilIface) rfl rfl (x_move rfl rfl) ?_
 refine p_val (v := .tuple #[.agg #[.int .i64 0, .int .i64 0, .int .i64 0, .int .i64 0, .int .i64 0, .int .i64 0, .int .i64 0, .int .i64 0, .int .i64 0, .int .i64 0, .int .i64 0, .int .i64 0, .int .i64 0, .slice none 0 0, .slice none 0 0, .bool false, .int .i64 0, .int .i64 0, .int .i64 0, .int .i64 0, .int .i64 0, .int .i64 0, .int .i64 0, .int .i64 0, .bool false], .bool false]) rfl rfl (x_assert_nil pl_37_ zero_37 rfl rfl) ?_
 refine p_val (v := .tuple #[.agg #[.int .i64 0, .int .i64 0, .int .i64 0, .int .i64 0, .int .i64 0, .int .i64 0, .int .i64 0, .int .i64 0, .int .i64 0, .int .i64 0, .int .i64 0, .int .i64 0, .int .i64 0, .slice none 0 0, .slice none 0 0, .bool false, .int .i64 0, .int .i64 0, .int .i64 0, .int .i64 0, .int .i64 0, .int .i64 0, .int .i64 0, .int .i64 0, .bool false], .bool false]) rfl rfl (x_move rfl rfl) ?_
 refine p_val (v := .agg #[.int .i64 0, .int .i64 0, .int .i64 0, .int .i64 0, .int .i64 0, .int .i64 0, .int .i64 0, .int .i64 0, .int .i64 0, .int .i64 0, .int .i64 0, .int .i64 0, .int .i64 0, .slice none 0 0, .slice none 0 0, .bool false, .int .i64 0, .int .i64 0, .int .i64 0, .int .i64 0, .int .i64 0, .int .i64 0, .int .i64 0, .int .i64 0, .bool false]) rfl rfl (x_extract rfl rfl rfl) ?_
 refine p_val (v := .bool false) rfl rfl (x_extract rfl rfl rfl) ?_
 refine p_var (v := .agg #[.int .i64 0, .int .i64 0, .int .i64 0, .int .i64 0, .int .i64 0, .int .i64 0, .int .i64 0, .int .i64 0, .int .i64 0, .int .i64 0, .int .i64 0, .int .i64 0, .int .i64 0, .slice none 0 0, .slice none 0 0, .bool false, .int .i64 0, .int .i64 0, .int .i64 0, .int .i64 0, .int .i64 0, .int .i64 0, .int .i64 0, .int .i64 0, .bool false]) (vs := [.int .i64 0, .int .i64 0, .int .i64 0, .int .i64 0, .int .i64 0, .int .i64 0, .int .i64 0, .int .i64 0, .int .i64 0, .int .i64 0, .int .i64 0, .int .i64 0, .int .i64 0, .slice none 0 0, .slice none 0 0, .bool false, .int .i64 0, .int .i64 0, .int .i64 0, .int .i64 0, .int .i64 0, .int .i64 0, .int .i64 0, .int .i64 0, .bool false]) rfl rfl rfl zero_37 rfl rfl rfl rfl rfl rfl rfl size_37 rfl (fun w5 b6 x7 z8 => ?_)
 refine p_val (v := .bool false) rfl rfl (x_assign rfl rfl) ?_
 refine p_nil ?_
 refine t_norm ?_
 refine c_seq ?_
 refine c_plain ?_
 refine p_val (v := .agg #[.int .i64 0, .int .i64 0, .int .i64 0, .int .i64 0, .int .i64 0, .int .i64 0, .int .i64 0, .int .i64 0, .int .i64 0, .int .i64 0, .int .i64 0, .int .i64 0, .int .i64 0, .slice none 0 0, .slice none 0 0, .bool false, .int .i64 0, .int .i64 0, .int .i64 0, .int .i64 0, .int .i64 0, .int .i64 0, .int .i64 0, .int .i64 0, .bool false]) rfl rfl (x_load rfl rfl (b6.agg (vs := [.int .i64 0, .int .i64 0, .int .i64 0, .int .i64 0, .int .i64 0, .int .i64 0, .int .i64 0, .int .i64 0, .int .i64 0, .int .i64 0, .int .i64 0, .int .i64 0, .int .i64 0, .slice none 0 0, .slice none 0 0, .bool false, .int .i64 0, .int .i64 0, .int .i64 0, .int .i64 0, .int .i64 0, .int .i64 0, .int .i64 0, .int .i64 0, .bool false]) agg_37_25 rfl)) ?_
 refine p_val (v := .bool false) rfl rfl (x_move rfl rfl) ?_
 refine p_store (v := .agg #[.int .i64 0, .int .i64 0, .int .i64 0, .int .i64 0, .int .i64 0, .int .i64 0, .int .i64 0, .int .i64 0, .int .i64 0, .int .i64 0, .int .i64 0, .int .i64 0, .int .i64 0, .slice none 0 0, .slice none 0 0, .bool false, .int .i64 0, .int .i64 0, .int .i64 0, .int .i64 0, .int .i64 0, .int .i64 0, .int .i64 0, .int .i64 0, .bool false]) (vs := [.int .i64 0, .int .i64 0, .int .i64 0, .int .i64 0, .int .i64 0, .int .i64 0, .int .i64 0, .int .i64 0, .int .i64 0, .int .i64 0, .int .i64 0, .int .i64 0, .int .i64 0, .slice none 0 0, .slice none 0 0, .bool false, .int .i64 0, .int .i64 0, .int .i64 0, .int .i64 0, .int .i64 0, .int .i64 0, .int .i64 0, .int .i64 0, .bool false]) (cs' := [.int .i64 0, .int .i64 0, .int .i64 0, .int .i64 0, .int .i64 0, .int .i64 0, .int .i64 0, .int .i64 0, .int .i64 0, .int .i64 0, .int .i64 0, .int .i64 0, .int .i64 0, .slice none 0 0, .slice none 0 0, .bool false, .int .i64 0, .int .i64 0, .int .i64 0, .int .i64 0, .int .i64 0, .int .i64 0, .int .i64 0, .int .i64 0, .bool false]) rfl rfl rfl rfl rfl rfl (b2.ext x7) size_37 rfl rfl rfl (fun w9 b10 s11 => ?_)
 have b12 := b6.far s11 (by omega)
 refine p_val (v := .bool false) rfl rfl (x_assign rfl rfl) ?_
 refine p_nil ?_
 refine t_norm ?_
 refine c_ret ?_
 exact c_doneC2 rfl rfl rfl (b10.agg (vs := [.int .i64 0, .int .i64 0, .int .i64 0, .int .i64 0, .int .i64 0, .int .i64 0, .int .i64 0, .int .i64 0, .int .i64 0, .int .i64 0, .int .i64 0, .int .i64 0, .int .i64 0, .slice none 0 0, .slice none 0 0, .bool false, .int .i64 0, .int .i64 0, .int .i64 0, .int .i64 0, .int .i64 0, .int .i64 0, .int .i64 0, .int .i64 0, .bool false]) agg_37_25 rfl) ⟨rfl, ((x3.trans x7).stored (Nat.le_refl _) s11)⟩

theorem catch_panicking (g : Nat) (b : Value) (u : TypeId) (pv : Value) (older : List PanicEntry) (w : World) (hb : Box w g 4 [b]) :
    CallsD Try.prog 46 #[.pointer (some ⟨g, 0, none⟩)] (.panicking ({ v := .iface u pv, recovered := false } :: older)) w fun e u' w' =>
      e = .returned (.tuple #[]) ∧ u' = .panicking ({ v := .iface u pv, recovered := true } :: older) ∧ w' = w.setCell ⟨g, 0, none⟩ (.bool true) := by
  have hc : w.cell? ⟨g, 0, none⟩ = some b := hb.cell 0
  have hz := hb.frozen 0
  refine callsD_of_wpS Try.func46 rfl fun c₀ cs hu => ?_
  apply wpS_region
  simp [wpOpsS, go_sem, recoverD, hu, Try.ntmps46, hc, hz, bodyPostS, results, Try.results46]
theorem catch_idle (g : Nat) (b : Value) (w : World) (hb : Box w g 4 [b]) :
    CallsD Try.prog 46 #[.pointer (some ⟨g, 0, none⟩)] .returning w fun e u' w' => e = .returned (.tuple #[]) ∧ u' = .returning ∧ w' = w.setCell ⟨g, 0, none⟩ (.bool false) := by
  have hc : w.cell? ⟨g, 0, none⟩ = some b := hb.cell 0
  have hz := hb.frozen 0
  refine callsD_of_wpS Try.func46 rfl fun c₀ cs hu => ?_
  apply wpS_region
  simp [wpOpsS, go_sem, recoverD, hu, Try.ntmps46, hc, hz, bodyPostS, results, Try.results46]
  cases c₀
  simp_all
theorem set_box {w : World} {g : Nat} {b : Value} (z : Bool) (hb : Box w g 4 [b]) : Box (w.setCell ⟨g, 0, none⟩ (.bool z)) g 4 [.bool z] ∧ Stored g w (w.setCell ⟨g, 0, none⟩ (.bool z)) := by
  obtain ⟨w', hr, h1, h2⟩ := Go.Eng.run_store (P := Try.prog) (t := 4) (v := .bool z) (vs := [.bool z]) (off := 0) hb (by kernel_rfl) (Nat.le_refl _) rfl rfl
  have hc : w.cell? ⟨g, 0, none⟩ = some b := hb.cell 0
  have hz := hb.frozen 0
  have e : w' = w.setCell ⟨g, 0, none⟩ (.bool z) := by
    simp [go_sem, hc, hz] at hr
    exact hr.symm
  rw [← e]
  exact ⟨by simpa using h1, h2⟩
theorem panics_yes (x : Value) (w : World) (h : ∀ w1, Calls Try.prog 23 #[x] w1 (fun e w' => ∃ u pv, e = .panicked [{ v := .iface u pv, recovered := false }] ∧ Ext w1 w')) : Calls Try.prog 22 #[x] w (Ret w (.bool true)) := by
  have hmf : ∀ (fn : Fn) (first cap : Array Value) (w : World), (Instr.makeFunc fn first cap).run Try.prog w = .ok (.func fn first cap) w := fun _ _ _ _ => rfl
  go_enter_defers Try.func22, Try.ntmps22
  go_wp2_with (go_at_call 23; refine (h _).mono ?_)
  rintro e w' ⟨u, pv, rfl, hx⟩
  have hb0 : Box (w.alloc (Obj.cells #[Value.bool false] 4)) w.heap.size 4 [.bool false] := Box.new w 4 #[.bool false]
  have hb := hb0.ext hx
  have hx0 : Ext w w' := Ext.trans ((Ext.refl w).alloc _) hx
  refine leaves_cons (f := 46) (args := #[.pointer (some ⟨w.heap.size, 0, none⟩)]) (by simp) (by simp [go_sem]) ?_
  refine (catch_panicking w.heap.size (.bool false) u pv [] _ hb).mono ?_
  rintro e u' w'' ⟨rfl, rfl, rfl⟩
  obtain ⟨h1, h2⟩ := set_box true hb
  have hc : (w'.setCell ⟨w.heap.size, 0, none⟩ (.bool true)).cell? ⟨w.heap.size, 0, none⟩ = some (.bool true) := h1.cell 0
  have hr : Ret w (.bool true) (.returned (.bool true)) (w'.setCell ⟨w.heap.size, 0, none⟩ (.bool true)) := ⟨rfl, hx0.stored (Nat.le_refl _) h2⟩
  simpa [Leaves, settle, results, Try.results22, go_sem, hc] using hr
theorem panics_no (x v : Value) (w : World) (h : ∀ w1, Calls Try.prog 23 #[x] w1 (Ret w1 v)) : Calls Try.prog 22 #[x] w (Ret w (.bool false)) := by
  have hmf : ∀ (fn : Fn) (first cap : Array Value) (w : World), (Instr.makeFunc fn first cap).run Try.prog w = .ok (.func fn first cap) w := fun _ _ _ _ => rfl
  go_enter_defers Try.func22, Try.ntmps22
  go_wp2_with (go_at_call 23; refine (h _).mono ?_)
  rintro e w' ⟨rfl, hx⟩
  have hb0 : Box (w.alloc (Obj.cells #[Value.bool false] 4)) w.heap.size 4 [.bool false] := Box.new w 4 #[.bool false]
  have hb := hb0.ext hx
  have hx0 : Ext w w' := Ext.trans ((Ext.refl w).alloc _) hx
  have hc : w'.cell? ⟨w.heap.size, 0, none⟩ = some (.bool false) := hb.cell 0
  have hz := hb.frozen 0
  rename_i K1 a1 K2 a2
  dsimp only
  apply a2
  apply a1
  go_wp2
  obtain ⟨h1, h2⟩ := set_box false hb
  refine leaves_cons (f := 46) (args := #[.pointer (some ⟨w.heap.size, 0, none⟩)]) (by simp) (by simp [go_sem]) ?_
  refine (catch_idle w.heap.size (.bool false) _ h1).mono ?_
  rintro e u' w'' ⟨rfl, rfl, rfl⟩
  obtain ⟨h3, h4⟩ := set_box false h1
  have hc' := h3.cell 0
  have hr : Ret w (.bool false) (.returned (.bool false)) _ := ⟨rfl, (hx0.stored (Nat.le_refl _) h2).stored (Nat.le_refl _) h4⟩
  simpa [Leaves, settle, results, Try.results22, go_sem, hc'] using hr
theorem ptr_of_err : (match Try.prog.underlying Try.prog.rt.typeAssertionError with | some (.pointer _) => true | _ => false) = true := by kernel_rfl
theorem assert_fails (x : Value) (hx : x = .nilIface ∨ ∃ T v, x = .iface T v ∧ T ≠ 37) (W : World) : ∃ u pv w', (Instr.typeAssert x 20 37 false).run Try.prog W = .halt (.panic (.iface u pv)) w' ∧ Ext W w' := by
  obtain ⟨e, he⟩ : ∃ e, Try.prog.underlying Try.prog.rt.typeAssertionError = some (.pointer e) := by
    have h := ptr_of_err
    split at h
    · rename_i e h'; exact ⟨e, h'⟩
    · cases h
  have key : ∀ i c m, ∃ w', (runtimePanic (.typeAssertion i c 37 m) : Sem Value).run Try.prog W = .halt (.panic (.iface Try.prog.rt.typeAssertionError (.pointer (some ⟨W.heap.size, 0, none⟩)))) w' ∧ Ext W w' := by
    intro i c m
    have hq : ∃ cs : Array Value, (runtimePanic (.typeAssertion i c 37 m) : Sem Value).run Try.prog W = .halt (.panic (.iface Try.prog.rt.typeAssertionError (.pointer (some ⟨W.heap.size, 0, none⟩)))) (W.alloc (.cells cs e)) := by
      constructor
      simp only [runtimePanic, program, elemOf, Sem.run_bind, Sem.run_pure, goPanic]
      simp only [Sem.run, Result.andThen_ok]
      rw [run_underlying he]
      simp only [Result.andThen_ok, Sem.run_pure, run_newVar']
      rfl
    obtain ⟨cs, h⟩ := hq
    exact ⟨_, h, (Ext.refl W).alloc _⟩
  rcases hx with rfl | ⟨T, v, rfl, hT⟩
  · obtain ⟨w', h1, h2⟩ := key (some 20) none ""
    exact ⟨_, _, w', by simpa [Instr.typeAssert, run_underlying Try.underlying37] using h1, h2⟩
  · obtain ⟨w', h1, h2⟩ := key (some 20) (some T) ""
    exact ⟨_, _, w', by simpa [Instr.typeAssert, run_underlying Try.underlying37, hT] using h1, h2⟩

theorem C_mustNo (w : World) (x : Value) (hx : x = .nilIface ∨ ∃ T v, x = .iface T v ∧ T ≠ 37) : Calls Try.prog 23 #[x] w (fun e w' => ∃ u pv, e = .panicked [{ v := .iface u pv, recovered := false }] ∧ Ext w w') := by
  refine c_enter (n := 5) Try.func23 rfl rfl rfl ?_
  refine c_seq ?_
  refine c_plain ?_
  refine p_alloc (cs := [.int .i64 0, .int .i64 0, .int .i64 0, .int .i64 0, .int .i64 0, .int .i64 0, .int .i64 0, .int .i64 0, .int .i64 0, .int .i64 0, .int .i64 0, .int .i64 0, .int .i64 0, .slice none 0 0, .slice none 0 0, .bool false, .int .i64 0, .int .i64 0, .int .i64 0, .int .i64 0, .int .i64 0, .int .i64 0, .int .i64 0, .int .i64 0, .bool false]) rfl rfl rfl zero_37 rfl (fun w1 b1 x1 z1 => ?_)
  refine p_nil ?_
  refine t_norm ?_
  refine c_seq ?_
  refine c_plain ?_
  refine p_val (v := x) rfl rfl (x_move rfl rfl) ?_
  obtain ⟨u, pv, w', h, hE⟩ := assert_fails x hx w1
  refine p_panic (v := .iface u pv) (w' := w') rfl (by simp only [execOp, Sem.run_bind]; rw [show ev 5 _ (Operand.tmp 3) = x from rfl, h]; rfl) ?_
  exact t_panic (c_panicked ⟨u, pv, rfl, x1.trans hE⟩)
theorem C_recNo33 (w : World) (z : Value) :
    Calls Try.prog 21 #[.iface 33 z] w (Ret w (.tuple #[.agg #[.int .i64 0, .int .i64 0, .int .i64 0, .int .i64 0, .int .i64 0, .int .i64 0, .int .i64 0, .int .i64 0, .int .i64 0, .int .i64 0, .int .i64 0, .int .i64 0, .int .i64 0, .slice none 0 0, .slice none 0 0, .bool false, .int .i64 0, .int .i64 0, .int .i64 0, .int .i64 0, .int .i64 0, .int .i64 0, .int .i64 0, .int .i64 0, .bool false], .bool false])) := by
 refine c_enter (n := 13) Try.func21 rfl rfl rfl ?_
 refine c_seq ?_
 refine c_plain ?_
 refine p_alloc (cs := [.int .i64 0, .int .i64 0, .int .i64 0, .int .i64 0, .int .i64 0, .int .i64 0, .int .i64 0, .int .i64 0, .int .i64 0, .int .i64 0, .int .i64 0, .int .i64 0, .int .i64 0, .slice none 0 0, .slice none 0 0, .bool false, .int .i64 0, .int .i64 0, .int .i64 0, .int .i64 0, .int .i64 0, .int .i64 0, .int .i64 0, .int .i64 0, .bool false]) rfl rfl rfl zero_37 rfl (fun w1 b2 x3 z4 => ?_)
 refine p_val (v := .bool false) rfl rfl (x_assign rfl rfl) ?_
 refine p_nil ?_
 refine t_norm ?_
 refine c_seq ?_
 refine c_plain ?_
 refine p_val (v := .iface 33 z) rfl rfl (x_move rfl rfl) ?_
 refine p_val (v := .tuple #[.agg #[.int .i64 0, .int .i64 0, .int .i64 0, .int .i64 0, .int .i64 0, .int .i64 0, .int .i64 0, .int .i64 0, .int .i64 0, .int .i64 0, .int .i64 0, .int .i64 0, .int .i64 0, .slice none 0 0, .slice none 0 0, .bool false, .int .i64 0, .int .i64 0, .int .i64 0, .int .i64 0, .int .i64 0, .int .i64 0, .int .i64 0, .int .i64 0, .bool false], .bool false]) rfl rfl (x_assert_no pl_37_ (by decide) zero_37 rfl rfl) ?_
 refine p_val (v := .tuple #[.agg #[.int .i64 0, .int .i64 0, .int .i64 0, .int .i64 0, .int .i64 0, .int .i64 0, .int .i64 0, .int .i64 0, .int .i64 0, .int .i64 0, .int .i64 0, .int .i64 0, .int .i64 0, .slice none 0 0, .slice none 0 0, .bool false, .int .i64 0, .int .i64 0, .int .i64 0, .int .i64 0, .int .i64 0, .int .i64 0, .int .i64 0, .int .i64 0, .bool false], .bool false]) rfl rfl (x_move rfl rfl) ?_
 refine p_val (v := .agg #[.int .i64 0, .int .i64 0, .int .i64 0, .int .i64 0, .int .i64 0, .int .i64 0, .int .i64 0, .int .i64 0, .int .i64 0, .int .i64 0, .int .i64 0, .int .i64 0, .int .i64 0, .slice none 0 0, .slice none 0 0, .bool false, .int .i64 0, .int .i64 0, .int .i64 0, .int .i64 0, .int .i64 0, .int .i64 0, .int .i64 0, .int .i64 0, .bool false]) rfl rfl (x_extract rfl rfl rfl) ?_
 refine p_val (v := .bool false) rfl rfl (x_extract rfl rfl rfl) ?_
 refine p_var (v := .agg #[.int .i64 0, .int .i64 0, .int .i64 0, .int .i64 0, .int .i64 0, .int .i64 0, .int .i64 0, .int .i64 0, .int .i64 0, .int .i64 0, .int .i64 0, .int .i64 0, .int .i64 0, .slice none 0 0, .slice none 0 0, .bool false, .int .i64 0, .int .i64 0, .int .i64 0, .int .i64 0, .int .i64 0, .int .i64 0, .int .i64 0, .int .i64 0, .bool false]) (vs := [.int .i64 0, .int .i64 0, .int .i64 0, .int .i64 0, .int .i64 0, .int .i64 0, .int .i64 0, .int .i64 0, .int .i64 0, .int .i64 0, .int .i64 0, .int .i64 0, .int .i64 0, .slice none 0 0, .slice none 0 0, .bool false, .int .i64 0, .int .i64 0, .int .i64 0, .int .i64 0, .int .i64 0, .int .i64 0, .int .i64 0, .int .i64 0, .bool false]) rfl rfl rfl zero_37 rfl rfl rfl rfl rfl rfl rfl size_37 rfl (fun w5 b6 x7 z8 => ?_)
 refine p_val (v := .bool false) rfl rfl (x_assign rfl rfl) ?_
 refine p_nil ?_
 refine t_norm ?_
 refine c_seq ?_
 refine c_plain ?_
 refine p_val (v := .agg #[.int .i64 0, .int .i64 0, .int .i64 0, .int .i64 0, .int .i64 0, .int .i64 0, .int .i64 0, .int .i64 0, .int .i64 0, .int .i64 0, .int .i64 0, .int .i64 0, .int .i64 0, .slice none 0 0, .slice none 0 0, .bool false, .int .i64 0, .int .i64 0, .int .i64 0, .int .i64 0, .int .i64 0, .int .i64 0, .int .i64 0, .int .i64 0, .bool false]) rfl rfl (x_load rfl rfl (b6.agg (vs := [.int .i64 0, .int .i64 0, .int .i64 0, .int .i64 0, .int .i64 0, .int .i64 0, .int .i64 0, .int .i64 0, .int .i64 0, .int .i64 0, .int .i64 0, .int .i64 0, .int .i64 0, .slice none 0 0, .slice none 0 0, .bool false, .int .i64 0, .int .i64 0, .int .i64 0, .int .i64 0, .int .i64 0, .int .i64 0, .int .i64 0, .int .i64 0, .bool false]) agg_37_25 rfl)) ?_
 refine p_val (v := .bool false) rfl rfl (x_move rfl rfl) ?_
 refine p_store (v := .agg #[.int .i64 0, .int .i64 0, .int .i64 0, .int .i64 0, .int .i64 0, .int .i64 0, .int .i64 0, .int .i64 0, .int .i64 0, .int .i64 0, .int .i64 0, .int .i64 0, .int .i64 0, .slice none 0 0, .slice none 0 0, .bool false, .int .i64 0, .int .i64 0, .int .i64 0, .int .i64 0, .int .i64 0, .int .i64 0, .int .i64 0, .int .i64 0, .bool false]) (vs := [.int .i64 0, .int .i64 0, .int .i64 0, .int .i64 0, .int .i64 0, .int .i64 0, .int .i64 0, .int .i64 0, .int .i64 0, .int .i64 0, .int .i64 0, .int .i64 0, .int .i64 0, .slice none 0 0, .slice none 0 0, .bool false, .int .i64 0, .int .i64 0, .int .i64 0, .int .i64 0, .int .i64 0, .int .i64 0, .int .i64 0, .int .i64 0, .bool false]) (cs' := [.int .i64 0, .int .i64 0, .int .i64 0, .int .i64 0, .int .i64 0, .int .i64 0, .int .i64 0, .int .i64 0, .int .i64 0, .int .i64 0, .int .i64 0, .int .i64 0, .int .i64 0, .slice none 0 0, .slice none 0 0, .bool false, .int .i64 0, .int .i64 0, .int .i64 0, .int .i64 0, .int .i64 0, .int .i64 0, .int .i64 0, .int .i64 0, .bool false]) rfl rfl rfl rfl rfl rfl (b2.ext x7) size_37 rfl rfl rfl (fun w9 b10 s11 => ?_)
 have b12 := b6.far s11 (by omega)
 refine p_val (v := .bool false) rfl rfl (x_assign rfl rfl) ?_
 refine p_nil ?_
 refine t_norm ?_
 refine c_ret ?_
 exact c_doneC2 rfl rfl rfl (b10.agg (vs := [.int .i64 0, .int .i64 0, .int .i64 0, .int .i64 0, .int .i64 0, .int .i64 0, .int .i64 0, .int .i64 0, .int .i64 0, .int .i64 0, .int .i64 0, .int .i64 0, .int .i64 0, .slice none 0 0, .slice none 0 0, .bool false, .int .i64 0, .int .i64 0, .int .i64 0, .int .i64 0, .int .i64 0, .int .i64 0, .int .i64 0, .int .i64 0, .bool false]) agg_37_25 rfl) ⟨rfl, ((x3.trans x7).stored (Nat.le_refl _) s11)⟩

theorem C_recNo39 (w : World) (z : Value) :
    Calls Try.prog 21 #[.iface 39 z] w (Ret w (.tuple #[.agg #[.int .i64 0, .int .i64 0, .int .i64 0, .int .i64 0, .int .i64 0, .int .i64 0, .int .i64 0, .int .i64 0, .int .i64 0, .int .i64 0, .int .i64 0, .int .i64 0, .int .i64 0, .slice none 0 0, .slice none 0 0, .bool false, .int .i64 0, .int .i64 0, .int .i64 0, .int .i64 0, .int .i64 0, .int .i64 0, .int .i64 0, .int .i64 0, .bool false], .bool false])) := by
 refine c_enter (n := 13) Try.func21 rfl rfl rfl ?_
 refine c_seq ?_
 refine c_plain ?_
 refine p_alloc (cs := [.int .i64 0, .int .i64 0, .int .i64 0, .int .i64 0, .int .i64 0, .int .i64 0, .int .i64 0, .int .i64 0, .int .i64 0, .int .i64 0, .int .i64 0, .int .i64 0, .int .i64 0, .slice none 0 0, .slice none 0 0, .bool false, .int .i64 0, .int .i64 0, .int .i64 0, .int .i64 0, .int .i64 0, .int .i64 0, .int .i64 0, .int .i64 0, .bool false]) rfl rfl rfl zero_37 rfl (fun w1 b2 x3 z4 => ?_)
 refine p_val (v := .bool false) rfl rfl (x_assign rfl rfl) ?_
 refine p_nil ?_
 refine t_norm ?_
 refine c_seq ?_
 refine c_plain ?_
 refine p_val (v := .iface 39 z) rfl rfl (x_move rfl rfl) ?_
 refine p_val (v := .tuple #[.agg #[.int .i64 0, .int .i64 0, .int .i64 0, .int .i64 0, .int .i64 0, .int .i64 0, .int .i64 0, .int .i64 0, .int .i64 0, .int .i64 0, .int .i64 0, .int .i64 0, .int .i64 0, .slice none 0 0, .slice none 0 0, .bool false, .int .i64 0, .int .i64 0, .int .i64 0, .int .i64 0, .int .i64 0, .int .i64 0, .int .i64 0, .int .i64 0, .bool false], .bool false]) rfl rfl (x_assert_no pl_37_ (by decide) zero_37 rfl rfl) ?_
 refine p_val (v := .tuple #[.agg #[.int .i64 0, .int .i64 0, .int .i64 0, .int .i64 0, .int .i64 0, .int .i64 0, .int .i64 0, .int .i64 0, .int .i64 0, .int .i64 0, .int .i64 0, .int .i64 0, .int .i64 0, .slice none 0 0, .slice none 0 0, .bool false, .int .i64 0, .int .i64 0, .int .i64 0, .int .i64 0, .int .i64 0, .int .i64 0, .int .i64 0, .int .i64 0, .bool false], .bool false]) rfl rfl (x_move rfl rfl) ?_
 refine p_val (v := .agg #[.int .i64 0, .int .i64 0, .int .i64 0, .int .i64 0, .int .i64 0, .int .i64 0, .int .i64 0, .int .i64 0, .int .i64 0, .int .i64 0, .int .i64 0, .int .i64 0, .int .i64 0, .slice none 0 0, .slice none 0 0, .bool false, .int .i64 0, .int .i64 0, .int .i64 0, .int .i64 0, .int .i64 0, .int .i64 0, .int .i64 0, .int .i64 0, .bool false]) rfl rfl (x_extract rfl rfl rfl) ?_
 refine p_val (v := .bool false) rfl rfl (x_extract rfl rfl rfl) ?_
 refine p_var (v := .agg #[.int .i64 0, .int .i64 0, .int .i64 0, .int .i64 0, .int .i64 0, .int .i64 0, .int .i64 0, .int .i64 0, .int .i64 0, .int .i64 0, .int .i64 0, .int .i64 0, .int .i64 0, .slice none 0 0, .slice none 0 0, .bool false, .int .i64 0, .int .i64 0, .int .i64 0, .int .i64 0, .int .i64 0, .int .i64 0, .int .i64 0, .int .i64 0, .bool false]) (vs := [.int .i64 0, .int .i64 0, .int .i64 0, .int .i64 0, .int .i64 0, .int .i64 0, .int .i64 0, .int .i64 0, .int .i64 0, .int .i64 0, .int .i64 0, .int .i64 0, .int .i64 0, .slice none 0 0, .slice none 0 0, .bool false, .int .i64 0, .int .i64 0, .int .i64 0, .int .i64 0, .int .i64 0, .int .i64 0, .int .i64 0, .int .i64 0, .bool false]) rfl rfl rfl zero_37 rfl rfl rfl rfl rfl rfl rfl size_37 rfl (fun w5 b6 x7 z8 => ?_)
 refine p_val (v := .bool false) rfl rfl (x_assign rfl rfl) ?_
 refine p_nil ?_
 refine t_norm ?_
 refine c_seq ?_
 refine c_plain ?_
 refine p_val (v := .agg #[.int .i64 0, .int .i64 0, .int .i64 0, .int .i64 0, .int .i64 0, .int .i64 0, .int .i64 0, .int .i64 0, .int .i64 0, .int .i64 0, .int .i64 0, .int .i64 0, .int .i64 0, .slice none 0 0, .slice none 0 0, .bool false, .int .i64 0, .int .i64 0, .int .i64 0, .int .i64 0, .int .i64 0, .int .i64 0, .int .i64 0, .int .i64 0, .bool false]) rfl rfl (x_load rfl rfl (b6.agg (vs := [.int .i64 0, .int .i64 0, .int .i64 0, .int .i64 0, .int .i64 0, .int .i64 0, .int .i64 0, .int .i64 0, .int .i64 0, .int .i64 0, .int .i64 0, .int .i64 0, .int .i64 0, .slice none 0 0, .slice none 0 0, .bool false, .int .i64 0, .int .i64 0, .int .i64 0, .int .i64 0, .int .i64 0, .int .i64 0, .int .i64 0, .int .i64 0, .bool false]) agg_37_25 rfl)) ?_
 refine p_val (v := .bool false) rfl rfl (x_move rfl rfl) ?_
 refine p_store (v := .agg #[.int .i64 0, .int .i64 0, .int .i64 0, .int .i64 0, .int .i64 0, .int .i64 0, .int .i64 0, .int .i64 0, .int .i64 0, .int .i64 0, .int .i64 0, .int .i64 0, .int .i64 0, .slice none 0 0, .slice none 0 0, .bool false, .int .i64 0, .int .i64 0, .int .i64 0, .int .i64 0, .int .i64 0, .int .i64 0, .int .i64 0, .int .i64 0, .bool false]) (vs := [.int .i64 0, .int .i64 0, .int .i64 0, .int .i64 0, .int .i64 0, .int .i64 0, .int .i64 0, .int .i64 0, .int .i64 0, .int .i64 0, .int .i64 0, .int .i64 0, .int .i64 0, .slice none 0 0, .slice none 0 0, .bool false, .int .i64 0, .int .i64 0, .int .i64 0, .int .i64 0, .int .i64 0, .int .i64 0, .int .i64 0, .int .i64 0, .bool false]) (cs' := [.int .i64 0, .int .i64 0, .int .i64 0, .int .i64 0, .int .i64 0, .int .i64 0, .int .i64 0, .int .i64 0, .int .i64 0, .int .i64 0, .int .i64 0, .int .i64 0, .int .i64 0, .slice none 0 0, .slice none 0 0, .bool false, .int .i64 0, .int .i64 0, .int .i64 0, .int .i64 0, .int .i64 0, .int .i64 0, .int .i64 0, .int .i64 0, .bool false]) rfl rfl rfl rfl rfl rfl (b2.ext x7) size_37 rfl rfl rfl (fun w9 b10 s11 => ?_)
 have b12 := b6.far s11 (by omega)
 refine p_val (v := .bool false) rfl rfl (x_assign rfl rfl) ?_
 refine p_nil ?_
 refine t_norm ?_
 refine c_ret ?_
 exact c_doneC2 rfl rfl rfl (b10.agg (vs := [.int .i64 0, .int .i64 0, .int .i64 0, .int .i64 0, .int .i64 0, .int .i64 0, .int .i64 0, .int .i64 0, .int .i64 0, .int .i64 0, .int .i64 0, .int .i64 0, .int .i64 0, .slice none 0 0, .slice none 0 0, .bool false, .int .i64 0, .int .i64 0, .int .i64 0, .int .i64 0, .int .i64 0, .int .i64 0, .int .i64 0, .int .i64 0, .bool false]) agg_37_25 rfl) ⟨rfl, ((x3.trans x7).stored (Nat.le_refl _) s11)⟩

theorem C_recNo3 (w : World) (z : Value) :
    Calls Try.prog 21 #[.iface 3 z] w (Ret w (.tuple #[.agg #[.int .i64 0, .int .i64 0, .int .i64 0, .int .i64 0, .int .i64 0, .int .i64 0, .int .i64 0, .int .i64 0, .int .i64 0, .int .i64 0, .int .i64 0, .int .i64 0, .int .i64 0, .slice none 0 0, .slice none 0 0, .bool false, .int .i64 0, .int .i64 0, .int .i64 0, .int .i64 0, .int .i64 0, .int .i64 0, .int .i64 0, .int .i64 0, .bool false], .bool false])) := by
 refine c_enter (n := 13) Try.func21 rfl rfl rfl ?_
 refine c_seq ?_
 refine c_plain ?_
 refine p_alloc (cs := [.int .i64 0, .int .i64 0, .int .i64 0, .int .i64 0, .int .i64 0, .int .i64 0, .int .i64 0, .int .i64 0, .int .i64 0, .int .i64 0, .int .i64 0, .int .i64 0, .int .i64 0, .slice none 0 0, .slice none 0 0, .bool false, .int .i64 0, .int .i64 0, .int .i64 0, .int .i64 0, .int .i64 0, .int .i64 0, .int .i64 0, .int .i64 0, .bool false]) rfl rfl rfl zero_37 rfl (fun w1 b2 x3 z4 => ?_)
 refine p_val (v := .bool false) rfl rfl (x_assign rfl rfl) ?_
 refine p_nil ?_
 refine t_norm ?_
 refine c_seq ?_
 refine c_plain ?_
 refine p_val (v := .iface 3 z) rfl rfl (x_move rfl rfl) ?_
 refine p_val (v := .tuple #[.agg #[.int .i64 0, .int .i64 0, .int .i64 0, .int .i64 0, .int .i64 0, .int .i64 0, .int .i64 0, .int .i64 0, .int .i64 0, .int .i64 0, .int .i64 0, .int .i64 0, .int .i64 0, .slice none 0 0, .slice none 0 0, .bool false, .int .i64 0, .int .i64 0, .int .i64 0, .int .i64 0, .int .i64 0, .int .i64 0, .int .i64 0, .int .i64 0, .bool false], .bool false]) rfl rfl (x_assert_no pl_37_ (by decide) zero_37 rfl rfl) ?_
 refine p_val (v := .tuple #[.agg #[.int .i64 0, .int .i64 0, .int .i64 0, .int .i64 0, .int .i64 0, .int .i64 0, .int .i64 0, .int .i64 0, .int .i64 0, .int .i64 0, .int .i64 0, .int .i64 0, .int .i64 0, .slice none 0 0, .slice none 0 0, .bool false, .int .i64 0, .int .i64 0, .int .i64 0, .int .i64 0, .int .i64 0, .int .i64 0, .int .i64 0, .int .i64 0, .bool false], .bool false]) rfl rfl (x_move rfl rfl) ?_
 refine p_val (v := .agg #[.int .i64 0, .int .i64 0, .int .i64 0, .int .i64 0, .int .i64 0, .int .i64 0, .int .i64 0, .int .i64 0, .int .i64 0, .int .i64 0, .int .i64 0, .int .i64 0, .int .i64 0, .slice none 0 0, .slice none 0 0, .bool false, .int .i64 0, .int .i64 0, .int .i64 0, .int .i64 0, .int .i64 0, .int .i64 0, .int .i64 0, .int .i64 0, .bool false]) rfl rfl (x_extract rfl rfl rfl) ?_
 refine p_val (v := .bool false) rfl rfl (x_extract rfl rfl rfl) ?_
 refine p_var (v := .agg #[.int .i64 0, .int .i64 0, .int .i64 0, .int .i64 0, .int .i64 0, .int .i64 0, .int .i64 0, .int .i64 0, .int .i64 0, .int .i64 0, .int .i64 0, .int .i64 0, .int .i64 0, .slice none 0 0, .slice none 0 0, .bool false, .int .i64 0, .int .i64 0, .int .i64 0, .int .i64 0, .int .i64 0, .int .i64 0, .int .i64 0, .int .i64 0, .bool false]) (vs := [.int .i64 0, .int .i64 0, .int .i64 0, .int .i64 0, .int .i64 0, .int .i64 0, .int .i64 0, .int .i64 0, .int .i64 0, .int .i64 0, .int .i64 0, .int .i64 0, .int .i64 0, .slice none 0 0, .slice none 0 0, .bool false, .int .i64 0, .int .i64 0, .int .i64 0, .int .i64 0, .int .i64 0, .int .i64 0, .int .i64 0, .int .i64 0, .bool false]) rfl rfl rfl zero_37 rfl rfl rfl rfl rfl rfl rfl size_37 rfl (fun w5 b6 x7 z8 => ?_)
 refine p_val (v := .bool false) rfl rfl (x_assign rfl rfl) ?_
 refine p_nil ?_
 refine t_norm ?_
 refine c_seq ?_
 refine c_plain ?_
 refine p_val (v := .agg #[.int .i64 0, .int .i64 0, .int .i64 0, .int .i64 0, .int .i64 0, .int .i64 0, .int .i64 0, .int .i64 0, .int .i64 0, .int .i64 0, .int .i64 0, .int .i64 0, .int .i64 0, .slice none 0 0, .slice none 0 0, .bool false, .int .i64 0, .int .i64 0, .int .i64 0, .int .i64 0, .int .i64 0, .int .i64 0, .int .i64 0, .int .i64 0, .bool false]) rfl rfl (x_load rfl rfl (b6.agg (vs := [.int .i64 0, .int .i64 0, .int .i64 0, .int .i64 0, .int .i64 0, .int .i64 0, .int .i64 0, .int .i64 0, .int .i64 0, .int .i64 0, .int .i64 0, .int .i64 0, .int .i64 0, .slice none 0 0, .slice none 0 0, .bool false, .int .i64 0, .int .i64 0, .int .i64 0, .int .i64 0, .int .i64 0, .int .i64 0, .int .i64 0, .int .i64 0, .bool false]) agg_37_25 rfl)) ?_
 refine p_val (v := .bool false) rfl rfl (x_move rfl rfl) ?_
 refine p_store (v := .agg #[.int .i64 0, .int .i64 0, .int .i64 0, .int .i64 0, .int .i64 0, .int .i64 0, .int .i64 0, .int .i64 0, .int .i64 0, .int .i64 0, .int .i64 0, .int .i64 0, .int .i64 0, .slice none 0 0, .slice none 0 0, .bool false, .int .i64 0, .int .i64 0, .int .i64 0, .int .i64 0, .int .i64 0, .int .i64 0, .int .i64 0, .int .i64 0, .bool false]) (vs := [.int .i64 0, .int .i64 0, .int .i64 0, .int .i64 0, .int .i64 0, .int .i64 0, .int .i64 0, .int .i64 0, .int .i64 0, .int .i64 0, .int .i64 0, .int .i64 0, .int .i64 0, .slice none 0 0, .slice none 0 0, .bool false, .int .i64 0, .int .i64 0, .int .i64 0, .int .i64 0, .int .i64 0, .int .i64 0, .int .i64 0, .int .i64 0, .bool false]) (cs' := [.int .i64 0, .int .i64 0, .int .i64 0, .int .i64 0, .int .i64 0, .int .i64 0, .int .i64 0, .int .i64 0, .int .i64 0, .int .i64 0, .int .i64 0, .int .i64 0, .int .i64 0, .slice none 0 0, .slice none 0 0, .bool false, .int .i64 0, .int .i64 0, .int .i64 0, .int .i64 0, .int .i64 0, .int .i64 0, .int .i64 0, .int .i64 0, .bool false]) rfl rfl rfl rfl rfl rfl (b2.ext x7) size_37 rfl rfl rfl (fun w9 b10 s11 => ?_)
 have b12 := b6.far s11 (by omega)
 refine p_val (v := .bool false) rfl rfl (x_assign rfl rfl) ?_
 refine p_nil ?_
 refine t_norm ?_
 refine c_ret ?_
 exact c_doneC2 rfl rfl rfl (b10.agg (vs := [.int .i64 0, .int .i64 0, .int .i64 0, .int .i64 0, .int .i64 0, .int .i64 0, .int .i64 0, .int .i64 0, .int .i64 0, .int .i64 0, .int .i64 0, .int .i64 0, .int .i64 0, .slice none 0 0, .slice none 0 0, .bool false, .int .i64 0, .int .i64 0, .int .i64 0, .int .i64 0, .int .i64 0, .int .i64 0, .int .i64 0, .int .i64 0, .bool false]) agg_37_25 rfl) ⟨rfl, ((x3.trans x7).stored (Nat.le_refl _) s11)⟩

set_option maxHeartbeats 4000000 in
theorem C_WireMusts (w : World) (r : Rec) (pr : Ptr) (hr : CmdAt w r.cmd pr) (n : Int) (k : Int) (hk0 : 0 ≤ k) (hk1 : k ≤ 255) :
    Calls Try.prog 6 #[vRec r pr, .int .i64 n, .int .u8 k] w (Ret w (.bool true)) := by
 refine c_enter (n := 79) Try.func6 rfl rfl rfl ?_
 refine c_seq ?_
 refine c_plain ?_
 refine p_box rfl rfl rfl rfl (fun w1 b2 x3 z4 => ?_)
 refine p_val (v := .bool false) rfl rfl (x_assign rfl rfl) ?_
 refine p_nil ?_
 refine t_norm ?_
 refine c_seq ?_
 refine c_seq ?_
 refine c_plain ?_
 refine p_val (v := .pointer (some (⟨w.heap.size, 7, none⟩))) rfl rfl (x_fieldAddr fld_37_4 rfl rfl rfl) ?_
 refine p_val (v := .agg #[.int .i64 r.cmd.kind, .int .i64 r.cmd.txn.client, .int .i64 r.cmd.txn.number, .int .i64 r.cmd.stp.time, .int .i64 r.cmd.stp.client, .int .i64 r.cmd.shards, .slice pr.A r.cmd.reads.length pr.n, .slice pr.B r.cmd.writes.length pr.m, .bool r.cmd.commit]) rfl rfl (x_load rfl rfl (b2.agg (vs := [.int .i64 r.cmd.kind, .int .i64 r.cmd.txn.client, .int .i64 r.cmd.txn.number, .int .i64 r.cmd.stp.time, .int .i64 r.cmd.stp.client, .int .i64 r.cmd.shards, .slice pr.A r.cmd.reads.length pr.n, .slice pr.B r.cmd.writes.length pr.m, .bool r.cmd.commit]) agg_33_9 rfl)) ?_
 refine p_buildSlice (cs := [.int .i64 r.cmd.kind, .int .i64 r.cmd.txn.client, .int .i64 r.cmd.txn.number, .int .i64 r.cmd.stp.time, .int .i64 r.cmd.stp.client, .int .i64 r.cmd.shards, .slice pr.A r.cmd.reads.length pr.n, .slice pr.B r.cmd.writes.length pr.m, .bool r.cmd.commit]) el_62 rfl rfl rfl (parts1 rfl) (by decide) (by decide) (fill_ok [.agg #[.int .i64 r.cmd.kind, .int .i64 r.cmd.txn.client, .int .i64 r.cmd.txn.number, .int .i64 r.cmd.stp.time, .int .i64 r.cmd.stp.client, .int .i64 r.cmd.shards, .slice pr.A r.cmd.reads.length pr.n, .slice pr.B r.cmd.writes.length pr.m, .bool r.cmd.commit]] [.int .i64 r.cmd.kind, .int .i64 r.cmd.txn.client, .int .i64 r.cmd.txn.number, .int .i64 r.cmd.stp.time, .int .i64 r.cmd.stp.client, .int .i64 r.cmd.shards, .slice pr.A r.cmd.reads.length pr.n, .slice pr.B r.cmd.writes.length pr.m, .bool r.cmd.commit] rfl rfl) (fun w5 b6 x7 z8 => ?_)
 refine p_call (vs := #[.slice (some ⟨w1.heap.size, 0, none⟩) 1 1]) fn_7 rfl rfl rfl (args1 rfl) ?_
 refine (C_few _ _ _ [(r.cmd, pr)] (lies_box (f := fCmd) b6 rfl (fun _ => rfl) (by simp only [List.mem_cons, List.not_mem_nil, or_false]; rintro z (rfl) <;> first | exact ⟨rfl, ((hr.ext x3).ext x7)⟩)) (by simp)).mono ?_
 rintro e w9 ⟨rfl, x10⟩
 refine ⟨_, rfl, ?_⟩
 cases c11 : few [(r.cmd, pr)]
 case false =>
  refine p_val (v := .bool true) rfl rfl (x_not (b := false) rfl rfl) ?_
  refine p_nil ?_
  refine t_norm ?_
  refine c_true rfl ?_
  refine c_seq ?_
  refine c_quiet ?_
  refine q_call (vs := #[]) fn_8 rfl rfl rfl (args0) (v := .bool true) (fun w' x' => C_awake _) ?_
  refine q_val (v := .bool true) rfl rfl (fun w' x' => x_assign rfl rfl) ?_
  refine q_nil (fun w12 x13 => ?_)
  refine t_norm ?_
  refine c_ret ?_
  refine t_ret ?_
  exact c_done rfl rfl (Ret.b (rfl) (((x3.trans x7).trans x10).trans x13))
 case true =>
  have hf14 := c11
  simp only [few, List.all_cons, List.all_nil, Bool.and_true, Bool.and_eq_true] at hf14
  have sl15 := few_slim hf14
  refine p_val (v := .bool false) rfl rfl (x_not (b := true) rfl rfl) ?_
  refine p_nil ?_
  refine t_norm ?_
  refine c_false rfl ?_
  refine c_skip ?_
  refine t_norm ?_
  refine c_seq ?_
  refine c_quiet ?_
  refine q_val (v := .nilIface) rfl rfl (fun w' x' => x_assign rfl rfl) ?_
  refine q_nil (fun w16 x17 => ?_)
  refine t_norm ?_
  refine c_seq ?_
  refine c_seq ?_
  refine c_quiet ?_
  refine q_val (v := .int .u8 k) rfl rfl (fun w' x' => x_move rfl rfl) ?_
  refine q_val (v := .int .u8 (k % 5)) rfl rfl (fun w' x' => x_rem rfl rfl rfl (by omega) (rem_of (by omega))) ?_
  refine q_nil (fun w18 x19 => ?_)
  refine t_norm ?_
  refine c_block ?_
  refine c_seq ?_
  refine c_quiet ?_
  refine q_bool (b := decide (k % 5 = 0)) rfl rfl (fun w' x' => x_eql rfl rfl rfl) (fun c20 => ?_) (fun c20 => ?_)
  ·refine q_val (v := .bool true) rfl rfl (fun w' x' => x_assign rfl rfl) ?_
   refine q_nil (fun w21 x22 => ?_)
   refine t_norm ?_
   refine c_true rfl ?_
   refine c_quiet ?_
   refine q_val (v := .int .i64 n) rfl rfl (fun w' x' => x_move rfl rfl) ?_
   refine q_val (v := .iface 3 (.int .i64 n)) rfl rfl (fun w' x' => x_makeIface pl_3_ rfl rfl) ?_
   refine q_val (v := .iface 3 (.int .i64 n)) rfl rfl (fun w' x' => x_assign rfl rfl) ?_
   refine q_nil (fun w23 x24 => ?_)
   refine b_norm (t_norm ?_)
   refine c_seq ?_
   refine c_plain ?_
   refine p_val (v := .iface 3 (.int .i64 n)) rfl rfl (x_move rfl rfl) ?_
   refine p_call (vs := #[.iface 3 (.int .i64 n)]) fn_21 rfl rfl rfl (args1 rfl) ?_
   refine (C_recNo3 _ (.int .i64 n : Value)).mono ?_
   rintro e w25 ⟨rfl, x26⟩
   refine ⟨_, rfl, ?_⟩
   refine p_val (v := .tuple #[.agg #[.int .i64 0, .int .i64 0, .int .i64 0, .int .i64 0, .int .i64 0, .int .i64 0, .int .i64 0, .int .i64 0, .int .i64 0, .int .i64 0, .int .i64 0, .int .i64 0, .int .i64 0, .slice none 0 0, .slice none 0 0, .bool false, .int .i64 0, .int .i64 0, .int .i64 0, .int .i64 0, .int .i64 0, .int .i64 0, .int .i64 0, .int .i64 0, .bool false], .bool false]) rfl rfl (x_move rfl rfl) ?_
   refine p_val (v := .agg #[.int .i64 0, .int .i64 0, .int .i64 0, .int .i64 0, .int .i64 0, .int .i64 0, .int .i64 0, .int .i64 0, .int .i64 0, .int .i64 0, .int .i64 0, .int .i64 0, .int .i64 0, .slice none 0 0, .slice none 0 0, .bool false, .int .i64 0, .int .i64 0, .int .i64 0, .int .i64 0, .int .i64 0, .int .i64 0, .int .i64 0, .int .i64 0, .bool false]) rfl rfl (x_extract rfl rfl rfl) ?_
   refine p_val (v := .bool false) rfl rfl (x_extract rfl rfl rfl) ?_
   refine p_var (v := .agg #[.int .i64 0, .int .i64 0, .int .i64 0, .int .i64 0, .int .i64 0, .int .i64 0, .int .i64 0, .int .i64 0, .int .i64 0, .int .i64 0, .int .i64 0, .int .i64 0, .int .i64 0, .slice none 0 0, .slice none 0 0, .bool false, .int .i64 0, .int .i64 0, .int .i64 0, .int .i64 0, .int .i64 0, .int .i64 0, .int .i64 0, .int .i64 0, .bool false]) (vs := [.int .i64 0, .int .i64 0, .int .i64 0, .int .i64 0, .int .i64 0, .int .i64 0, .int .i64 0, .int .i64 0, .int .i64 0, .int .i64 0, .int .i64 0, .int .i64 0, .int .i64 0, .slice none 0 0, .slice none 0 0, .bool false, .int .i64 0, .int .i64 0, .int .i64 0, .int .i64 0, .int .i64 0, .int .i64 0, .int .i64 0, .int .i64 0, .bool false]) rfl rfl rfl zero_37 rfl rfl rfl rfl rfl rfl rfl size_37 rfl (fun w27 b28 x29 z30 => ?_)
   refine p_val (v := .bool false) rfl rfl (x_assign rfl rfl) ?_
   refine p_nil ?_
   refine t_norm ?_
   refine c_seq ?_
   refine c_seq ?_
   refine c_quiet ?_
   refine q_val (v := .int .u8 k) rfl rfl (fun w' x' => x_move rfl rfl) ?_
   refine q_val (v := .int .u8 (k % 5)) rfl rfl (fun w' x' => x_rem rfl rfl rfl (by omega) (rem_of (by omega))) ?_
   refine q_val (v := .bool true) rfl rfl (fun w' x' => yb (x_neq rfl rfl rfl) (by have q := of_decide_eq_true c20; simp [q])) ?_
   refine q_nil (fun w31 x32 => ?_)
   refine t_norm ?_
   refine c_true rfl ?_
   refine c_seq ?_
   refine c_quiet ?_
   refine q_val (v := .bool false) rfl rfl (fun w' x' => x_move rfl rfl) ?_
   refine q_val (v := .bool true) rfl rfl (fun w' x' => x_not (b := false) rfl rfl) ?_
   refine q_val (v := .bool true) rfl rfl (fun w' x' => x_move rfl rfl) ?_
   refine q_val (v := .agg #[.int .i64 0, .int .i64 0, .int .i64 0, .int .i64 0, .int .i64 0, .int .i64 0, .int .i64 0, .int .i64 0, .int .i64 0, .int .i64 0, .int .i64 0, .int .i64 0, .int .i64 0, .slice none 0 0, .slice none 0 0, .bool false, .int .i64 0, .int .i64 0, .int .i64 0, .int .i64 0, .int .i64 0, .int .i64 0, .int .i64 0, .int .i64 0, .bool false]) rfl rfl (fun w' x' => x_load rfl rfl (((b28.ext x32).ext x').agg (vs := [.int .i64 0, .int .i64 0, .int .i64 0, .int .i64 0, .int .i64 0, .int .i64 0, .int .i64 0, .int .i64 0, .int .i64 0, .int .i64 0, .int .i64 0, .int .i64 0, .int .i64 0, .slice none 0 0, .slice none 0 0, .bool false, .int .i64 0, .int .i64 0, .int .i64 0, .int .i64 0, .int .i64 0, .int .i64 0, .int .i64 0, .int .i64 0, .bool false]) agg_37_25 rfl)) ?_
   refine q_val (v := .agg #[.int .i64 0, .int .i64 0, .int .i64 0, .int .i64 0, .int .i64 0, .int .i64 0, .int .i64 0, .int .i64 0, .int .i64 0, .int .i64 0, .int .i64 0, .int .i64 0, .int .i64 0, .slice none 0 0, .slice none 0 0, .bool false, .int .i64 0, .int .i64 0, .int .i64 0, .int .i64 0, .int .i64 0, .int .i64 0, .int .i64 0, .int .i64 0, .bool false]) rfl rfl (fun w' x' => x_build0 zero_37 bld_37 rfl) ?_
   refine q_call (vs := #[.agg #[.int .i64 0, .int .i64 0, .int .i64 0, .int .i64 0, .int .i64 0, .int .i64 0, .int .i64 0, .int .i64 0, .int .i64 0, .int .i64 0, .int .i64 0, .int .i64 0, .int .i64 0, .slice none 0 0, .slice none 0 0, .bool false, .int .i64 0, .int .i64 0, .int .i64 0, .int .i64 0, .int .i64 0, .int .i64 0, .int .i64 0, .int .i64 0, .bool false], .agg #[.int .i64 0, .int .i64 0, .int .i64 0, .int .i64 0, .int .i64 0, .int .i64 0, .int .i64 0, .int .i64 0, .int .i64 0, .int .i64 0, .int .i64 0, .int .i64 0, .int .i64 0, .slice none 0 0, .slice none 0 0, .bool false, .int .i64 0, .int .i64 0, .int .i64 0, .int .i64 0, .int .i64 0, .int .i64 0, .int .i64 0, .int .i64 0, .bool false]]) fn_14 rfl rfl rfl (args2 rfl rfl) (v := .bool true) (fun w' x' => ((decide_eq_true (rfl : (⟨(⟨0, 0⟩ : Inst), 0, (⟨0, 0⟩ : Bal), (⟨0, 0⟩ : Bal), (⟨0, (⟨0, 0⟩ : Txn), (⟨0, 0⟩ : Stp), 0, [], [], false⟩ : Cmd), 0, (⟨0, 0, 0, 0, 0, 0, 0⟩ : Dep), false⟩ : Rec) = (⟨(⟨0, 0⟩ : Inst), 0, (⟨0, 0⟩ : Bal), (⟨0, 0⟩ : Bal), (⟨0, (⟨0, 0⟩ : Txn), (⟨0, 0⟩ : Stp), 0, [], [], false⟩ : Cmd), 0, (⟨0, 0, 0, 0, 0, 0, 0⟩ : Dep), false⟩ : Rec)))) ▸ D_sameRec _ (⟨(⟨0, 0⟩ : Inst), 0, (⟨0, 0⟩ : Bal), (⟨0, 0⟩ : Bal), (⟨0, (⟨0, 0⟩ : Txn), (⟨0, 0⟩ : Stp), 0, [], [], false⟩ : Cmd), 0, (⟨0, 0, 0, 0, 0, 0, 0⟩ : Dep), false⟩ : Rec) (⟨none, 0, none, 0⟩ : Ptr) (CmdAt.nil _ rfl rfl) (⟨(⟨0, 0⟩ : Inst), 0, (⟨0, 0⟩ : Bal), (⟨0, 0⟩ : Bal), (⟨0, (⟨0, 0⟩ : Txn), (⟨0, 0⟩ : Stp), 0, [], [], false⟩ : Cmd), 0, (⟨0, 0, 0, 0, 0, 0, 0⟩ : Dep), false⟩ : Rec) (⟨none, 0, none, 0⟩ : Ptr) (CmdAt.nil _ rfl rfl)) ?_
   refine q_val (v := .bool true) rfl rfl (fun w' x' => x_pick_t rfl rfl rfl) ?_
   refine q_val (v := .bool true) rfl rfl (fun w' x' => x_move rfl rfl) ?_
   refine q_val (v := .iface 3 (.int .i64 n)) rfl rfl (fun w' x' => x_move rfl rfl) ?_
   refine q_call (vs := #[.iface 3 (.int .i64 n)]) fn_22 rfl rfl rfl (args1 rfl) (v := .bool true) (fun w' x' => panics_yes _ _ (fun w1 => C_mustNo w1 _ (.inr ⟨_, _, rfl, by decide⟩))) ?_
   refine q_val (v := .bool true) rfl rfl (fun w' x' => x_pick_t rfl rfl rfl) ?_
   refine q_val (v := .bool true) rfl rfl (fun w' x' => x_move rfl rfl) ?_
   refine q_call (vs := #[]) fn_8 rfl rfl rfl (args0) (v := .bool true) (fun w' x' => C_awake _) ?_
   refine q_val (v := .bool true) rfl rfl (fun w' x' => x_pick_t rfl rfl rfl) ?_
   refine q_val (v := .bool true) rfl rfl (fun w' x' => x_assign rfl rfl) ?_
   refine q_nil (fun w33 x34 => ?_)
   refine t_norm ?_
   refine c_ret ?_
   refine t_ret ?_
   exact c_done rfl rfl (Ret.b (rfl) ((((((((((x3.trans x7).trans x10).trans x17).trans x19).trans x22).trans x24).trans x26).trans x29).trans x32).trans x34))
  ·refine q_val (v := .bool false) rfl rfl (fun w' x' => x_assign rfl rfl) ?_
   refine q_nil (fun w35 x36 => ?_)
   refine t_norm ?_
   refine c_false rfl ?_
   refine c_seq ?_
   refine c_quiet ?_
   refine q_bool (b := decide (k % 5 = 1)) rfl rfl (fun w' x' => x_eql rfl rfl rfl) (fun c37 => ?_) (fun c37 => ?_)
   ·refine q_val (v := .bool true) rfl rfl (fun w' x' => x_assign rfl rfl) ?_
    refine q_nil (fun w38 x39 => ?_)
    refine t_norm ?_
    refine c_true rfl ?_
    refine c_quiet ?_
    refine q_val (v := .pointer (some (⟨w.heap.size, 7, none⟩))) rfl rfl (fun w' x' => x_fieldAddr fld_37_4 rfl rfl rfl) ?_
    refine q_val (v := .agg #[.int .i64 r.cmd.kind, .int .i64 r.cmd.txn.client, .int .i64 r.cmd.txn.number, .int .i64 r.cmd.stp.time, .int .i64 r.cmd.stp.client, .int .i64 r.cmd.shards, .slice pr.A r.cmd.reads.length pr.n, .slice pr.B r.cmd.writes.length pr.m, .bool r.cmd.commit]) rfl rfl (fun w' x' => x_load rfl rfl ((((((((b2.ext x7).ext x10).ext x17).ext x19).ext x36).ext x39).ext x').agg (vs := [.int .i64 r.cmd.kind, .int .i64 r.cmd.txn.client, .int .i64 r.cmd.txn.number, .int .i64 r.cmd.stp.time, .int .i64 r.cmd.stp.client, .int .i64 r.cmd.shards, .slice pr.A r.cmd.reads.length pr.n, .slice pr.B r.cmd.writes.length pr.m, .bool r.cmd.commit]) agg_33_9 rfl)) ?_
    refine q_val (v := .iface 33 (.agg #[.int .i64 r.cmd.kind, .int .i64 r.cmd.txn.client, .int .i64 r.cmd.txn.number, .int .i64 r.cmd.stp.time, .int .i64 r.cmd.stp.client, .int .i64 r.cmd.shards, .slice pr.A r.cmd.reads.length pr.n, .slice pr.B r.cmd.writes.length pr.m, .bool r.cmd.commit])) rfl rfl (fun w' x' => x_makeIface pl_33_ rfl rfl) ?_
    refine q_val (v := .iface 33 (.agg #[.int .i64 r.cmd.kind, .int .i64 r.cmd.txn.client, .int .i64 r.cmd.txn.number, .int .i64 r.cmd.stp.time, .int .i64 r.cmd.stp.client, .int .i64 r.cmd.shards, .slice pr.A r.cmd.reads.length pr.n, .slice pr.B r.cmd.writes.length pr.m, .bool r.cmd.commit])) rfl rfl (fun w' x' => x_assign rfl rfl) ?_
    refine q_nil (fun w40 x41 => ?_)
    refine b_norm (t_norm ?_)
    refine c_seq ?_
    refine c_plain ?_
    refine p_val (v := .iface 33 (.agg #[.int .i64 r.cmd.kind, .int .i64 r.cmd.txn.client, .int .i64 r.cmd.txn.number, .int .i64 r.cmd.stp.time, .int .i64 r.cmd.stp.client, .int .i64 r.cmd.shards, .slice pr.A r.cmd.reads.length pr.n, .slice pr.B r.cmd.writes.length pr.m, .bool r.cmd.commit])) rfl rfl (x_move rfl rfl) ?_
    refine p_call (vs := #[.iface 33 (.agg #[.int .i64 r.cmd.kind, .int .i64 r.cmd.txn.client, .int .i64 r.cmd.txn.number, .int .i64 r.cmd.stp.time, .int .i64 r.cmd.stp.client, .int .i64 r.cmd.shards, .slice pr.A r.cmd.reads.length pr.n, .slice pr.B r.cmd.writes.length pr.m, .bool r.cmd.commit])]) fn_21 rfl rfl rfl (args1 rfl) ?_
    refine (C_recNo33 _ (.agg #[.int .i64 r.cmd.kind, .int .i64 r.cmd.txn.client, .int .i64 r.cmd.txn.number, .int .i64 r.cmd.stp.time, .int .i64 r.cmd.stp.client, .int .i64 r.cmd.shards, .slice pr.A r.cmd.reads.length pr.n, .slice pr.B r.cmd.writes.length pr.m, .bool r.cmd.commit] : Value)).mono ?_
    rintro e w42 ⟨rfl, x43⟩
    refine ⟨_, rfl, ?_⟩
    refine p_val (v := .tuple #[.agg #[.int .i64 0, .int .i64 0, .int .i64 0, .int .i64 0, .int .i64 0, .int .i64 0, .int .i64 0, .int .i64 0, .int .i64 0, .int .i64 0, .int .i64 0, .int .i64 0, .int .i64 0, .slice none 0 0, .slice none 0 0, .bool false, .int .i64 0, .int .i64 0, .int .i64 0, .int .i64 0, .int .i64 0, .int .i64 0, .int .i64 0, .int .i64 0, .bool false], .bool false]) rfl rfl (x_move rfl rfl) ?_
    refine p_val (v := .agg #[.int .i64 0, .int .i64 0, .int .i64 0, .int .i64 0, .int .i64 0, .int .i64 0, .int .i64 0, .int .i64 0, .int .i64 0, .int .i64 0, .int .i64 0, .int .i64 0, .int .i64 0, .slice none 0 0, .slice none 0 0, .bool false, .int .i64 0, .int .i64 0, .int .i64 0, .int .i64 0, .int .i64 0, .int .i64 0, .int .i64 0, .int .i64 0, .bool false]) rfl rfl (x_extract rfl rfl rfl) ?_
    refine p_val (v := .bool false) rfl rfl (x_extract rfl rfl rfl) ?_
    refine p_var (v := .agg #[.int .i64 0, .int .i64 0, .int .i64 0, .int .i64 0, .int .i64 0, .int .i64 0, .int .i64 0, .int .i64 0, .int .i64 0, .int .i64 0, .int .i64 0, .int .i64 0, .int .i64 0, .slice none 0 0, .slice none 0 0, .bool false, .int .i64 0, .int .i64 0, .int .i64 0, .int .i64 0, .int .i64 0, .int .i64 0, .int .i64 0, .int .i64 0, .bool false]) (vs := [.int .i64 0, .int .i64 0, .int .i64 0, .int .i64 0, .int .i64 0, .int .i64 0, .int .i64 0, .int .i64 0, .int .i64 0, .int .i64 0, .int .i64 0, .int .i64 0, .int .i64 0, .slice none 0 0, .slice none 0 0, .bool false, .int .i64 0, .int .i64 0, .int .i64 0, .int .i64 0, .int .i64 0, .int .i64 0, .int .i64 0, .int .i64 0, .bool false]) rfl rfl rfl zero_37 rfl rfl rfl rfl rfl rfl rfl size_37 rfl (fun w44 b45 x46 z47 => ?_)
    refine p_val (v := .bool false) rfl rfl (x_assign rfl rfl) ?_
    refine p_nil ?_
    refine t_norm ?_
    refine c_seq ?_
    refine c_seq ?_
    refine c_quiet ?_
    refine q_val (v := .int .u8 k) rfl rfl (fun w' x' => x_move rfl rfl) ?_
    refine q_val (v := .int .u8 (k % 5)) rfl rfl (fun w' x' => x_rem rfl rfl rfl (by omega) (rem_of (by omega))) ?_
    refine q_val (v := .bool true) rfl rfl (fun w' x' => yb (x_neq rfl rfl rfl) (by have q := of_decide_eq_true c37; simp [q])) ?_
    refine q_nil (fun w48 x49 => ?_)
    refine t_norm ?_
    refine c_true rfl ?_
    refine c_seq ?_
    refine c_quiet ?_
    refine q_val (v := .bool false) rfl rfl (fun w' x' => x_move rfl rfl) ?_
    refine q_val (v := .bool true) rfl rfl (fun w' x' => x_not (b := false) rfl rfl) ?_
    refine q_val (v := .bool true) rfl rfl (fun w' x' => x_move rfl rfl) ?_
    refine q_val (v := .agg #[.int .i64 0, .int .i64 0, .int .i64 0, .int .i64 0, .int .i64 0, .int .i64 0, .int .i64 0, .int .i64 0, .int .i64 0, .int .i64 0, .int .i64 0, .int .i64 0, .int .i64 0, .slice none 0 0, .slice none 0 0, .bool false, .int .i64 0, .int .i64 0, .int .i64 0, .int .i64 0, .int .i64 0, .int .i64 0, .int .i64 0, .int .i64 0, .bool false]) rfl rfl (fun w' x' => x_load rfl rfl (((b45.ext x49).ext x').agg (vs := [.int .i64 0, .int .i64 0, .int .i64 0, .int .i64 0, .int .i64 0, .int .i64 0, .int .i64 0, .int .i64 0, .int .i64 0, .int .i64 0, .int .i64 0, .int .i64 0, .int .i64 0, .slice none 0 0, .slice none 0 0, .bool false, .int .i64 0, .int .i64 0, .int .i64 0, .int .i64 0, .int .i64 0, .int .i64 0, .int .i64 0, .int .i64 0, .bool false]) agg_37_25 rfl)) ?_
    refine q_val (v := .agg #[.int .i64 0, .int .i64 0, .int .i64 0, .int .i64 0, .int .i64 0, .int .i64 0, .int .i64 0, .int .i64 0, .int .i64 0, .int .i64 0, .int .i64 0, .int .i64 0, .int .i64 0, .slice none 0 0, .slice none 0 0, .bool false, .int .i64 0, .int .i64 0, .int .i64 0, .int .i64 0, .int .i64 0, .int .i64 0, .int .i64 0, .int .i64 0, .bool false]) rfl rfl (fun w' x' => x_build0 zero_37 bld_37 rfl) ?_
    refine q_call (vs := #[.agg #[.int .i64 0, .int .i64 0, .int .i64 0, .int .i64 0, .int .i64 0, .int .i64 0, .int .i64 0, .int .i64 0, .int .i64 0, .int .i64 0, .int .i64 0, .int .i64 0, .int .i64 0, .slice none 0 0, .slice none 0 0, .bool false, .int .i64 0, .int .i64 0, .int .i64 0, .int .i64 0, .int .i64 0, .int .i64 0, .int .i64 0, .int .i64 0, .bool false], .agg #[.int .i64 0, .int .i64 0, .int .i64 0, .int .i64 0, .int .i64 0, .int .i64 0, .int .i64 0, .int .i64 0, .int .i64 0, .int .i64 0, .int .i64 0, .int .i64 0, .int .i64 0, .slice none 0 0, .slice none 0 0, .bool false, .int .i64 0, .int .i64 0, .int .i64 0, .int .i64 0, .int .i64 0, .int .i64 0, .int .i64 0, .int .i64 0, .bool false]]) fn_14 rfl rfl rfl (args2 rfl rfl) (v := .bool true) (fun w' x' => ((decide_eq_true (rfl : (⟨(⟨0, 0⟩ : Inst), 0, (⟨0, 0⟩ : Bal), (⟨0, 0⟩ : Bal), (⟨0, (⟨0, 0⟩ : Txn), (⟨0, 0⟩ : Stp), 0, [], [], false⟩ : Cmd), 0, (⟨0, 0, 0, 0, 0, 0, 0⟩ : Dep), false⟩ : Rec) = (⟨(⟨0, 0⟩ : Inst), 0, (⟨0, 0⟩ : Bal), (⟨0, 0⟩ : Bal), (⟨0, (⟨0, 0⟩ : Txn), (⟨0, 0⟩ : Stp), 0, [], [], false⟩ : Cmd), 0, (⟨0, 0, 0, 0, 0, 0, 0⟩ : Dep), false⟩ : Rec)))) ▸ D_sameRec _ (⟨(⟨0, 0⟩ : Inst), 0, (⟨0, 0⟩ : Bal), (⟨0, 0⟩ : Bal), (⟨0, (⟨0, 0⟩ : Txn), (⟨0, 0⟩ : Stp), 0, [], [], false⟩ : Cmd), 0, (⟨0, 0, 0, 0, 0, 0, 0⟩ : Dep), false⟩ : Rec) (⟨none, 0, none, 0⟩ : Ptr) (CmdAt.nil _ rfl rfl) (⟨(⟨0, 0⟩ : Inst), 0, (⟨0, 0⟩ : Bal), (⟨0, 0⟩ : Bal), (⟨0, (⟨0, 0⟩ : Txn), (⟨0, 0⟩ : Stp), 0, [], [], false⟩ : Cmd), 0, (⟨0, 0, 0, 0, 0, 0, 0⟩ : Dep), false⟩ : Rec) (⟨none, 0, none, 0⟩ : Ptr) (CmdAt.nil _ rfl rfl)) ?_
    refine q_val (v := .bool true) rfl rfl (fun w' x' => x_pick_t rfl rfl rfl) ?_
    refine q_val (v := .bool true) rfl rfl (fun w' x' => x_move rfl rfl) ?_
    refine q_val (v := .iface 33 (.agg #[.int .i64 r.cmd.kind, .int .i64 r.cmd.txn.client, .int .i64 r.cmd.txn.number, .int .i64 r.cmd.stp.time, .int .i64 r.cmd.stp.client, .int .i64 r.cmd.shards, .slice pr.A r.cmd.reads.length pr.n, .slice pr.B r.cmd.writes.length pr.m, .bool r.cmd.commit])) rfl rfl (fun w' x' => x_move rfl rfl) ?_
    refine q_call (vs := #[.iface 33 (.agg #[.int .i64 r.cmd.kind, .int .i64 r.cmd.txn.client, .int .i64 r.cmd.txn.number, .int .i64 r.cmd.stp.time, .int .i64 r.cmd.stp.client, .int .i64 r.cmd.shards, .slice pr.A r.cmd.reads.length pr.n, .slice pr.B r.cmd.writes.length pr.m, .bool r.cmd.commit])]) fn_22 rfl rfl rfl (args1 rfl) (v := .bool true) (fun w' x' => panics_yes _ _ (fun w1 => C_mustNo w1 _ (.inr ⟨_, _, rfl, by decide⟩))) ?_
    refine q_val (v := .bool true) rfl rfl (fun w' x' => x_pick_t rfl rfl rfl) ?_
    refine q_val (v := .bool true) rfl rfl (fun w' x' => x_move rfl rfl) ?_
    refine q_call (vs := #[]) fn_8 rfl rfl rfl (args0) (v := .bool true) (fun w' x' => C_awake _) ?_
    refine q_val (v := .bool true) rfl rfl (fun w' x' => x_pick_t rfl rfl rfl) ?_
    refine q_val (v := .bool true) rfl rfl (fun w' x' => x_assign rfl rfl) ?_
    refine q_nil (fun w50 x51 => ?_)
    refine t_norm ?_
    refine c_ret ?_
    refine t_ret ?_
    exact c_done rfl rfl (Ret.b (rfl) (((((((((((x3.trans x7).trans x10).trans x17).trans x19).trans x36).trans x39).trans x41).trans x43).trans x46).trans x49).trans x51))
   ·refine q_val (v := .bool false) rfl rfl (fun w' x' => x_assign rfl rfl) ?_
    refine q_nil (fun w52 x53 => ?_)
    refine t_norm ?_
    refine c_false rfl ?_
    refine c_seq ?_
    refine c_quiet ?_
    refine q_bool (b := decide (k % 5 = 2)) rfl rfl (fun w' x' => x_eql rfl rfl rfl) (fun c54 => ?_) (fun c54 => ?_)
    ·refine q_val (v := .bool true) rfl rfl (fun w' x' => x_assign rfl rfl) ?_
     refine q_nil (fun w55 x56 => ?_)
     refine t_norm ?_
     refine c_true rfl ?_
     refine c_quiet ?_
     refine q_val (v := .int .i64 n) rfl rfl (fun w' x' => x_move rfl rfl) ?_
     refine q_val (v := vRec r pr) rfl rfl (fun w' x' => x_load rfl rfl (((((((((b2.ext x7).ext x10).ext x17).ext x19).ext x36).ext x53).ext x56).ext x').agg (vs := [.int .i64 r.inst.replica, .int .i64 r.inst.slot, .int .i64 r.status, .int .i64 r.promise.number, .int .i64 r.promise.replica, .int .i64 r.ballot.number, .int .i64 r.ballot.replica, .int .i64 r.cmd.kind, .int .i64 r.cmd.txn.client, .int .i64 r.cmd.txn.number, .int .i64 r.cmd.stp.time, .int .i64 r.cmd.stp.client, .int .i64 r.cmd.shards, .slice pr.A r.cmd.reads.length pr.n, .slice pr.B r.cmd.writes.length pr.m, .bool r.cmd.commit, .int .i64 r.seq, .int .i64 r.deps.d0, .int .i64 r.deps.d1, .int .i64 r.deps.d2, .int .i64 r.deps.d3, .int .i64 r.deps.d4, .int .i64 r.deps.d5, .int .i64 r.deps.d6, .bool r.kept]) agg_37_25 rfl)) ?_
     refine q_val (v := .agg #[.int .i64 n, .int .i64 0, .int .i64 0, .int .i64 0, .int .i64 0, .int .i64 r.inst.replica, .int .i64 r.inst.slot, .int .i64 r.status, .int .i64 r.promise.number, .int .i64 r.promise.replica, .int .i64 r.ballot.number, .int .i64 r.ballot.replica, .int .i64 r.cmd.kind, .int .i64 r.cmd.txn.client, .int .i64 r.cmd.txn.number, .int .i64 r.cmd.stp.time, .int .i64 r.cmd.stp.client, .int .i64 r.cmd.shards, .slice pr.A r.cmd.reads.length pr.n, .slice pr.B r.cmd.writes.length pr.m, .bool r.cmd.commit, .int .i64 r.seq, .int .i64 r.deps.d0, .int .i64 r.deps.d1, .int .i64 r.deps.d2, .int .i64 r.deps.d3, .int .i64 r.deps.d4, .int .i64 r.deps.d5, .int .i64 r.deps.d6, .bool r.kept]) rfl rfl (fun w' x' => x_build (z := [.int .i64 0, .int .i64 0, .int .i64 0, .int .i64 0, .int .i64 0, .int .i64 0, .int .i64 0, .int .i64 0, .int .i64 0, .int .i64 0, .int .i64 0, .int .i64 0, .int .i64 0, .int .i64 0, .int .i64 0, .int .i64 0, .int .i64 0, .int .i64 0, .slice none 0 0, .slice none 0 0, .bool false, .int .i64 0, .int .i64 0, .int .i64 0, .int .i64 0, .int .i64 0, .int .i64 0, .int .i64 0, .int .i64 0, .bool false]) (r := [.int .i64 n, .int .i64 0, .int .i64 0, .int .i64 0, .int .i64 0, .int .i64 r.inst.replica, .int .i64 r.inst.slot, .int .i64 r.status, .int .i64 r.promise.number, .int .i64 r.promise.replica, .int .i64 r.ballot.number, .int .i64 r.ballot.replica, .int .i64 r.cmd.kind, .int .i64 r.cmd.txn.client, .int .i64 r.cmd.txn.number, .int .i64 r.cmd.stp.time, .int .i64 r.cmd.stp.client, .int .i64 r.cmd.shards, .slice pr.A r.cmd.reads.length pr.n, .slice pr.B r.cmd.writes.length pr.m, .bool r.cmd.commit, .int .i64 r.seq, .int .i64 r.deps.d0, .int .i64 r.deps.d1, .int .i64 r.deps.d2, .int .i64 r.deps.d3, .int .i64 r.deps.d4, .int .i64 r.deps.d5, .int .i64 r.deps.d6, .bool r.kept]) zero_39 pl_39 rfl (partsI2 rfl rfl) (fill_cons (vs := [.int .i64 n]) (cs' := [.int .i64 n, .int .i64 0, .int .i64 0, .int .i64 0, .int .i64 0, .int .i64 0, .int .i64 0, .int .i64 0, .int .i64 0, .int .i64 0, .int .i64 0, .int .i64 0, .int .i64 0, .int .i64 0, .int .i64 0, .int .i64 0, .int .i64 0, .int .i64 0, .slice none 0 0, .slice none 0 0, .bool false, .int .i64 0, .int .i64 0, .int .i64 0, .int .i64 0, .int .i64 0, .int .i64 0, .int .i64 0, .int .i64 0, .bool false]) rfl rfl rfl rfl rfl (fill_cons (vs := [.int .i64 r.inst.replica, .int .i64 r.inst.slot, .int .i64 r.status, .int .i64 r.promise.number, .int .i64 r.promise.replica, .int .i64 r.ballot.number, .int .i64 r.ballot.replica, .int .i64 r.cmd.kind, .int .i64 r.cmd.txn.client, .int .i64 r.cmd.txn.number, .int .i64 r.cmd.stp.time, .int .i64 r.cmd.stp.client, .int .i64 r.cmd.shards, .slice pr.A r.cmd.reads.length pr.n, .slice pr.B r.cmd.writes.length pr.m, .bool r.cmd.commit, .int .i64 r.seq, .int .i64 r.deps.d0, .int .i64 r.deps.d1, .int .i64 r.deps.d2, .int .i64 r.deps.d3, .int .i64 r.deps.d4, .int .i64 r.deps.d5, .int .i64 r.deps.d6, .bool r.kept]) (cs' := [.int .i64 n, .int .i64 0, .int .i64 0, .int .i64 0, .int .i64 0, .int .i64 r.inst.replica, .int .i64 r.inst.slot, .int .i64 r.status, .int .i64 r.promise.number, .int .i64 r.promise.replica, .int .i64 r.ballot.number, .int .i64 r.ballot.replica, .int .i64 r.cmd.kind, .int .i64 r.cmd.txn.client, .int .i64 r.cmd.txn.number, .int .i64 r.cmd.stp.time, .int .i64 r.cmd.stp.client, .int .i64 r.cmd.shards, .slice pr.A r.cmd.reads.length pr.n, .slice pr.B r.cmd.writes.length pr.m, .bool r.cmd.commit, .int .i64 r.seq, .int .i64 r.deps.d0, .int .i64 r.deps.d1, .int .i64 r.deps.d2, .int .i64 r.deps.d3, .int .i64 r.deps.d4, .int .i64 r.deps.d5, .int .i64 r.deps.d6, .bool r.kept]) rfl rfl rfl rfl rfl (fill_nil)))) ?_
     refine q_val (v := .iface 39 (.agg #[.int .i64 n, .int .i64 0, .int .i64 0, .int .i64 0, .int .i64 0, .int .i64 r.inst.replica, .int .i64 r.inst.slot, .int .i64 r.status, .int .i64 r.promise.number, .int .i64 r.promise.replica, .int .i64 r.ballot.number, .int .i64 r.ballot.replica, .int .i64 r.cmd.kind, .int .i64 r.cmd.txn.client, .int .i64 r.cmd.txn.number, .int .i64 r.cmd.stp.time, .int .i64 r.cmd.stp.client, .int .i64 r.cmd.shards, .slice pr.A r.cmd.reads.length pr.n, .slice pr.B r.cmd.writes.length pr.m, .bool r.cmd.commit, .int .i64 r.seq, .int .i64 r.deps.d0, .int .i64 r.deps.d1, .int .i64 r.deps.d2, .int .i64 r.deps.d3, .int .i64 r.deps.d4, .int .i64 r.deps.d5, .int .i64 r.deps.d6, .bool r.kept])) rfl rfl (fun w' x' => x_makeIface pl_39_ rfl rfl) ?_
     refine q_val (v := .iface 39 (.agg #[.int .i64 n, .int .i64 0, .int .i64 0, .int .i64 0, .int .i64 0, .int .i64 r.inst.replica, .int .i64 r.inst.slot, .int .i64 r.status, .int .i64 r.promise.number, .int .i64 r.promise.replica, .int .i64 r.ballot.number, .int .i64 r.ballot.replica, .int .i64 r.cmd.kind, .int .i64 r.cmd.txn.client, .int .i64 r.cmd.txn.number, .int .i64 r.cmd.stp.time, .int .i64 r.cmd.stp.client, .int .i64 r.cmd.shards, .slice pr.A r.cmd.reads.length pr.n, .slice pr.B r.cmd.writes.length pr.m, .bool r.cmd.commit, .int .i64 r.seq, .int .i64 r.deps.d0, .int .i64 r.deps.d1, .int .i64 r.deps.d2, .int .i64 r.deps.d3, .int .i64 r.deps.d4, .int .i64 r.deps.d5, .int .i64 r.deps.d6, .bool r.kept])) rfl rfl (fun w' x' => x_assign rfl rfl) ?_
     refine q_nil (fun w57 x58 => ?_)
     refine b_norm (t_norm ?_)
     refine c_seq ?_
     refine c_plain ?_
     refine p_val (v := .iface 39 (.agg #[.int .i64 n, .int .i64 0, .int .i64 0, .int .i64 0, .int .i64 0, .int .i64 r.inst.replica, .int .i64 r.inst.slot, .int .i64 r.status, .int .i64 r.promise.number, .int .i64 r.promise.replica, .int .i64 r.ballot.number, .int .i64 r.ballot.replica, .int .i64 r.cmd.kind, .int .i64 r.cmd.txn.client, .int .i64 r.cmd.txn.number, .int .i64 r.cmd.stp.time, .int .i64 r.cmd.stp.client, .int .i64 r.cmd.shards, .slice pr.A r.cmd.reads.length pr.n, .slice pr.B r.cmd.writes.length pr.m, .bool r.cmd.commit, .int .i64 r.seq, .int .i64 r.deps.d0, .int .i64 r.deps.d1, .int .i64 r.deps.d2, .int .i64 r.deps.d3, .int .i64 r.deps.d4, .int .i64 r.deps.d5, .int .i64 r.deps.d6, .bool r.kept])) rfl rfl (x_move rfl rfl) ?_
     refine p_call (vs := #[.iface 39 (.agg #[.int .i64 n, .int .i64 0, .int .i64 0, .int .i64 0, .int .i64 0, .int .i64 r.inst.replica, .int .i64 r.inst.slot, .int .i64 r.status, .int .i64 r.promise.number, .int .i64 r.promise.replica, .int .i64 r.ballot.number, .int .i64 r.ballot.replica, .int .i64 r.cmd.kind, .int .i64 r.cmd.txn.client, .int .i64 r.cmd.txn.number, .int .i64 r.cmd.stp.time, .int .i64 r.cmd.stp.client, .int .i64 r.cmd.shards, .slice pr.A r.cmd.reads.length pr.n, .slice pr.B r.cmd.writes.length pr.m, .bool r.cmd.commit, .int .i64 r.seq, .int .i64 r.deps.d0, .int .i64 r.deps.d1, .int .i64 r.deps.d2, .int .i64 r.deps.d3, .int .i64 r.deps.d4, .int .i64 r.deps.d5, .int .i64 r.deps.d6, .bool r.kept])]) fn_21 rfl rfl rfl (args1 rfl) ?_
     refine (C_recNo39 _ (.agg #[.int .i64 n, .int .i64 0, .int .i64 0, .int .i64 0, .int .i64 0, .int .i64 r.inst.replica, .int .i64 r.inst.slot, .int .i64 r.status, .int .i64 r.promise.number, .int .i64 r.promise.replica, .int .i64 r.ballot.number, .int .i64 r.ballot.replica, .int .i64 r.cmd.kind, .int .i64 r.cmd.txn.client, .int .i64 r.cmd.txn.number, .int .i64 r.cmd.stp.time, .int .i64 r.cmd.stp.client, .int .i64 r.cmd.shards, .slice pr.A r.cmd.reads.length pr.n, .slice pr.B r.cmd.writes.length pr.m, .bool r.cmd.commit, .int .i64 r.seq, .int .i64 r.deps.d0, .int .i64 r.deps.d1, .int .i64 r.deps.d2, .int .i64 r.deps.d3, .int .i64 r.deps.d4, .int .i64 r.deps.d5, .int .i64 r.deps.d6, .bool r.kept] : Value)).mono ?_
     rintro e w59 ⟨rfl, x60⟩
     refine ⟨_, rfl, ?_⟩
     refine p_val (v := .tuple #[.agg #[.int .i64 0, .int .i64 0, .int .i64 0, .int .i64 0, .int .i64 0, .int .i64 0, .int .i64 0, .int .i64 0, .int .i64 0, .int .i64 0, .int .i64 0, .int .i64 0, .int .i64 0, .slice none 0 0, .slice none 0 0, .bool false, .int .i64 0, .int .i64 0, .int .i64 0, .int .i64 0, .int .i64 0, .int .i64 0, .int .i64 0, .int .i64 0, .bool false], .bool false]) rfl rfl (x_move rfl rfl) ?_
     refine p_val (v := .agg #[.int .i64 0, .int .i64 0, .int .i64 0, .int .i64 0, .int .i64 0, .int .i64 0, .int .i64 0, .int .i64 0, .int .i64 0, .int .i64 0, .int .i64 0, .int .i64 0, .int .i64 0, .slice none 0 0, .slice none 0 0, .bool false, .int .i64 0, .int .i64 0, .int .i64 0, .int .i64 0, .int .i64 0, .int .i64 0, .int .i64 0, .int .i64 0, .bool false]) rfl rfl (x_extract rfl rfl rfl) ?_
     refine p_val (v := .bool false) rfl rfl (x_extract rfl rfl rfl) ?_
     refine p_var (v := .agg #[.int .i64 0, .int .i64 0, .int .i64 0, .int .i64 0, .int .i64 0, .int .i64 0, .int .i64 0, .int .i64 0, .int .i64 0, .int .i64 0, .int .i64 0, .int .i64 0, .int .i64 0, .slice none 0 0, .slice none 0 0, .bool false, .int .i64 0, .int .i64 0, .int .i64 0, .int .i64 0, .int .i64 0, .int .i64 0, .int .i64 0, .int .i64 0, .bool false]) (vs := [.int .i64 0, .int .i64 0, .int .i64 0, .int .i64 0, .int .i64 0, .int .i64 0, .int .i64 0, .int .i64 0, .int .i64 0, .int .i64 0, .int .i64 0, .int .i64 0, .int .i64 0, .slice none 0 0, .slice none 0 0, .bool false, .int .i64 0, .int .i64 0, .int .i64 0, .int .i64 0, .int .i64 0, .int .i64 0, .int .i64 0, .int .i64 0, .bool false]) rfl rfl rfl zero_37 rfl rfl rfl rfl rfl rfl rfl size_37 rfl (fun w61 b62 x63 z64 => ?_)
     refine p_val (v := .bool false) rfl rfl (x_assign rfl rfl) ?_
     refine p_nil ?_
     refine t_norm ?_
     refine c_seq ?_
     refine c_seq ?_
     refine c_quiet ?_
     refine q_val (v := .int .u8 k) rfl rfl (fun w' x' => x_move rfl rfl) ?_
     refine q_val (v := .int .u8 (k % 5)) rfl rfl (fun w' x' => x_rem rfl rfl rfl (by omega) (rem_of (by omega))) ?_
     refine q_val (v := .bool true) rfl rfl (fun w' x' => yb (x_neq rfl rfl rfl) (by have q := of_decide_eq_true c54; simp [q])) ?_
     refine q_nil (fun w65 x66 => ?_)
     refine t_norm ?_
     refine c_true rfl ?_
     refine c_seq ?_
     refine c_quiet ?_
     refine q_val (v := .bool false) rfl rfl (fun w' x' => x_move rfl rfl) ?_
     refine q_val (v := .bool true) rfl rfl (fun w' x' => x_not (b := false) rfl rfl) ?_
     refine q_val (v := .bool true) rfl rfl (fun w' x' => x_move rfl rfl) ?_
     refine q_val (v := .agg #[.int .i64 0, .int .i64 0, .int .i64 0, .int .i64 0, .int .i64 0, .int .i64 0, .int .i64 0, .int .i64 0, .int .i64 0, .int .i64 0, .int .i64 0, .int .i64 0, .int .i64 0, .slice none 0 0, .slice none 0 0, .bool false, .int .i64 0, .int .i64 0, .int .i64 0, .int .i64 0, .int .i64 0, .int .i64 0, .int .i64 0, .int .i64 0, .bool false]) rfl rfl (fun w' x' => x_load rfl rfl (((b62.ext x66).ext x').agg (vs := [.int .i64 0, .int .i64 0, .int .i64 0, .int .i64 0, .int .i64 0, .int .i64 0, .int .i64 0, .int .i64 0, .int .i64 0, .int .i64 0, .int .i64 0, .int .i64 0, .int .i64 0, .slice none 0 0, .slice none 0 0, .bool false, .int .i64 0, .int .i64 0, .int .i64 0, .int .i64 0, .int .i64 0, .int .i64 0, .int .i64 0, .int .i64 0, .bool false]) agg_37_25 rfl)) ?_
     refine q_val (v := .agg #[.int .i64 0, .int .i64 0, .int .i64 0, .int .i64 0, .int .i64 0, .int .i64 0, .int .i64 0, .int .i64 0, .int .i64 0, .int .i64 0, .int .i64 0, .int .i64 0, .int .i64 0, .slice none 0 0, .slice none 0 0, .bool false, .int .i64 0, .int .i64 0, .int .i64 0, .int .i64 0, .int .i64 0, .int .i64 0, .int .i64 0, .int .i64 0, .bool false]) rfl rfl (fun w' x' => x_build0 zero_37 bld_37 rfl) ?_
     refine q_call (vs := #[.agg #[.int .i64 0, .int .i64 0, .int .i64 0, .int .i64 0, .int .i64 0, .int .i64 0, .int .i64 0, .int .i64 0, .int .i64 0, .int .i64 0, .int .i64 0, .int .i64 0, .int .i64 0, .slice none 0 0, .slice none 0 0, .bool false, .int .i64 0, .int .i64 0, .int .i64 0, .int .i64 0, .int .i64 0, .int .i64 0, .int .i64 0, .int .i64 0, .bool false], .agg #[.int .i64 0, .int .i64 0, .int .i64 0, .int .i64 0, .int .i64 0, .int .i64 0, .int .i64 0, .int .i64 0, .int .i64 0, .int .i64 0, .int .i64 0, .int .i64 0, .int .i64 0, .slice none 0 0, .slice none 0 0, .bool false, .int .i64 0, .int .i64 0, .int .i64 0, .int .i64 0, .int .i64 0, .int .i64 0, .int .i64 0, .int .i64 0, .bool false]]) fn_14 rfl rfl rfl (args2 rfl rfl) (v := .bool true) (fun w' x' => ((decide_eq_true (rfl : (⟨(⟨0, 0⟩ : Inst), 0, (⟨0, 0⟩ : Bal), (⟨0, 0⟩ : Bal), (⟨0, (⟨0, 0⟩ : Txn), (⟨0, 0⟩ : Stp), 0, [], [], false⟩ : Cmd), 0, (⟨0, 0, 0, 0, 0, 0, 0⟩ : Dep), false⟩ : Rec) = (⟨(⟨0, 0⟩ : Inst), 0, (⟨0, 0⟩ : Bal), (⟨0, 0⟩ : Bal), (⟨0, (⟨0, 0⟩ : Txn), (⟨0, 0⟩ : Stp), 0, [], [], false⟩ : Cmd), 0, (⟨0, 0, 0, 0, 0, 0, 0⟩ : Dep), false⟩ : Rec)))) ▸ D_sameRec _ (⟨(⟨0, 0⟩ : Inst), 0, (⟨0, 0⟩ : Bal), (⟨0, 0⟩ : Bal), (⟨0, (⟨0, 0⟩ : Txn), (⟨0, 0⟩ : Stp), 0, [], [], false⟩ : Cmd), 0, (⟨0, 0, 0, 0, 0, 0, 0⟩ : Dep), false⟩ : Rec) (⟨none, 0, none, 0⟩ : Ptr) (CmdAt.nil _ rfl rfl) (⟨(⟨0, 0⟩ : Inst), 0, (⟨0, 0⟩ : Bal), (⟨0, 0⟩ : Bal), (⟨0, (⟨0, 0⟩ : Txn), (⟨0, 0⟩ : Stp), 0, [], [], false⟩ : Cmd), 0, (⟨0, 0, 0, 0, 0, 0, 0⟩ : Dep), false⟩ : Rec) (⟨none, 0, none, 0⟩ : Ptr) (CmdAt.nil _ rfl rfl)) ?_
     refine q_val (v := .bool true) rfl rfl (fun w' x' => x_pick_t rfl rfl rfl) ?_
     refine q_val (v := .bool true) rfl rfl (fun w' x' => x_move rfl rfl) ?_
     refine q_val (v := .iface 39 (.agg #[.int .i64 n, .int .i64 0, .int .i64 0, .int .i64 0, .int .i64 0, .int .i64 r.inst.replica, .int .i64 r.inst.slot, .int .i64 r.status, .int .i64 r.promise.number, .int .i64 r.promise.replica, .int .i64 r.ballot.number, .int .i64 r.ballot.replica, .int .i64 r.cmd.kind, .int .i64 r.cmd.txn.client, .int .i64 r.cmd.txn.number, .int .i64 r.cmd.stp.time, .int .i64 r.cmd.stp.client, .int .i64 r.cmd.shards, .slice pr.A r.cmd.reads.length pr.n, .slice pr.B r.cmd.writes.length pr.m, .bool r.cmd.commit, .int .i64 r.seq, .int .i64 r.deps.d0, .int .i64 r.deps.d1, .int .i64 r.deps.d2, .int .i64 r.deps.d3, .int .i64 r.deps.d4, .int .i64 r.deps.d5, .int .i64 r.deps.d6, .bool r.kept])) rfl rfl (fun w' x' => x_move rfl rfl) ?_
     refine q_call (vs := #[.iface 39 (.agg #[.int .i64 n, .int .i64 0, .int .i64 0, .int .i64 0, .int .i64 0, .int .i64 r.inst.replica, .int .i64 r.inst.slot, .int .i64 r.status, .int .i64 r.promise.number, .int .i64 r.promise.replica, .int .i64 r.ballot.number, .int .i64 r.ballot.replica, .int .i64 r.cmd.kind, .int .i64 r.cmd.txn.client, .int .i64 r.cmd.txn.number, .int .i64 r.cmd.stp.time, .int .i64 r.cmd.stp.client, .int .i64 r.cmd.shards, .slice pr.A r.cmd.reads.length pr.n, .slice pr.B r.cmd.writes.length pr.m, .bool r.cmd.commit, .int .i64 r.seq, .int .i64 r.deps.d0, .int .i64 r.deps.d1, .int .i64 r.deps.d2, .int .i64 r.deps.d3, .int .i64 r.deps.d4, .int .i64 r.deps.d5, .int .i64 r.deps.d6, .bool r.kept])]) fn_22 rfl rfl rfl (args1 rfl) (v := .bool true) (fun w' x' => panics_yes _ _ (fun w1 => C_mustNo w1 _ (.inr ⟨_, _, rfl, by decide⟩))) ?_
     refine q_val (v := .bool true) rfl rfl (fun w' x' => x_pick_t rfl rfl rfl) ?_
     refine q_val (v := .bool true) rfl rfl (fun w' x' => x_move rfl rfl) ?_
     refine q_call (vs := #[]) fn_8 rfl rfl rfl (args0) (v := .bool true) (fun w' x' => C_awake _) ?_
     refine q_val (v := .bool true) rfl rfl (fun w' x' => x_pick_t rfl rfl rfl) ?_
     refine q_val (v := .bool true) rfl rfl (fun w' x' => x_assign rfl rfl) ?_
     refine q_nil (fun w67 x68 => ?_)
     refine t_norm ?_
     refine c_ret ?_
     refine t_ret ?_
     exact c_done rfl rfl (Ret.b (rfl) ((((((((((((x3.trans x7).trans x10).trans x17).trans x19).trans x36).trans x53).trans x56).trans x58).trans x60).trans x63).trans x66).trans x68))
    ·refine q_val (v := .bool false) rfl rfl (fun w' x' => x_assign rfl rfl) ?_
     refine q_nil (fun w69 x70 => ?_)
     refine t_norm ?_
     refine c_false rfl ?_
     refine c_seq ?_
     refine c_quiet ?_
     refine q_bool (b := decide (k % 5 = 3)) rfl rfl (fun w' x' => x_eql rfl rfl rfl) (fun c71 => ?_) (fun c71 => ?_)
     ·refine q_val (v := .bool true) rfl rfl (fun w' x' => x_assign rfl rfl) ?_
      refine q_nil (fun w72 x73 => ?_)
      refine t_norm ?_
      refine c_true rfl ?_
      refine c_quiet ?_
      refine q_val (v := vRec r pr) rfl rfl (fun w' x' => x_load rfl rfl ((((((((((b2.ext x7).ext x10).ext x17).ext x19).ext x36).ext x53).ext x70).ext x73).ext x').agg (vs := [.int .i64 r.inst.replica, .int .i64 r.inst.slot, .int .i64 r.status, .int .i64 r.promise.number, .int .i64 r.promise.replica, .int .i64 r.ballot.number, .int .i64 r.ballot.replica, .int .i64 r.cmd.kind, .int .i64 r.cmd.txn.client, .int .i64 r.cmd.txn.number, .int .i64 r.cmd.stp.time, .int .i64 r.cmd.stp.client, .int .i64 r.cmd.shards, .slice pr.A r.cmd.reads.length pr.n, .slice pr.B r.cmd.writes.length pr.m, .bool r.cmd.commit, .int .i64 r.seq, .int .i64 r.deps.d0, .int .i64 r.deps.d1, .int .i64 r.deps.d2, .int .i64 r.deps.d3, .int .i64 r.deps.d4, .int .i64 r.deps.d5, .int .i64 r.deps.d6, .bool r.kept]) agg_37_25 rfl)) ?_
      refine q_val (v := .iface 37 (vRec r pr)) rfl rfl (fun w' x' => x_makeIface pl_37_ rfl rfl) ?_
      refine q_val (v := .iface 37 (vRec r pr)) rfl rfl (fun w' x' => x_assign rfl rfl) ?_
      refine q_nil (fun w74 x75 => ?_)
      refine b_norm (t_norm ?_)
      refine c_seq ?_
      refine c_plain ?_
      refine p_val (v := .iface 37 (vRec r pr)) rfl rfl (x_move rfl rfl) ?_
      refine p_call (vs := #[.iface 37 (vRec r pr)]) fn_21 rfl rfl rfl (args1 rfl) ?_
      refine (C_recYes _ r pr).mono ?_
      rintro e w76 ⟨rfl, x77⟩
      refine ⟨_, rfl, ?_⟩
      refine p_val (v := .tuple #[vRec r pr, .bool true]) rfl rfl (x_move rfl rfl) ?_
      refine p_val (v := vRec r pr) rfl rfl (x_extract rfl rfl rfl) ?_
      refine p_val (v := .bool true) rfl rfl (x_extract rfl rfl rfl) ?_
      refine p_var (v := vRec r pr) (vs := [.int .i64 r.inst.replica, .int .i64 r.inst.slot, .int .i64 r.status, .int .i64 r.promise.number, .int .i64 r.promise.replica, .int .i64 r.ballot.number, .int .i64 r.ballot.replica, .int .i64 r.cmd.kind, .int .i64 r.cmd.txn.client, .int .i64 r.cmd.txn.number, .int .i64 r.cmd.stp.time, .int .i64 r.cmd.stp.client, .int .i64 r.cmd.shards, .slice pr.A r.cmd.reads.length pr.n, .slice pr.B r.cmd.writes.length pr.m, .bool r.cmd.commit, .int .i64 r.seq, .int .i64 r.deps.d0, .int .i64 r.deps.d1, .int .i64 r.deps.d2, .int .i64 r.deps.d3, .int .i64 r.deps.d4, .int .i64 r.deps.d5, .int .i64 r.deps.d6, .bool r.kept]) rfl rfl rfl zero_37 rfl rfl rfl rfl rfl rfl rfl size_37 rfl (fun w78 b79 x80 z81 => ?_)
      refine p_val (v := .bool true) rfl rfl (x_assign rfl rfl) ?_
      refine p_nil ?_
      refine t_norm ?_
      refine c_seq ?_
      refine c_seq ?_
      refine c_quiet ?_
      refine q_val (v := .int .u8 k) rfl rfl (fun w' x' => x_move rfl rfl) ?_
      refine q_val (v := .int .u8 (k % 5)) rfl rfl (fun w' x' => x_rem rfl rfl rfl (by omega) (rem_of (by omega))) ?_
      refine q_val (v := .bool false) rfl rfl (fun w' x' => yb (x_neq rfl rfl rfl) (by have q := of_decide_eq_true c71; simp [q])) ?_
      refine q_nil (fun w82 x83 => ?_)
      refine t_norm ?_
      refine c_false rfl ?_
      refine c_skip ?_
      refine t_norm ?_
      refine c_seq ?_
      refine c_draw mixed (by kernel_rfl) ?_
      refine q_val (v := .bool true) rfl rfl (fun w' x' => x_move rfl rfl) ?_
      refine q_val (v := .bool true) rfl rfl (fun w' x' => x_move rfl rfl) ?_
      refine q_val (v := vRec r pr) rfl rfl (fun w' x' => x_load rfl rfl (((b79.ext x83).ext x').agg (vs := [.int .i64 r.inst.replica, .int .i64 r.inst.slot, .int .i64 r.status, .int .i64 r.promise.number, .int .i64 r.promise.replica, .int .i64 r.ballot.number, .int .i64 r.ballot.replica, .int .i64 r.cmd.kind, .int .i64 r.cmd.txn.client, .int .i64 r.cmd.txn.number, .int .i64 r.cmd.stp.time, .int .i64 r.cmd.stp.client, .int .i64 r.cmd.shards, .slice pr.A r.cmd.reads.length pr.n, .slice pr.B r.cmd.writes.length pr.m, .bool r.cmd.commit, .int .i64 r.seq, .int .i64 r.deps.d0, .int .i64 r.deps.d1, .int .i64 r.deps.d2, .int .i64 r.deps.d3, .int .i64 r.deps.d4, .int .i64 r.deps.d5, .int .i64 r.deps.d6, .bool r.kept]) agg_37_25 rfl)) ?_
      refine q_val (v := vRec r pr) rfl rfl (fun w' x' => x_load rfl rfl ((((((((((((((b2.ext x7).ext x10).ext x17).ext x19).ext x36).ext x53).ext x70).ext x73).ext x75).ext x77).ext x80).ext x83).ext x').agg (vs := [.int .i64 r.inst.replica, .int .i64 r.inst.slot, .int .i64 r.status, .int .i64 r.promise.number, .int .i64 r.promise.replica, .int .i64 r.ballot.number, .int .i64 r.ballot.replica, .int .i64 r.cmd.kind, .int .i64 r.cmd.txn.client, .int .i64 r.cmd.txn.number, .int .i64 r.cmd.stp.time, .int .i64 r.cmd.stp.client, .int .i64 r.cmd.shards, .slice pr.A r.cmd.reads.length pr.n, .slice pr.B r.cmd.writes.length pr.m, .bool r.cmd.commit, .int .i64 r.seq, .int .i64 r.deps.d0, .int .i64 r.deps.d1, .int .i64 r.deps.d2, .int .i64 r.deps.d3, .int .i64 r.deps.d4, .int .i64 r.deps.d5, .int .i64 r.deps.d6, .bool r.kept]) agg_37_25 rfl)) ?_
      refine q_call (vs := #[vRec r pr, vRec r pr]) fn_14 rfl rfl rfl (args2 rfl rfl) (v := .bool true) (fun w' x' => ((decide_eq_true (rfl : r = r))) ▸ D_sameRec _ r pr ((((((((((((((hr.ext x3).ext x7).ext x10).ext x17).ext x19).ext x36).ext x53).ext x70).ext x73).ext x75).ext x77).ext x80).ext x83).ext x') r pr ((((((((((((((hr.ext x3).ext x7).ext x10).ext x17).ext x19).ext x36).ext x53).ext x70).ext x73).ext x75).ext x77).ext x80).ext x83).ext x')) ?_
      refine q_val (v := .bool true) rfl rfl (fun w' x' => x_pick_t rfl rfl rfl) ?_
      refine q_val (v := .bool true) rfl rfl (fun w' x' => x_move rfl rfl) ?_
      refine q_val (v := .iface 37 (vRec r pr)) rfl rfl (fun w' x' => x_move rfl rfl) ?_
      refine q_call (vs := #[.iface 37 (vRec r pr)]) fn_22 rfl rfl rfl (args1 rfl) (v := .bool false) (fun w' x' => panics_no _ (vRec r pr) _ (fun w1 => C_mustYes w1 r pr)) ?_
      refine q_val (v := .bool true) rfl rfl (fun w' x' => x_not (b := false) rfl rfl) ?_
      refine q_val (v := .bool true) rfl rfl (fun w' x' => x_pick_t rfl rfl rfl) ?_
      refine q_val (v := .bool true) rfl rfl (fun w' x' => x_move rfl rfl) ?_
      refine q_val (v := .iface 37 (vRec r pr)) rfl rfl (fun w' x' => x_move rfl rfl) ?_
      refine q_call (vs := #[.iface 37 (vRec r pr)]) fn_23 rfl rfl rfl (args1 rfl) (v := vRec r pr) (fun w' x' => C_mustYes _ r pr) ?_
      refine q_val (v := vRec r pr) rfl rfl (fun w' x' => x_load rfl rfl ((((((((((((((b2.ext x7).ext x10).ext x17).ext x19).ext x36).ext x53).ext x70).ext x73).ext x75).ext x77).ext x80).ext x83).ext x').agg (vs := [.int .i64 r.inst.replica, .int .i64 r.inst.slot, .int .i64 r.status, .int .i64 r.promise.number, .int .i64 r.promise.replica, .int .i64 r.ballot.number, .int .i64 r.ballot.replica, .int .i64 r.cmd.kind, .int .i64 r.cmd.txn.client, .int .i64 r.cmd.txn.number, .int .i64 r.cmd.stp.time, .int .i64 r.cmd.stp.client, .int .i64 r.cmd.shards, .slice pr.A r.cmd.reads.length pr.n, .slice pr.B r.cmd.writes.length pr.m, .bool r.cmd.commit, .int .i64 r.seq, .int .i64 r.deps.d0, .int .i64 r.deps.d1, .int .i64 r.deps.d2, .int .i64 r.deps.d3, .int .i64 r.deps.d4, .int .i64 r.deps.d5, .int .i64 r.deps.d6, .bool r.kept]) agg_37_25 rfl)) ?_
      refine q_call (vs := #[vRec r pr, vRec r pr]) fn_14 rfl rfl rfl (args2 rfl rfl) (v := .bool true) (fun w' x' => ((decide_eq_true (rfl : r = r))) ▸ D_sameRec _ r pr ((((((((((((((hr.ext x3).ext x7).ext x10).ext x17).ext x19).ext x36).ext x53).ext x70).ext x73).ext x75).ext x77).ext x80).ext x83).ext x') r pr ((((((((((((((hr.ext x3).ext x7).ext x10).ext x17).ext x19).ext x36).ext x53).ext x70).ext x73).ext x75).ext x77).ext x80).ext x83).ext x')) ?_
      refine q_val (v := .bool true) rfl rfl (fun w' x' => x_pick_t rfl rfl rfl) ?_
      refine q_val (v := .bool true) rfl rfl (fun w' x' => x_move rfl rfl) ?_
      refine q_call (vs := #[]) fn_8 rfl rfl rfl (args0) (v := .bool true) (fun w' x' => C_awake _) ?_
      refine q_val (v := .bool true) rfl rfl (fun w' x' => x_pick_t rfl rfl rfl) ?_
      refine q_val (v := .bool true) rfl rfl (fun w' x' => x_assign rfl rfl) ?_
      refine q_nil (fun w84 x85 => ?_)
      refine t_norm ?_
      refine c_ret ?_
      exact c_done rfl rfl (Ret.b (rfl) (((((((((((((x3.trans x7).trans x10).trans x17).trans x19).trans x36).trans x53).trans x70).trans x73).trans x75).trans x77).trans x80).trans x83).trans x85))
     ·refine q_val (v := .bool false) rfl rfl (fun w' x' => x_assign rfl rfl) ?_
      refine q_nil (fun w86 x87 => ?_)
      refine t_norm ?_
      refine c_false rfl ?_
      refine c_skip ?_
      refine b_norm (t_norm ?_)
      refine c_seq ?_
      refine c_plain ?_
      refine p_val (v := .nilIface) rfl rfl (x_move rfl rfl) ?_
      refine p_call (vs := #[.nilIface]) fn_21 rfl rfl rfl (args1 rfl) ?_
      refine (C_recNil _).mono ?_
      rintro e w88 ⟨rfl, x89⟩
      refine ⟨_, rfl, ?_⟩
      refine p_val (v := .tuple #[.agg #[.int .i64 0, .int .i64 0, .int .i64 0, .int .i64 0, .int .i64 0, .int .i64 0, .int .i64 0, .int .i64 0, .int .i64 0, .int .i64 0, .int .i64 0, .int .i64 0, .int .i64 0, .slice none 0 0, .slice none 0 0, .bool false, .int .i64 0, .int .i64 0, .int .i64 0, .int .i64 0, .int .i64 0, .int .i64 0, .int .i64 0, .int .i64 0, .bool false], .bool false]) rfl rfl (x_move rfl rfl) ?_
      refine p_val (v := .agg #[.int .i64 0, .int .i64 0, .int .i64 0, .int .i64 0, .int .i64 0, .int .i64 0, .int .i64 0, .int .i64 0, .int .i64 0, .int .i64 0, .int .i64 0, .int .i64 0, .int .i64 0, .slice none 0 0, .slice none 0 0, .bool false, .int .i64 0, .int .i64 0, .int .i64 0, .int .i64 0, .int .i64 0, .int .i64 0, .int .i64 0, .int .i64 0, .bool false]) rfl rfl (x_extract rfl rfl rfl) ?_
      refine p_val (v := .bool false) rfl rfl (x_extract rfl rfl rfl) ?_
      refine p_var (v := .agg #[.int .i64 0, .int .i64 0, .int .i64 0, .int .i64 0, .int .i64 0, .int .i64 0, .int .i64 0, .int .i64 0, .int .i64 0, .int .i64 0, .int .i64 0, .int .i64 0, .int .i64 0, .slice none 0 0, .slice none 0 0, .bool false, .int .i64 0, .int .i64 0, .int .i64 0, .int .i64 0, .int .i64 0, .int .i64 0, .int .i64 0, .int .i64 0, .bool false]) (vs := [.int .i64 0, .int .i64 0, .int .i64 0, .int .i64 0, .int .i64 0, .int .i64 0, .int .i64 0, .int .i64 0, .int .i64 0, .int .i64 0, .int .i64 0, .int .i64 0, .int .i64 0, .slice none 0 0, .slice none 0 0, .bool false, .int .i64 0, .int .i64 0, .int .i64 0, .int .i64 0, .int .i64 0, .int .i64 0, .int .i64 0, .int .i64 0, .bool false]) rfl rfl rfl zero_37 rfl rfl rfl rfl rfl rfl rfl size_37 rfl (fun w90 b91 x92 z93 => ?_)
      refine p_val (v := .bool false) rfl rfl (x_assign rfl rfl) ?_
      refine p_nil ?_
      refine t_norm ?_
      refine c_seq ?_
      refine c_seq ?_
      refine c_quiet ?_
      refine q_val (v := .int .u8 k) rfl rfl (fun w' x' => x_move rfl rfl) ?_
      refine q_val (v := .int .u8 (k % 5)) rfl rfl (fun w' x' => x_rem rfl rfl rfl (by omega) (rem_of (by omega))) ?_
      refine q_val (v := .bool true) rfl rfl (fun w' x' => yb (x_neq rfl rfl rfl) (by have q := of_decide_eq_false c71; simp [q])) ?_
      refine q_nil (fun w94 x95 => ?_)
      refine t_norm ?_
      refine c_true rfl ?_
      refine c_seq ?_
      refine c_quiet ?_
      refine q_val (v := .bool false) rfl rfl (fun w' x' => x_move rfl rfl) ?_
      refine q_val (v := .bool true) rfl rfl (fun w' x' => x_not (b := false) rfl rfl) ?_
      refine q_val (v := .bool true) rfl rfl (fun w' x' => x_move rfl rfl) ?_
      refine q_val (v := .agg #[.int .i64 0, .int .i64 0, .int .i64 0, .int .i64 0, .int .i64 0, .int .i64 0, .int .i64 0, .int .i64 0, .int .i64 0, .int .i64 0, .int .i64 0, .int .i64 0, .int .i64 0, .slice none 0 0, .slice none 0 0, .bool false, .int .i64 0, .int .i64 0, .int .i64 0, .int .i64 0, .int .i64 0, .int .i64 0, .int .i64 0, .int .i64 0, .bool false]) rfl rfl (fun w' x' => x_load rfl rfl (((b91.ext x95).ext x').agg (vs := [.int .i64 0, .int .i64 0, .int .i64 0, .int .i64 0, .int .i64 0, .int .i64 0, .int .i64 0, .int .i64 0, .int .i64 0, .int .i64 0, .int .i64 0, .int .i64 0, .int .i64 0, .slice none 0 0, .slice none 0 0, .bool false, .int .i64 0, .int .i64 0, .int .i64 0, .int .i64 0, .int .i64 0, .int .i64 0, .int .i64 0, .int .i64 0, .bool false]) agg_37_25 rfl)) ?_
      refine q_val (v := .agg #[.int .i64 0, .int .i64 0, .int .i64 0, .int .i64 0, .int .i64 0, .int .i64 0, .int .i64 0, .int .i64 0, .int .i64 0, .int .i64 0, .int .i64 0, .int .i64 0, .int .i64 0, .slice none 0 0, .slice none 0 0, .bool false, .int .i64 0, .int .i64 0, .int .i64 0, .int .i64 0, .int .i64 0, .int .i64 0, .int .i64 0, .int .i64 0, .bool false]) rfl rfl (fun w' x' => x_build0 zero_37 bld_37 rfl) ?_
      refine q_call (vs := #[.agg #[.int .i64 0, .int .i64 0, .int .i64 0, .int .i64 0, .int .i64 0, .int .i64 0, .int .i64 0, .int .i64 0, .int .i64 0, .int .i64 0, .int .i64 0, .int .i64 0, .int .i64 0, .slice none 0 0, .slice none 0 0, .bool false, .int .i64 0, .int .i64 0, .int .i64 0, .int .i64 0, .int .i64 0, .int .i64 0, .int .i64 0, .int .i64 0, .bool false], .agg #[.int .i64 0, .int .i64 0, .int .i64 0, .int .i64 0, .int .i64 0, .int .i64 0, .int .i64 0, .int .i64 0, .int .i64 0, .int .i64 0, .int .i64 0, .int .i64 0, .int .i64 0, .slice none 0 0, .slice none 0 0, .bool false, .int .i64 0, .int .i64 0, .int .i64 0, .int .i64 0, .int .i64 0, .int .i64 0, .int .i64 0, .int .i64 0, .bool false]]) fn_14 rfl rfl rfl (args2 rfl rfl) (v := .bool true) (fun w' x' => ((decide_eq_true (rfl : (⟨(⟨0, 0⟩ : Inst), 0, (⟨0, 0⟩ : Bal), (⟨0, 0⟩ : Bal), (⟨0, (⟨0, 0⟩ : Txn), (⟨0, 0⟩ : Stp), 0, [], [], false⟩ : Cmd), 0, (⟨0, 0, 0, 0, 0, 0, 0⟩ : Dep), false⟩ : Rec) = (⟨(⟨0, 0⟩ : Inst), 0, (⟨0, 0⟩ : Bal), (⟨0, 0⟩ : Bal), (⟨0, (⟨0, 0⟩ : Txn), (⟨0, 0⟩ : Stp), 0, [], [], false⟩ : Cmd), 0, (⟨0, 0, 0, 0, 0, 0, 0⟩ : Dep), false⟩ : Rec)))) ▸ D_sameRec _ (⟨(⟨0, 0⟩ : Inst), 0, (⟨0, 0⟩ : Bal), (⟨0, 0⟩ : Bal), (⟨0, (⟨0, 0⟩ : Txn), (⟨0, 0⟩ : Stp), 0, [], [], false⟩ : Cmd), 0, (⟨0, 0, 0, 0, 0, 0, 0⟩ : Dep), false⟩ : Rec) (⟨none, 0, none, 0⟩ : Ptr) (CmdAt.nil _ rfl rfl) (⟨(⟨0, 0⟩ : Inst), 0, (⟨0, 0⟩ : Bal), (⟨0, 0⟩ : Bal), (⟨0, (⟨0, 0⟩ : Txn), (⟨0, 0⟩ : Stp), 0, [], [], false⟩ : Cmd), 0, (⟨0, 0, 0, 0, 0, 0, 0⟩ : Dep), false⟩ : Rec) (⟨none, 0, none, 0⟩ : Ptr) (CmdAt.nil _ rfl rfl)) ?_
      refine q_val (v := .bool true) rfl rfl (fun w' x' => x_pick_t rfl rfl rfl) ?_
      refine q_val (v := .bool true) rfl rfl (fun w' x' => x_move rfl rfl) ?_
      refine q_val (v := .nilIface) rfl rfl (fun w' x' => x_move rfl rfl) ?_
      refine q_call (vs := #[.nilIface]) fn_22 rfl rfl rfl (args1 rfl) (v := .bool true) (fun w' x' => panics_yes _ _ (fun w1 => C_mustNo w1 _ (.inl rfl))) ?_
      refine q_val (v := .bool true) rfl rfl (fun w' x' => x_pick_t rfl rfl rfl) ?_
      refine q_val (v := .bool true) rfl rfl (fun w' x' => x_move rfl rfl) ?_
      refine q_call (vs := #[]) fn_8 rfl rfl rfl (args0) (v := .bool true) (fun w' x' => C_awake _) ?_
      refine q_val (v := .bool true) rfl rfl (fun w' x' => x_pick_t rfl rfl rfl) ?_
      refine q_val (v := .bool true) rfl rfl (fun w' x' => x_assign rfl rfl) ?_
      refine q_nil (fun w96 x97 => ?_)
      refine t_norm ?_
      refine c_ret ?_
      refine t_ret ?_
      exact c_done rfl rfl (Ret.b (rfl) ((((((((((((x3.trans x7).trans x10).trans x17).trans x19).trans x36).trans x53).trans x70).trans x87).trans x89).trans x92).trans x95).trans x97))

end Go.Proofs.Ytibhkdomoknnfaa
