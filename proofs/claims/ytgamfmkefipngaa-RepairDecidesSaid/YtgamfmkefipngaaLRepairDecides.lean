/- A walk through the code of layers below, or of layer 13. -/
import Derived.Test.YtgamfmkefipngaaRep
import Derived.Test.YtgamfmkefipngaaDrs
import Derived.Test.YtgamfmkefipngaaPan
import Derived.Test.YtgamfmkefipngaaB7
namespace Go.Proofs.Ytgamfmkefipngaa
open Go.RowKit Go.Eng
set_option linter.unusedVariables false
set_option linter.unusedSimpArgs false
set_option maxHeartbeats 4000000 in
theorem C_RepairDecides (w : World) (f : Int) (i : Inst) (A : Option Addr) (c : Nat) (l : List Vt) (hR : Vt0 w A l) :
    Calls Try.prog 3 #[.int .i64 f, vInst i, .slice A l.length c] w (Ret w (.bool true)) := by
 refine c_enter (n := 53) Try.func3 rfl rfl rfl ?_
 refine c_seq (c_plain (p_box rfl rfl rfl rfl (fun w1 b2 x3 z4 => ?_)))
 refine pv (.bool false) (x_assign rfl rfl) ?_
 refine p_nil (t_norm (c_seq (c_seq (c_quiet (qv (.slice A l.length c) (fun _ x' => x_move rfl rfl) ?_)))))
 refine q_callb (b := fewV l) (vs := #[.slice A l.length c]) fn_8 rfl rfl rfl (args1 rfl) (fun _ x' => C_fewV _ A c l ((hR.ext x3).ext x')) (fun c5 => ?_) (fun c5 => ?_)
 ·have hV := hR.few c5
  refine qv (.bool false) (fun _ x' => x_not (b := true) rfl rfl) ?_
  refine q_nil (fun w6 x7 => t_norm (c_false rfl (c_skip (t_norm (c_seq (c_held mixed (by kernel_rfl) (fun _ _ _ _ _ h => h) (fun v1 v2 => Ext v1 v2) 9 11 rfl (fun w8 x9 z10 => ?_)))))))
  refine h_take (v := iJ f) (i := 0) (d := 16) (L' := [true, false, false, false, false, false, false, false, false, false, false]) rfl (by kernel_rfl) rfl (by kernel_rfl) rfl rfl (Ext.refl _) (fun _ s' => x_move rfl rfl) ?_
  refine h_take (v := vInst i) (i := 1) (d := 17) (L' := [true, true, false, false, false, false, false, false, false, false, false]) rfl (by kernel_rfl) rfl (by kernel_rfl) rfl rfl (Ext.refl _) (fun _ s' => x_load rfl rfl ((((b2.ext x7).ext x9).ext s').agg (vs := [iJ i.replica, iJ i.slot]) agg_23_2 rfl)) ?_
  refine h_take (v := .slice A l.length c) (i := 2) (d := 18) (L' := [true, true, true, false, false, false, false, false, false, false, false]) rfl (by kernel_rfl) rfl (by kernel_rfl) rfl rfl (Ext.refl _) (fun _ s' => x_move rfl rfl) ?_
  refine h_act2 (i := 3) (j := 8) (L' := [true, true, true, true, false, false, false, false, false, false, false]) (L'' := [true, true, true, false, false, false, false, false, true, false, false]) (by kernel_rfl) rfl rfl rfl rfl ?_ ?_
  ·refine p_call (vs := #[.slice A l.length c]) fn_11 rfl rfl rfl (args1 rfl) ?_
   refine (C_given _ A c l (((hV.ext x3).ext x7).ext x9)).mono ?_
   rintro e w11 ⟨A12, c13, rfl, hV14, x15⟩
   refine ⟨_, rfl, ?_⟩
   refine h_nextG (i := 3) (fun _ _ => x15) ?_
   refine h_act2 (i := 4) (j := 8) (L' := [true, true, true, true, true, false, false, false, false, false, false]) (L'' := [true, true, true, true, false, false, false, false, true, false, false]) (by kernel_rfl) rfl rfl rfl rfl ?_ ?_
   ·refine p_call (vs := #[iJ f, vInst i, .slice A12 l.length c13]) fn_10 rfl rfl rfl (args3 rfl rfl rfl) ?_
    refine (C_decide _ f i A12 c13 l hV14).mono ?_
    rintro e w16 ⟨p17, rfl, hc18, x19, fa20, fb21⟩
    refine ⟨_, rfl, ?_⟩
    refine h_nextG (i := 4) (fun _ _ => (x15.trans x19)) ?_
    refine h_take (v := .tuple #[vRec ((decR f i l).1) p17, iJ ((decR f i l).2)]) (i := 5) (d := 15) (L' := [true, true, true, true, true, true, false, false, false, false, false]) rfl (by kernel_rfl) rfl (by kernel_rfl) rfl rfl (x15.trans x19) (fun _ s' => x_move rfl rfl) ?_
    refine h_take (v := vRec ((decR f i l).1) p17) (i := 6) (d := 21) (L' := [true, true, true, true, true, true, true, false, false, false, false]) rfl (by kernel_rfl) rfl (by kernel_rfl) rfl rfl (x15.trans x19) (fun _ s' => x_extract rfl rfl rfl) ?_
    refine h_act2 (i := 7) (j := 8) (L' := [true, true, true, true, true, true, true, true, false, false, false]) (L'' := [true, true, true, true, true, true, true, false, true, false, false]) (by kernel_rfl) rfl rfl rfl rfl ?_ ?_
    ·refine pv (iJ ((decR f i l).2)) (x_extract rfl rfl rfl) ?_
     refine h_nextG (i := 7) (fun _ _ => (x15.trans x19)) ?_
     refine h_act1 (i := 8) (L' := [true, true, true, true, true, true, true, true, true, false, false]) (by kernel_rfl) rfl rfl ?_
     refine p_alloc (cs := [iJ 0, iJ 0, iJ 0, iJ 0, iJ 0, iJ 0, iJ 0, iJ 0, iJ 0, iJ 0, iJ 0, iJ 0, iJ 0, .slice none 0 0, .slice none 0 0, .bool false, iJ 0, iJ 0, iJ 0, iJ 0, iJ 0, iJ 0, iJ 0, iJ 0, .bool false]) rfl rfl rfl zero_40 rfl (fun w22 b23 x24 z25 => ?_)
     refine h_nextG (i := 8) (fun _ _ => ((x15.trans x19).trans x24)) ?_
     refine h_act1 (i := 9) (L' := [true, true, true, true, true, true, true, true, true, true, false]) (by kernel_rfl) rfl rfl ?_
     refine p_store (v := vRec ((decR f i l).1) p17) (vs := [iJ ((decR f i l).1.inst.replica), iJ ((decR f i l).1.inst.slot), iJ ((decR f i l).1.status), iJ ((decR f i l).1.promise.number), iJ ((decR f i l).1.promise.replica), iJ ((decR f i l).1.ballot.number), iJ ((decR f i l).1.ballot.replica), iJ ((decR f i l).1.cmd.kind), iJ ((decR f i l).1.cmd.txn.client), iJ ((decR f i l).1.cmd.txn.number), iJ ((decR f i l).1.cmd.stp.time), iJ ((decR f i l).1.cmd.stp.client), iJ ((decR f i l).1.cmd.shards), .slice p17.A ((decR f i l).1.cmd.reads.length) p17.n, .slice p17.B ((decR f i l).1.cmd.writes.length) p17.m, .bool ((decR f i l).1.cmd.commit), iJ ((decR f i l).1.seq), iJ ((decR f i l).1.deps.d0), iJ ((decR f i l).1.deps.d1), iJ ((decR f i l).1.deps.d2), iJ ((decR f i l).1.deps.d3), iJ ((decR f i l).1.deps.d4), iJ ((decR f i l).1.deps.d5), iJ ((decR f i l).1.deps.d6), .bool ((decR f i l).1.kept)]) (cs' := [iJ ((decR f i l).1.inst.replica), iJ ((decR f i l).1.inst.slot), iJ ((decR f i l).1.status), iJ ((decR f i l).1.promise.number), iJ ((decR f i l).1.promise.replica), iJ ((decR f i l).1.ballot.number), iJ ((decR f i l).1.ballot.replica), iJ ((decR f i l).1.cmd.kind), iJ ((decR f i l).1.cmd.txn.client), iJ ((decR f i l).1.cmd.txn.number), iJ ((decR f i l).1.cmd.stp.time), iJ ((decR f i l).1.cmd.stp.client), iJ ((decR f i l).1.cmd.shards), .slice p17.A ((decR f i l).1.cmd.reads.length) p17.n, .slice p17.B ((decR f i l).1.cmd.writes.length) p17.m, .bool ((decR f i l).1.cmd.commit), iJ ((decR f i l).1.seq), iJ ((decR f i l).1.deps.d0), iJ ((decR f i l).1.deps.d1), iJ ((decR f i l).1.deps.d2), iJ ((decR f i l).1.deps.d3), iJ ((decR f i l).1.deps.d4), iJ ((decR f i l).1.deps.d5), iJ ((decR f i l).1.deps.d6), .bool ((decR f i l).1.kept)]) rfl rfl rfl rfl rfl rfl b23 size_40 rfl rfl rfl (fun w26 b27 s28 => ?_)
     refine h_nextG (i := 9) (fun h => absurd rfl h) ?_
     refine h_act1 (i := 10) (L' := [true, true, true, true, true, true, true, true, true, true, true]) (by kernel_rfl) rfl rfl ?_
     refine pv (iJ ((decR f i l).2)) (x_assign rfl rfl) ?_
     refine h_nextG (i := 10) (fun _ h => by cases h) ?_
     refine h_end (by kernel_rfl) ?_
     refine t_norm (c_seq (c_plain (pv (iJ f) (x_move rfl rfl) ?_)))
     refine pv (vInst i) (x_load rfl rfl ((b2.ext (((((x7.trans x9).trans x15).trans x19).trans x24).stored (((x7.trans x9).trans x15).trans x19).size s28)).agg (vs := [iJ i.replica, iJ i.slot]) agg_23_2 rfl)) ?_
     refine pv (.slice A l.length c) (x_move rfl rfl) ?_
     refine p_call (vs := #[iJ f, vInst i, .slice A l.length c]) fn_12 rfl rfl rfl (args3 rfl rfl rfl) ?_
     refine (D_decide _ f i A c l (hV.ext ((((((x3.trans x7).trans x9).trans x15).trans x19).trans x24).stored ((((x3.trans x7).trans x9).trans x15).trans x19).size s28))).mono ?_
     rintro e w29 ⟨p30, rfl, hc31, x32⟩
     refine ⟨_, rfl, ?_⟩
     refine pv (.tuple #[vRec ((decR f i l).1) p30, iJ ((decR f i l).2)]) (x_move rfl rfl) ?_
     refine pv (vRec ((decR f i l).1) p30) (x_extract rfl rfl rfl) ?_
     refine pv (iJ ((decR f i l).2)) (x_extract rfl rfl rfl) ?_
     refine p_var (v := vRec ((decR f i l).1) p30) (vs := [iJ ((decR f i l).1.inst.replica), iJ ((decR f i l).1.inst.slot), iJ ((decR f i l).1.status), iJ ((decR f i l).1.promise.number), iJ ((decR f i l).1.promise.replica), iJ ((decR f i l).1.ballot.number), iJ ((decR f i l).1.ballot.replica), iJ ((decR f i l).1.cmd.kind), iJ ((decR f i l).1.cmd.txn.client), iJ ((decR f i l).1.cmd.txn.number), iJ ((decR f i l).1.cmd.stp.time), iJ ((decR f i l).1.cmd.stp.client), iJ ((decR f i l).1.cmd.shards), .slice p30.A ((decR f i l).1.cmd.reads.length) p30.n, .slice p30.B ((decR f i l).1.cmd.writes.length) p30.m, .bool ((decR f i l).1.cmd.commit), iJ ((decR f i l).1.seq), iJ ((decR f i l).1.deps.d0), iJ ((decR f i l).1.deps.d1), iJ ((decR f i l).1.deps.d2), iJ ((decR f i l).1.deps.d3), iJ ((decR f i l).1.deps.d4), iJ ((decR f i l).1.deps.d5), iJ ((decR f i l).1.deps.d6), .bool ((decR f i l).1.kept)]) rfl rfl rfl zero_40 rfl rfl rfl rfl rfl rfl rfl size_40 rfl (fun w35 b36 x37 z38 => ?_)
     refine pv (iJ ((decR f i l).2)) (x_assign rfl rfl) ?_
     refine p_nil (t_norm (c_seq (c_meet (fun ρ w39 => ρ 6 = .bool true ∧ Ext w35 w39) ?_ ?_)))
     ·refine c_drawn mixed (by kernel_rfl) (fun _ _ _ _ _ h => h) (fun v1 v2 => Ext v1 v2) 24 rfl (fun w42 x43 z44 => ?_)
      refine d_take (v := .agg #[iJ ((decR f i l).1.inst.replica), iJ ((decR f i l).1.inst.slot), iJ ((decR f i l).1.status), iJ ((decR f i l).1.promise.number), iJ ((decR f i l).1.promise.replica), iJ ((decR f i l).1.ballot.number), iJ ((decR f i l).1.ballot.replica), iJ ((decR f i l).1.cmd.kind), iJ ((decR f i l).1.cmd.txn.client), iJ ((decR f i l).1.cmd.txn.number), iJ ((decR f i l).1.cmd.stp.time), iJ ((decR f i l).1.cmd.stp.client), iJ ((decR f i l).1.cmd.shards), .slice p17.A ((decR f i l).1.cmd.reads.length) p17.n, .slice p17.B ((decR f i l).1.cmd.writes.length) p17.m, .bool ((decR f i l).1.cmd.commit), iJ ((decR f i l).1.seq), iJ ((decR f i l).1.deps.d0), iJ ((decR f i l).1.deps.d1), iJ ((decR f i l).1.deps.d2), iJ ((decR f i l).1.deps.d3), iJ ((decR f i l).1.deps.d4), iJ ((decR f i l).1.deps.d5), iJ ((decR f i l).1.deps.d6), .bool ((decR f i l).1.kept)]) (i := 0) (d := 30) (L' := [true, false, false, false, false, false, false, false, false, false, false, false, false, false, false, false, false, false, false, false, false, false, false, false]) rfl (by kernel_rfl) rfl (Ext.refl _) (fun _ s' => x_load rfl rfl (((((b27.ext x32).ext x37).ext x43).ext s').agg (vs := [iJ ((decR f i l).1.inst.replica), iJ ((decR f i l).1.inst.slot), iJ ((decR f i l).1.status), iJ ((decR f i l).1.promise.number), iJ ((decR f i l).1.promise.replica), iJ ((decR f i l).1.ballot.number), iJ ((decR f i l).1.ballot.replica), iJ ((decR f i l).1.cmd.kind), iJ ((decR f i l).1.cmd.txn.client), iJ ((decR f i l).1.cmd.txn.number), iJ ((decR f i l).1.cmd.stp.time), iJ ((decR f i l).1.cmd.stp.client), iJ ((decR f i l).1.cmd.shards), .slice p17.A ((decR f i l).1.cmd.reads.length) p17.n, .slice p17.B ((decR f i l).1.cmd.writes.length) p17.m, .bool ((decR f i l).1.cmd.commit), iJ ((decR f i l).1.seq), iJ ((decR f i l).1.deps.d0), iJ ((decR f i l).1.deps.d1), iJ ((decR f i l).1.deps.d2), iJ ((decR f i l).1.deps.d3), iJ ((decR f i l).1.deps.d4), iJ ((decR f i l).1.deps.d5), iJ ((decR f i l).1.deps.d6), .bool ((decR f i l).1.kept)]) agg_40_25 rfl)) ?_
      refine d_take (v := vRec ((decR f i l).1) p30) (i := 1) (d := 31) (L' := [true, true, false, false, false, false, false, false, false, false, false, false, false, false, false, false, false, false, false, false, false, false, false, false]) rfl (by kernel_rfl) rfl (Ext.refl _) (fun _ s' => x_load rfl rfl (((b36.ext x43).ext s').agg (vs := [iJ ((decR f i l).1.inst.replica), iJ ((decR f i l).1.inst.slot), iJ ((decR f i l).1.status), iJ ((decR f i l).1.promise.number), iJ ((decR f i l).1.promise.replica), iJ ((decR f i l).1.ballot.number), iJ ((decR f i l).1.ballot.replica), iJ ((decR f i l).1.cmd.kind), iJ ((decR f i l).1.cmd.txn.client), iJ ((decR f i l).1.cmd.txn.number), iJ ((decR f i l).1.cmd.stp.time), iJ ((decR f i l).1.cmd.stp.client), iJ ((decR f i l).1.cmd.shards), .slice p30.A ((decR f i l).1.cmd.reads.length) p30.n, .slice p30.B ((decR f i l).1.cmd.writes.length) p30.m, .bool ((decR f i l).1.cmd.commit), iJ ((decR f i l).1.seq), iJ ((decR f i l).1.deps.d0), iJ ((decR f i l).1.deps.d1), iJ ((decR f i l).1.deps.d2), iJ ((decR f i l).1.deps.d3), iJ ((decR f i l).1.deps.d4), iJ ((decR f i l).1.deps.d5), iJ ((decR f i l).1.deps.d6), .bool ((decR f i l).1.kept)]) agg_40_25 rfl)) ?_
      refine d_act1 (i := 2) (L' := [true, true, true, false, false, false, false, false, false, false, false, false, false, false, false, false, false, false, false, false, false, false, false, false]) (by kernel_rfl) rfl rfl ?_
      refine p_call (vs := #[.agg #[iJ ((decR f i l).1.inst.replica), iJ ((decR f i l).1.inst.slot), iJ ((decR f i l).1.status), iJ ((decR f i l).1.promise.number), iJ ((decR f i l).1.promise.replica), iJ ((decR f i l).1.ballot.number), iJ ((decR f i l).1.ballot.replica), iJ ((decR f i l).1.cmd.kind), iJ ((decR f i l).1.cmd.txn.client), iJ ((decR f i l).1.cmd.txn.number), iJ ((decR f i l).1.cmd.stp.time), iJ ((decR f i l).1.cmd.stp.client), iJ ((decR f i l).1.cmd.shards), .slice p17.A ((decR f i l).1.cmd.reads.length) p17.n, .slice p17.B ((decR f i l).1.cmd.writes.length) p17.m, .bool ((decR f i l).1.cmd.commit), iJ ((decR f i l).1.seq), iJ ((decR f i l).1.deps.d0), iJ ((decR f i l).1.deps.d1), iJ ((decR f i l).1.deps.d2), iJ ((decR f i l).1.deps.d3), iJ ((decR f i l).1.deps.d4), iJ ((decR f i l).1.deps.d5), iJ ((decR f i l).1.deps.d6), .bool ((decR f i l).1.kept)], vRec ((decR f i l).1) p30]) fn_13 rfl rfl rfl (args2 rfl rfl) ?_
      refine (Calls.asBool (decide_eq_true (rfl : (decR f i l).1 = (decR f i l).1)) (D_sameRec _ ((decR f i l).1) p17 (hc18.ext ((((x24.stored (Nat.le_refl _) s28).trans x32).trans x37).trans x43)) ((decR f i l).1) p30 ((hc31.ext x37).ext x43))).mono ?_
      rintro e w45 ⟨rfl, x46⟩
      refine ⟨_, rfl, ?_⟩
      refine d_next x46 ?_
      refine d_take (v := .bool true) (i := 3) (d := 33) (L' := [true, true, true, true, false, false, false, false, false, false, false, false, false, false, false, false, false, false, false, false, false, false, false, false]) rfl (by kernel_rfl) rfl x46 (fun _ s' => x_move rfl rfl) ?_
      refine d_take (v := iJ ((decR f i l).2)) (i := 4) (d := 34) (L' := [true, true, true, true, true, false, false, false, false, false, false, false, false, false, false, false, false, false, false, false, false, false, false, false]) rfl (by kernel_rfl) rfl x46 (fun _ s' => x_move rfl rfl) ?_
      refine d_take (v := iJ ((decR f i l).2)) (i := 5) (d := 35) (L' := [true, true, true, true, true, true, false, false, false, false, false, false, false, false, false, false, false, false, false, false, false, false, false, false]) rfl (by kernel_rfl) rfl x46 (fun _ s' => x_move rfl rfl) ?_
      refine d_take (v := .bool true) (i := 6) (d := 36) (L' := [true, true, true, true, true, true, true, false, false, false, false, false, false, false, false, false, false, false, false, false, false, false, false, false]) rfl (by kernel_rfl) rfl x46 (fun _ s' => yb (x_eql rfl rfl rfl) (by simp)) ?_
      refine d_take (v := .bool true) (i := 7) (d := 37) (L' := [true, true, true, true, true, true, true, true, false, false, false, false, false, false, false, false, false, false, false, false, false, false, false, false]) rfl (by kernel_rfl) rfl x46 (fun _ s' => x_pick_t rfl rfl rfl) ?_
      refine d_take (v := .bool true) (i := 8) (d := 38) (L' := [true, true, true, true, true, true, true, true, true, false, false, false, false, false, false, false, false, false, false, false, false, false, false, false]) rfl (by kernel_rfl) rfl x46 (fun _ s' => x_move rfl rfl) ?_
      refine d_take (v := iJ f) (i := 9) (d := 39) (L' := [true, true, true, true, true, true, true, true, true, true, false, false, false, false, false, false, false, false, false, false, false, false, false, false]) rfl (by kernel_rfl) rfl x46 (fun _ s' => x_move rfl rfl) ?_
      refine d_take (v := vInst i) (i := 10) (d := 40) (L' := [true, true, true, true, true, true, true, true, true, true, true, false, false, false, false, false, false, false, false, false, false, false, false, false]) rfl (by kernel_rfl) rfl x46 (fun _ s' => x_load rfl rfl ((b2.ext (((((((((x7.trans x9).trans x15).trans x19).trans x24).stored (((x7.trans x9).trans x15).trans x19).size s28).trans x32).trans x37).trans x43).trans s')).agg (vs := [iJ i.replica, iJ i.slot]) agg_23_2 rfl)) ?_
      refine d_take (v := .slice A l.length c) (i := 11) (d := 41) (L' := [true, true, true, true, true, true, true, true, true, true, true, true, false, false, false, false, false, false, false, false, false, false, false, false]) rfl (by kernel_rfl) rfl x46 (fun _ s' => x_move rfl rfl) ?_
      refine d_take (v := iJ f) (i := 14) (d := 44) (L' := [true, true, true, true, true, true, true, true, true, true, true, true, false, false, true, false, false, false, false, false, false, false, false, false]) rfl (by kernel_rfl) rfl x46 (fun _ s' => x_move rfl rfl) ?_
      refine d_take (v := vInst i) (i := 15) (d := 45) (L' := [true, true, true, true, true, true, true, true, true, true, true, true, false, false, true, true, false, false, false, false, false, false, false, false]) rfl (by kernel_rfl) rfl x46 (fun _ s' => x_load rfl rfl ((b2.ext (((((((((x7.trans x9).trans x15).trans x19).trans x24).stored (((x7.trans x9).trans x15).trans x19).size s28).trans x32).trans x37).trans x43).trans s')).agg (vs := [iJ i.replica, iJ i.slot]) agg_23_2 rfl)) ?_
      refine d_take (v := .slice A l.length c) (i := 16) (d := 46) (L' := [true, true, true, true, true, true, true, true, true, true, true, true, false, false, true, true, true, false, false, false, false, false, false, false]) rfl (by kernel_rfl) rfl x46 (fun _ s' => x_move rfl rfl) ?_
      refine d_act1 (i := 12) (L' := [true, true, true, true, true, true, true, true, true, true, true, true, true, false, true, true, true, false, false, false, false, false, false, false]) (by kernel_rfl) rfl rfl ?_
      refine p_call (vs := #[.slice A l.length c]) fn_11 rfl rfl rfl (args1 rfl) ?_
      refine (C_given _ A c l (hV.ext ((((((((((x3.trans x7).trans x9).trans x15).trans x19).trans x24).stored ((((x3.trans x7).trans x9).trans x15).trans x19).size s28).trans x32).trans x37).trans x43).trans x46))).mono ?_
      rintro e w47 ⟨A48, c49, rfl, hV50, x51⟩
      refine ⟨_, rfl, ?_⟩
      refine d_next (x46.trans x51) ?_
      refine d_act1 (i := 13) (L' := [true, true, true, true, true, true, true, true, true, true, true, true, true, true, true, true, true, false, false, false, false, false, false, false]) (by kernel_rfl) rfl rfl ?_
      refine p_call (vs := #[iJ f, vInst i, .slice A48 l.length c49]) fn_14 rfl rfl rfl (args3 rfl rfl rfl) ?_
      refine (C_fast _ f i A48 c49 l hV50).mono ?_
      rintro e w52 ⟨rfl, x53⟩
      refine ⟨_, rfl, ?_⟩
      cases c54 : fastR f i (counted l)
      case false =>
       refine d_next ((x46.trans x51).trans x53) ?_
       refine d_act1 (i := 17) (L' := [true, true, true, true, true, true, true, true, true, true, true, true, true, true, true, true, true, true, false, false, false, false, false, false]) (by kernel_rfl) rfl rfl ?_
       refine p_call (vs := #[iJ f, vInst i, .slice A l.length c]) fn_15 rfl rfl rfl (args3 rfl rfl rfl) ?_
       refine (Calls.asBool c54 (D_fast _ f i A c l (hV.ext ((((((((((((x3.trans x7).trans x9).trans x15).trans x19).trans x24).stored ((((x3.trans x7).trans x9).trans x15).trans x19).size s28).trans x32).trans x37).trans x43).trans x46).trans x51).trans x53)))).mono ?_
       rintro e w55 ⟨rfl, x56⟩
       refine ⟨_, rfl, ?_⟩
       refine d_next (((x46.trans x51).trans x53).trans x56) ?_
       refine d_take (v := .bool true) (i := 18) (d := 48) (L' := [true, true, true, true, true, true, true, true, true, true, true, true, true, true, true, true, true, true, true, false, false, false, false, false]) rfl (by kernel_rfl) rfl (((x46.trans x51).trans x53).trans x56) (fun _ s' => yb (x_beql (a := false) (b := false) bool_4 rfl rfl rfl) rfl) ?_
       refine d_take (v := .bool true) (i := 19) (d := 49) (L' := [true, true, true, true, true, true, true, true, true, true, true, true, true, true, true, true, true, true, true, true, false, false, false, false]) rfl (by kernel_rfl) rfl (((x46.trans x51).trans x53).trans x56) (fun _ s' => x_pick_t rfl rfl rfl) ?_
       refine d_take (v := .bool true) (i := 20) (d := 50) (L' := [true, true, true, true, true, true, true, true, true, true, true, true, true, true, true, true, true, true, true, true, true, false, false, false]) rfl (by kernel_rfl) rfl (((x46.trans x51).trans x53).trans x56) (fun _ s' => x_move rfl rfl) ?_
       refine d_act1 (i := 21) (L' := [true, true, true, true, true, true, true, true, true, true, true, true, true, true, true, true, true, true, true, true, true, true, false, false]) (by kernel_rfl) rfl rfl ?_
       refine p_call (vs := #[]) fn_9 rfl rfl rfl (args0) ?_
       refine (C_awake _).mono ?_
       rintro e w57 ⟨rfl, x58⟩
       refine ⟨_, rfl, ?_⟩
       refine d_next ((((x46.trans x51).trans x53).trans x56).trans x58) ?_
       refine d_take (v := .bool true) (i := 22) (d := 52) (L' := [true, true, true, true, true, true, true, true, true, true, true, true, true, true, true, true, true, true, true, true, true, true, true, false]) rfl (by kernel_rfl) rfl ((((x46.trans x51).trans x53).trans x56).trans x58) (fun _ s' => x_pick_t rfl rfl rfl) ?_
       refine d_take (v := .bool true) (i := 23) (d := 6) (L' := [true, true, true, true, true, true, true, true, true, true, true, true, true, true, true, true, true, true, true, true, true, true, true, true]) rfl (by kernel_rfl) rfl ((((x46.trans x51).trans x53).trans x56).trans x58) (fun _ s' => x_assign rfl rfl) ?_
       refine d_end (by kernel_rfl) ?_
       exact t_norm ⟨_, rfl, rfl, (((((x43.trans x46).trans x51).trans x53).trans x56).trans x58)⟩
      refine d_next ((x46.trans x51).trans x53) ?_
      refine d_act1 (i := 17) (L' := [true, true, true, true, true, true, true, true, true, true, true, true, true, true, true, true, true, true, false, false, false, false, false, false]) (by kernel_rfl) rfl rfl ?_
      refine p_call (vs := #[iJ f, vInst i, .slice A l.length c]) fn_15 rfl rfl rfl (args3 rfl rfl rfl) ?_
      refine (Calls.asBool c54 (D_fast _ f i A c l (hV.ext ((((((((((((x3.trans x7).trans x9).trans x15).trans x19).trans x24).stored ((((x3.trans x7).trans x9).trans x15).trans x19).size s28).trans x32).trans x37).trans x43).trans x46).trans x51).trans x53)))).mono ?_
      rintro e w59 ⟨rfl, x60⟩
      refine ⟨_, rfl, ?_⟩
      refine d_next (((x46.trans x51).trans x53).trans x60) ?_
      refine d_take (v := .bool true) (i := 18) (d := 48) (L' := [true, true, true, true, true, true, true, true, true, true, true, true, true, true, true, true, true, true, true, false, false, false, false, false]) rfl (by kernel_rfl) rfl (((x46.trans x51).trans x53).trans x60) (fun _ s' => yb (x_beql (a := true) (b := true) bool_4 rfl rfl rfl) rfl) ?_
      refine d_take (v := .bool true) (i := 19) (d := 49) (L' := [true, true, true, true, true, true, true, true, true, true, true, true, true, true, true, true, true, true, true, true, false, false, false, false]) rfl (by kernel_rfl) rfl (((x46.trans x51).trans x53).trans x60) (fun _ s' => x_pick_t rfl rfl rfl) ?_
      refine d_take (v := .bool true) (i := 20) (d := 50) (L' := [true, true, true, true, true, true, true, true, true, true, true, true, true, true, true, true, true, true, true, true, true, false, false, false]) rfl (by kernel_rfl) rfl (((x46.trans x51).trans x53).trans x60) (fun _ s' => x_move rfl rfl) ?_
      refine d_act1 (i := 21) (L' := [true, true, true, true, true, true, true, true, true, true, true, true, true, true, true, true, true, true, true, true, true, true, false, false]) (by kernel_rfl) rfl rfl ?_
      refine p_call (vs := #[]) fn_9 rfl rfl rfl (args0) ?_
      refine (C_awake _).mono ?_
      rintro e w61 ⟨rfl, x62⟩
      refine ⟨_, rfl, ?_⟩
      refine d_next ((((x46.trans x51).trans x53).trans x60).trans x62) ?_
      refine d_take (v := .bool true) (i := 22) (d := 52) (L' := [true, true, true, true, true, true, true, true, true, true, true, true, true, true, true, true, true, true, true, true, true, true, true, false]) rfl (by kernel_rfl) rfl ((((x46.trans x51).trans x53).trans x60).trans x62) (fun _ s' => x_pick_t rfl rfl rfl) ?_
      refine d_take (v := .bool true) (i := 23) (d := 6) (L' := [true, true, true, true, true, true, true, true, true, true, true, true, true, true, true, true, true, true, true, true, true, true, true, true]) rfl (by kernel_rfl) rfl ((((x46.trans x51).trans x53).trans x60).trans x62) (fun _ s' => x_assign rfl rfl) ?_
      refine d_end (by kernel_rfl) ?_
      exact t_norm ⟨_, rfl, rfl, (((((x43.trans x46).trans x51).trans x53).trans x60).trans x62)⟩
     rintro ρ w39 ⟨e40, kp41⟩
     exact t_norm (c_ret (c_done rfl e40 (Ret.b (rfl) (((((((((x3.trans x7).trans x9).trans x15).trans x19).trans x24).stored ((((x3.trans x7).trans x9).trans x15).trans x19).size s28).trans x32).trans x37).trans kp41))))
    refine p_alloc (cs := [iJ 0, iJ 0, iJ 0, iJ 0, iJ 0, iJ 0, iJ 0, iJ 0, iJ 0, iJ 0, iJ 0, iJ 0, iJ 0, .slice none 0 0, .slice none 0 0, .bool false, iJ 0, iJ 0, iJ 0, iJ 0, iJ 0, iJ 0, iJ 0, iJ 0, .bool false]) rfl rfl rfl zero_40 rfl (fun w63 b64 x65 z66 => ?_)
    refine h_nextG (i := 8) (fun _ _ => ((x15.trans x19).trans x65)) ?_
    refine h_act2 (i := 7) (j := 9) (L' := [true, true, true, true, true, true, true, true, true, false, false]) (L'' := [true, true, true, true, true, true, true, false, true, true, false]) (by kernel_rfl) rfl rfl rfl rfl ?_ ?_
    ·refine pv (iJ ((decR f i l).2)) (x_extract rfl rfl rfl) ?_
     refine h_nextG (i := 7) (fun _ _ => ((x15.trans x19).trans x65)) ?_
     refine h_act1 (i := 9) (L' := [true, true, true, true, true, true, true, true, true, true, false]) (by kernel_rfl) rfl rfl ?_
     refine p_store (v := vRec ((decR f i l).1) p17) (vs := [iJ ((decR f i l).1.inst.replica), iJ ((decR f i l).1.inst.slot), iJ ((decR f i l).1.status), iJ ((decR f i l).1.promise.number), iJ ((decR f i l).1.promise.replica), iJ ((decR f i l).1.ballot.number), iJ ((decR f i l).1.ballot.replica), iJ ((decR f i l).1.cmd.kind), iJ ((decR f i l).1.cmd.txn.client), iJ ((decR f i l).1.cmd.txn.number), iJ ((decR f i l).1.cmd.stp.time), iJ ((decR f i l).1.cmd.stp.client), iJ ((decR f i l).1.cmd.shards), .slice p17.A ((decR f i l).1.cmd.reads.length) p17.n, .slice p17.B ((decR f i l).1.cmd.writes.length) p17.m, .bool ((decR f i l).1.cmd.commit), iJ ((decR f i l).1.seq), iJ ((decR f i l).1.deps.d0), iJ ((decR f i l).1.deps.d1), iJ ((decR f i l).1.deps.d2), iJ ((decR f i l).1.deps.d3), iJ ((decR f i l).1.deps.d4), iJ ((decR f i l).1.deps.d5), iJ ((decR f i l).1.deps.d6), .bool ((decR f i l).1.kept)]) (cs' := [iJ ((decR f i l).1.inst.replica), iJ ((decR f i l).1.inst.slot), iJ ((decR f i l).1.status), iJ ((decR f i l).1.promise.number), iJ ((decR f i l).1.promise.replica), iJ ((decR f i l).1.ballot.number), iJ ((decR f i l).1.ballot.replica), iJ ((decR f i l).1.cmd.kind), iJ ((decR f i l).1.cmd.txn.client), iJ ((decR f i l).1.cmd.txn.number), iJ ((decR f i l).1.cmd.stp.time), iJ ((decR f i l).1.cmd.stp.client), iJ ((decR f i l).1.cmd.shards), .slice p17.A ((decR f i l).1.cmd.reads.length) p17.n, .slice p17.B ((decR f i l).1.cmd.writes.length) p17.m, .bool ((decR f i l).1.cmd.commit), iJ ((decR f i l).1.seq), iJ ((decR f i l).1.deps.d0), iJ ((decR f i l).1.deps.d1), iJ ((decR f i l).1.deps.d2), iJ ((decR f i l).1.deps.d3), iJ ((decR f i l).1.deps.d4), iJ ((decR f i l).1.deps.d5), iJ ((decR f i l).1.deps.d6), .bool ((decR f i l).1.kept)]) rfl rfl rfl rfl rfl rfl b64 size_40 rfl rfl rfl (fun w67 b68 s69 => ?_)
     refine h_nextG (i := 9) (fun h => absurd rfl h) ?_
     refine h_act1 (i := 10) (L' := [true, true, true, true, true, true, true, true, true, true, true]) (by kernel_rfl) rfl rfl ?_
     refine pv (iJ ((decR f i l).2)) (x_assign rfl rfl) ?_
     refine h_nextG (i := 10) (fun _ h => by cases h) ?_
     refine h_end (by kernel_rfl) ?_
     refine t_norm (c_seq (c_plain (pv (iJ f) (x_move rfl rfl) ?_)))
     refine pv (vInst i) (x_load rfl rfl ((b2.ext (((((x7.trans x9).trans x15).trans x19).trans x65).stored (((x7.trans x9).trans x15).trans x19).size s69)).agg (vs := [iJ i.replica, iJ i.slot]) agg_23_2 rfl)) ?_
     refine pv (.slice A l.length c) (x_move rfl rfl) ?_
     refine p_call (vs := #[iJ f, vInst i, .slice A l.length c]) fn_12 rfl rfl rfl (args3 rfl rfl rfl) ?_
     refine (D_decide _ f i A c l (hV.ext ((((((x3.trans x7).trans x9).trans x15).trans x19).trans x65).stored ((((x3.trans x7).trans x9).trans x15).trans x19).size s69))).mono ?_
     rintro e w70 ⟨p71, rfl, hc72, x73⟩
     refine ⟨_, rfl, ?_⟩
     refine pv (.tuple #[vRec ((decR f i l).1) p71, iJ ((decR f i l).2)]) (x_move rfl rfl) ?_
     refine pv (vRec ((decR f i l).1) p71) (x_extract rfl rfl rfl) ?_
     refine pv (iJ ((decR f i l).2)) (x_extract rfl rfl rfl) ?_
     refine p_var (v := vRec ((decR f i l).1) p71) (vs := [iJ ((decR f i l).1.inst.replica), iJ ((decR f i l).1.inst.slot), iJ ((decR f i l).1.status), iJ ((decR f i l).1.promise.number), iJ ((decR f i l).1.promise.replica), iJ ((decR f i l).1.ballot.number), iJ ((decR f i l).1.ballot.replica), iJ ((decR f i l).1.cmd.kind), iJ ((decR f i l).1.cmd.txn.client), iJ ((decR f i l).1.cmd.txn.number), iJ ((decR f i l).1.cmd.stp.time), iJ ((decR f i l).1.cmd.stp.client), iJ ((decR f i l).1.cmd.shards), .slice p71.A ((decR f i l).1.cmd.reads.length) p71.n, .slice p71.B ((decR f i l).1.cmd.writes.length) p71.m, .bool ((decR f i l).1.cmd.commit), iJ ((decR f i l).1.seq), iJ ((decR f i l).1.deps.d0), iJ ((decR f i l).1.deps.d1), iJ ((decR f i l).1.deps.d2), iJ ((decR f i l).1.deps.d3), iJ ((decR f i l).1.deps.d4), iJ ((decR f i l).1.deps.d5), iJ ((decR f i l).1.deps.d6), .bool ((decR f i l).1.kept)]) rfl rfl rfl zero_40 rfl rfl rfl rfl rfl rfl rfl size_40 rfl (fun w76 b77 x78 z79 => ?_)
     refine pv (iJ ((decR f i l).2)) (x_assign rfl rfl) ?_
     refine p_nil (t_norm (c_seq (c_meet (fun ρ w80 => ρ 6 = .bool true ∧ Ext w76 w80) ?_ ?_)))
     ·refine c_drawn mixed (by kernel_rfl) (fun _ _ _ _ _ h => h) (fun v1 v2 => Ext v1 v2) 24 rfl (fun w83 x84 z85 => ?_)
      refine d_take (v := .agg #[iJ ((decR f i l).1.inst.replica), iJ ((decR f i l).1.inst.slot), iJ ((decR f i l).1.status), iJ ((decR f i l).1.promise.number), iJ ((decR f i l).1.promise.replica), iJ ((decR f i l).1.ballot.number), iJ ((decR f i l).1.ballot.replica), iJ ((decR f i l).1.cmd.kind), iJ ((decR f i l).1.cmd.txn.client), iJ ((decR f i l).1.cmd.txn.number), iJ ((decR f i l).1.cmd.stp.time), iJ ((decR f i l).1.cmd.stp.client), iJ ((decR f i l).1.cmd.shards), .slice p17.A ((decR f i l).1.cmd.reads.length) p17.n, .slice p17.B ((decR f i l).1.cmd.writes.length) p17.m, .bool ((decR f i l).1.cmd.commit), iJ ((decR f i l).1.seq), iJ ((decR f i l).1.deps.d0), iJ ((decR f i l).1.deps.d1), iJ ((decR f i l).1.deps.d2), iJ ((decR f i l).1.deps.d3), iJ ((decR f i l).1.deps.d4), iJ ((decR f i l).1.deps.d5), iJ ((decR f i l).1.deps.d6), .bool ((decR f i l).1.kept)]) (i := 0) (d := 30) (L' := [true, false, false, false, false, false, false, false, false, false, false, false, false, false, false, false, false, false, false, false, false, false, false, false]) rfl (by kernel_rfl) rfl (Ext.refl _) (fun _ s' => x_load rfl rfl (((((b68.ext x73).ext x78).ext x84).ext s').agg (vs := [iJ ((decR f i l).1.inst.replica), iJ ((decR f i l).1.inst.slot), iJ ((decR f i l).1.status), iJ ((decR f i l).1.promise.number), iJ ((decR f i l).1.promise.replica), iJ ((decR f i l).1.ballot.number), iJ ((decR f i l).1.ballot.replica), iJ ((decR f i l).1.cmd.kind), iJ ((decR f i l).1.cmd.txn.client), iJ ((decR f i l).1.cmd.txn.number), iJ ((decR f i l).1.cmd.stp.time), iJ ((decR f i l).1.cmd.stp.client), iJ ((decR f i l).1.cmd.shards), .slice p17.A ((decR f i l).1.cmd.reads.length) p17.n, .slice p17.B ((decR f i l).1.cmd.writes.length) p17.m, .bool ((decR f i l).1.cmd.commit), iJ ((decR f i l).1.seq), iJ ((decR f i l).1.deps.d0), iJ ((decR f i l).1.deps.d1), iJ ((decR f i l).1.deps.d2), iJ ((decR f i l).1.deps.d3), iJ ((decR f i l).1.deps.d4), iJ ((decR f i l).1.deps.d5), iJ ((decR f i l).1.deps.d6), .bool ((decR f i l).1.kept)]) agg_40_25 rfl)) ?_
      refine d_take (v := vRec ((decR f i l).1) p71) (i := 1) (d := 31) (L' := [true, true, false, false, false, false, false, false, false, false, false, false, false, false, false, false, false, false, false, false, false, false, false, false]) rfl (by kernel_rfl) rfl (Ext.refl _) (fun _ s' => x_load rfl rfl (((b77.ext x84).ext s').agg (vs := [iJ ((decR f i l).1.inst.replica), iJ ((decR f i l).1.inst.slot), iJ ((decR f i l).1.status), iJ ((decR f i l).1.promise.number), iJ ((decR f i l).1.promise.replica), iJ ((decR f i l).1.ballot.number), iJ ((decR f i l).1.ballot.replica), iJ ((decR f i l).1.cmd.kind), iJ ((decR f i l).1.cmd.txn.client), iJ ((decR f i l).1.cmd.txn.number), iJ ((decR f i l).1.cmd.stp.time), iJ ((decR f i l).1.cmd.stp.client), iJ ((decR f i l).1.cmd.shards), .slice p71.A ((decR f i l).1.cmd.reads.length) p71.n, .slice p71.B ((decR f i l).1.cmd.writes.length) p71.m, .bool ((decR f i l).1.cmd.commit), iJ ((decR f i l).1.seq), iJ ((decR f i l).1.deps.d0), iJ ((decR f i l).1.deps.d1), iJ ((decR f i l).1.deps.d2), iJ ((decR f i l).1.deps.d3), iJ ((decR f i l).1.deps.d4), iJ ((decR f i l).1.deps.d5), iJ ((decR f i l).1.deps.d6), .bool ((decR f i l).1.kept)]) agg_40_25 rfl)) ?_
      refine d_act1 (i := 2) (L' := [true, true, true, false, false, false, false, false, false, false, false, false, false, false, false, false, false, false, false, false, false, false, false, false]) (by kernel_rfl) rfl rfl ?_
      refine p_call (vs := #[.agg #[iJ ((decR f i l).1.inst.replica), iJ ((decR f i l).1.inst.slot), iJ ((decR f i l).1.status), iJ ((decR f i l).1.promise.number), iJ ((decR f i l).1.promise.replica), iJ ((decR f i l).1.ballot.number), iJ ((decR f i l).1.ballot.replica), iJ ((decR f i l).1.cmd.kind), iJ ((decR f i l).1.cmd.txn.client), iJ ((decR f i l).1.cmd.txn.number), iJ ((decR f i l).1.cmd.stp.time), iJ ((decR f i l).1.cmd.stp.client), iJ ((decR f i l).1.cmd.shards), .slice p17.A ((decR f i l).1.cmd.reads.length) p17.n, .slice p17.B ((decR f i l).1.cmd.writes.length) p17.m, .bool ((decR f i l).1.cmd.commit), iJ ((decR f i l).1.seq), iJ ((decR f i l).1.deps.d0), iJ ((decR f i l).1.deps.d1), iJ ((decR f i l).1.deps.d2), iJ ((decR f i l).1.deps.d3), iJ ((decR f i l).1.deps.d4), iJ ((decR f i l).1.deps.d5), iJ ((decR f i l).1.deps.d6), .bool ((decR f i l).1.kept)], vRec ((decR f i l).1) p71]) fn_13 rfl rfl rfl (args2 rfl rfl) ?_
      refine (Calls.asBool (decide_eq_true (rfl : (decR f i l).1 = (decR f i l).1)) (D_sameRec _ ((decR f i l).1) p17 (hc18.ext ((((x65.stored (Nat.le_refl _) s69).trans x73).trans x78).trans x84)) ((decR f i l).1) p71 ((hc72.ext x78).ext x84))).mono ?_
      rintro e w86 ⟨rfl, x87⟩
      refine ⟨_, rfl, ?_⟩
      refine d_next x87 ?_
      refine d_take (v := .bool true) (i := 3) (d := 33) (L' := [true, true, true, true, false, false, false, false, false, false, false, false, false, false, false, false, false, false, false, false, false, false, false, false]) rfl (by kernel_rfl) rfl x87 (fun _ s' => x_move rfl rfl) ?_
      refine d_take (v := iJ ((decR f i l).2)) (i := 4) (d := 34) (L' := [true, true, true, true, true, false, false, false, false, false, false, false, false, false, false, false, false, false, false, false, false, false, false, false]) rfl (by kernel_rfl) rfl x87 (fun _ s' => x_move rfl rfl) ?_
      refine d_take (v := iJ ((decR f i l).2)) (i := 5) (d := 35) (L' := [true, true, true, true, true, true, false, false, false, false, false, false, false, false, false, false, false, false, false, false, false, false, false, false]) rfl (by kernel_rfl) rfl x87 (fun _ s' => x_move rfl rfl) ?_
      refine d_take (v := .bool true) (i := 6) (d := 36) (L' := [true, true, true, true, true, true, true, false, false, false, false, false, false, false, false, false, false, false, false, false, false, false, false, false]) rfl (by kernel_rfl) rfl x87 (fun _ s' => yb (x_eql rfl rfl rfl) (by simp)) ?_
      refine d_take (v := .bool true) (i := 7) (d := 37) (L' := [true, true, true, true, true, true, true, true, false, false, false, false, false, false, false, false, false, false, false, false, false, false, false, false]) rfl (by kernel_rfl) rfl x87 (fun _ s' => x_pick_t rfl rfl rfl) ?_
      refine d_take (v := .bool true) (i := 8) (d := 38) (L' := [true, true, true, true, true, true, true, true, true, false, false, false, false, false, false, false, false, false, false, false, false, false, false, false]) rfl (by kernel_rfl) rfl x87 (fun _ s' => x_move rfl rfl) ?_
      refine d_take (v := iJ f) (i := 9) (d := 39) (L' := [true, true, true, true, true, true, true, true, true, true, false, false, false, false, false, false, false, false, false, false, false, false, false, false]) rfl (by kernel_rfl) rfl x87 (fun _ s' => x_move rfl rfl) ?_
      refine d_take (v := vInst i) (i := 10) (d := 40) (L' := [true, true, true, true, true, true, true, true, true, true, true, false, false, false, false, false, false, false, false, false, false, false, false, false]) rfl (by kernel_rfl) rfl x87 (fun _ s' => x_load rfl rfl ((b2.ext (((((((((x7.trans x9).trans x15).trans x19).trans x65).stored (((x7.trans x9).trans x15).trans x19).size s69).trans x73).trans x78).trans x84).trans s')).agg (vs := [iJ i.replica, iJ i.slot]) agg_23_2 rfl)) ?_
      refine d_take (v := .slice A l.length c) (i := 11) (d := 41) (L' := [true, true, true, true, true, true, true, true, true, true, true, true, false, false, false, false, false, false, false, false, false, false, false, false]) rfl (by kernel_rfl) rfl x87 (fun _ s' => x_move rfl rfl) ?_
      refine d_take (v := iJ f) (i := 14) (d := 44) (L' := [true, true, true, true, true, true, true, true, true, true, true, true, false, false, true, false, false, false, false, false, false, false, false, false]) rfl (by kernel_rfl) rfl x87 (fun _ s' => x_move rfl rfl) ?_
      refine d_take (v := vInst i) (i := 15) (d := 45) (L' := [true, true, true, true, true, true, true, true, true, true, true, true, false, false, true, true, false, false, false, false, false, false, false, false]) rfl (by kernel_rfl) rfl x87 (fun _ s' => x_load rfl rfl ((b2.ext (((((((((x7.trans x9).trans x15).trans x19).trans x65).stored (((x7.trans x9).trans x15).trans x19).size s69).trans x73).trans x78).trans x84).trans s')).agg (vs := [iJ i.replica, iJ i.slot]) agg_23_2 rfl)) ?_
      refine d_take (v := .slice A l.length c) (i := 16) (d := 46) (L' := [true, true, true, true, true, true, true, true, true, true, true, true, false, false, true, true, true, false, false, false, false, false, false, false]) rfl (by kernel_rfl) rfl x87 (fun _ s' => x_move rfl rfl) ?_
      refine d_act1 (i := 12) (L' := [true, true, true, true, true, true, true, true, true, true, true, true, true, false, true, true, true, false, false, false, false, false, false, false]) (by kernel_rfl) rfl rfl ?_
      refine p_call (vs := #[.slice A l.length c]) fn_11 rfl rfl rfl (args1 rfl) ?_
      refine (C_given _ A c l (hV.ext ((((((((((x3.trans x7).trans x9).trans x15).trans x19).trans x65).stored ((((x3.trans x7).trans x9).trans x15).trans x19).size s69).trans x73).trans x78).trans x84).trans x87))).mono ?_
      rintro e w88 ⟨A89, c90, rfl, hV91, x92⟩
      refine ⟨_, rfl, ?_⟩
      refine d_next (x87.trans x92) ?_
      refine d_act1 (i := 13) (L' := [true, true, true, true, true, true, true, true, true, true, true, true, true, true, true, true, true, false, false, false, false, false, false, false]) (by kernel_rfl) rfl rfl ?_
      refine p_call (vs := #[iJ f, vInst i, .slice A89 l.length c90]) fn_14 rfl rfl rfl (args3 rfl rfl rfl) ?_
      refine (C_fast _ f i A89 c90 l hV91).mono ?_
      rintro e w93 ⟨rfl, x94⟩
      refine ⟨_, rfl, ?_⟩
      cases c95 : fastR f i (counted l)
      case false =>
       refine d_next ((x87.trans x92).trans x94) ?_
       refine d_act1 (i := 17) (L' := [true, true, true, true, true, true, true, true, true, true, true, true, true, true, true, true, true, true, false, false, false, false, false, false]) (by kernel_rfl) rfl rfl ?_
       refine p_call (vs := #[iJ f, vInst i, .slice A l.length c]) fn_15 rfl rfl rfl (args3 rfl rfl rfl) ?_
       refine (Calls.asBool c95 (D_fast _ f i A c l (hV.ext ((((((((((((x3.trans x7).trans x9).trans x15).trans x19).trans x65).stored ((((x3.trans x7).trans x9).trans x15).trans x19).size s69).trans x73).trans x78).trans x84).trans x87).trans x92).trans x94)))).mono ?_
       rintro e w96 ⟨rfl, x97⟩
       refine ⟨_, rfl, ?_⟩
       refine d_next (((x87.trans x92).trans x94).trans x97) ?_
       refine d_take (v := .bool true) (i := 18) (d := 48) (L' := [true, true, true, true, true, true, true, true, true, true, true, true, true, true, true, true, true, true, true, false, false, false, false, false]) rfl (by kernel_rfl) rfl (((x87.trans x92).trans x94).trans x97) (fun _ s' => yb (x_beql (a := false) (b := false) bool_4 rfl rfl rfl) rfl) ?_
       refine d_take (v := .bool true) (i := 19) (d := 49) (L' := [true, true, true, true, true, true, true, true, true, true, true, true, true, true, true, true, true, true, true, true, false, false, false, false]) rfl (by kernel_rfl) rfl (((x87.trans x92).trans x94).trans x97) (fun _ s' => x_pick_t rfl rfl rfl) ?_
       refine d_take (v := .bool true) (i := 20) (d := 50) (L' := [true, true, true, true, true, true, true, true, true, true, true, true, true, true, true, true, true, true, true, true, true, false, false, false]) rfl (by kernel_rfl) rfl (((x87.trans x92).trans x94).trans x97) (fun _ s' => x_move rfl rfl) ?_
       refine d_act1 (i := 21) (L' := [true, true, true, true, true, true, true, true, true, true, true, true, true, true, true, true, true, true, true, true, true, true, false, false]) (by kernel_rfl) rfl rfl ?_
       refine p_call (vs := #[]) fn_9 rfl rfl rfl (args0) ?_
       refine (C_awake _).mono ?_
       rintro e w98 ⟨rfl, x99⟩
       refine ⟨_, rfl, ?_⟩
       refine d_next ((((x87.trans x92).trans x94).trans x97).trans x99) ?_
       refine d_take (v := .bool true) (i := 22) (d := 52) (L' := [true, true, true, true, true, true, true, true, true, true, true, true, true, true, true, true, true, true, true, true, true, true, true, false]) rfl (by kernel_rfl) rfl ((((x87.trans x92).trans x94).trans x97).trans x99) (fun _ s' => x_pick_t rfl rfl rfl) ?_
       refine d_take (v := .bool true) (i := 23) (d := 6) (L' := [true, true, true, true, true, true, true, true, true, true, true, true, true, true, true, true, true, true, true, true, true, true, true, true]) rfl (by kernel_rfl) rfl ((((x87.trans x92).trans x94).trans x97).trans x99) (fun _ s' => x_assign rfl rfl) ?_
       refine d_end (by kernel_rfl) ?_
       exact t_norm ⟨_, rfl, rfl, (((((x84.trans x87).trans x92).trans x94).trans x97).trans x99)⟩
      refine d_next ((x87.trans x92).trans x94) ?_
      refine d_act1 (i := 17) (L' := [true, true, true, true, true, true, true, true, true, true, true, true, true, true, true, true, true, true, false, false, false, false, false, false]) (by kernel_rfl) rfl rfl ?_
      refine p_call (vs := #[iJ f, vInst i, .slice A l.length c]) fn_15 rfl rfl rfl (args3 rfl rfl rfl) ?_
      refine (Calls.asBool c95 (D_fast _ f i A c l (hV.ext ((((((((((((x3.trans x7).trans x9).trans x15).trans x19).trans x65).stored ((((x3.trans x7).trans x9).trans x15).trans x19).size s69).trans x73).trans x78).trans x84).trans x87).trans x92).trans x94)))).mono ?_
      rintro e w100 ⟨rfl, x101⟩
      refine ⟨_, rfl, ?_⟩
      refine d_next (((x87.trans x92).trans x94).trans x101) ?_
      refine d_take (v := .bool true) (i := 18) (d := 48) (L' := [true, true, true, true, true, true, true, true, true, true, true, true, true, true, true, true, true, true, true, false, false, false, false, false]) rfl (by kernel_rfl) rfl (((x87.trans x92).trans x94).trans x101) (fun _ s' => yb (x_beql (a := true) (b := true) bool_4 rfl rfl rfl) rfl) ?_
      refine d_take (v := .bool true) (i := 19) (d := 49) (L' := [true, true, true, true, true, true, true, true, true, true, true, true, true, true, true, true, true, true, true, true, false, false, false, false]) rfl (by kernel_rfl) rfl (((x87.trans x92).trans x94).trans x101) (fun _ s' => x_pick_t rfl rfl rfl) ?_
      refine d_take (v := .bool true) (i := 20) (d := 50) (L' := [true, true, true, true, true, true, true, true, true, true, true, true, true, true, true, true, true, true, true, true, true, false, false, false]) rfl (by kernel_rfl) rfl (((x87.trans x92).trans x94).trans x101) (fun _ s' => x_move rfl rfl) ?_
      refine d_act1 (i := 21) (L' := [true, true, true, true, true, true, true, true, true, true, true, true, true, true, true, true, true, true, true, true, true, true, false, false]) (by kernel_rfl) rfl rfl ?_
      refine p_call (vs := #[]) fn_9 rfl rfl rfl (args0) ?_
      refine (C_awake _).mono ?_
      rintro e w102 ⟨rfl, x103⟩
      refine ⟨_, rfl, ?_⟩
      refine d_next ((((x87.trans x92).trans x94).trans x101).trans x103) ?_
      refine d_take (v := .bool true) (i := 22) (d := 52) (L' := [true, true, true, true, true, true, true, true, true, true, true, true, true, true, true, true, true, true, true, true, true, true, true, false]) rfl (by kernel_rfl) rfl ((((x87.trans x92).trans x94).trans x101).trans x103) (fun _ s' => x_pick_t rfl rfl rfl) ?_
      refine d_take (v := .bool true) (i := 23) (d := 6) (L' := [true, true, true, true, true, true, true, true, true, true, true, true, true, true, true, true, true, true, true, true, true, true, true, true]) rfl (by kernel_rfl) rfl ((((x87.trans x92).trans x94).trans x101).trans x103) (fun _ s' => x_assign rfl rfl) ?_
      refine d_end (by kernel_rfl) ?_
      exact t_norm ⟨_, rfl, rfl, (((((x84.trans x87).trans x92).trans x94).trans x101).trans x103)⟩
     rintro ρ w80 ⟨e81, kp82⟩
     exact t_norm (c_ret (c_done rfl e81 (Ret.b (rfl) (((((((((x3.trans x7).trans x9).trans x15).trans x19).trans x65).stored ((((x3.trans x7).trans x9).trans x15).trans x19).size s69).trans x73).trans x78).trans kp82))))
    refine p_store (v := vRec ((decR f i l).1) p17) (vs := [iJ ((decR f i l).1.inst.replica), iJ ((decR f i l).1.inst.slot), iJ ((decR f i l).1.status), iJ ((decR f i l).1.promise.number), iJ ((decR f i l).1.promise.replica), iJ ((decR f i l).1.ballot.number), iJ ((decR f i l).1.ballot.replica), iJ ((decR f i l).1.cmd.kind), iJ ((decR f i l).1.cmd.txn.client), iJ ((decR f i l).1.cmd.txn.number), iJ ((decR f i l).1.cmd.stp.time), iJ ((decR f i l).1.cmd.stp.client), iJ ((decR f i l).1.cmd.shards), .slice p17.A ((decR f i l).1.cmd.reads.length) p17.n, .slice p17.B ((decR f i l).1.cmd.writes.length) p17.m, .bool ((decR f i l).1.cmd.commit), iJ ((decR f i l).1.seq), iJ ((decR f i l).1.deps.d0), iJ ((decR f i l).1.deps.d1), iJ ((decR f i l).1.deps.d2), iJ ((decR f i l).1.deps.d3), iJ ((decR f i l).1.deps.d4), iJ ((decR f i l).1.deps.d5), iJ ((decR f i l).1.deps.d6), .bool ((decR f i l).1.kept)]) (cs' := [iJ ((decR f i l).1.inst.replica), iJ ((decR f i l).1.inst.slot), iJ ((decR f i l).1.status), iJ ((decR f i l).1.promise.number), iJ ((decR f i l).1.promise.replica), iJ ((decR f i l).1.ballot.number), iJ ((decR f i l).1.ballot.replica), iJ ((decR f i l).1.cmd.kind), iJ ((decR f i l).1.cmd.txn.client), iJ ((decR f i l).1.cmd.txn.number), iJ ((decR f i l).1.cmd.stp.time), iJ ((decR f i l).1.cmd.stp.client), iJ ((decR f i l).1.cmd.shards), .slice p17.A ((decR f i l).1.cmd.reads.length) p17.n, .slice p17.B ((decR f i l).1.cmd.writes.length) p17.m, .bool ((decR f i l).1.cmd.commit), iJ ((decR f i l).1.seq), iJ ((decR f i l).1.deps.d0), iJ ((decR f i l).1.deps.d1), iJ ((decR f i l).1.deps.d2), iJ ((decR f i l).1.deps.d3), iJ ((decR f i l).1.deps.d4), iJ ((decR f i l).1.deps.d5), iJ ((decR f i l).1.deps.d6), .bool ((decR f i l).1.kept)]) rfl rfl rfl rfl rfl rfl b64 size_40 rfl rfl rfl (fun w104 b105 s106 => ?_)
    refine h_nextG (i := 9) (fun h => absurd rfl h) ?_
    refine h_act1 (i := 7) (L' := [true, true, true, true, true, true, true, true, true, true, false]) (by kernel_rfl) rfl rfl ?_
    refine pv (iJ ((decR f i l).2)) (x_extract rfl rfl rfl) ?_
    refine h_nextG (i := 7) (fun _ h => by cases h) ?_
    refine h_act1 (i := 10) (L' := [true, true, true, true, true, true, true, true, true, true, true]) (by kernel_rfl) rfl rfl ?_
    refine pv (iJ ((decR f i l).2)) (x_assign rfl rfl) ?_
    refine h_nextG (i := 10) (fun _ h => by cases h) ?_
    refine h_end (by kernel_rfl) ?_
    refine t_norm (c_seq (c_plain (pv (iJ f) (x_move rfl rfl) ?_)))
    refine pv (vInst i) (x_load rfl rfl ((b2.ext (((((x7.trans x9).trans x15).trans x19).trans x65).stored (((x7.trans x9).trans x15).trans x19).size s106)).agg (vs := [iJ i.replica, iJ i.slot]) agg_23_2 rfl)) ?_
    refine pv (.slice A l.length c) (x_move rfl rfl) ?_
    refine p_call (vs := #[iJ f, vInst i, .slice A l.length c]) fn_12 rfl rfl rfl (args3 rfl rfl rfl) ?_
    refine (D_decide _ f i A c l (hV.ext ((((((x3.trans x7).trans x9).trans x15).trans x19).trans x65).stored ((((x3.trans x7).trans x9).trans x15).trans x19).size s106))).mono ?_
    rintro e w107 ⟨p108, rfl, hc109, x110⟩
    refine ⟨_, rfl, ?_⟩
    refine pv (.tuple #[vRec ((decR f i l).1) p108, iJ ((decR f i l).2)]) (x_move rfl rfl) ?_
    refine pv (vRec ((decR f i l).1) p108) (x_extract rfl rfl rfl) ?_
    refine pv (iJ ((decR f i l).2)) (x_extract rfl rfl rfl) ?_
    refine p_var (v := vRec ((decR f i l).1) p108) (vs := [iJ ((decR f i l).1.inst.replica), iJ ((decR f i l).1.inst.slot), iJ ((decR f i l).1.status), iJ ((decR f i l).1.promise.number), iJ ((decR f i l).1.promise.replica), iJ ((decR f i l).1.ballot.number), iJ ((decR f i l).1.ballot.replica), iJ ((decR f i l).1.cmd.kind), iJ ((decR f i l).1.cmd.txn.client), iJ ((decR f i l).1.cmd.txn.number), iJ ((decR f i l).1.cmd.stp.time), iJ ((decR f i l).1.cmd.stp.client), iJ ((decR f i l).1.cmd.shards), .slice p108.A ((decR f i l).1.cmd.reads.length) p108.n, .slice p108.B ((decR f i l).1.cmd.writes.length) p108.m, .bool ((decR f i l).1.cmd.commit), iJ ((decR f i l).1.seq), iJ ((decR f i l).1.deps.d0), iJ ((decR f i l).1.deps.d1), iJ ((decR f i l).1.deps.d2), iJ ((decR f i l).1.deps.d3), iJ ((decR f i l).1.deps.d4), iJ ((decR f i l).1.deps.d5), iJ ((decR f i l).1.deps.d6), .bool ((decR f i l).1.kept)]) rfl rfl rfl zero_40 rfl rfl rfl rfl rfl rfl rfl size_40 rfl (fun w113 b114 x115 z116 => ?_)
    refine pv (iJ ((decR f i l).2)) (x_assign rfl rfl) ?_
    refine p_nil (t_norm (c_seq (c_meet (fun ρ w117 => ρ 6 = .bool true ∧ Ext w113 w117) ?_ ?_)))
    ·refine c_drawn mixed (by kernel_rfl) (fun _ _ _ _ _ h => h) (fun v1 v2 => Ext v1 v2) 24 rfl (fun w120 x121 z122 => ?_)
     refine d_take (v := .agg #[iJ ((decR f i l).1.inst.replica), iJ ((decR f i l).1.inst.slot), iJ ((decR f i l).1.status), iJ ((decR f i l).1.promise.number), iJ ((decR f i l).1.promise.replica), iJ ((decR f i l).1.ballot.number), iJ ((decR f i l).1.ballot.replica), iJ ((decR f i l).1.cmd.kind), iJ ((decR f i l).1.cmd.txn.client), iJ ((decR f i l).1.cmd.txn.number), iJ ((decR f i l).1.cmd.stp.time), iJ ((decR f i l).1.cmd.stp.client), iJ ((decR f i l).1.cmd.shards), .slice p17.A ((decR f i l).1.cmd.reads.length) p17.n, .slice p17.B ((decR f i l).1.cmd.writes.length) p17.m, .bool ((decR f i l).1.cmd.commit), iJ ((decR f i l).1.seq), iJ ((decR f i l).1.deps.d0), iJ ((decR f i l).1.deps.d1), iJ ((decR f i l).1.deps.d2), iJ ((decR f i l).1.deps.d3), iJ ((decR f i l).1.deps.d4), iJ ((decR f i l).1.deps.d5), iJ ((decR f i l).1.deps.d6), .bool ((decR f i l).1.kept)]) (i := 0) (d := 30) (L' := [true, false, false, false, false, false, false, false, false, false, false, false, false, false, false, false, false, false, false, false, false, false, false, false]) rfl (by kernel_rfl) rfl (Ext.refl _) (fun _ s' => x_load rfl rfl (((((b105.ext x110).ext x115).ext x121).ext s').agg (vs := [iJ ((decR f i l).1.inst.replica), iJ ((decR f i l).1.inst.slot), iJ ((decR f i l).1.status), iJ ((decR f i l).1.promise.number), iJ ((decR f i l).1.promise.replica), iJ ((decR f i l).1.ballot.number), iJ ((decR f i l).1.ballot.replica), iJ ((decR f i l).1.cmd.kind), iJ ((decR f i l).1.cmd.txn.client), iJ ((decR f i l).1.cmd.txn.number), iJ ((decR f i l).1.cmd.stp.time), iJ ((decR f i l).1.cmd.stp.client), iJ ((decR f i l).1.cmd.shards), .slice p17.A ((decR f i l).1.cmd.reads.length) p17.n, .slice p17.B ((decR f i l).1.cmd.writes.length) p17.m, .bool ((decR f i l).1.cmd.commit), iJ ((decR f i l).1.seq), iJ ((decR f i l).1.deps.d0), iJ ((decR f i l).1.deps.d1), iJ ((decR f i l).1.deps.d2), iJ ((decR f i l).1.deps.d3), iJ ((decR f i l).1.deps.d4), iJ ((decR f i l).1.deps.d5), iJ ((decR f i l).1.deps.d6), .bool ((decR f i l).1.kept)]) agg_40_25 rfl)) ?_
     refine d_take (v := vRec ((decR f i l).1) p108) (i := 1) (d := 31) (L' := [true, true, false, false, false, false, false, false, false, false, false, false, false, false, false, false, false, false, false, false, false, false, false, false]) rfl (by kernel_rfl) rfl (Ext.refl _) (fun _ s' => x_load rfl rfl (((b114.ext x121).ext s').agg (vs := [iJ ((decR f i l).1.inst.replica), iJ ((decR f i l).1.inst.slot), iJ ((decR f i l).1.status), iJ ((decR f i l).1.promise.number), iJ ((decR f i l).1.promise.replica), iJ ((decR f i l).1.ballot.number), iJ ((decR f i l).1.ballot.replica), iJ ((decR f i l).1.cmd.kind), iJ ((decR f i l).1.cmd.txn.client), iJ ((decR f i l).1.cmd.txn.number), iJ ((decR f i l).1.cmd.stp.time), iJ ((decR f i l).1.cmd.stp.client), iJ ((decR f i l).1.cmd.shards), .slice p108.A ((decR f i l).1.cmd.reads.length) p108.n, .slice p108.B ((decR f i l).1.cmd.writes.length) p108.m, .bool ((decR f i l).1.cmd.commit), iJ ((decR f i l).1.seq), iJ ((decR f i l).1.deps.d0), iJ ((decR f i l).1.deps.d1), iJ ((decR f i l).1.deps.d2), iJ ((decR f i l).1.deps.d3), iJ ((decR f i l).1.deps.d4), iJ ((decR f i l).1.deps.d5), iJ ((decR f i l).1.deps.d6), .bool ((decR f i l).1.kept)]) agg_40_25 rfl)) ?_
     refine d_act1 (i := 2) (L' := [true, true, true, false, false, false, false, false, false, false, false, false, false, false, false, false, false, false, false, false, false, false, false, false]) (by kernel_rfl) rfl rfl ?_
     refine p_call (vs := #[.agg #[iJ ((decR f i l).1.inst.replica), iJ ((decR f i l).1.inst.slot), iJ ((decR f i l).1.status), iJ ((decR f i l).1.promise.number), iJ ((decR f i l).1.promise.replica), iJ ((decR f i l).1.ballot.number), iJ ((decR f i l).1.ballot.replica), iJ ((decR f i l).1.cmd.kind), iJ ((decR f i l).1.cmd.txn.client), iJ ((decR f i l).1.cmd.txn.number), iJ ((decR f i l).1.cmd.stp.time), iJ ((decR f i l).1.cmd.stp.client), iJ ((decR f i l).1.cmd.shards), .slice p17.A ((decR f i l).1.cmd.reads.length) p17.n, .slice p17.B ((decR f i l).1.cmd.writes.length) p17.m, .bool ((decR f i l).1.cmd.commit), iJ ((decR f i l).1.seq), iJ ((decR f i l).1.deps.d0), iJ ((decR f i l).1.deps.d1), iJ ((decR f i l).1.deps.d2), iJ ((decR f i l).1.deps.d3), iJ ((decR f i l).1.deps.d4), iJ ((decR f i l).1.deps.d5), iJ ((decR f i l).1.deps.d6), .bool ((decR f i l).1.kept)], vRec ((decR f i l).1) p108]) fn_13 rfl rfl rfl (args2 rfl rfl) ?_
     refine (Calls.asBool (decide_eq_true (rfl : (decR f i l).1 = (decR f i l).1)) (D_sameRec _ ((decR f i l).1) p17 (hc18.ext ((((x65.stored (Nat.le_refl _) s106).trans x110).trans x115).trans x121)) ((decR f i l).1) p108 ((hc109.ext x115).ext x121))).mono ?_
     rintro e w123 ⟨rfl, x124⟩
     refine ⟨_, rfl, ?_⟩
     refine d_next x124 ?_
     refine d_take (v := .bool true) (i := 3) (d := 33) (L' := [true, true, true, true, false, false, false, false, false, false, false, false, false, false, false, false, false, false, false, false, false, false, false, false]) rfl (by kernel_rfl) rfl x124 (fun _ s' => x_move rfl rfl) ?_
     refine d_take (v := iJ ((decR f i l).2)) (i := 4) (d := 34) (L' := [true, true, true, true, true, false, false, false, false, false, false, false, false, false, false, false, false, false, false, false, false, false, false, false]) rfl (by kernel_rfl) rfl x124 (fun _ s' => x_move rfl rfl) ?_
     refine d_take (v := iJ ((decR f i l).2)) (i := 5) (d := 35) (L' := [true, true, true, true, true, true, false, false, false, false, false, false, false, false, false, false, false, false, false, false, false, false, false, false]) rfl (by kernel_rfl) rfl x124 (fun _ s' => x_move rfl rfl) ?_
     refine d_take (v := .bool true) (i := 6) (d := 36) (L' := [true, true, true, true, true, true, true, false, false, false, false, false, false, false, false, false, false, false, false, false, false, false, false, false]) rfl (by kernel_rfl) rfl x124 (fun _ s' => yb (x_eql rfl rfl rfl) (by simp)) ?_
     refine d_take (v := .bool true) (i := 7) (d := 37) (L' := [true, true, true, true, true, true, true, true, false, false, false, false, false, false, false, false, false, false, false, false, false, false, false, false]) rfl (by kernel_rfl) rfl x124 (fun _ s' => x_pick_t rfl rfl rfl) ?_
     refine d_take (v := .bool true) (i := 8) (d := 38) (L' := [true, true, true, true, true, true, true, true, true, false, false, false, false, false, false, false, false, false, false, false, false, false, false, false]) rfl (by kernel_rfl) rfl x124 (fun _ s' => x_move rfl rfl) ?_
     refine d_take (v := iJ f) (i := 9) (d := 39) (L' := [true, true, true, true, true, true, true, true, true, true, false, false, false, false, false, false, false, false, false, false, false, false, false, false]) rfl (by kernel_rfl) rfl x124 (fun _ s' => x_move rfl rfl) ?_
     refine d_take (v := vInst i) (i := 10) (d := 40) (L' := [true, true, true, true, true, true, true, true, true, true, true, false, false, false, false, false, false, false, false, false, false, false, false, false]) rfl (by kernel_rfl) rfl x124 (fun _ s' => x_load rfl rfl ((b2.ext (((((((((x7.trans x9).trans x15).trans x19).trans x65).stored (((x7.trans x9).trans x15).trans x19).size s106).trans x110).trans x115).trans x121).trans s')).agg (vs := [iJ i.replica, iJ i.slot]) agg_23_2 rfl)) ?_
     refine d_take (v := .slice A l.length c) (i := 11) (d := 41) (L' := [true, true, true, true, true, true, true, true, true, true, true, true, false, false, false, false, false, false, false, false, false, false, false, false]) rfl (by kernel_rfl) rfl x124 (fun _ s' => x_move rfl rfl) ?_
     refine d_take (v := iJ f) (i := 14) (d := 44) (L' := [true, true, true, true, true, true, true, true, true, true, true, true, false, false, true, false, false, false, false, false, false, false, false, false]) rfl (by kernel_rfl) rfl x124 (fun _ s' => x_move rfl rfl) ?_
     refine d_take (v := vInst i) (i := 15) (d := 45) (L' := [true, true, true, true, true, true, true, true, true, true, true, true, false, false, true, true, false, false, false, false, false, false, false, false]) rfl (by kernel_rfl) rfl x124 (fun _ s' => x_load rfl rfl ((b2.ext (((((((((x7.trans x9).trans x15).trans x19).trans x65).stored (((x7.trans x9).trans x15).trans x19).size s106).trans x110).trans x115).trans x121).trans s')).agg (vs := [iJ i.replica, iJ i.slot]) agg_23_2 rfl)) ?_
     refine d_take (v := .slice A l.length c) (i := 16) (d := 46) (L' := [true, true, true, true, true, true, true, true, true, true, true, true, false, false, true, true, true, false, false, false, false, false, false, false]) rfl (by kernel_rfl) rfl x124 (fun _ s' => x_move rfl rfl) ?_
     refine d_act1 (i := 12) (L' := [true, true, true, true, true, true, true, true, true, true, true, true, true, false, true, true, true, false, false, false, false, false, false, false]) (by kernel_rfl) rfl rfl ?_
     refine p_call (vs := #[.slice A l.length c]) fn_11 rfl rfl rfl (args1 rfl) ?_
     refine (C_given _ A c l (hV.ext ((((((((((x3.trans x7).trans x9).trans x15).trans x19).trans x65).stored ((((x3.trans x7).trans x9).trans x15).trans x19).size s106).trans x110).trans x115).trans x121).trans x124))).mono ?_
     rintro e w125 ⟨A126, c127, rfl, hV128, x129⟩
     refine ⟨_, rfl, ?_⟩
     refine d_next (x124.trans x129) ?_
     refine d_act1 (i := 13) (L' := [true, true, true, true, true, true, true, true, true, true, true, true, true, true, true, true, true, false, false, false, false, false, false, false]) (by kernel_rfl) rfl rfl ?_
     refine p_call (vs := #[iJ f, vInst i, .slice A126 l.length c127]) fn_14 rfl rfl rfl (args3 rfl rfl rfl) ?_
     refine (C_fast _ f i A126 c127 l hV128).mono ?_
     rintro e w130 ⟨rfl, x131⟩
     refine ⟨_, rfl, ?_⟩
     cases c132 : fastR f i (counted l)
     case false =>
      refine d_next ((x124.trans x129).trans x131) ?_
      refine d_act1 (i := 17) (L' := [true, true, true, true, true, true, true, true, true, true, true, true, true, true, true, true, true, true, false, false, false, false, false, false]) (by kernel_rfl) rfl rfl ?_
      refine p_call (vs := #[iJ f, vInst i, .slice A l.length c]) fn_15 rfl rfl rfl (args3 rfl rfl rfl) ?_
      refine (Calls.asBool c132 (D_fast _ f i A c l (hV.ext ((((((((((((x3.trans x7).trans x9).trans x15).trans x19).trans x65).stored ((((x3.trans x7).trans x9).trans x15).trans x19).size s106).trans x110).trans x115).trans x121).trans x124).trans x129).trans x131)))).mono ?_
      rintro e w133 ⟨rfl, x134⟩
      refine ⟨_, rfl, ?_⟩
      refine d_next (((x124.trans x129).trans x131).trans x134) ?_
      refine d_take (v := .bool true) (i := 18) (d := 48) (L' := [true, true, true, true, true, true, true, true, true, true, true, true, true, true, true, true, true, true, true, false, false, false, false, false]) rfl (by kernel_rfl) rfl (((x124.trans x129).trans x131).trans x134) (fun _ s' => yb (x_beql (a := false) (b := false) bool_4 rfl rfl rfl) rfl) ?_
      refine d_take (v := .bool true) (i := 19) (d := 49) (L' := [true, true, true, true, true, true, true, true, true, true, true, true, true, true, true, true, true, true, true, true, false, false, false, false]) rfl (by kernel_rfl) rfl (((x124.trans x129).trans x131).trans x134) (fun _ s' => x_pick_t rfl rfl rfl) ?_
      refine d_take (v := .bool true) (i := 20) (d := 50) (L' := [true, true, true, true, true, true, true, true, true, true, true, true, true, true, true, true, true, true, true, true, true, false, false, false]) rfl (by kernel_rfl) rfl (((x124.trans x129).trans x131).trans x134) (fun _ s' => x_move rfl rfl) ?_
      refine d_act1 (i := 21) (L' := [true, true, true, true, true, true, true, true, true, true, true, true, true, true, true, true, true, true, true, true, true, true, false, false]) (by kernel_rfl) rfl rfl ?_
      refine p_call (vs := #[]) fn_9 rfl rfl rfl (args0) ?_
      refine (C_awake _).mono ?_
      rintro e w135 ⟨rfl, x136⟩
      refine ⟨_, rfl, ?_⟩
      refine d_next ((((x124.trans x129).trans x131).trans x134).trans x136) ?_
      refine d_take (v := .bool true) (i := 22) (d := 52) (L' := [true, true, true, true, true, true, true, true, true, true, true, true, true, true, true, true, true, true, true, true, true, true, true, false]) rfl (by kernel_rfl) rfl ((((x124.trans x129).trans x131).trans x134).trans x136) (fun _ s' => x_pick_t rfl rfl rfl) ?_
      refine d_take (v := .bool true) (i := 23) (d := 6) (L' := [true, true, true, true, true, true, true, true, true, true, true, true, true, true, true, true, true, true, true, true, true, true, true, true]) rfl (by kernel_rfl) rfl ((((x124.trans x129).trans x131).trans x134).trans x136) (fun _ s' => x_assign rfl rfl) ?_
      refine d_end (by kernel_rfl) ?_
      exact t_norm ⟨_, rfl, rfl, (((((x121.trans x124).trans x129).trans x131).trans x134).trans x136)⟩
     refine d_next ((x124.trans x129).trans x131) ?_
     refine d_act1 (i := 17) (L' := [true, true, true, true, true, true, true, true, true, true, true, true, true, true, true, true, true, true, false, false, false, false, false, false]) (by kernel_rfl) rfl rfl ?_
     refine p_call (vs := #[iJ f, vInst i, .slice A l.length c]) fn_15 rfl rfl rfl (args3 rfl rfl rfl) ?_
     refine (Calls.asBool c132 (D_fast _ f i A c l (hV.ext ((((((((((((x3.trans x7).trans x9).trans x15).trans x19).trans x65).stored ((((x3.trans x7).trans x9).trans x15).trans x19).size s106).trans x110).trans x115).trans x121).trans x124).trans x129).trans x131)))).mono ?_
     rintro e w137 ⟨rfl, x138⟩
     refine ⟨_, rfl, ?_⟩
     refine d_next (((x124.trans x129).trans x131).trans x138) ?_
     refine d_take (v := .bool true) (i := 18) (d := 48) (L' := [true, true, true, true, true, true, true, true, true, true, true, true, true, true, true, true, true, true, true, false, false, false, false, false]) rfl (by kernel_rfl) rfl (((x124.trans x129).trans x131).trans x138) (fun _ s' => yb (x_beql (a := true) (b := true) bool_4 rfl rfl rfl) rfl) ?_
     refine d_take (v := .bool true) (i := 19) (d := 49) (L' := [true, true, true, true, true, true, true, true, true, true, true, true, true, true, true, true, true, true, true, true, false, false, false, false]) rfl (by kernel_rfl) rfl (((x124.trans x129).trans x131).trans x138) (fun _ s' => x_pick_t rfl rfl rfl) ?_
     refine d_take (v := .bool true) (i := 20) (d := 50) (L' := [true, true, true, true, true, true, true, true, true, true, true, true, true, true, true, true, true, true, true, true, true, false, false, false]) rfl (by kernel_rfl) rfl (((x124.trans x129).trans x131).trans x138) (fun _ s' => x_move rfl rfl) ?_
     refine d_act1 (i := 21) (L' := [true, true, true, true, true, true, true, true, true, true, true, true, true, true, true, true, true, true, true, true, true, true, false, false]) (by kernel_rfl) rfl rfl ?_
     refine p_call (vs := #[]) fn_9 rfl rfl rfl (args0) ?_
     refine (C_awake _).mono ?_
     rintro e w139 ⟨rfl, x140⟩
     refine ⟨_, rfl, ?_⟩
     refine d_next ((((x124.trans x129).trans x131).trans x138).trans x140) ?_
     refine d_take (v := .bool true) (i := 22) (d := 52) (L' := [true, true, true, true, true, true, true, true, true, true, true, true, true, true, true, true, true, true, true, true, true, true, true, false]) rfl (by kernel_rfl) rfl ((((x124.trans x129).trans x131).trans x138).trans x140) (fun _ s' => x_pick_t rfl rfl rfl) ?_
     refine d_take (v := .bool true) (i := 23) (d := 6) (L' := [true, true, true, true, true, true, true, true, true, true, true, true, true, true, true, true, true, true, true, true, true, true, true, true]) rfl (by kernel_rfl) rfl ((((x124.trans x129).trans x131).trans x138).trans x140) (fun _ s' => x_assign rfl rfl) ?_
     refine d_end (by kernel_rfl) ?_
     exact t_norm ⟨_, rfl, rfl, (((((x121.trans x124).trans x129).trans x131).trans x138).trans x140)⟩
    rintro ρ w117 ⟨e118, kp119⟩
    exact t_norm (c_ret (c_done rfl e118 (Ret.b (rfl) (((((((((x3.trans x7).trans x9).trans x15).trans x19).trans x65).stored ((((x3.trans x7).trans x9).trans x15).trans x19).size s106).trans x110).trans x115).trans kp119))))
   refine p_alloc (cs := [iJ 0, iJ 0, iJ 0, iJ 0, iJ 0, iJ 0, iJ 0, iJ 0, iJ 0, iJ 0, iJ 0, iJ 0, iJ 0, .slice none 0 0, .slice none 0 0, .bool false, iJ 0, iJ 0, iJ 0, iJ 0, iJ 0, iJ 0, iJ 0, iJ 0, .bool false]) rfl rfl rfl zero_40 rfl (fun w141 b142 x143 z144 => ?_)
   refine h_nextG (i := 8) (fun _ _ => (x15.trans x143)) ?_
   refine h_act1 (i := 4) (L' := [true, true, true, true, true, false, false, false, true, false, false]) (by kernel_rfl) rfl rfl ?_
   refine p_call (vs := #[iJ f, vInst i, .slice A12 l.length c13]) fn_10 rfl rfl rfl (args3 rfl rfl rfl) ?_
   refine (C_decide _ f i A12 c13 l (hV14.ext x143)).mono ?_
   rintro e w145 ⟨p146, rfl, hc147, x148, fa149, fb150⟩
   refine ⟨_, rfl, ?_⟩
   refine h_nextG (i := 4) (fun _ _ => ((x15.trans x143).trans x148)) ?_
   refine h_take (v := .tuple #[vRec ((decR f i l).1) p146, iJ ((decR f i l).2)]) (i := 5) (d := 15) (L' := [true, true, true, true, true, true, false, false, true, false, false]) rfl (by kernel_rfl) rfl (by kernel_rfl) rfl rfl ((x15.trans x143).trans x148) (fun _ s' => x_move rfl rfl) ?_
   refine h_take (v := vRec ((decR f i l).1) p146) (i := 6) (d := 21) (L' := [true, true, true, true, true, true, true, false, true, false, false]) rfl (by kernel_rfl) rfl (by kernel_rfl) rfl rfl ((x15.trans x143).trans x148) (fun _ s' => x_extract rfl rfl rfl) ?_
   refine h_act2 (i := 7) (j := 9) (L' := [true, true, true, true, true, true, true, true, true, false, false]) (L'' := [true, true, true, true, true, true, true, false, true, true, false]) (by kernel_rfl) rfl rfl rfl rfl ?_ ?_
   ·refine pv (iJ ((decR f i l).2)) (x_extract rfl rfl rfl) ?_
    refine h_nextG (i := 7) (fun _ _ => ((x15.trans x143).trans x148)) ?_
    refine h_act1 (i := 9) (L' := [true, true, true, true, true, true, true, true, true, true, false]) (by kernel_rfl) rfl rfl ?_
    refine p_store (v := vRec ((decR f i l).1) p146) (vs := [iJ ((decR f i l).1.inst.replica), iJ ((decR f i l).1.inst.slot), iJ ((decR f i l).1.status), iJ ((decR f i l).1.promise.number), iJ ((decR f i l).1.promise.replica), iJ ((decR f i l).1.ballot.number), iJ ((decR f i l).1.ballot.replica), iJ ((decR f i l).1.cmd.kind), iJ ((decR f i l).1.cmd.txn.client), iJ ((decR f i l).1.cmd.txn.number), iJ ((decR f i l).1.cmd.stp.time), iJ ((decR f i l).1.cmd.stp.client), iJ ((decR f i l).1.cmd.shards), .slice p146.A ((decR f i l).1.cmd.reads.length) p146.n, .slice p146.B ((decR f i l).1.cmd.writes.length) p146.m, .bool ((decR f i l).1.cmd.commit), iJ ((decR f i l).1.seq), iJ ((decR f i l).1.deps.d0), iJ ((decR f i l).1.deps.d1), iJ ((decR f i l).1.deps.d2), iJ ((decR f i l).1.deps.d3), iJ ((decR f i l).1.deps.d4), iJ ((decR f i l).1.deps.d5), iJ ((decR f i l).1.deps.d6), .bool ((decR f i l).1.kept)]) (cs' := [iJ ((decR f i l).1.inst.replica), iJ ((decR f i l).1.inst.slot), iJ ((decR f i l).1.status), iJ ((decR f i l).1.promise.number), iJ ((decR f i l).1.promise.replica), iJ ((decR f i l).1.ballot.number), iJ ((decR f i l).1.ballot.replica), iJ ((decR f i l).1.cmd.kind), iJ ((decR f i l).1.cmd.txn.client), iJ ((decR f i l).1.cmd.txn.number), iJ ((decR f i l).1.cmd.stp.time), iJ ((decR f i l).1.cmd.stp.client), iJ ((decR f i l).1.cmd.shards), .slice p146.A ((decR f i l).1.cmd.reads.length) p146.n, .slice p146.B ((decR f i l).1.cmd.writes.length) p146.m, .bool ((decR f i l).1.cmd.commit), iJ ((decR f i l).1.seq), iJ ((decR f i l).1.deps.d0), iJ ((decR f i l).1.deps.d1), iJ ((decR f i l).1.deps.d2), iJ ((decR f i l).1.deps.d3), iJ ((decR f i l).1.deps.d4), iJ ((decR f i l).1.deps.d5), iJ ((decR f i l).1.deps.d6), .bool ((decR f i l).1.kept)]) rfl rfl rfl rfl rfl rfl (b142.ext x148) size_40 rfl rfl rfl (fun w151 b152 s153 => ?_)
    have hc154 := hc147.far s153 (fun ad h => by have hf := fa149 ad h; omega) (fun ad h => by have hf := fb150 ad h; omega)
    refine h_nextG (i := 9) (fun h => absurd rfl h) ?_
    refine h_act1 (i := 10) (L' := [true, true, true, true, true, true, true, true, true, true, true]) (by kernel_rfl) rfl rfl ?_
    refine pv (iJ ((decR f i l).2)) (x_assign rfl rfl) ?_
    refine h_nextG (i := 10) (fun _ h => by cases h) ?_
    refine h_end (by kernel_rfl) ?_
    refine t_norm (c_seq (c_plain (pv (iJ f) (x_move rfl rfl) ?_)))
    refine pv (vInst i) (x_load rfl rfl ((b2.ext (((((x7.trans x9).trans x15).trans x143).trans x148).stored ((x7.trans x9).trans x15).size s153)).agg (vs := [iJ i.replica, iJ i.slot]) agg_23_2 rfl)) ?_
    refine pv (.slice A l.length c) (x_move rfl rfl) ?_
    refine p_call (vs := #[iJ f, vInst i, .slice A l.length c]) fn_12 rfl rfl rfl (args3 rfl rfl rfl) ?_
    refine (D_decide _ f i A c l (hV.ext ((((((x3.trans x7).trans x9).trans x15).trans x143).trans x148).stored (((x3.trans x7).trans x9).trans x15).size s153))).mono ?_
    rintro e w155 ⟨p156, rfl, hc157, x158⟩
    refine ⟨_, rfl, ?_⟩
    refine pv (.tuple #[vRec ((decR f i l).1) p156, iJ ((decR f i l).2)]) (x_move rfl rfl) ?_
    refine pv (vRec ((decR f i l).1) p156) (x_extract rfl rfl rfl) ?_
    refine pv (iJ ((decR f i l).2)) (x_extract rfl rfl rfl) ?_
    refine p_var (v := vRec ((decR f i l).1) p156) (vs := [iJ ((decR f i l).1.inst.replica), iJ ((decR f i l).1.inst.slot), iJ ((decR f i l).1.status), iJ ((decR f i l).1.promise.number), iJ ((decR f i l).1.promise.replica), iJ ((decR f i l).1.ballot.number), iJ ((decR f i l).1.ballot.replica), iJ ((decR f i l).1.cmd.kind), iJ ((decR f i l).1.cmd.txn.client), iJ ((decR f i l).1.cmd.txn.number), iJ ((decR f i l).1.cmd.stp.time), iJ ((decR f i l).1.cmd.stp.client), iJ ((decR f i l).1.cmd.shards), .slice p156.A ((decR f i l).1.cmd.reads.length) p156.n, .slice p156.B ((decR f i l).1.cmd.writes.length) p156.m, .bool ((decR f i l).1.cmd.commit), iJ ((decR f i l).1.seq), iJ ((decR f i l).1.deps.d0), iJ ((decR f i l).1.deps.d1), iJ ((decR f i l).1.deps.d2), iJ ((decR f i l).1.deps.d3), iJ ((decR f i l).1.deps.d4), iJ ((decR f i l).1.deps.d5), iJ ((decR f i l).1.deps.d6), .bool ((decR f i l).1.kept)]) rfl rfl rfl zero_40 rfl rfl rfl rfl rfl rfl rfl size_40 rfl (fun w161 b162 x163 z164 => ?_)
    refine pv (iJ ((decR f i l).2)) (x_assign rfl rfl) ?_
    refine p_nil (t_norm (c_seq (c_meet (fun ρ w165 => ρ 6 = .bool true ∧ Ext w161 w165) ?_ ?_)))
    ·refine c_drawn mixed (by kernel_rfl) (fun _ _ _ _ _ h => h) (fun v1 v2 => Ext v1 v2) 24 rfl (fun w168 x169 z170 => ?_)
     refine d_take (v := .agg #[iJ ((decR f i l).1.inst.replica), iJ ((decR f i l).1.inst.slot), iJ ((decR f i l).1.status), iJ ((decR f i l).1.promise.number), iJ ((decR f i l).1.promise.replica), iJ ((decR f i l).1.ballot.number), iJ ((decR f i l).1.ballot.replica), iJ ((decR f i l).1.cmd.kind), iJ ((decR f i l).1.cmd.txn.client), iJ ((decR f i l).1.cmd.txn.number), iJ ((decR f i l).1.cmd.stp.time), iJ ((decR f i l).1.cmd.stp.client), iJ ((decR f i l).1.cmd.shards), .slice p146.A ((decR f i l).1.cmd.reads.length) p146.n, .slice p146.B ((decR f i l).1.cmd.writes.length) p146.m, .bool ((decR f i l).1.cmd.commit), iJ ((decR f i l).1.seq), iJ ((decR f i l).1.deps.d0), iJ ((decR f i l).1.deps.d1), iJ ((decR f i l).1.deps.d2), iJ ((decR f i l).1.deps.d3), iJ ((decR f i l).1.deps.d4), iJ ((decR f i l).1.deps.d5), iJ ((decR f i l).1.deps.d6), .bool ((decR f i l).1.kept)]) (i := 0) (d := 30) (L' := [true, false, false, false, false, false, false, false, false, false, false, false, false, false, false, false, false, false, false, false, false, false, false, false]) rfl (by kernel_rfl) rfl (Ext.refl _) (fun _ s' => x_load rfl rfl (((((b152.ext x158).ext x163).ext x169).ext s').agg (vs := [iJ ((decR f i l).1.inst.replica), iJ ((decR f i l).1.inst.slot), iJ ((decR f i l).1.status), iJ ((decR f i l).1.promise.number), iJ ((decR f i l).1.promise.replica), iJ ((decR f i l).1.ballot.number), iJ ((decR f i l).1.ballot.replica), iJ ((decR f i l).1.cmd.kind), iJ ((decR f i l).1.cmd.txn.client), iJ ((decR f i l).1.cmd.txn.number), iJ ((decR f i l).1.cmd.stp.time), iJ ((decR f i l).1.cmd.stp.client), iJ ((decR f i l).1.cmd.shards), .slice p146.A ((decR f i l).1.cmd.reads.length) p146.n, .slice p146.B ((decR f i l).1.cmd.writes.length) p146.m, .bool ((decR f i l).1.cmd.commit), iJ ((decR f i l).1.seq), iJ ((decR f i l).1.deps.d0), iJ ((decR f i l).1.deps.d1), iJ ((decR f i l).1.deps.d2), iJ ((decR f i l).1.deps.d3), iJ ((decR f i l).1.deps.d4), iJ ((decR f i l).1.deps.d5), iJ ((decR f i l).1.deps.d6), .bool ((decR f i l).1.kept)]) agg_40_25 rfl)) ?_
     refine d_take (v := vRec ((decR f i l).1) p156) (i := 1) (d := 31) (L' := [true, true, false, false, false, false, false, false, false, false, false, false, false, false, false, false, false, false, false, false, false, false, false, false]) rfl (by kernel_rfl) rfl (Ext.refl _) (fun _ s' => x_load rfl rfl (((b162.ext x169).ext s').agg (vs := [iJ ((decR f i l).1.inst.replica), iJ ((decR f i l).1.inst.slot), iJ ((decR f i l).1.status), iJ ((decR f i l).1.promise.number), iJ ((decR f i l).1.promise.replica), iJ ((decR f i l).1.ballot.number), iJ ((decR f i l).1.ballot.replica), iJ ((decR f i l).1.cmd.kind), iJ ((decR f i l).1.cmd.txn.client), iJ ((decR f i l).1.cmd.txn.number), iJ ((decR f i l).1.cmd.stp.time), iJ ((decR f i l).1.cmd.stp.client), iJ ((decR f i l).1.cmd.shards), .slice p156.A ((decR f i l).1.cmd.reads.length) p156.n, .slice p156.B ((decR f i l).1.cmd.writes.length) p156.m, .bool ((decR f i l).1.cmd.commit), iJ ((decR f i l).1.seq), iJ ((decR f i l).1.deps.d0), iJ ((decR f i l).1.deps.d1), iJ ((decR f i l).1.deps.d2), iJ ((decR f i l).1.deps.d3), iJ ((decR f i l).1.deps.d4), iJ ((decR f i l).1.deps.d5), iJ ((decR f i l).1.deps.d6), .bool ((decR f i l).1.kept)]) agg_40_25 rfl)) ?_
     refine d_act1 (i := 2) (L' := [true, true, true, false, false, false, false, false, false, false, false, false, false, false, false, false, false, false, false, false, false, false, false, false]) (by kernel_rfl) rfl rfl ?_
     refine p_call (vs := #[.agg #[iJ ((decR f i l).1.inst.replica), iJ ((decR f i l).1.inst.slot), iJ ((decR f i l).1.status), iJ ((decR f i l).1.promise.number), iJ ((decR f i l).1.promise.replica), iJ ((decR f i l).1.ballot.number), iJ ((decR f i l).1.ballot.replica), iJ ((decR f i l).1.cmd.kind), iJ ((decR f i l).1.cmd.txn.client), iJ ((decR f i l).1.cmd.txn.number), iJ ((decR f i l).1.cmd.stp.time), iJ ((decR f i l).1.cmd.stp.client), iJ ((decR f i l).1.cmd.shards), .slice p146.A ((decR f i l).1.cmd.reads.length) p146.n, .slice p146.B ((decR f i l).1.cmd.writes.length) p146.m, .bool ((decR f i l).1.cmd.commit), iJ ((decR f i l).1.seq), iJ ((decR f i l).1.deps.d0), iJ ((decR f i l).1.deps.d1), iJ ((decR f i l).1.deps.d2), iJ ((decR f i l).1.deps.d3), iJ ((decR f i l).1.deps.d4), iJ ((decR f i l).1.deps.d5), iJ ((decR f i l).1.deps.d6), .bool ((decR f i l).1.kept)], vRec ((decR f i l).1) p156]) fn_13 rfl rfl rfl (args2 rfl rfl) ?_
     refine (Calls.asBool (decide_eq_true (rfl : (decR f i l).1 = (decR f i l).1)) (D_sameRec _ ((decR f i l).1) p146 (((hc154.ext x158).ext x163).ext x169) ((decR f i l).1) p156 ((hc157.ext x163).ext x169))).mono ?_
     rintro e w171 ⟨rfl, x172⟩
     refine ⟨_, rfl, ?_⟩
     refine d_next x172 ?_
     refine d_take (v := .bool true) (i := 3) (d := 33) (L' := [true, true, true, true, false, false, false, false, false, false, false, false, false, false, false, false, false, false, false, false, false, false, false, false]) rfl (by kernel_rfl) rfl x172 (fun _ s' => x_move rfl rfl) ?_
     refine d_take (v := iJ ((decR f i l).2)) (i := 4) (d := 34) (L' := [true, true, true, true, true, false, false, false, false, false, false, false, false, false, false, false, false, false, false, false, false, false, false, false]) rfl (by kernel_rfl) rfl x172 (fun _ s' => x_move rfl rfl) ?_
     refine d_take (v := iJ ((decR f i l).2)) (i := 5) (d := 35) (L' := [true, true, true, true, true, true, false, false, false, false, false, false, false, false, false, false, false, false, false, false, false, false, false, false]) rfl (by kernel_rfl) rfl x172 (fun _ s' => x_move rfl rfl) ?_
     refine d_take (v := .bool true) (i := 6) (d := 36) (L' := [true, true, true, true, true, true, true, false, false, false, false, false, false, false, false, false, false, false, false, false, false, false, false, false]) rfl (by kernel_rfl) rfl x172 (fun _ s' => yb (x_eql rfl rfl rfl) (by simp)) ?_
     refine d_take (v := .bool true) (i := 7) (d := 37) (L' := [true, true, true, true, true, true, true, true, false, false, false, false, false, false, false, false, false, false, false, false, false, false, false, false]) rfl (by kernel_rfl) rfl x172 (fun _ s' => x_pick_t rfl rfl rfl) ?_
     refine d_take (v := .bool true) (i := 8) (d := 38) (L' := [true, true, true, true, true, true, true, true, true, false, false, false, false, false, false, false, false, false, false, false, false, false, false, false]) rfl (by kernel_rfl) rfl x172 (fun _ s' => x_move rfl rfl) ?_
     refine d_take (v := iJ f) (i := 9) (d := 39) (L' := [true, true, true, true, true, true, true, true, true, true, false, false, false, false, false, false, false, false, false, false, false, false, false, false]) rfl (by kernel_rfl) rfl x172 (fun _ s' => x_move rfl rfl) ?_
     refine d_take (v := vInst i) (i := 10) (d := 40) (L' := [true, true, true, true, true, true, true, true, true, true, true, false, false, false, false, false, false, false, false, false, false, false, false, false]) rfl (by kernel_rfl) rfl x172 (fun _ s' => x_load rfl rfl ((b2.ext (((((((((x7.trans x9).trans x15).trans x143).trans x148).stored ((x7.trans x9).trans x15).size s153).trans x158).trans x163).trans x169).trans s')).agg (vs := [iJ i.replica, iJ i.slot]) agg_23_2 rfl)) ?_
     refine d_take (v := .slice A l.length c) (i := 11) (d := 41) (L' := [true, true, true, true, true, true, true, true, true, true, true, true, false, false, false, false, false, false, false, false, false, false, false, false]) rfl (by kernel_rfl) rfl x172 (fun _ s' => x_move rfl rfl) ?_
     refine d_take (v := iJ f) (i := 14) (d := 44) (L' := [true, true, true, true, true, true, true, true, true, true, true, true, false, false, true, false, false, false, false, false, false, false, false, false]) rfl (by kernel_rfl) rfl x172 (fun _ s' => x_move rfl rfl) ?_
     refine d_take (v := vInst i) (i := 15) (d := 45) (L' := [true, true, true, true, true, true, true, true, true, true, true, true, false, false, true, true, false, false, false, false, false, false, false, false]) rfl (by kernel_rfl) rfl x172 (fun _ s' => x_load rfl rfl ((b2.ext (((((((((x7.trans x9).trans x15).trans x143).trans x148).stored ((x7.trans x9).trans x15).size s153).trans x158).trans x163).trans x169).trans s')).agg (vs := [iJ i.replica, iJ i.slot]) agg_23_2 rfl)) ?_
     refine d_take (v := .slice A l.length c) (i := 16) (d := 46) (L' := [true, true, true, true, true, true, true, true, true, true, true, true, false, false, true, true, true, false, false, false, false, false, false, false]) rfl (by kernel_rfl) rfl x172 (fun _ s' => x_move rfl rfl) ?_
     refine d_act1 (i := 12) (L' := [true, true, true, true, true, true, true, true, true, true, true, true, true, false, true, true, true, false, false, false, false, false, false, false]) (by kernel_rfl) rfl rfl ?_
     refine p_call (vs := #[.slice A l.length c]) fn_11 rfl rfl rfl (args1 rfl) ?_
     refine (C_given _ A c l (hV.ext ((((((((((x3.trans x7).trans x9).trans x15).trans x143).trans x148).stored (((x3.trans x7).trans x9).trans x15).size s153).trans x158).trans x163).trans x169).trans x172))).mono ?_
     rintro e w173 ⟨A174, c175, rfl, hV176, x177⟩
     refine ⟨_, rfl, ?_⟩
     refine d_next (x172.trans x177) ?_
     refine d_act1 (i := 13) (L' := [true, true, true, true, true, true, true, true, true, true, true, true, true, true, true, true, true, false, false, false, false, false, false, false]) (by kernel_rfl) rfl rfl ?_
     refine p_call (vs := #[iJ f, vInst i, .slice A174 l.length c175]) fn_14 rfl rfl rfl (args3 rfl rfl rfl) ?_
     refine (C_fast _ f i A174 c175 l hV176).mono ?_
     rintro e w178 ⟨rfl, x179⟩
     refine ⟨_, rfl, ?_⟩
     cases c180 : fastR f i (counted l)
     case false =>
      refine d_next ((x172.trans x177).trans x179) ?_
      refine d_act1 (i := 17) (L' := [true, true, true, true, true, true, true, true, true, true, true, true, true, true, true, true, true, true, false, false, false, false, false, false]) (by kernel_rfl) rfl rfl ?_
      refine p_call (vs := #[iJ f, vInst i, .slice A l.length c]) fn_15 rfl rfl rfl (args3 rfl rfl rfl) ?_
      refine (Calls.asBool c180 (D_fast _ f i A c l (hV.ext ((((((((((((x3.trans x7).trans x9).trans x15).trans x143).trans x148).stored (((x3.trans x7).trans x9).trans x15).size s153).trans x158).trans x163).trans x169).trans x172).trans x177).trans x179)))).mono ?_
      rintro e w181 ⟨rfl, x182⟩
      refine ⟨_, rfl, ?_⟩
      refine d_next (((x172.trans x177).trans x179).trans x182) ?_
      refine d_take (v := .bool true) (i := 18) (d := 48) (L' := [true, true, true, true, true, true, true, true, true, true, true, true, true, true, true, true, true, true, true, false, false, false, false, false]) rfl (by kernel_rfl) rfl (((x172.trans x177).trans x179).trans x182) (fun _ s' => yb (x_beql (a := false) (b := false) bool_4 rfl rfl rfl) rfl) ?_
      refine d_take (v := .bool true) (i := 19) (d := 49) (L' := [true, true, true, true, true, true, true, true, true, true, true, true, true, true, true, true, true, true, true, true, false, false, false, false]) rfl (by kernel_rfl) rfl (((x172.trans x177).trans x179).trans x182) (fun _ s' => x_pick_t rfl rfl rfl) ?_
      refine d_take (v := .bool true) (i := 20) (d := 50) (L' := [true, true, true, true, true, true, true, true, true, true, true, true, true, true, true, true, true, true, true, true, true, false, false, false]) rfl (by kernel_rfl) rfl (((x172.trans x177).trans x179).trans x182) (fun _ s' => x_move rfl rfl) ?_
      refine d_act1 (i := 21) (L' := [true, true, true, true, true, true, true, true, true, true, true, true, true, true, true, true, true, true, true, true, true, true, false, false]) (by kernel_rfl) rfl rfl ?_
      refine p_call (vs := #[]) fn_9 rfl rfl rfl (args0) ?_
      refine (C_awake _).mono ?_
      rintro e w183 ⟨rfl, x184⟩
      refine ⟨_, rfl, ?_⟩
      refine d_next ((((x172.trans x177).trans x179).trans x182).trans x184) ?_
      refine d_take (v := .bool true) (i := 22) (d := 52) (L' := [true, true, true, true, true, true, true, true, true, true, true, true, true, true, true, true, true, true, true, true, true, true, true, false]) rfl (by kernel_rfl) rfl ((((x172.trans x177).trans x179).trans x182).trans x184) (fun _ s' => x_pick_t rfl rfl rfl) ?_
      refine d_take (v := .bool true) (i := 23) (d := 6) (L' := [true, true, true, true, true, true, true, true, true, true, true, true, true, true, true, true, true, true, true, true, true, true, true, true]) rfl (by kernel_rfl) rfl ((((x172.trans x177).trans x179).trans x182).trans x184) (fun _ s' => x_assign rfl rfl) ?_
      refine d_end (by kernel_rfl) ?_
      exact t_norm ⟨_, rfl, rfl, (((((x169.trans x172).trans x177).trans x179).trans x182).trans x184)⟩
     refine d_next ((x172.trans x177).trans x179) ?_
     refine d_act1 (i := 17) (L' := [true, true, true, true, true, true, true, true, true, true, true, true, true, true, true, true, true, true, false, false, false, false, false, false]) (by kernel_rfl) rfl rfl ?_
     refine p_call (vs := #[iJ f, vInst i, .slice A l.length c]) fn_15 rfl rfl rfl (args3 rfl rfl rfl) ?_
     refine (Calls.asBool c180 (D_fast _ f i A c l (hV.ext ((((((((((((x3.trans x7).trans x9).trans x15).trans x143).trans x148).stored (((x3.trans x7).trans x9).trans x15).size s153).trans x158).trans x163).trans x169).trans x172).trans x177).trans x179)))).mono ?_
     rintro e w185 ⟨rfl, x186⟩
     refine ⟨_, rfl, ?_⟩
     refine d_next (((x172.trans x177).trans x179).trans x186) ?_
     refine d_take (v := .bool true) (i := 18) (d := 48) (L' := [true, true, true, true, true, true, true, true, true, true, true, true, true, true, true, true, true, true, true, false, false, false, false, false]) rfl (by kernel_rfl) rfl (((x172.trans x177).trans x179).trans x186) (fun _ s' => yb (x_beql (a := true) (b := true) bool_4 rfl rfl rfl) rfl) ?_
     refine d_take (v := .bool true) (i := 19) (d := 49) (L' := [true, true, true, true, true, true, true, true, true, true, true, true, true, true, true, true, true, true, true, true, false, false, false, false]) rfl (by kernel_rfl) rfl (((x172.trans x177).trans x179).trans x186) (fun _ s' => x_pick_t rfl rfl rfl) ?_
     refine d_take (v := .bool true) (i := 20) (d := 50) (L' := [true, true, true, true, true, true, true, true, true, true, true, true, true, true, true, true, true, true, true, true, true, false, false, false]) rfl (by kernel_rfl) rfl (((x172.trans x177).trans x179).trans x186) (fun _ s' => x_move rfl rfl) ?_
     refine d_act1 (i := 21) (L' := [true, true, true, true, true, true, true, true, true, true, true, true, true, true, true, true, true, true, true, true, true, true, false, false]) (by kernel_rfl) rfl rfl ?_
     refine p_call (vs := #[]) fn_9 rfl rfl rfl (args0) ?_
     refine (C_awake _).mono ?_
     rintro e w187 ⟨rfl, x188⟩
     refine ⟨_, rfl, ?_⟩
     refine d_next ((((x172.trans x177).trans x179).trans x186).trans x188) ?_
     refine d_take (v := .bool true) (i := 22) (d := 52) (L' := [true, true, true, true, true, true, true, true, true, true, true, true, true, true, true, true, true, true, true, true, true, true, true, false]) rfl (by kernel_rfl) rfl ((((x172.trans x177).trans x179).trans x186).trans x188) (fun _ s' => x_pick_t rfl rfl rfl) ?_
     refine d_take (v := .bool true) (i := 23) (d := 6) (L' := [true, true, true, true, true, true, true, true, true, true, true, true, true, true, true, true, true, true, true, true, true, true, true, true]) rfl (by kernel_rfl) rfl ((((x172.trans x177).trans x179).trans x186).trans x188) (fun _ s' => x_assign rfl rfl) ?_
     refine d_end (by kernel_rfl) ?_
     exact t_norm ⟨_, rfl, rfl, (((((x169.trans x172).trans x177).trans x179).trans x186).trans x188)⟩
    rintro ρ w165 ⟨e166, kp167⟩
    exact t_norm (c_ret (c_done rfl e166 (Ret.b (rfl) (((((((((x3.trans x7).trans x9).trans x15).trans x143).trans x148).stored (((x3.trans x7).trans x9).trans x15).size s153).trans x158).trans x163).trans kp167))))
   refine p_store (v := vRec ((decR f i l).1) p146) (vs := [iJ ((decR f i l).1.inst.replica), iJ ((decR f i l).1.inst.slot), iJ ((decR f i l).1.status), iJ ((decR f i l).1.promise.number), iJ ((decR f i l).1.promise.replica), iJ ((decR f i l).1.ballot.number), iJ ((decR f i l).1.ballot.replica), iJ ((decR f i l).1.cmd.kind), iJ ((decR f i l).1.cmd.txn.client), iJ ((decR f i l).1.cmd.txn.number), iJ ((decR f i l).1.cmd.stp.time), iJ ((decR f i l).1.cmd.stp.client), iJ ((decR f i l).1.cmd.shards), .slice p146.A ((decR f i l).1.cmd.reads.length) p146.n, .slice p146.B ((decR f i l).1.cmd.writes.length) p146.m, .bool ((decR f i l).1.cmd.commit), iJ ((decR f i l).1.seq), iJ ((decR f i l).1.deps.d0), iJ ((decR f i l).1.deps.d1), iJ ((decR f i l).1.deps.d2), iJ ((decR f i l).1.deps.d3), iJ ((decR f i l).1.deps.d4), iJ ((decR f i l).1.deps.d5), iJ ((decR f i l).1.deps.d6), .bool ((decR f i l).1.kept)]) (cs' := [iJ ((decR f i l).1.inst.replica), iJ ((decR f i l).1.inst.slot), iJ ((decR f i l).1.status), iJ ((decR f i l).1.promise.number), iJ ((decR f i l).1.promise.replica), iJ ((decR f i l).1.ballot.number), iJ ((decR f i l).1.ballot.replica), iJ ((decR f i l).1.cmd.kind), iJ ((decR f i l).1.cmd.txn.client), iJ ((decR f i l).1.cmd.txn.number), iJ ((decR f i l).1.cmd.stp.time), iJ ((decR f i l).1.cmd.stp.client), iJ ((decR f i l).1.cmd.shards), .slice p146.A ((decR f i l).1.cmd.reads.length) p146.n, .slice p146.B ((decR f i l).1.cmd.writes.length) p146.m, .bool ((decR f i l).1.cmd.commit), iJ ((decR f i l).1.seq), iJ ((decR f i l).1.deps.d0), iJ ((decR f i l).1.deps.d1), iJ ((decR f i l).1.deps.d2), iJ ((decR f i l).1.deps.d3), iJ ((decR f i l).1.deps.d4), iJ ((decR f i l).1.deps.d5), iJ ((decR f i l).1.deps.d6), .bool ((decR f i l).1.kept)]) rfl rfl rfl rfl rfl rfl (b142.ext x148) size_40 rfl rfl rfl (fun w189 b190 s191 => ?_)
   have hc192 := hc147.far s191 (fun ad h => by have hf := fa149 ad h; omega) (fun ad h => by have hf := fb150 ad h; omega)
   refine h_nextG (i := 9) (fun h => absurd rfl h) ?_
   refine h_act1 (i := 7) (L' := [true, true, true, true, true, true, true, true, true, true, false]) (by kernel_rfl) rfl rfl ?_
   refine pv (iJ ((decR f i l).2)) (x_extract rfl rfl rfl) ?_
   refine h_nextG (i := 7) (fun _ h => by cases h) ?_
   refine h_act1 (i := 10) (L' := [true, true, true, true, true, true, true, true, true, true, true]) (by kernel_rfl) rfl rfl ?_
   refine pv (iJ ((decR f i l).2)) (x_assign rfl rfl) ?_
   refine h_nextG (i := 10) (fun _ h => by cases h) ?_
   refine h_end (by kernel_rfl) ?_
   refine t_norm (c_seq (c_plain (pv (iJ f) (x_move rfl rfl) ?_)))
   refine pv (vInst i) (x_load rfl rfl ((b2.ext (((((x7.trans x9).trans x15).trans x143).trans x148).stored ((x7.trans x9).trans x15).size s191)).agg (vs := [iJ i.replica, iJ i.slot]) agg_23_2 rfl)) ?_
   refine pv (.slice A l.length c) (x_move rfl rfl) ?_
   refine p_call (vs := #[iJ f, vInst i, .slice A l.length c]) fn_12 rfl rfl rfl (args3 rfl rfl rfl) ?_
   refine (D_decide _ f i A c l (hV.ext ((((((x3.trans x7).trans x9).trans x15).trans x143).trans x148).stored (((x3.trans x7).trans x9).trans x15).size s191))).mono ?_
   rintro e w193 ⟨p194, rfl, hc195, x196⟩
   refine ⟨_, rfl, ?_⟩
   refine pv (.tuple #[vRec ((decR f i l).1) p194, iJ ((decR f i l).2)]) (x_move rfl rfl) ?_
   refine pv (vRec ((decR f i l).1) p194) (x_extract rfl rfl rfl) ?_
   refine pv (iJ ((decR f i l).2)) (x_extract rfl rfl rfl) ?_
   refine p_var (v := vRec ((decR f i l).1) p194) (vs := [iJ ((decR f i l).1.inst.replica), iJ ((decR f i l).1.inst.slot), iJ ((decR f i l).1.status), iJ ((decR f i l).1.promise.number), iJ ((decR f i l).1.promise.replica), iJ ((decR f i l).1.ballot.number), iJ ((decR f i l).1.ballot.replica), iJ ((decR f i l).1.cmd.kind), iJ ((decR f i l).1.cmd.txn.client), iJ ((decR f i l).1.cmd.txn.number), iJ ((decR f i l).1.cmd.stp.time), iJ ((decR f i l).1.cmd.stp.client), iJ ((decR f i l).1.cmd.shards), .slice p194.A ((decR f i l).1.cmd.reads.length) p194.n, .slice p194.B ((decR f i l).1.cmd.writes.length) p194.m, .bool ((decR f i l).1.cmd.commit), iJ ((decR f i l).1.seq), iJ ((decR f i l).1.deps.d0), iJ ((decR f i l).1.deps.d1), iJ ((decR f i l).1.deps.d2), iJ ((decR f i l).1.deps.d3), iJ ((decR f i l).1.deps.d4), iJ ((decR f i l).1.deps.d5), iJ ((decR f i l).1.deps.d6), .bool ((decR f i l).1.kept)]) rfl rfl rfl zero_40 rfl rfl rfl rfl rfl rfl rfl size_40 rfl (fun w199 b200 x201 z202 => ?_)
   refine pv (iJ ((decR f i l).2)) (x_assign rfl rfl) ?_
   refine p_nil (t_norm (c_seq (c_meet (fun ρ w203 => ρ 6 = .bool true ∧ Ext w199 w203) ?_ ?_)))
   ·refine c_drawn mixed (by kernel_rfl) (fun _ _ _ _ _ h => h) (fun v1 v2 => Ext v1 v2) 24 rfl (fun w206 x207 z208 => ?_)
    refine d_take (v := .agg #[iJ ((decR f i l).1.inst.replica), iJ ((decR f i l).1.inst.slot), iJ ((decR f i l).1.status), iJ ((decR f i l).1.promise.number), iJ ((decR f i l).1.promise.replica), iJ ((decR f i l).1.ballot.number), iJ ((decR f i l).1.ballot.replica), iJ ((decR f i l).1.cmd.kind), iJ ((decR f i l).1.cmd.txn.client), iJ ((decR f i l).1.cmd.txn.number), iJ ((decR f i l).1.cmd.stp.time), iJ ((decR f i l).1.cmd.stp.client), iJ ((decR f i l).1.cmd.shards), .slice p146.A ((decR f i l).1.cmd.reads.length) p146.n, .slice p146.B ((decR f i l).1.cmd.writes.length) p146.m, .bool ((decR f i l).1.cmd.commit), iJ ((decR f i l).1.seq), iJ ((decR f i l).1.deps.d0), iJ ((decR f i l).1.deps.d1), iJ ((decR f i l).1.deps.d2), iJ ((decR f i l).1.deps.d3), iJ ((decR f i l).1.deps.d4), iJ ((decR f i l).1.deps.d5), iJ ((decR f i l).1.deps.d6), .bool ((decR f i l).1.kept)]) (i := 0) (d := 30) (L' := [true, false, false, false, false, false, false, false, false, false, false, false, false, false, false, false, false, false, false, false, false, false, false, false]) rfl (by kernel_rfl) rfl (Ext.refl _) (fun _ s' => x_load rfl rfl (((((b190.ext x196).ext x201).ext x207).ext s').agg (vs := [iJ ((decR f i l).1.inst.replica), iJ ((decR f i l).1.inst.slot), iJ ((decR f i l).1.status), iJ ((decR f i l).1.promise.number), iJ ((decR f i l).1.promise.replica), iJ ((decR f i l).1.ballot.number), iJ ((decR f i l).1.ballot.replica), iJ ((decR f i l).1.cmd.kind), iJ ((decR f i l).1.cmd.txn.client), iJ ((decR f i l).1.cmd.txn.number), iJ ((decR f i l).1.cmd.stp.time), iJ ((decR f i l).1.cmd.stp.client), iJ ((decR f i l).1.cmd.shards), .slice p146.A ((decR f i l).1.cmd.reads.length) p146.n, .slice p146.B ((decR f i l).1.cmd.writes.length) p146.m, .bool ((decR f i l).1.cmd.commit), iJ ((decR f i l).1.seq), iJ ((decR f i l).1.deps.d0), iJ ((decR f i l).1.deps.d1), iJ ((decR f i l).1.deps.d2), iJ ((decR f i l).1.deps.d3), iJ ((decR f i l).1.deps.d4), iJ ((decR f i l).1.deps.d5), iJ ((decR f i l).1.deps.d6), .bool ((decR f i l).1.kept)]) agg_40_25 rfl)) ?_
    refine d_take (v := vRec ((decR f i l).1) p194) (i := 1) (d := 31) (L' := [true, true, false, false, false, false, false, false, false, false, false, false, false, false, false, false, false, false, false, false, false, false, false, false]) rfl (by kernel_rfl) rfl (Ext.refl _) (fun _ s' => x_load rfl rfl (((b200.ext x207).ext s').agg (vs := [iJ ((decR f i l).1.inst.replica), iJ ((decR f i l).1.inst.slot), iJ ((decR f i l).1.status), iJ ((decR f i l).1.promise.number), iJ ((decR f i l).1.promise.replica), iJ ((decR f i l).1.ballot.number), iJ ((decR f i l).1.ballot.replica), iJ ((decR f i l).1.cmd.kind), iJ ((decR f i l).1.cmd.txn.client), iJ ((decR f i l).1.cmd.txn.number), iJ ((decR f i l).1.cmd.stp.time), iJ ((decR f i l).1.cmd.stp.client), iJ ((decR f i l).1.cmd.shards), .slice p194.A ((decR f i l).1.cmd.reads.length) p194.n, .slice p194.B ((decR f i l).1.cmd.writes.length) p194.m, .bool ((decR f i l).1.cmd.commit), iJ ((decR f i l).1.seq), iJ ((decR f i l).1.deps.d0), iJ ((decR f i l).1.deps.d1), iJ ((decR f i l).1.deps.d2), iJ ((decR f i l).1.deps.d3), iJ ((decR f i l).1.deps.d4), iJ ((decR f i l).1.deps.d5), iJ ((decR f i l).1.deps.d6), .bool ((decR f i l).1.kept)]) agg_40_25 rfl)) ?_
    refine d_act1 (i := 2) (L' := [true, true, true, false, false, false, false, false, false, false, false, false, false, false, false, false, false, false, false, false, false, false, false, false]) (by kernel_rfl) rfl rfl ?_
    refine p_call (vs := #[.agg #[iJ ((decR f i l).1.inst.replica), iJ ((decR f i l).1.inst.slot), iJ ((decR f i l).1.status), iJ ((decR f i l).1.promise.number), iJ ((decR f i l).1.promise.replica), iJ ((decR f i l).1.ballot.number), iJ ((decR f i l).1.ballot.replica), iJ ((decR f i l).1.cmd.kind), iJ ((decR f i l).1.cmd.txn.client), iJ ((decR f i l).1.cmd.txn.number), iJ ((decR f i l).1.cmd.stp.time), iJ ((decR f i l).1.cmd.stp.client), iJ ((decR f i l).1.cmd.shards), .slice p146.A ((decR f i l).1.cmd.reads.length) p146.n, .slice p146.B ((decR f i l).1.cmd.writes.length) p146.m, .bool ((decR f i l).1.cmd.commit), iJ ((decR f i l).1.seq), iJ ((decR f i l).1.deps.d0), iJ ((decR f i l).1.deps.d1), iJ ((decR f i l).1.deps.d2), iJ ((decR f i l).1.deps.d3), iJ ((decR f i l).1.deps.d4), iJ ((decR f i l).1.deps.d5), iJ ((decR f i l).1.deps.d6), .bool ((decR f i l).1.kept)], vRec ((decR f i l).1) p194]) fn_13 rfl rfl rfl (args2 rfl rfl) ?_
    refine (Calls.asBool (decide_eq_true (rfl : (decR f i l).1 = (decR f i l).1)) (D_sameRec _ ((decR f i l).1) p146 (((hc192.ext x196).ext x201).ext x207) ((decR f i l).1) p194 ((hc195.ext x201).ext x207))).mono ?_
    rintro e w209 ⟨rfl, x210⟩
    refine ⟨_, rfl, ?_⟩
    refine d_next x210 ?_
    refine d_take (v := .bool true) (i := 3) (d := 33) (L' := [true, true, true, true, false, false, false, false, false, false, false, false, false, false, false, false, false, false, false, false, false, false, false, false]) rfl (by kernel_rfl) rfl x210 (fun _ s' => x_move rfl rfl) ?_
    refine d_take (v := iJ ((decR f i l).2)) (i := 4) (d := 34) (L' := [true, true, true, true, true, false, false, false, false, false, false, false, false, false, false, false, false, false, false, false, false, false, false, false]) rfl (by kernel_rfl) rfl x210 (fun _ s' => x_move rfl rfl) ?_
    refine d_take (v := iJ ((decR f i l).2)) (i := 5) (d := 35) (L' := [true, true, true, true, true, true, false, false, false, false, false, false, false, false, false, false, false, false, false, false, false, false, false, false]) rfl (by kernel_rfl) rfl x210 (fun _ s' => x_move rfl rfl) ?_
    refine d_take (v := .bool true) (i := 6) (d := 36) (L' := [true, true, true, true, true, true, true, false, false, false, false, false, false, false, false, false, false, false, false, false, false, false, false, false]) rfl (by kernel_rfl) rfl x210 (fun _ s' => yb (x_eql rfl rfl rfl) (by simp)) ?_
    refine d_take (v := .bool true) (i := 7) (d := 37) (L' := [true, true, true, true, true, true, true, true, false, false, false, false, false, false, false, false, false, false, false, false, false, false, false, false]) rfl (by kernel_rfl) rfl x210 (fun _ s' => x_pick_t rfl rfl rfl) ?_
    refine d_take (v := .bool true) (i := 8) (d := 38) (L' := [true, true, true, true, true, true, true, true, true, false, false, false, false, false, false, false, false, false, false, false, false, false, false, false]) rfl (by kernel_rfl) rfl x210 (fun _ s' => x_move rfl rfl) ?_
    refine d_take (v := iJ f) (i := 9) (d := 39) (L' := [true, true, true, true, true, true, true, true, true, true, false, false, false, false, false, false, false, false, false, false, false, false, false, false]) rfl (by kernel_rfl) rfl x210 (fun _ s' => x_move rfl rfl) ?_
    refine d_take (v := vInst i) (i := 10) (d := 40) (L' := [true, true, true, true, true, true, true, true, true, true, true, false, false, false, false, false, false, false, false, false, false, false, false, false]) rfl (by kernel_rfl) rfl x210 (fun _ s' => x_load rfl rfl ((b2.ext (((((((((x7.trans x9).trans x15).trans x143).trans x148).stored ((x7.trans x9).trans x15).size s191).trans x196).trans x201).trans x207).trans s')).agg (vs := [iJ i.replica, iJ i.slot]) agg_23_2 rfl)) ?_
    refine d_take (v := .slice A l.length c) (i := 11) (d := 41) (L' := [true, true, true, true, true, true, true, true, true, true, true, true, false, false, false, false, false, false, false, false, false, false, false, false]) rfl (by kernel_rfl) rfl x210 (fun _ s' => x_move rfl rfl) ?_
    refine d_take (v := iJ f) (i := 14) (d := 44) (L' := [true, true, true, true, true, true, true, true, true, true, true, true, false, false, true, false, false, false, false, false, false, false, false, false]) rfl (by kernel_rfl) rfl x210 (fun _ s' => x_move rfl rfl) ?_
    refine d_take (v := vInst i) (i := 15) (d := 45) (L' := [true, true, true, true, true, true, true, true, true, true, true, true, false, false, true, true, false, false, false, false, false, false, false, false]) rfl (by kernel_rfl) rfl x210 (fun _ s' => x_load rfl rfl ((b2.ext (((((((((x7.trans x9).trans x15).trans x143).trans x148).stored ((x7.trans x9).trans x15).size s191).trans x196).trans x201).trans x207).trans s')).agg (vs := [iJ i.replica, iJ i.slot]) agg_23_2 rfl)) ?_
    refine d_take (v := .slice A l.length c) (i := 16) (d := 46) (L' := [true, true, true, true, true, true, true, true, true, true, true, true, false, false, true, true, true, false, false, false, false, false, false, false]) rfl (by kernel_rfl) rfl x210 (fun _ s' => x_move rfl rfl) ?_
    refine d_act1 (i := 12) (L' := [true, true, true, true, true, true, true, true, true, true, true, true, true, false, true, true, true, false, false, false, false, false, false, false]) (by kernel_rfl) rfl rfl ?_
    refine p_call (vs := #[.slice A l.length c]) fn_11 rfl rfl rfl (args1 rfl) ?_
    refine (C_given _ A c l (hV.ext ((((((((((x3.trans x7).trans x9).trans x15).trans x143).trans x148).stored (((x3.trans x7).trans x9).trans x15).size s191).trans x196).trans x201).trans x207).trans x210))).mono ?_
    rintro e w211 ⟨A212, c213, rfl, hV214, x215⟩
    refine ⟨_, rfl, ?_⟩
    refine d_next (x210.trans x215) ?_
    refine d_act1 (i := 13) (L' := [true, true, true, true, true, true, true, true, true, true, true, true, true, true, true, true, true, false, false, false, false, false, false, false]) (by kernel_rfl) rfl rfl ?_
    refine p_call (vs := #[iJ f, vInst i, .slice A212 l.length c213]) fn_14 rfl rfl rfl (args3 rfl rfl rfl) ?_
    refine (C_fast _ f i A212 c213 l hV214).mono ?_
    rintro e w216 ⟨rfl, x217⟩
    refine ⟨_, rfl, ?_⟩
    cases c218 : fastR f i (counted l)
    case false =>
     refine d_next ((x210.trans x215).trans x217) ?_
     refine d_act1 (i := 17) (L' := [true, true, true, true, true, true, true, true, true, true, true, true, true, true, true, true, true, true, false, false, false, false, false, false]) (by kernel_rfl) rfl rfl ?_
     refine p_call (vs := #[iJ f, vInst i, .slice A l.length c]) fn_15 rfl rfl rfl (args3 rfl rfl rfl) ?_
     refine (Calls.asBool c218 (D_fast _ f i A c l (hV.ext ((((((((((((x3.trans x7).trans x9).trans x15).trans x143).trans x148).stored (((x3.trans x7).trans x9).trans x15).size s191).trans x196).trans x201).trans x207).trans x210).trans x215).trans x217)))).mono ?_
     rintro e w219 ⟨rfl, x220⟩
     refine ⟨_, rfl, ?_⟩
     refine d_next (((x210.trans x215).trans x217).trans x220) ?_
     refine d_take (v := .bool true) (i := 18) (d := 48) (L' := [true, true, true, true, true, true, true, true, true, true, true, true, true, true, true, true, true, true, true, false, false, false, false, false]) rfl (by kernel_rfl) rfl (((x210.trans x215).trans x217).trans x220) (fun _ s' => yb (x_beql (a := false) (b := false) bool_4 rfl rfl rfl) rfl) ?_
     refine d_take (v := .bool true) (i := 19) (d := 49) (L' := [true, true, true, true, true, true, true, true, true, true, true, true, true, true, true, true, true, true, true, true, false, false, false, false]) rfl (by kernel_rfl) rfl (((x210.trans x215).trans x217).trans x220) (fun _ s' => x_pick_t rfl rfl rfl) ?_
     refine d_take (v := .bool true) (i := 20) (d := 50) (L' := [true, true, true, true, true, true, true, true, true, true, true, true, true, true, true, true, true, true, true, true, true, false, false, false]) rfl (by kernel_rfl) rfl (((x210.trans x215).trans x217).trans x220) (fun _ s' => x_move rfl rfl) ?_
     refine d_act1 (i := 21) (L' := [true, true, true, true, true, true, true, true, true, true, true, true, true, true, true, true, true, true, true, true, true, true, false, false]) (by kernel_rfl) rfl rfl ?_
     refine p_call (vs := #[]) fn_9 rfl rfl rfl (args0) ?_
     refine (C_awake _).mono ?_
     rintro e w221 ⟨rfl, x222⟩
     refine ⟨_, rfl, ?_⟩
     refine d_next ((((x210.trans x215).trans x217).trans x220).trans x222) ?_
     refine d_take (v := .bool true) (i := 22) (d := 52) (L' := [true, true, true, true, true, true, true, true, true, true, true, true, true, true, true, true, true, true, true, true, true, true, true, false]) rfl (by kernel_rfl) rfl ((((x210.trans x215).trans x217).trans x220).trans x222) (fun _ s' => x_pick_t rfl rfl rfl) ?_
     refine d_take (v := .bool true) (i := 23) (d := 6) (L' := [true, true, true, true, true, true, true, true, true, true, true, true, true, true, true, true, true, true, true, true, true, true, true, true]) rfl (by kernel_rfl) rfl ((((x210.trans x215).trans x217).trans x220).trans x222) (fun _ s' => x_assign rfl rfl) ?_
     refine d_end (by kernel_rfl) ?_
     exact t_norm ⟨_, rfl, rfl, (((((x207.trans x210).trans x215).trans x217).trans x220).trans x222)⟩
    refine d_next ((x210.trans x215).trans x217) ?_
    refine d_act1 (i := 17) (L' := [true, true, true, true, true, true, true, true, true, true, true, true, true, true, true, true, true, true, false, false, false, false, false, false]) (by kernel_rfl) rfl rfl ?_
    refine p_call (vs := #[iJ f, vInst i, .slice A l.length c]) fn_15 rfl rfl rfl (args3 rfl rfl rfl) ?_
    refine (Calls.asBool c218 (D_fast _ f i A c l (hV.ext ((((((((((((x3.trans x7).trans x9).trans x15).trans x143).trans x148).stored (((x3.trans x7).trans x9).trans x15).size s191).trans x196).trans x201).trans x207).trans x210).trans x215).trans x217)))).mono ?_
    rintro e w223 ⟨rfl, x224⟩
    refine ⟨_, rfl, ?_⟩
    refine d_next (((x210.trans x215).trans x217).trans x224) ?_
    refine d_take (v := .bool true) (i := 18) (d := 48) (L' := [true, true, true, true, true, true, true, true, true, true, true, true, true, true, true, true, true, true, true, false, false, false, false, false]) rfl (by kernel_rfl) rfl (((x210.trans x215).trans x217).trans x224) (fun _ s' => yb (x_beql (a := true) (b := true) bool_4 rfl rfl rfl) rfl) ?_
    refine d_take (v := .bool true) (i := 19) (d := 49) (L' := [true, true, true, true, true, true, true, true, true, true, true, true, true, true, true, true, true, true, true, true, false, false, false, false]) rfl (by kernel_rfl) rfl (((x210.trans x215).trans x217).trans x224) (fun _ s' => x_pick_t rfl rfl rfl) ?_
    refine d_take (v := .bool true) (i := 20) (d := 50) (L' := [true, true, true, true, true, true, true, true, true, true, true, true, true, true, true, true, true, true, true, true, true, false, false, false]) rfl (by kernel_rfl) rfl (((x210.trans x215).trans x217).trans x224) (fun _ s' => x_move rfl rfl) ?_
    refine d_act1 (i := 21) (L' := [true, true, true, true, true, true, true, true, true, true, true, true, true, true, true, true, true, true, true, true, true, true, false, false]) (by kernel_rfl) rfl rfl ?_
    refine p_call (vs := #[]) fn_9 rfl rfl rfl (args0) ?_
    refine (C_awake _).mono ?_
    rintro e w225 ⟨rfl, x226⟩
    refine ⟨_, rfl, ?_⟩
    refine d_next ((((x210.trans x215).trans x217).trans x224).trans x226) ?_
    refine d_take (v := .bool true) (i := 22) (d := 52) (L' := [true, true, true, true, true, true, true, true, true, true, true, true, true, true, true, true, true, true, true, true, true, true, true, false]) rfl (by kernel_rfl) rfl ((((x210.trans x215).trans x217).trans x224).trans x226) (fun _ s' => x_pick_t rfl rfl rfl) ?_
    refine d_take (v := .bool true) (i := 23) (d := 6) (L' := [true, true, true, true, true, true, true, true, true, true, true, true, true, true, true, true, true, true, true, true, true, true, true, true]) rfl (by kernel_rfl) rfl ((((x210.trans x215).trans x217).trans x224).trans x226) (fun _ s' => x_assign rfl rfl) ?_
    refine d_end (by kernel_rfl) ?_
    exact t_norm ⟨_, rfl, rfl, (((((x207.trans x210).trans x215).trans x217).trans x224).trans x226)⟩
   rintro ρ w203 ⟨e204, kp205⟩
   exact t_norm (c_ret (c_done rfl e204 (Ret.b (rfl) (((((((((x3.trans x7).trans x9).trans x15).trans x143).trans x148).stored (((x3.trans x7).trans x9).trans x15).size s191).trans x196).trans x201).trans kp205))))
  refine p_alloc (cs := [iJ 0, iJ 0, iJ 0, iJ 0, iJ 0, iJ 0, iJ 0, iJ 0, iJ 0, iJ 0, iJ 0, iJ 0, iJ 0, .slice none 0 0, .slice none 0 0, .bool false, iJ 0, iJ 0, iJ 0, iJ 0, iJ 0, iJ 0, iJ 0, iJ 0, .bool false]) rfl rfl rfl zero_40 rfl (fun w227 b228 x229 z230 => ?_)
  refine h_nextG (i := 8) (fun _ _ => x229) ?_
  refine h_act1 (i := 3) (L' := [true, true, true, true, false, false, false, false, true, false, false]) (by kernel_rfl) rfl rfl ?_
  refine p_call (vs := #[.slice A l.length c]) fn_11 rfl rfl rfl (args1 rfl) ?_
  refine (C_given _ A c l ((((hV.ext x3).ext x7).ext x9).ext x229)).mono ?_
  rintro e w231 ⟨A232, c233, rfl, hV234, x235⟩
  refine ⟨_, rfl, ?_⟩
  refine h_nextG (i := 3) (fun _ _ => (x229.trans x235)) ?_
  refine h_act1 (i := 4) (L' := [true, true, true, true, true, false, false, false, true, false, false]) (by kernel_rfl) rfl rfl ?_
  refine p_call (vs := #[iJ f, vInst i, .slice A232 l.length c233]) fn_10 rfl rfl rfl (args3 rfl rfl rfl) ?_
  refine (C_decide _ f i A232 c233 l hV234).mono ?_
  rintro e w236 ⟨p237, rfl, hc238, x239, fa240, fb241⟩
  refine ⟨_, rfl, ?_⟩
  refine h_nextG (i := 4) (fun _ _ => ((x229.trans x235).trans x239)) ?_
  refine h_take (v := .tuple #[vRec ((decR f i l).1) p237, iJ ((decR f i l).2)]) (i := 5) (d := 15) (L' := [true, true, true, true, true, true, false, false, true, false, false]) rfl (by kernel_rfl) rfl (by kernel_rfl) rfl rfl ((x229.trans x235).trans x239) (fun _ s' => x_move rfl rfl) ?_
  refine h_take (v := vRec ((decR f i l).1) p237) (i := 6) (d := 21) (L' := [true, true, true, true, true, true, true, false, true, false, false]) rfl (by kernel_rfl) rfl (by kernel_rfl) rfl rfl ((x229.trans x235).trans x239) (fun _ s' => x_extract rfl rfl rfl) ?_
  refine h_act2 (i := 7) (j := 9) (L' := [true, true, true, true, true, true, true, true, true, false, false]) (L'' := [true, true, true, true, true, true, true, false, true, true, false]) (by kernel_rfl) rfl rfl rfl rfl ?_ ?_
  ·refine pv (iJ ((decR f i l).2)) (x_extract rfl rfl rfl) ?_
   refine h_nextG (i := 7) (fun _ _ => ((x229.trans x235).trans x239)) ?_
   refine h_act1 (i := 9) (L' := [true, true, true, true, true, true, true, true, true, true, false]) (by kernel_rfl) rfl rfl ?_
   refine p_store (v := vRec ((decR f i l).1) p237) (vs := [iJ ((decR f i l).1.inst.replica), iJ ((decR f i l).1.inst.slot), iJ ((decR f i l).1.status), iJ ((decR f i l).1.promise.number), iJ ((decR f i l).1.promise.replica), iJ ((decR f i l).1.ballot.number), iJ ((decR f i l).1.ballot.replica), iJ ((decR f i l).1.cmd.kind), iJ ((decR f i l).1.cmd.txn.client), iJ ((decR f i l).1.cmd.txn.number), iJ ((decR f i l).1.cmd.stp.time), iJ ((decR f i l).1.cmd.stp.client), iJ ((decR f i l).1.cmd.shards), .slice p237.A ((decR f i l).1.cmd.reads.length) p237.n, .slice p237.B ((decR f i l).1.cmd.writes.length) p237.m, .bool ((decR f i l).1.cmd.commit), iJ ((decR f i l).1.seq), iJ ((decR f i l).1.deps.d0), iJ ((decR f i l).1.deps.d1), iJ ((decR f i l).1.deps.d2), iJ ((decR f i l).1.deps.d3), iJ ((decR f i l).1.deps.d4), iJ ((decR f i l).1.deps.d5), iJ ((decR f i l).1.deps.d6), .bool ((decR f i l).1.kept)]) (cs' := [iJ ((decR f i l).1.inst.replica), iJ ((decR f i l).1.inst.slot), iJ ((decR f i l).1.status), iJ ((decR f i l).1.promise.number), iJ ((decR f i l).1.promise.replica), iJ ((decR f i l).1.ballot.number), iJ ((decR f i l).1.ballot.replica), iJ ((decR f i l).1.cmd.kind), iJ ((decR f i l).1.cmd.txn.client), iJ ((decR f i l).1.cmd.txn.number), iJ ((decR f i l).1.cmd.stp.time), iJ ((decR f i l).1.cmd.stp.client), iJ ((decR f i l).1.cmd.shards), .slice p237.A ((decR f i l).1.cmd.reads.length) p237.n, .slice p237.B ((decR f i l).1.cmd.writes.length) p237.m, .bool ((decR f i l).1.cmd.commit), iJ ((decR f i l).1.seq), iJ ((decR f i l).1.deps.d0), iJ ((decR f i l).1.deps.d1), iJ ((decR f i l).1.deps.d2), iJ ((decR f i l).1.deps.d3), iJ ((decR f i l).1.deps.d4), iJ ((decR f i l).1.deps.d5), iJ ((decR f i l).1.deps.d6), .bool ((decR f i l).1.kept)]) rfl rfl rfl rfl rfl rfl ((b228.ext x235).ext x239) size_40 rfl rfl rfl (fun w242 b243 s244 => ?_)
   have hc245 := hc238.far s244 (fun ad h => by have hf := fa240 ad h; have hz := x235.size; omega) (fun ad h => by have hf := fb241 ad h; have hz := x235.size; omega)
   refine h_nextG (i := 9) (fun h => absurd rfl h) ?_
   refine h_act1 (i := 10) (L' := [true, true, true, true, true, true, true, true, true, true, true]) (by kernel_rfl) rfl rfl ?_
   refine pv (iJ ((decR f i l).2)) (x_assign rfl rfl) ?_
   refine h_nextG (i := 10) (fun _ h => by cases h) ?_
   refine h_end (by kernel_rfl) ?_
   refine t_norm (c_seq (c_plain (pv (iJ f) (x_move rfl rfl) ?_)))
   refine pv (vInst i) (x_load rfl rfl ((b2.ext (((((x7.trans x9).trans x229).trans x235).trans x239).stored (x7.trans x9).size s244)).agg (vs := [iJ i.replica, iJ i.slot]) agg_23_2 rfl)) ?_
   refine pv (.slice A l.length c) (x_move rfl rfl) ?_
   refine p_call (vs := #[iJ f, vInst i, .slice A l.length c]) fn_12 rfl rfl rfl (args3 rfl rfl rfl) ?_
   refine (D_decide _ f i A c l (hV.ext ((((((x3.trans x7).trans x9).trans x229).trans x235).trans x239).stored ((x3.trans x7).trans x9).size s244))).mono ?_
   rintro e w246 ⟨p247, rfl, hc248, x249⟩
   refine ⟨_, rfl, ?_⟩
   refine pv (.tuple #[vRec ((decR f i l).1) p247, iJ ((decR f i l).2)]) (x_move rfl rfl) ?_
   refine pv (vRec ((decR f i l).1) p247) (x_extract rfl rfl rfl) ?_
   refine pv (iJ ((decR f i l).2)) (x_extract rfl rfl rfl) ?_
   refine p_var (v := vRec ((decR f i l).1) p247) (vs := [iJ ((decR f i l).1.inst.replica), iJ ((decR f i l).1.inst.slot), iJ ((decR f i l).1.status), iJ ((decR f i l).1.promise.number), iJ ((decR f i l).1.promise.replica), iJ ((decR f i l).1.ballot.number), iJ ((decR f i l).1.ballot.replica), iJ ((decR f i l).1.cmd.kind), iJ ((decR f i l).1.cmd.txn.client), iJ ((decR f i l).1.cmd.txn.number), iJ ((decR f i l).1.cmd.stp.time), iJ ((decR f i l).1.cmd.stp.client), iJ ((decR f i l).1.cmd.shards), .slice p247.A ((decR f i l).1.cmd.reads.length) p247.n, .slice p247.B ((decR f i l).1.cmd.writes.length) p247.m, .bool ((decR f i l).1.cmd.commit), iJ ((decR f i l).1.seq), iJ ((decR f i l).1.deps.d0), iJ ((decR f i l).1.deps.d1), iJ ((decR f i l).1.deps.d2), iJ ((decR f i l).1.deps.d3), iJ ((decR f i l).1.deps.d4), iJ ((decR f i l).1.deps.d5), iJ ((decR f i l).1.deps.d6), .bool ((decR f i l).1.kept)]) rfl rfl rfl zero_40 rfl rfl rfl rfl rfl rfl rfl size_40 rfl (fun w252 b253 x254 z255 => ?_)
   refine pv (iJ ((decR f i l).2)) (x_assign rfl rfl) ?_
   refine p_nil (t_norm (c_seq (c_meet (fun ρ w256 => ρ 6 = .bool true ∧ Ext w252 w256) ?_ ?_)))
   ·refine c_drawn mixed (by kernel_rfl) (fun _ _ _ _ _ h => h) (fun v1 v2 => Ext v1 v2) 24 rfl (fun w259 x260 z261 => ?_)
    refine d_take (v := .agg #[iJ ((decR f i l).1.inst.replica), iJ ((decR f i l).1.inst.slot), iJ ((decR f i l).1.status), iJ ((decR f i l).1.promise.number), iJ ((decR f i l).1.promise.replica), iJ ((decR f i l).1.ballot.number), iJ ((decR f i l).1.ballot.replica), iJ ((decR f i l).1.cmd.kind), iJ ((decR f i l).1.cmd.txn.client), iJ ((decR f i l).1.cmd.txn.number), iJ ((decR f i l).1.cmd.stp.time), iJ ((decR f i l).1.cmd.stp.client), iJ ((decR f i l).1.cmd.shards), .slice p237.A ((decR f i l).1.cmd.reads.length) p237.n, .slice p237.B ((decR f i l).1.cmd.writes.length) p237.m, .bool ((decR f i l).1.cmd.commit), iJ ((decR f i l).1.seq), iJ ((decR f i l).1.deps.d0), iJ ((decR f i l).1.deps.d1), iJ ((decR f i l).1.deps.d2), iJ ((decR f i l).1.deps.d3), iJ ((decR f i l).1.deps.d4), iJ ((decR f i l).1.deps.d5), iJ ((decR f i l).1.deps.d6), .bool ((decR f i l).1.kept)]) (i := 0) (d := 30) (L' := [true, false, false, false, false, false, false, false, false, false, false, false, false, false, false, false, false, false, false, false, false, false, false, false]) rfl (by kernel_rfl) rfl (Ext.refl _) (fun _ s' => x_load rfl rfl (((((b243.ext x249).ext x254).ext x260).ext s').agg (vs := [iJ ((decR f i l).1.inst.replica), iJ ((decR f i l).1.inst.slot), iJ ((decR f i l).1.status), iJ ((decR f i l).1.promise.number), iJ ((decR f i l).1.promise.replica), iJ ((decR f i l).1.ballot.number), iJ ((decR f i l).1.ballot.replica), iJ ((decR f i l).1.cmd.kind), iJ ((decR f i l).1.cmd.txn.client), iJ ((decR f i l).1.cmd.txn.number), iJ ((decR f i l).1.cmd.stp.time), iJ ((decR f i l).1.cmd.stp.client), iJ ((decR f i l).1.cmd.shards), .slice p237.A ((decR f i l).1.cmd.reads.length) p237.n, .slice p237.B ((decR f i l).1.cmd.writes.length) p237.m, .bool ((decR f i l).1.cmd.commit), iJ ((decR f i l).1.seq), iJ ((decR f i l).1.deps.d0), iJ ((decR f i l).1.deps.d1), iJ ((decR f i l).1.deps.d2), iJ ((decR f i l).1.deps.d3), iJ ((decR f i l).1.deps.d4), iJ ((decR f i l).1.deps.d5), iJ ((decR f i l).1.deps.d6), .bool ((decR f i l).1.kept)]) agg_40_25 rfl)) ?_
    refine d_take (v := vRec ((decR f i l).1) p247) (i := 1) (d := 31) (L' := [true, true, false, false, false, false, false, false, false, false, false, false, false, false, false, false, false, false, false, false, false, false, false, false]) rfl (by kernel_rfl) rfl (Ext.refl _) (fun _ s' => x_load rfl rfl (((b253.ext x260).ext s').agg (vs := [iJ ((decR f i l).1.inst.replica), iJ ((decR f i l).1.inst.slot), iJ ((decR f i l).1.status), iJ ((decR f i l).1.promise.number), iJ ((decR f i l).1.promise.replica), iJ ((decR f i l).1.ballot.number), iJ ((decR f i l).1.ballot.replica), iJ ((decR f i l).1.cmd.kind), iJ ((decR f i l).1.cmd.txn.client), iJ ((decR f i l).1.cmd.txn.number), iJ ((decR f i l).1.cmd.stp.time), iJ ((decR f i l).1.cmd.stp.client), iJ ((decR f i l).1.cmd.shards), .slice p247.A ((decR f i l).1.cmd.reads.length) p247.n, .slice p247.B ((decR f i l).1.cmd.writes.length) p247.m, .bool ((decR f i l).1.cmd.commit), iJ ((decR f i l).1.seq), iJ ((decR f i l).1.deps.d0), iJ ((decR f i l).1.deps.d1), iJ ((decR f i l).1.deps.d2), iJ ((decR f i l).1.deps.d3), iJ ((decR f i l).1.deps.d4), iJ ((decR f i l).1.deps.d5), iJ ((decR f i l).1.deps.d6), .bool ((decR f i l).1.kept)]) agg_40_25 rfl)) ?_
    refine d_act1 (i := 2) (L' := [true, true, true, false, false, false, false, false, false, false, false, false, false, false, false, false, false, false, false, false, false, false, false, false]) (by kernel_rfl) rfl rfl ?_
    refine p_call (vs := #[.agg #[iJ ((decR f i l).1.inst.replica), iJ ((decR f i l).1.inst.slot), iJ ((decR f i l).1.status), iJ ((decR f i l).1.promise.number), iJ ((decR f i l).1.promise.replica), iJ ((decR f i l).1.ballot.number), iJ ((decR f i l).1.ballot.replica), iJ ((decR f i l).1.cmd.kind), iJ ((decR f i l).1.cmd.txn.client), iJ ((decR f i l).1.cmd.txn.number), iJ ((decR f i l).1.cmd.stp.time), iJ ((decR f i l).1.cmd.stp.client), iJ ((decR f i l).1.cmd.shards), .slice p237.A ((decR f i l).1.cmd.reads.length) p237.n, .slice p237.B ((decR f i l).1.cmd.writes.length) p237.m, .bool ((decR f i l).1.cmd.commit), iJ ((decR f i l).1.seq), iJ ((decR f i l).1.deps.d0), iJ ((decR f i l).1.deps.d1), iJ ((decR f i l).1.deps.d2), iJ ((decR f i l).1.deps.d3), iJ ((decR f i l).1.deps.d4), iJ ((decR f i l).1.deps.d5), iJ ((decR f i l).1.deps.d6), .bool ((decR f i l).1.kept)], vRec ((decR f i l).1) p247]) fn_13 rfl rfl rfl (args2 rfl rfl) ?_
    refine (Calls.asBool (decide_eq_true (rfl : (decR f i l).1 = (decR f i l).1)) (D_sameRec _ ((decR f i l).1) p237 (((hc245.ext x249).ext x254).ext x260) ((decR f i l).1) p247 ((hc248.ext x254).ext x260))).mono ?_
    rintro e w262 ⟨rfl, x263⟩
    refine ⟨_, rfl, ?_⟩
    refine d_next x263 ?_
    refine d_take (v := .bool true) (i := 3) (d := 33) (L' := [true, true, true, true, false, false, false, false, false, false, false, false, false, false, false, false, false, false, false, false, false, false, false, false]) rfl (by kernel_rfl) rfl x263 (fun _ s' => x_move rfl rfl) ?_
    refine d_take (v := iJ ((decR f i l).2)) (i := 4) (d := 34) (L' := [true, true, true, true, true, false, false, false, false, false, false, false, false, false, false, false, false, false, false, false, false, false, false, false]) rfl (by kernel_rfl) rfl x263 (fun _ s' => x_move rfl rfl) ?_
    refine d_take (v := iJ ((decR f i l).2)) (i := 5) (d := 35) (L' := [true, true, true, true, true, true, false, false, false, false, false, false, false, false, false, false, false, false, false, false, false, false, false, false]) rfl (by kernel_rfl) rfl x263 (fun _ s' => x_move rfl rfl) ?_
    refine d_take (v := .bool true) (i := 6) (d := 36) (L' := [true, true, true, true, true, true, true, false, false, false, false, false, false, false, false, false, false, false, false, false, false, false, false, false]) rfl (by kernel_rfl) rfl x263 (fun _ s' => yb (x_eql rfl rfl rfl) (by simp)) ?_
    refine d_take (v := .bool true) (i := 7) (d := 37) (L' := [true, true, true, true, true, true, true, true, false, false, false, false, false, false, false, false, false, false, false, false, false, false, false, false]) rfl (by kernel_rfl) rfl x263 (fun _ s' => x_pick_t rfl rfl rfl) ?_
    refine d_take (v := .bool true) (i := 8) (d := 38) (L' := [true, true, true, true, true, true, true, true, true, false, false, false, false, false, false, false, false, false, false, false, false, false, false, false]) rfl (by kernel_rfl) rfl x263 (fun _ s' => x_move rfl rfl) ?_
    refine d_take (v := iJ f) (i := 9) (d := 39) (L' := [true, true, true, true, true, true, true, true, true, true, false, false, false, false, false, false, false, false, false, false, false, false, false, false]) rfl (by kernel_rfl) rfl x263 (fun _ s' => x_move rfl rfl) ?_
    refine d_take (v := vInst i) (i := 10) (d := 40) (L' := [true, true, true, true, true, true, true, true, true, true, true, false, false, false, false, false, false, false, false, false, false, false, false, false]) rfl (by kernel_rfl) rfl x263 (fun _ s' => x_load rfl rfl ((b2.ext (((((((((x7.trans x9).trans x229).trans x235).trans x239).stored (x7.trans x9).size s244).trans x249).trans x254).trans x260).trans s')).agg (vs := [iJ i.replica, iJ i.slot]) agg_23_2 rfl)) ?_
    refine d_take (v := .slice A l.length c) (i := 11) (d := 41) (L' := [true, true, true, true, true, true, true, true, true, true, true, true, false, false, false, false, false, false, false, false, false, false, false, false]) rfl (by kernel_rfl) rfl x263 (fun _ s' => x_move rfl rfl) ?_
    refine d_take (v := iJ f) (i := 14) (d := 44) (L' := [true, true, true, true, true, true, true, true, true, true, true, true, false, false, true, false, false, false, false, false, false, false, false, false]) rfl (by kernel_rfl) rfl x263 (fun _ s' => x_move rfl rfl) ?_
    refine d_take (v := vInst i) (i := 15) (d := 45) (L' := [true, true, true, true, true, true, true, true, true, true, true, true, false, false, true, true, false, false, false, false, false, false, false, false]) rfl (by kernel_rfl) rfl x263 (fun _ s' => x_load rfl rfl ((b2.ext (((((((((x7.trans x9).trans x229).trans x235).trans x239).stored (x7.trans x9).size s244).trans x249).trans x254).trans x260).trans s')).agg (vs := [iJ i.replica, iJ i.slot]) agg_23_2 rfl)) ?_
    refine d_take (v := .slice A l.length c) (i := 16) (d := 46) (L' := [true, true, true, true, true, true, true, true, true, true, true, true, false, false, true, true, true, false, false, false, false, false, false, false]) rfl (by kernel_rfl) rfl x263 (fun _ s' => x_move rfl rfl) ?_
    refine d_act1 (i := 12) (L' := [true, true, true, true, true, true, true, true, true, true, true, true, true, false, true, true, true, false, false, false, false, false, false, false]) (by kernel_rfl) rfl rfl ?_
    refine p_call (vs := #[.slice A l.length c]) fn_11 rfl rfl rfl (args1 rfl) ?_
    refine (C_given _ A c l (hV.ext ((((((((((x3.trans x7).trans x9).trans x229).trans x235).trans x239).stored ((x3.trans x7).trans x9).size s244).trans x249).trans x254).trans x260).trans x263))).mono ?_
    rintro e w264 ⟨A265, c266, rfl, hV267, x268⟩
    refine ⟨_, rfl, ?_⟩
    refine d_next (x263.trans x268) ?_
    refine d_act1 (i := 13) (L' := [true, true, true, true, true, true, true, true, true, true, true, true, true, true, true, true, true, false, false, false, false, false, false, false]) (by kernel_rfl) rfl rfl ?_
    refine p_call (vs := #[iJ f, vInst i, .slice A265 l.length c266]) fn_14 rfl rfl rfl (args3 rfl rfl rfl) ?_
    refine (C_fast _ f i A265 c266 l hV267).mono ?_
    rintro e w269 ⟨rfl, x270⟩
    refine ⟨_, rfl, ?_⟩
    cases c271 : fastR f i (counted l)
    case false =>
     refine d_next ((x263.trans x268).trans x270) ?_
     refine d_act1 (i := 17) (L' := [true, true, true, true, true, true, true, true, true, true, true, true, true, true, true, true, true, true, false, false, false, false, false, false]) (by kernel_rfl) rfl rfl ?_
     refine p_call (vs := #[iJ f, vInst i, .slice A l.length c]) fn_15 rfl rfl rfl (args3 rfl rfl rfl) ?_
     refine (Calls.asBool c271 (D_fast _ f i A c l (hV.ext ((((((((((((x3.trans x7).trans x9).trans x229).trans x235).trans x239).stored ((x3.trans x7).trans x9).size s244).trans x249).trans x254).trans x260).trans x263).trans x268).trans x270)))).mono ?_
     rintro e w272 ⟨rfl, x273⟩
     refine ⟨_, rfl, ?_⟩
     refine d_next (((x263.trans x268).trans x270).trans x273) ?_
     refine d_take (v := .bool true) (i := 18) (d := 48) (L' := [true, true, true, true, true, true, true, true, true, true, true, true, true, true, true, true, true, true, true, false, false, false, false, false]) rfl (by kernel_rfl) rfl (((x263.trans x268).trans x270).trans x273) (fun _ s' => yb (x_beql (a := false) (b := false) bool_4 rfl rfl rfl) rfl) ?_
     refine d_take (v := .bool true) (i := 19) (d := 49) (L' := [true, true, true, true, true, true, true, true, true, true, true, true, true, true, true, true, true, true, true, true, false, false, false, false]) rfl (by kernel_rfl) rfl (((x263.trans x268).trans x270).trans x273) (fun _ s' => x_pick_t rfl rfl rfl) ?_
     refine d_take (v := .bool true) (i := 20) (d := 50) (L' := [true, true, true, true, true, true, true, true, true, true, true, true, true, true, true, true, true, true, true, true, true, false, false, false]) rfl (by kernel_rfl) rfl (((x263.trans x268).trans x270).trans x273) (fun _ s' => x_move rfl rfl) ?_
     refine d_act1 (i := 21) (L' := [true, true, true, true, true, true, true, true, true, true, true, true, true, true, true, true, true, true, true, true, true, true, false, false]) (by kernel_rfl) rfl rfl ?_
     refine p_call (vs := #[]) fn_9 rfl rfl rfl (args0) ?_
     refine (C_awake _).mono ?_
     rintro e w274 ⟨rfl, x275⟩
     refine ⟨_, rfl, ?_⟩
     refine d_next ((((x263.trans x268).trans x270).trans x273).trans x275) ?_
     refine d_take (v := .bool true) (i := 22) (d := 52) (L' := [true, true, true, true, true, true, true, true, true, true, true, true, true, true, true, true, true, true, true, true, true, true, true, false]) rfl (by kernel_rfl) rfl ((((x263.trans x268).trans x270).trans x273).trans x275) (fun _ s' => x_pick_t rfl rfl rfl) ?_
     refine d_take (v := .bool true) (i := 23) (d := 6) (L' := [true, true, true, true, true, true, true, true, true, true, true, true, true, true, true, true, true, true, true, true, true, true, true, true]) rfl (by kernel_rfl) rfl ((((x263.trans x268).trans x270).trans x273).trans x275) (fun _ s' => x_assign rfl rfl) ?_
     refine d_end (by kernel_rfl) ?_
     exact t_norm ⟨_, rfl, rfl, (((((x260.trans x263).trans x268).trans x270).trans x273).trans x275)⟩
    refine d_next ((x263.trans x268).trans x270) ?_
    refine d_act1 (i := 17) (L' := [true, true, true, true, true, true, true, true, true, true, true, true, true, true, true, true, true, true, false, false, false, false, false, false]) (by kernel_rfl) rfl rfl ?_
    refine p_call (vs := #[iJ f, vInst i, .slice A l.length c]) fn_15 rfl rfl rfl (args3 rfl rfl rfl) ?_
    refine (Calls.asBool c271 (D_fast _ f i A c l (hV.ext ((((((((((((x3.trans x7).trans x9).trans x229).trans x235).trans x239).stored ((x3.trans x7).trans x9).size s244).trans x249).trans x254).trans x260).trans x263).trans x268).trans x270)))).mono ?_
    rintro e w276 ⟨rfl, x277⟩
    refine ⟨_, rfl, ?_⟩
    refine d_next (((x263.trans x268).trans x270).trans x277) ?_
    refine d_take (v := .bool true) (i := 18) (d := 48) (L' := [true, true, true, true, true, true, true, true, true, true, true, true, true, true, true, true, true, true, true, false, false, false, false, false]) rfl (by kernel_rfl) rfl (((x263.trans x268).trans x270).trans x277) (fun _ s' => yb (x_beql (a := true) (b := true) bool_4 rfl rfl rfl) rfl) ?_
    refine d_take (v := .bool true) (i := 19) (d := 49) (L' := [true, true, true, true, true, true, true, true, true, true, true, true, true, true, true, true, true, true, true, true, false, false, false, false]) rfl (by kernel_rfl) rfl (((x263.trans x268).trans x270).trans x277) (fun _ s' => x_pick_t rfl rfl rfl) ?_
    refine d_take (v := .bool true) (i := 20) (d := 50) (L' := [true, true, true, true, true, true, true, true, true, true, true, true, true, true, true, true, true, true, true, true, true, false, false, false]) rfl (by kernel_rfl) rfl (((x263.trans x268).trans x270).trans x277) (fun _ s' => x_move rfl rfl) ?_
    refine d_act1 (i := 21) (L' := [true, true, true, true, true, true, true, true, true, true, true, true, true, true, true, true, true, true, true, true, true, true, false, false]) (by kernel_rfl) rfl rfl ?_
    refine p_call (vs := #[]) fn_9 rfl rfl rfl (args0) ?_
    refine (C_awake _).mono ?_
    rintro e w278 ⟨rfl, x279⟩
    refine ⟨_, rfl, ?_⟩
    refine d_next ((((x263.trans x268).trans x270).trans x277).trans x279) ?_
    refine d_take (v := .bool true) (i := 22) (d := 52) (L' := [true, true, true, true, true, true, true, true, true, true, true, true, true, true, true, true, true, true, true, true, true, true, true, false]) rfl (by kernel_rfl) rfl ((((x263.trans x268).trans x270).trans x277).trans x279) (fun _ s' => x_pick_t rfl rfl rfl) ?_
    refine d_take (v := .bool true) (i := 23) (d := 6) (L' := [true, true, true, true, true, true, true, true, true, true, true, true, true, true, true, true, true, true, true, true, true, true, true, true]) rfl (by kernel_rfl) rfl ((((x263.trans x268).trans x270).trans x277).trans x279) (fun _ s' => x_assign rfl rfl) ?_
    refine d_end (by kernel_rfl) ?_
    exact t_norm ⟨_, rfl, rfl, (((((x260.trans x263).trans x268).trans x270).trans x277).trans x279)⟩
   rintro ρ w256 ⟨e257, kp258⟩
   exact t_norm (c_ret (c_done rfl e257 (Ret.b (rfl) (((((((((x3.trans x7).trans x9).trans x229).trans x235).trans x239).stored ((x3.trans x7).trans x9).size s244).trans x249).trans x254).trans kp258))))
  refine p_store (v := vRec ((decR f i l).1) p237) (vs := [iJ ((decR f i l).1.inst.replica), iJ ((decR f i l).1.inst.slot), iJ ((decR f i l).1.status), iJ ((decR f i l).1.promise.number), iJ ((decR f i l).1.promise.replica), iJ ((decR f i l).1.ballot.number), iJ ((decR f i l).1.ballot.replica), iJ ((decR f i l).1.cmd.kind), iJ ((decR f i l).1.cmd.txn.client), iJ ((decR f i l).1.cmd.txn.number), iJ ((decR f i l).1.cmd.stp.time), iJ ((decR f i l).1.cmd.stp.client), iJ ((decR f i l).1.cmd.shards), .slice p237.A ((decR f i l).1.cmd.reads.length) p237.n, .slice p237.B ((decR f i l).1.cmd.writes.length) p237.m, .bool ((decR f i l).1.cmd.commit), iJ ((decR f i l).1.seq), iJ ((decR f i l).1.deps.d0), iJ ((decR f i l).1.deps.d1), iJ ((decR f i l).1.deps.d2), iJ ((decR f i l).1.deps.d3), iJ ((decR f i l).1.deps.d4), iJ ((decR f i l).1.deps.d5), iJ ((decR f i l).1.deps.d6), .bool ((decR f i l).1.kept)]) (cs' := [iJ ((decR f i l).1.inst.replica), iJ ((decR f i l).1.inst.slot), iJ ((decR f i l).1.status), iJ ((decR f i l).1.promise.number), iJ ((decR f i l).1.promise.replica), iJ ((decR f i l).1.ballot.number), iJ ((decR f i l).1.ballot.replica), iJ ((decR f i l).1.cmd.kind), iJ ((decR f i l).1.cmd.txn.client), iJ ((decR f i l).1.cmd.txn.number), iJ ((decR f i l).1.cmd.stp.time), iJ ((decR f i l).1.cmd.stp.client), iJ ((decR f i l).1.cmd.shards), .slice p237.A ((decR f i l).1.cmd.reads.length) p237.n, .slice p237.B ((decR f i l).1.cmd.writes.length) p237.m, .bool ((decR f i l).1.cmd.commit), iJ ((decR f i l).1.seq), iJ ((decR f i l).1.deps.d0), iJ ((decR f i l).1.deps.d1), iJ ((decR f i l).1.deps.d2), iJ ((decR f i l).1.deps.d3), iJ ((decR f i l).1.deps.d4), iJ ((decR f i l).1.deps.d5), iJ ((decR f i l).1.deps.d6), .bool ((decR f i l).1.kept)]) rfl rfl rfl rfl rfl rfl ((b228.ext x235).ext x239) size_40 rfl rfl rfl (fun w280 b281 s282 => ?_)
  have hc283 := hc238.far s282 (fun ad h => by have hf := fa240 ad h; have hz := x235.size; omega) (fun ad h => by have hf := fb241 ad h; have hz := x235.size; omega)
  refine h_nextG (i := 9) (fun h => absurd rfl h) ?_
  refine h_act1 (i := 7) (L' := [true, true, true, true, true, true, true, true, true, true, false]) (by kernel_rfl) rfl rfl ?_
  refine pv (iJ ((decR f i l).2)) (x_extract rfl rfl rfl) ?_
  refine h_nextG (i := 7) (fun _ h => by cases h) ?_
  refine h_act1 (i := 10) (L' := [true, true, true, true, true, true, true, true, true, true, true]) (by kernel_rfl) rfl rfl ?_
  refine pv (iJ ((decR f i l).2)) (x_assign rfl rfl) ?_
  refine h_nextG (i := 10) (fun _ h => by cases h) ?_
  refine h_end (by kernel_rfl) ?_
  refine t_norm (c_seq (c_plain (pv (iJ f) (x_move rfl rfl) ?_)))
  refine pv (vInst i) (x_load rfl rfl ((b2.ext (((((x7.trans x9).trans x229).trans x235).trans x239).stored (x7.trans x9).size s282)).agg (vs := [iJ i.replica, iJ i.slot]) agg_23_2 rfl)) ?_
  refine pv (.slice A l.length c) (x_move rfl rfl) ?_
  refine p_call (vs := #[iJ f, vInst i, .slice A l.length c]) fn_12 rfl rfl rfl (args3 rfl rfl rfl) ?_
  refine (D_decide _ f i A c l (hV.ext ((((((x3.trans x7).trans x9).trans x229).trans x235).trans x239).stored ((x3.trans x7).trans x9).size s282))).mono ?_
  rintro e w284 ⟨p285, rfl, hc286, x287⟩
  refine ⟨_, rfl, ?_⟩
  refine pv (.tuple #[vRec ((decR f i l).1) p285, iJ ((decR f i l).2)]) (x_move rfl rfl) ?_
  refine pv (vRec ((decR f i l).1) p285) (x_extract rfl rfl rfl) ?_
  refine pv (iJ ((decR f i l).2)) (x_extract rfl rfl rfl) ?_
  refine p_var (v := vRec ((decR f i l).1) p285) (vs := [iJ ((decR f i l).1.inst.replica), iJ ((decR f i l).1.inst.slot), iJ ((decR f i l).1.status), iJ ((decR f i l).1.promise.number), iJ ((decR f i l).1.promise.replica), iJ ((decR f i l).1.ballot.number), iJ ((decR f i l).1.ballot.replica), iJ ((decR f i l).1.cmd.kind), iJ ((decR f i l).1.cmd.txn.client), iJ ((decR f i l).1.cmd.txn.number), iJ ((decR f i l).1.cmd.stp.time), iJ ((decR f i l).1.cmd.stp.client), iJ ((decR f i l).1.cmd.shards), .slice p285.A ((decR f i l).1.cmd.reads.length) p285.n, .slice p285.B ((decR f i l).1.cmd.writes.length) p285.m, .bool ((decR f i l).1.cmd.commit), iJ ((decR f i l).1.seq), iJ ((decR f i l).1.deps.d0), iJ ((decR f i l).1.deps.d1), iJ ((decR f i l).1.deps.d2), iJ ((decR f i l).1.deps.d3), iJ ((decR f i l).1.deps.d4), iJ ((decR f i l).1.deps.d5), iJ ((decR f i l).1.deps.d6), .bool ((decR f i l).1.kept)]) rfl rfl rfl zero_40 rfl rfl rfl rfl rfl rfl rfl size_40 rfl (fun w290 b291 x292 z293 => ?_)
  refine pv (iJ ((decR f i l).2)) (x_assign rfl rfl) ?_
  refine p_nil (t_norm (c_seq (c_meet (fun ρ w294 => ρ 6 = .bool true ∧ Ext w290 w294) ?_ ?_)))
  ·refine c_drawn mixed (by kernel_rfl) (fun _ _ _ _ _ h => h) (fun v1 v2 => Ext v1 v2) 24 rfl (fun w297 x298 z299 => ?_)
   refine d_take (v := .agg #[iJ ((decR f i l).1.inst.replica), iJ ((decR f i l).1.inst.slot), iJ ((decR f i l).1.status), iJ ((decR f i l).1.promise.number), iJ ((decR f i l).1.promise.replica), iJ ((decR f i l).1.ballot.number), iJ ((decR f i l).1.ballot.replica), iJ ((decR f i l).1.cmd.kind), iJ ((decR f i l).1.cmd.txn.client), iJ ((decR f i l).1.cmd.txn.number), iJ ((decR f i l).1.cmd.stp.time), iJ ((decR f i l).1.cmd.stp.client), iJ ((decR f i l).1.cmd.shards), .slice p237.A ((decR f i l).1.cmd.reads.length) p237.n, .slice p237.B ((decR f i l).1.cmd.writes.length) p237.m, .bool ((decR f i l).1.cmd.commit), iJ ((decR f i l).1.seq), iJ ((decR f i l).1.deps.d0), iJ ((decR f i l).1.deps.d1), iJ ((decR f i l).1.deps.d2), iJ ((decR f i l).1.deps.d3), iJ ((decR f i l).1.deps.d4), iJ ((decR f i l).1.deps.d5), iJ ((decR f i l).1.deps.d6), .bool ((decR f i l).1.kept)]) (i := 0) (d := 30) (L' := [true, false, false, false, false, false, false, false, false, false, false, false, false, false, false, false, false, false, false, false, false, false, false, false]) rfl (by kernel_rfl) rfl (Ext.refl _) (fun _ s' => x_load rfl rfl (((((b281.ext x287).ext x292).ext x298).ext s').agg (vs := [iJ ((decR f i l).1.inst.replica), iJ ((decR f i l).1.inst.slot), iJ ((decR f i l).1.status), iJ ((decR f i l).1.promise.number), iJ ((decR f i l).1.promise.replica), iJ ((decR f i l).1.ballot.number), iJ ((decR f i l).1.ballot.replica), iJ ((decR f i l).1.cmd.kind), iJ ((decR f i l).1.cmd.txn.client), iJ ((decR f i l).1.cmd.txn.number), iJ ((decR f i l).1.cmd.stp.time), iJ ((decR f i l).1.cmd.stp.client), iJ ((decR f i l).1.cmd.shards), .slice p237.A ((decR f i l).1.cmd.reads.length) p237.n, .slice p237.B ((decR f i l).1.cmd.writes.length) p237.m, .bool ((decR f i l).1.cmd.commit), iJ ((decR f i l).1.seq), iJ ((decR f i l).1.deps.d0), iJ ((decR f i l).1.deps.d1), iJ ((decR f i l).1.deps.d2), iJ ((decR f i l).1.deps.d3), iJ ((decR f i l).1.deps.d4), iJ ((decR f i l).1.deps.d5), iJ ((decR f i l).1.deps.d6), .bool ((decR f i l).1.kept)]) agg_40_25 rfl)) ?_
   refine d_take (v := vRec ((decR f i l).1) p285) (i := 1) (d := 31) (L' := [true, true, false, false, false, false, false, false, false, false, false, false, false, false, false, false, false, false, false, false, false, false, false, false]) rfl (by kernel_rfl) rfl (Ext.refl _) (fun _ s' => x_load rfl rfl (((b291.ext x298).ext s').agg (vs := [iJ ((decR f i l).1.inst.replica), iJ ((decR f i l).1.inst.slot), iJ ((decR f i l).1.status), iJ ((decR f i l).1.promise.number), iJ ((decR f i l).1.promise.replica), iJ ((decR f i l).1.ballot.number), iJ ((decR f i l).1.ballot.replica), iJ ((decR f i l).1.cmd.kind), iJ ((decR f i l).1.cmd.txn.client), iJ ((decR f i l).1.cmd.txn.number), iJ ((decR f i l).1.cmd.stp.time), iJ ((decR f i l).1.cmd.stp.client), iJ ((decR f i l).1.cmd.shards), .slice p285.A ((decR f i l).1.cmd.reads.length) p285.n, .slice p285.B ((decR f i l).1.cmd.writes.length) p285.m, .bool ((decR f i l).1.cmd.commit), iJ ((decR f i l).1.seq), iJ ((decR f i l).1.deps.d0), iJ ((decR f i l).1.deps.d1), iJ ((decR f i l).1.deps.d2), iJ ((decR f i l).1.deps.d3), iJ ((decR f i l).1.deps.d4), iJ ((decR f i l).1.deps.d5), iJ ((decR f i l).1.deps.d6), .bool ((decR f i l).1.kept)]) agg_40_25 rfl)) ?_
   refine d_act1 (i := 2) (L' := [true, true, true, false, false, false, false, false, false, false, false, false, false, false, false, false, false, false, false, false, false, false, false, false]) (by kernel_rfl) rfl rfl ?_
   refine p_call (vs := #[.agg #[iJ ((decR f i l).1.inst.replica), iJ ((decR f i l).1.inst.slot), iJ ((decR f i l).1.status), iJ ((decR f i l).1.promise.number), iJ ((decR f i l).1.promise.replica), iJ ((decR f i l).1.ballot.number), iJ ((decR f i l).1.ballot.replica), iJ ((decR f i l).1.cmd.kind), iJ ((decR f i l).1.cmd.txn.client), iJ ((decR f i l).1.cmd.txn.number), iJ ((decR f i l).1.cmd.stp.time), iJ ((decR f i l).1.cmd.stp.client), iJ ((decR f i l).1.cmd.shards), .slice p237.A ((decR f i l).1.cmd.reads.length) p237.n, .slice p237.B ((decR f i l).1.cmd.writes.length) p237.m, .bool ((decR f i l).1.cmd.commit), iJ ((decR f i l).1.seq), iJ ((decR f i l).1.deps.d0), iJ ((decR f i l).1.deps.d1), iJ ((decR f i l).1.deps.d2), iJ ((decR f i l).1.deps.d3), iJ ((decR f i l).1.deps.d4), iJ ((decR f i l).1.deps.d5), iJ ((decR f i l).1.deps.d6), .bool ((decR f i l).1.kept)], vRec ((decR f i l).1) p285]) fn_13 rfl rfl rfl (args2 rfl rfl) ?_
   refine (Calls.asBool (decide_eq_true (rfl : (decR f i l).1 = (decR f i l).1)) (D_sameRec _ ((decR f i l).1) p237 (((hc283.ext x287).ext x292).ext x298) ((decR f i l).1) p285 ((hc286.ext x292).ext x298))).mono ?_
   rintro e w300 ⟨rfl, x301⟩
   refine ⟨_, rfl, ?_⟩
   refine d_next x301 ?_
   refine d_take (v := .bool true) (i := 3) (d := 33) (L' := [true, true, true, true, false, false, false, false, false, false, false, false, false, false, false, false, false, false, false, false, false, false, false, false]) rfl (by kernel_rfl) rfl x301 (fun _ s' => x_move rfl rfl) ?_
   refine d_take (v := iJ ((decR f i l).2)) (i := 4) (d := 34) (L' := [true, true, true, true, true, false, false, false, false, false, false, false, false, false, false, false, false, false, false, false, false, false, false, false]) rfl (by kernel_rfl) rfl x301 (fun _ s' => x_move rfl rfl) ?_
   refine d_take (v := iJ ((decR f i l).2)) (i := 5) (d := 35) (L' := [true, true, true, true, true, true, false, false, false, false, false, false, false, false, false, false, false, false, false, false, false, false, false, false]) rfl (by kernel_rfl) rfl x301 (fun _ s' => x_move rfl rfl) ?_
   refine d_take (v := .bool true) (i := 6) (d := 36) (L' := [true, true, true, true, true, true, true, false, false, false, false, false, false, false, false, false, false, false, false, false, false, false, false, false]) rfl (by kernel_rfl) rfl x301 (fun _ s' => yb (x_eql rfl rfl rfl) (by simp)) ?_
   refine d_take (v := .bool true) (i := 7) (d := 37) (L' := [true, true, true, true, true, true, true, true, false, false, false, false, false, false, false, false, false, false, false, false, false, false, false, false]) rfl (by kernel_rfl) rfl x301 (fun _ s' => x_pick_t rfl rfl rfl) ?_
   refine d_take (v := .bool true) (i := 8) (d := 38) (L' := [true, true, true, true, true, true, true, true, true, false, false, false, false, false, false, false, false, false, false, false, false, false, false, false]) rfl (by kernel_rfl) rfl x301 (fun _ s' => x_move rfl rfl) ?_
   refine d_take (v := iJ f) (i := 9) (d := 39) (L' := [true, true, true, true, true, true, true, true, true, true, false, false, false, false, false, false, false, false, false, false, false, false, false, false]) rfl (by kernel_rfl) rfl x301 (fun _ s' => x_move rfl rfl) ?_
   refine d_take (v := vInst i) (i := 10) (d := 40) (L' := [true, true, true, true, true, true, true, true, true, true, true, false, false, false, false, false, false, false, false, false, false, false, false, false]) rfl (by kernel_rfl) rfl x301 (fun _ s' => x_load rfl rfl ((b2.ext (((((((((x7.trans x9).trans x229).trans x235).trans x239).stored (x7.trans x9).size s282).trans x287).trans x292).trans x298).trans s')).agg (vs := [iJ i.replica, iJ i.slot]) agg_23_2 rfl)) ?_
   refine d_take (v := .slice A l.length c) (i := 11) (d := 41) (L' := [true, true, true, true, true, true, true, true, true, true, true, true, false, false, false, false, false, false, false, false, false, false, false, false]) rfl (by kernel_rfl) rfl x301 (fun _ s' => x_move rfl rfl) ?_
   refine d_take (v := iJ f) (i := 14) (d := 44) (L' := [true, true, true, true, true, true, true, true, true, true, true, true, false, false, true, false, false, false, false, false, false, false, false, false]) rfl (by kernel_rfl) rfl x301 (fun _ s' => x_move rfl rfl) ?_
   refine d_take (v := vInst i) (i := 15) (d := 45) (L' := [true, true, true, true, true, true, true, true, true, true, true, true, false, false, true, true, false, false, false, false, false, false, false, false]) rfl (by kernel_rfl) rfl x301 (fun _ s' => x_load rfl rfl ((b2.ext (((((((((x7.trans x9).trans x229).trans x235).trans x239).stored (x7.trans x9).size s282).trans x287).trans x292).trans x298).trans s')).agg (vs := [iJ i.replica, iJ i.slot]) agg_23_2 rfl)) ?_
   refine d_take (v := .slice A l.length c) (i := 16) (d := 46) (L' := [true, true, true, true, true, true, true, true, true, true, true, true, false, false, true, true, true, false, false, false, false, false, false, false]) rfl (by kernel_rfl) rfl x301 (fun _ s' => x_move rfl rfl) ?_
   refine d_act1 (i := 12) (L' := [true, true, true, true, true, true, true, true, true, true, true, true, true, false, true, true, true, false, false, false, false, false, false, false]) (by kernel_rfl) rfl rfl ?_
   refine p_call (vs := #[.slice A l.length c]) fn_11 rfl rfl rfl (args1 rfl) ?_
   refine (C_given _ A c l (hV.ext ((((((((((x3.trans x7).trans x9).trans x229).trans x235).trans x239).stored ((x3.trans x7).trans x9).size s282).trans x287).trans x292).trans x298).trans x301))).mono ?_
   rintro e w302 ⟨A303, c304, rfl, hV305, x306⟩
   refine ⟨_, rfl, ?_⟩
   refine d_next (x301.trans x306) ?_
   refine d_act1 (i := 13) (L' := [true, true, true, true, true, true, true, true, true, true, true, true, true, true, true, true, true, false, false, false, false, false, false, false]) (by kernel_rfl) rfl rfl ?_
   refine p_call (vs := #[iJ f, vInst i, .slice A303 l.length c304]) fn_14 rfl rfl rfl (args3 rfl rfl rfl) ?_
   refine (C_fast _ f i A303 c304 l hV305).mono ?_
   rintro e w307 ⟨rfl, x308⟩
   refine ⟨_, rfl, ?_⟩
   cases c309 : fastR f i (counted l)
   case false =>
    refine d_next ((x301.trans x306).trans x308) ?_
    refine d_act1 (i := 17) (L' := [true, true, true, true, true, true, true, true, true, true, true, true, true, true, true, true, true, true, false, false, false, false, false, false]) (by kernel_rfl) rfl rfl ?_
    refine p_call (vs := #[iJ f, vInst i, .slice A l.length c]) fn_15 rfl rfl rfl (args3 rfl rfl rfl) ?_
    refine (Calls.asBool c309 (D_fast _ f i A c l (hV.ext ((((((((((((x3.trans x7).trans x9).trans x229).trans x235).trans x239).stored ((x3.trans x7).trans x9).size s282).trans x287).trans x292).trans x298).trans x301).trans x306).trans x308)))).mono ?_
    rintro e w310 ⟨rfl, x311⟩
    refine ⟨_, rfl, ?_⟩
    refine d_next (((x301.trans x306).trans x308).trans x311) ?_
    refine d_take (v := .bool true) (i := 18) (d := 48) (L' := [true, true, true, true, true, true, true, true, true, true, true, true, true, true, true, true, true, true, true, false, false, false, false, false]) rfl (by kernel_rfl) rfl (((x301.trans x306).trans x308).trans x311) (fun _ s' => yb (x_beql (a := false) (b := false) bool_4 rfl rfl rfl) rfl) ?_
    refine d_take (v := .bool true) (i := 19) (d := 49) (L' := [true, true, true, true, true, true, true, true, true, true, true, true, true, true, true, true, true, true, true, true, false, false, false, false]) rfl (by kernel_rfl) rfl (((x301.trans x306).trans x308).trans x311) (fun _ s' => x_pick_t rfl rfl rfl) ?_
    refine d_take (v := .bool true) (i := 20) (d := 50) (L' := [true, true, true, true, true, true, true, true, true, true, true, true, true, true, true, true, true, true, true, true, true, false, false, false]) rfl (by kernel_rfl) rfl (((x301.trans x306).trans x308).trans x311) (fun _ s' => x_move rfl rfl) ?_
    refine d_act1 (i := 21) (L' := [true, true, true, true, true, true, true, true, true, true, true, true, true, true, true, true, true, true, true, true, true, true, false, false]) (by kernel_rfl) rfl rfl ?_
    refine p_call (vs := #[]) fn_9 rfl rfl rfl (args0) ?_
    refine (C_awake _).mono ?_
    rintro e w312 ⟨rfl, x313⟩
    refine ⟨_, rfl, ?_⟩
    refine d_next ((((x301.trans x306).trans x308).trans x311).trans x313) ?_
    refine d_take (v := .bool true) (i := 22) (d := 52) (L' := [true, true, true, true, true, true, true, true, true, true, true, true, true, true, true, true, true, true, true, true, true, true, true, false]) rfl (by kernel_rfl) rfl ((((x301.trans x306).trans x308).trans x311).trans x313) (fun _ s' => x_pick_t rfl rfl rfl) ?_
    refine d_take (v := .bool true) (i := 23) (d := 6) (L' := [true, true, true, true, true, true, true, true, true, true, true, true, true, true, true, true, true, true, true, true, true, true, true, true]) rfl (by kernel_rfl) rfl ((((x301.trans x306).trans x308).trans x311).trans x313) (fun _ s' => x_assign rfl rfl) ?_
    refine d_end (by kernel_rfl) ?_
    exact t_norm ⟨_, rfl, rfl, (((((x298.trans x301).trans x306).trans x308).trans x311).trans x313)⟩
   refine d_next ((x301.trans x306).trans x308) ?_
   refine d_act1 (i := 17) (L' := [true, true, true, true, true, true, true, true, true, true, true, true, true, true, true, true, true, true, false, false, false, false, false, false]) (by kernel_rfl) rfl rfl ?_
   refine p_call (vs := #[iJ f, vInst i, .slice A l.length c]) fn_15 rfl rfl rfl (args3 rfl rfl rfl) ?_
   refine (Calls.asBool c309 (D_fast _ f i A c l (hV.ext ((((((((((((x3.trans x7).trans x9).trans x229).trans x235).trans x239).stored ((x3.trans x7).trans x9).size s282).trans x287).trans x292).trans x298).trans x301).trans x306).trans x308)))).mono ?_
   rintro e w314 ⟨rfl, x315⟩
   refine ⟨_, rfl, ?_⟩
   refine d_next (((x301.trans x306).trans x308).trans x315) ?_
   refine d_take (v := .bool true) (i := 18) (d := 48) (L' := [true, true, true, true, true, true, true, true, true, true, true, true, true, true, true, true, true, true, true, false, false, false, false, false]) rfl (by kernel_rfl) rfl (((x301.trans x306).trans x308).trans x315) (fun _ s' => yb (x_beql (a := true) (b := true) bool_4 rfl rfl rfl) rfl) ?_
   refine d_take (v := .bool true) (i := 19) (d := 49) (L' := [true, true, true, true, true, true, true, true, true, true, true, true, true, true, true, true, true, true, true, true, false, false, false, false]) rfl (by kernel_rfl) rfl (((x301.trans x306).trans x308).trans x315) (fun _ s' => x_pick_t rfl rfl rfl) ?_
   refine d_take (v := .bool true) (i := 20) (d := 50) (L' := [true, true, true, true, true, true, true, true, true, true, true, true, true, true, true, true, true, true, true, true, true, false, false, false]) rfl (by kernel_rfl) rfl (((x301.trans x306).trans x308).trans x315) (fun _ s' => x_move rfl rfl) ?_
   refine d_act1 (i := 21) (L' := [true, true, true, true, true, true, true, true, true, true, true, true, true, true, true, true, true, true, true, true, true, true, false, false]) (by kernel_rfl) rfl rfl ?_
   refine p_call (vs := #[]) fn_9 rfl rfl rfl (args0) ?_
   refine (C_awake _).mono ?_
   rintro e w316 ⟨rfl, x317⟩
   refine ⟨_, rfl, ?_⟩
   refine d_next ((((x301.trans x306).trans x308).trans x315).trans x317) ?_
   refine d_take (v := .bool true) (i := 22) (d := 52) (L' := [true, true, true, true, true, true, true, true, true, true, true, true, true, true, true, true, true, true, true, true, true, true, true, false]) rfl (by kernel_rfl) rfl ((((x301.trans x306).trans x308).trans x315).trans x317) (fun _ s' => x_pick_t rfl rfl rfl) ?_
   refine d_take (v := .bool true) (i := 23) (d := 6) (L' := [true, true, true, true, true, true, true, true, true, true, true, true, true, true, true, true, true, true, true, true, true, true, true, true]) rfl (by kernel_rfl) rfl ((((x301.trans x306).trans x308).trans x315).trans x317) (fun _ s' => x_assign rfl rfl) ?_
   refine d_end (by kernel_rfl) ?_
   exact t_norm ⟨_, rfl, rfl, (((((x298.trans x301).trans x306).trans x308).trans x315).trans x317)⟩
  rintro ρ w294 ⟨e295, kp296⟩
  exact t_norm (c_ret (c_done rfl e295 (Ret.b (rfl) (((((((((x3.trans x7).trans x9).trans x229).trans x235).trans x239).stored ((x3.trans x7).trans x9).size s282).trans x287).trans x292).trans kp296))))
 refine qv (.bool true) (fun _ x' => x_not (b := false) rfl rfl) ?_
 refine q_nil (fun w318 x319 => t_norm (c_true rfl (c_seq (c_quiet (q_call (vs := #[]) fn_9 rfl rfl rfl (args0) (v := .bool true) (fun _ x' => C_awake _) ?_)))))
 refine qv (.bool true) (fun _ x' => x_assign rfl rfl) ?_
 exact q_nil (fun w320 x321 => t_norm (c_ret (t_ret (c_done rfl rfl (Ret.b (rfl) ((x3.trans x319).trans x321))))))
end Go.Proofs.Ytgamfmkefipngaa
