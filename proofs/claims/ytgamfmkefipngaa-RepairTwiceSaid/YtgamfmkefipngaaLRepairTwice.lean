/- A walk through the code of layers below, or of layer 13. -/
import Derived.Test.YtgamfmkefipngaaRep
import Derived.Test.YtgamfmkefipngaaDrs
import Derived.Test.YtgamfmkefipngaaPan
import Derived.Test.YtgamfmkefipngaaB7
namespace Go.Proofs.Ytgamfmkefipngaa
open Go.RowKit Go.Eng
set_option linter.unusedVariables false
set_option linter.unusedSimpArgs false
set_option maxHeartbeats 4000000 in
theorem C_RepairTwice (w : World) (f : Int) (i : Inst) (A : Option Addr) (c : Nat) (l : List Vt) (hR : Vt0 w A l) (k : Int) (hk0 : 0 ≤ k) (hk1 : k ≤ 255) (r : Rec) (pr : Ptr) (hr : CmdAt w r.cmd pr) :
    Calls Try.prog 7 #[.int .i64 f, vInst i, .slice A l.length c, .int .u8 k, vRec r pr] w (Ret w (.bool true)) := by
 refine c_enter (n := 80) Try.func7 rfl rfl rfl ?_
 refine c_seq (c_plain (p_box rfl rfl rfl rfl (fun w1 b2 x3 z4 => ?_)))
 refine p_box rfl rfl rfl rfl (fun w5 b6 x7 z8 => ?_)
 refine pv (.bool false) (x_assign rfl rfl) ?_
 refine p_nil (t_norm (c_seq (c_seq (c_plain (pv (.slice A l.length c) (x_move rfl rfl) ?_)))))
 refine p_call (vs := #[.slice A l.length c]) fn_8 rfl rfl rfl (args1 rfl) ?_
 refine (C_fewV _ A c l ((hR.ext x3).ext x7)).mono ?_
 rintro e w9 ⟨rfl, x10⟩
 refine ⟨_, rfl, ?_⟩
 cases c11 : fewV l
 case false =>
  refine pv (.bool true) (x_not (b := false) rfl rfl) ?_
  refine pv (.bool true) (x_move rfl rfl) ?_
  refine p_skip rfl rfl ?_
  refine p_skip rfl rfl ?_
  refine p_skip rfl rfl ?_
  refine pv (.bool true) (x_pick_t rfl rfl rfl) ?_
  refine pv (.bool true) (x_move rfl rfl) ?_
  refine p_skip rfl rfl ?_
  refine p_skip rfl rfl ?_
  refine p_skip rfl rfl ?_
  refine pv (.bool true) (x_pick_t rfl rfl rfl) ?_
  refine pv (.bool true) (x_move rfl rfl) ?_
  refine p_skip rfl rfl ?_
  refine p_skip rfl rfl ?_
  refine p_skip rfl rfl ?_
  refine p_skip rfl rfl ?_
  refine p_skip rfl rfl ?_
  refine pv (.bool true) (x_pick_t rfl rfl rfl) ?_
  refine p_nil (t_norm (c_true rfl (c_seq (c_quiet (q_call (vs := #[]) fn_9 rfl rfl rfl (args0) (v := .bool true) (fun _ x' => C_awake _) ?_)))))
  refine qv (.bool true) (fun _ x' => x_assign rfl rfl) ?_
  exact q_nil (fun w12 x13 => t_norm (c_ret (t_ret (c_done rfl rfl (Ret.b (rfl) (((x3.trans x7).trans x10).trans x13))))))
 obtain ⟨R, E, hd⟩ : ∃ R E, decR f i l = (R, E) := ⟨_, _, rfl⟩
 have hV := hR.few c11
 have hlv := hV.len
 have hlc := counted_len l
 refine pv (.bool false) (x_not (b := true) rfl rfl) ?_
 refine pv (.bool false) (x_move rfl rfl) ?_
 refine pv (.slice A l.length c) (x_move rfl rfl) ?_
 refine pv (iJ (l.length : Int)) (x_len_slice sl_24 rfl rfl) ?_
 refine p_bool (b := decide ((l.length : Int) = 0)) rfl rfl (x_eql rfl rfl rfl) (fun c14 => ?_) (fun c14 => ?_)
 ·refine pv (.bool true) (x_pick_f rfl rfl rfl) ?_
  refine pv (.bool true) (x_move rfl rfl) ?_
  refine p_skip rfl rfl ?_
  refine p_skip rfl rfl ?_
  refine p_skip rfl rfl ?_
  refine pv (.bool true) (x_pick_t rfl rfl rfl) ?_
  refine pv (.bool true) (x_move rfl rfl) ?_
  refine p_skip rfl rfl ?_
  refine p_skip rfl rfl ?_
  refine p_skip rfl rfl ?_
  refine p_skip rfl rfl ?_
  refine p_skip rfl rfl ?_
  refine pv (.bool true) (x_pick_t rfl rfl rfl) ?_
  refine p_nil (t_norm (c_true rfl (c_seq (c_quiet (q_call (vs := #[]) fn_9 rfl rfl rfl (args0) (v := .bool true) (fun _ x' => C_awake _) ?_)))))
  refine qv (.bool true) (fun _ x' => x_assign rfl rfl) ?_
  exact q_nil (fun w15 x16 => t_norm (c_ret (t_ret (c_done rfl rfl (Ret.b (rfl) (((x3.trans x7).trans x10).trans x16))))))
 have hlen0 := hV.len
 have hm := mod_at (l := l) hk0 c14
 obtain ⟨y, hy⟩ := some_of (l := l) (k := (k % (l.length : Int)).toNat) (by omega)
 obtain ⟨ad17, cs18, eA19, hK20, hE21⟩ := hV.lies ((k % (l.length : Int)).toNat) y hy
 have hK20' : cs18 = [iJ y.src, iJ y.r.inst.replica, iJ y.r.inst.slot, iJ y.r.status, iJ y.r.promise.number, iJ y.r.promise.replica, iJ y.r.ballot.number, iJ y.r.ballot.replica, iJ y.r.cmd.kind, iJ y.r.cmd.txn.client, iJ y.r.cmd.txn.number, iJ y.r.cmd.stp.time, iJ y.r.cmd.stp.client, iJ y.r.cmd.shards, .slice y.p.A y.r.cmd.reads.length y.p.n, .slice y.p.B y.r.cmd.writes.length y.p.m, .bool y.r.cmd.commit, iJ y.r.seq, iJ y.r.deps.d0, iJ y.r.deps.d1, iJ y.r.deps.d2, iJ y.r.deps.d3, iJ y.r.deps.d4, iJ y.r.deps.d5, iJ y.r.deps.d6, .bool y.r.kept] := hK20
 subst hK20'
 have ha22 := hV.at_.out _ (at_of hy)
 have hs23 := hV.slim _ (at_of hy)
 refine pv (.bool false) (x_pick_f rfl rfl rfl) ?_
 refine pv (.bool false) (x_move rfl rfl) ?_
 refine pv (.slice A l.length c) (x_move rfl rfl) ?_
 refine pv (iJ (l.length : Int)) (x_len_slice sl_24 rfl rfl) ?_
 refine p_bool (b := decide ((l.length : Int) > 19)) rfl rfl (x_gtr rfl rfl rfl) (fun c25 => ?_) (fun c25 => ?_)
 ·refine pv (.bool true) (x_pick_f rfl rfl rfl) ?_
  refine pv (.bool true) (x_move rfl rfl) ?_
  refine p_skip rfl rfl ?_
  refine p_skip rfl rfl ?_
  refine p_skip rfl rfl ?_
  refine p_skip rfl rfl ?_
  refine p_skip rfl rfl ?_
  refine pv (.bool true) (x_pick_t rfl rfl rfl) ?_
  refine p_nil (t_norm (c_true rfl (c_seq (c_quiet (q_call (vs := #[]) fn_9 rfl rfl rfl (args0) (v := .bool true) (fun _ x' => C_awake _) ?_)))))
  refine qv (.bool true) (fun _ x' => x_assign rfl rfl) ?_
  exact q_nil (fun w26 x27 => t_norm (c_ret (t_ret (c_done rfl rfl (Ret.b (rfl) (((x3.trans x7).trans x10).trans x27))))))
 have hl19 := of_decide_eq_false c25
 refine pv (.bool false) (x_pick_f rfl rfl rfl) ?_
 refine pv (.bool false) (x_move rfl rfl) ?_
 refine pv (.pointer (some (⟨w1.heap.size, 7, none⟩))) (x_fieldAddr fld_40_4 rfl rfl rfl) ?_
 refine pv (.agg #[iJ r.cmd.kind, iJ r.cmd.txn.client, iJ r.cmd.txn.number, iJ r.cmd.stp.time, iJ r.cmd.stp.client, iJ r.cmd.shards, .slice pr.A r.cmd.reads.length pr.n, .slice pr.B r.cmd.writes.length pr.m, .bool r.cmd.commit]) (x_load rfl rfl ((b6.ext x10).agg (vs := [iJ r.cmd.kind, iJ r.cmd.txn.client, iJ r.cmd.txn.number, iJ r.cmd.stp.time, iJ r.cmd.stp.client, iJ r.cmd.shards, .slice pr.A r.cmd.reads.length pr.n, .slice pr.B r.cmd.writes.length pr.m, .bool r.cmd.commit]) agg_36_9 rfl)) ?_
 refine p_buildSlice (cs := [iJ r.cmd.kind, iJ r.cmd.txn.client, iJ r.cmd.txn.number, iJ r.cmd.stp.time, iJ r.cmd.stp.client, iJ r.cmd.shards, .slice pr.A r.cmd.reads.length pr.n, .slice pr.B r.cmd.writes.length pr.m, .bool r.cmd.commit]) el_78 rfl rfl rfl (parts1 rfl) (by decide) (by decide) (fill_ok [.agg #[iJ r.cmd.kind, iJ r.cmd.txn.client, iJ r.cmd.txn.number, iJ r.cmd.stp.time, iJ r.cmd.stp.client, iJ r.cmd.shards, .slice pr.A r.cmd.reads.length pr.n, .slice pr.B r.cmd.writes.length pr.m, .bool r.cmd.commit]] [iJ r.cmd.kind, iJ r.cmd.txn.client, iJ r.cmd.txn.number, iJ r.cmd.stp.time, iJ r.cmd.stp.client, iJ r.cmd.shards, .slice pr.A r.cmd.reads.length pr.n, .slice pr.B r.cmd.writes.length pr.m, .bool r.cmd.commit] rfl rfl) (fun w28 b29 x30 z31 => ?_)
 refine p_call (vs := #[.slice (some ⟨w9.heap.size, 0, none⟩) 1 1]) fn_17 rfl rfl rfl (args1 rfl) ?_
 refine (C_few _ _ _ [(r.cmd, pr)] (lies_box (f := fCmd) b29 rfl (fun _ => rfl) (by simp only [List.mem_cons, List.not_mem_nil, or_false]; rintro z (rfl) <;> first | exact ⟨rfl, ((((hr.ext x3).ext x7).ext x10).ext x30)⟩)) (by simp)).mono ?_
 rintro e w32 ⟨rfl, x33⟩
 refine ⟨_, rfl, ?_⟩
 cases c34 : few [(r.cmd, pr)]
 case false =>
  refine pv (.bool true) (x_not (b := false) rfl rfl) ?_
  refine pv (.bool true) (x_pick_f rfl rfl rfl) ?_
  refine p_nil (t_norm (c_true rfl (c_seq (c_quiet (q_call (vs := #[]) fn_9 rfl rfl rfl (args0) (v := .bool true) (fun _ x' => C_awake _) ?_)))))
  refine qv (.bool true) (fun _ x' => x_assign rfl rfl) ?_
  exact q_nil (fun w35 x36 => t_norm (c_ret (t_ret (c_done rfl rfl (Ret.b (rfl) (((((x3.trans x7).trans x10).trans x30).trans x33).trans x36))))))
 have hsr : Slim r.cmd := few_slim (by simpa [few] using c34)
 refine pv (.bool false) (x_not (b := true) rfl rfl) ?_
 refine pv (.bool false) (x_pick_f rfl rfl rfl) ?_
 refine p_nil (t_norm (c_false rfl (c_skip (t_norm (c_seq (c_meet (fun ρ w37 => ∃ (A42 : Option Addr), ∃ (c43 : Nat), ρ 0 = iJ f ∧ ρ 2 = .slice A l.length c ∧ ρ 6 = pJ w.heap.size ∧ ρ 10 = .bool false ∧ ρ 11 = .slice A42 (List.length (α := Vt) (l ++ [(⟨y.src, r, pr⟩ : Vt)])) c43 ∧ Own fVt 26 w37 w.heap.size 56 A42 c43 (l ++ [(⟨y.src, r, pr⟩ : Vt)]) ∧ Kept w.heap.size 56 w32 w37) ?_ ?_))))))
 ·refine c_drawn mixed (by kernel_rfl) (fun _ _ _ _ _ h => h) (fun v1 v2 => Kept w.heap.size 56 v1 v2) 17 rfl (fun w47 x48 z49 => ?_)
  refine d_take (v := .slice A l.length c) (i := 1) (d := 38) (L' := [false, true, false, false, false, false, false, false, false, false, false, false, false, false, false, false, false]) rfl (by kernel_rfl) rfl (Kept.refl _ _ _) (fun _ s' => x_move rfl rfl) ?_
  refine d_take (v := .slice A l.length c) (i := 3) (d := 40) (L' := [false, true, false, true, false, false, false, false, false, false, false, false, false, false, false, false, false]) rfl (by kernel_rfl) rfl (Kept.refl _ _ _) (fun _ s' => x_move rfl rfl) ?_
  refine d_take (v := .int .u8 k) (i := 4) (d := 41) (L' := [false, true, false, true, true, false, false, false, false, false, false, false, false, false, false, false, false]) rfl (by kernel_rfl) rfl (Kept.refl _ _ _) (fun _ s' => x_move rfl rfl) ?_
  refine d_take (v := iJ k) (i := 5) (d := 42) (L' := [false, true, false, true, true, true, false, false, false, false, false, false, false, false, false, false, false]) rfl (by kernel_rfl) rfl (Kept.refl _ _ _) (fun _ s' => x_convert cv_3_i64 un_5 rfl rfl (wrap_of (by omega) (by omega))) ?_
  refine d_take (v := .slice A l.length c) (i := 6) (d := 43) (L' := [false, true, false, true, true, true, true, false, false, false, false, false, false, false, false, false, false]) rfl (by kernel_rfl) rfl (Kept.refl _ _ _) (fun _ s' => x_move rfl rfl) ?_
  refine d_take (v := iJ (l.length : Int)) (i := 7) (d := 44) (L' := [false, true, false, true, true, true, true, true, false, false, false, false, false, false, false, false, false]) rfl (by kernel_rfl) rfl (Kept.refl _ _ _) (fun _ s' => x_len_slice sl_24 rfl rfl) ?_
  refine d_take (v := iJ (k % (l.length : Int))) (i := 8) (d := 45) (L' := [false, true, false, true, true, true, true, true, true, false, false, false, false, false, false, false, false]) rfl (by kernel_rfl) rfl (Kept.refl _ _ _) (fun _ s' => x_rem rfl rfl rfl (by have q := hm.1; omega) (rem_of hk0)) ?_
  refine d_take (v := .pointer (some (ad17.add (((k % (l.length : Int)).toNat) * 26)))) (i := 9) (d := 46) (L' := [false, true, false, true, true, true, true, true, true, true, false, false, false, false, false, false, false]) rfl (by kernel_rfl) rfl (Kept.refl _ _ _) (fun _ s' => x_indexAddr sl_24 rfl rfl eA19 rfl hm.1 hm.2 rfl) ?_
  refine d_take (v := .pointer (some (ad17.add (((k % (l.length : Int)).toNat) * 26)))) (i := 10) (d := 47) (L' := [false, true, false, true, true, true, true, true, true, true, true, false, false, false, false, false, false]) rfl (by kernel_rfl) rfl (Kept.refl _ _ _) (fun _ s' => x_fieldAddr fld_56_0 rfl rfl rfl) ?_
  refine d_take (v := iJ y.src) (i := 11) (d := 48) (L' := [false, true, false, true, true, true, true, true, true, true, true, true, false, false, false, false, false]) rfl (by kernel_rfl) rfl (Kept.refl _ _ _) (fun _ s' => x_load rfl rfl ((hE21.ext ((((((x3.trans x7).trans x10).trans x30).trans x33).trans x48).below (Nat.le_refl _) s'.below)).one one_3 0 rfl rfl)) ?_
  refine d_take (v := vRec r pr) (i := 12) (d := 49) (L' := [false, true, false, true, true, true, true, true, true, true, true, true, true, false, false, false, false]) rfl (by kernel_rfl) rfl (Kept.refl _ _ _) (fun _ s' => x_load rfl rfl ((((((b6.ext x10).ext x30).ext x33).ext x48).kept s' (by decide)).agg (vs := [iJ r.inst.replica, iJ r.inst.slot, iJ r.status, iJ r.promise.number, iJ r.promise.replica, iJ r.ballot.number, iJ r.ballot.replica, iJ r.cmd.kind, iJ r.cmd.txn.client, iJ r.cmd.txn.number, iJ r.cmd.stp.time, iJ r.cmd.stp.client, iJ r.cmd.shards, .slice pr.A r.cmd.reads.length pr.n, .slice pr.B r.cmd.writes.length pr.m, .bool r.cmd.commit, iJ r.seq, iJ r.deps.d0, iJ r.deps.d1, iJ r.deps.d2, iJ r.deps.d3, iJ r.deps.d4, iJ r.deps.d5, iJ r.deps.d6, .bool r.kept]) agg_40_25 rfl)) ?_
  refine d_take (v := .agg #[iJ y.src, iJ r.inst.replica, iJ r.inst.slot, iJ r.status, iJ r.promise.number, iJ r.promise.replica, iJ r.ballot.number, iJ r.ballot.replica, iJ r.cmd.kind, iJ r.cmd.txn.client, iJ r.cmd.txn.number, iJ r.cmd.stp.time, iJ r.cmd.stp.client, iJ r.cmd.shards, .slice pr.A r.cmd.reads.length pr.n, .slice pr.B r.cmd.writes.length pr.m, .bool r.cmd.commit, iJ r.seq, iJ r.deps.d0, iJ r.deps.d1, iJ r.deps.d2, iJ r.deps.d3, iJ r.deps.d4, iJ r.deps.d5, iJ r.deps.d6, .bool r.kept]) (i := 13) (d := 50) (L' := [false, true, false, true, true, true, true, true, true, true, true, true, true, true, false, false, false]) rfl (by kernel_rfl) rfl (Kept.refl _ _ _) (fun _ s' => x_build (z := [iJ 0, iJ 0, iJ 0, iJ 0, iJ 0, iJ 0, iJ 0, iJ 0, iJ 0, iJ 0, iJ 0, iJ 0, iJ 0, iJ 0, .slice none 0 0, .slice none 0 0, .bool false, iJ 0, iJ 0, iJ 0, iJ 0, iJ 0, iJ 0, iJ 0, iJ 0, .bool false]) (r := [iJ y.src, iJ r.inst.replica, iJ r.inst.slot, iJ r.status, iJ r.promise.number, iJ r.promise.replica, iJ r.ballot.number, iJ r.ballot.replica, iJ r.cmd.kind, iJ r.cmd.txn.client, iJ r.cmd.txn.number, iJ r.cmd.stp.time, iJ r.cmd.stp.client, iJ r.cmd.shards, .slice pr.A r.cmd.reads.length pr.n, .slice pr.B r.cmd.writes.length pr.m, .bool r.cmd.commit, iJ r.seq, iJ r.deps.d0, iJ r.deps.d1, iJ r.deps.d2, iJ r.deps.d3, iJ r.deps.d4, iJ r.deps.d5, iJ r.deps.d6, .bool r.kept]) zero_56 pl_56 rfl (partsI2 rfl rfl) (fill_cons (vs := [iJ y.src]) (cs' := [iJ y.src, iJ 0, iJ 0, iJ 0, iJ 0, iJ 0, iJ 0, iJ 0, iJ 0, iJ 0, iJ 0, iJ 0, iJ 0, iJ 0, .slice none 0 0, .slice none 0 0, .bool false, iJ 0, iJ 0, iJ 0, iJ 0, iJ 0, iJ 0, iJ 0, iJ 0, .bool false]) rfl rfl rfl rfl rfl (fill_cons (vs := [iJ r.inst.replica, iJ r.inst.slot, iJ r.status, iJ r.promise.number, iJ r.promise.replica, iJ r.ballot.number, iJ r.ballot.replica, iJ r.cmd.kind, iJ r.cmd.txn.client, iJ r.cmd.txn.number, iJ r.cmd.stp.time, iJ r.cmd.stp.client, iJ r.cmd.shards, .slice pr.A r.cmd.reads.length pr.n, .slice pr.B r.cmd.writes.length pr.m, .bool r.cmd.commit, iJ r.seq, iJ r.deps.d0, iJ r.deps.d1, iJ r.deps.d2, iJ r.deps.d3, iJ r.deps.d4, iJ r.deps.d5, iJ r.deps.d6, .bool r.kept]) (cs' := [iJ y.src, iJ r.inst.replica, iJ r.inst.slot, iJ r.status, iJ r.promise.number, iJ r.promise.replica, iJ r.ballot.number, iJ r.ballot.replica, iJ r.cmd.kind, iJ r.cmd.txn.client, iJ r.cmd.txn.number, iJ r.cmd.stp.time, iJ r.cmd.stp.client, iJ r.cmd.shards, .slice pr.A r.cmd.reads.length pr.n, .slice pr.B r.cmd.writes.length pr.m, .bool r.cmd.commit, iJ r.seq, iJ r.deps.d0, iJ r.deps.d1, iJ r.deps.d2, iJ r.deps.d3, iJ r.deps.d4, iJ r.deps.d5, iJ r.deps.d6, .bool r.kept]) rfl rfl rfl rfl rfl (fill_nil)))) ?_
  refine d_act2 (i := 0) (j := 14) (L' := [true, true, false, true, true, true, true, true, true, true, true, true, true, true, false, false, false]) (L'' := [false, true, false, true, true, true, true, true, true, true, true, true, true, true, true, false, false]) (by kernel_rfl) rfl rfl rfl rfl ?_ ?_
  ·refine p_build00 el_24 rfl rfl rfl (fun w50 b51 x52 z53 => ?_)
   refine d_next ((Kept.refl _ _ _).ext x52 (((((x3.trans x7).trans x10).trans x30).trans x33).trans x48).size) ?_
   refine d_act2 (i := 2) (j := 14) (L' := [true, true, true, true, true, true, true, true, true, true, true, true, true, true, false, false, false]) (L'' := [true, true, false, true, true, true, true, true, true, true, true, true, true, true, true, false, false]) (by kernel_rfl) rfl rfl rfl rfl ?_ ?_
   ·refine p_appendOR0 (dd := kVt) (f := fVt) (B := w.heap.size) (ys := l) el_24 rfl rfl rfl rfl (Own.box0 _ _ b51 (((((x3.trans x7).trans x10).trans x30).trans x33).trans x48).size) rfl (((((((hV.lies.ext x3).ext x7).ext x10).ext x30).ext x33).ext x48).ext x52) (fun _ => rfl) (fun _ _ h => h) (fun _ => rfl) (by omega) (by omega) ((((((x3.trans x7).trans x10).trans x30).trans x33).trans x48).trans x52).size (fun A57 c58 w54 ho55 kp56 kp56o => ?_)
    refine d_next (((Kept.refl _ _ _).ext x52 (((((x3.trans x7).trans x10).trans x30).trans x33).trans x48).size).trans kp56) ?_
    refine d_act1 (i := 14) (L' := [true, true, true, true, true, true, true, true, true, true, true, true, true, true, true, false, false]) (by kernel_rfl) rfl rfl ?_
    refine p_buildSlice (cs := [iJ y.src, iJ r.inst.replica, iJ r.inst.slot, iJ r.status, iJ r.promise.number, iJ r.promise.replica, iJ r.ballot.number, iJ r.ballot.replica, iJ r.cmd.kind, iJ r.cmd.txn.client, iJ r.cmd.txn.number, iJ r.cmd.stp.time, iJ r.cmd.stp.client, iJ r.cmd.shards, .slice pr.A r.cmd.reads.length pr.n, .slice pr.B r.cmd.writes.length pr.m, .bool r.cmd.commit, iJ r.seq, iJ r.deps.d0, iJ r.deps.d1, iJ r.deps.d2, iJ r.deps.d3, iJ r.deps.d4, iJ r.deps.d5, iJ r.deps.d6, .bool r.kept]) el_24 rfl rfl rfl (parts1 rfl) (by decide) (by decide) (fill_ok [.agg #[iJ y.src, iJ r.inst.replica, iJ r.inst.slot, iJ r.status, iJ r.promise.number, iJ r.promise.replica, iJ r.ballot.number, iJ r.ballot.replica, iJ r.cmd.kind, iJ r.cmd.txn.client, iJ r.cmd.txn.number, iJ r.cmd.stp.time, iJ r.cmd.stp.client, iJ r.cmd.shards, .slice pr.A r.cmd.reads.length pr.n, .slice pr.B r.cmd.writes.length pr.m, .bool r.cmd.commit, iJ r.seq, iJ r.deps.d0, iJ r.deps.d1, iJ r.deps.d2, iJ r.deps.d3, iJ r.deps.d4, iJ r.deps.d5, iJ r.deps.d6, .bool r.kept]] [iJ y.src, iJ r.inst.replica, iJ r.inst.slot, iJ r.status, iJ r.promise.number, iJ r.promise.replica, iJ r.ballot.number, iJ r.ballot.replica, iJ r.cmd.kind, iJ r.cmd.txn.client, iJ r.cmd.txn.number, iJ r.cmd.stp.time, iJ r.cmd.stp.client, iJ r.cmd.shards, .slice pr.A r.cmd.reads.length pr.n, .slice pr.B r.cmd.writes.length pr.m, .bool r.cmd.commit, iJ r.seq, iJ r.deps.d0, iJ r.deps.d1, iJ r.deps.d2, iJ r.deps.d3, iJ r.deps.d4, iJ r.deps.d5, iJ r.deps.d6, .bool r.kept] rfl rfl) (fun w59 b60 x61 z62 => ?_)
    refine d_next ((((Kept.refl _ _ _).ext x52 (((((x3.trans x7).trans x10).trans x30).trans x33).trans x48).size).trans kp56).ext x61 (((((((x3.trans x7).trans x10).trans x30).trans x33).trans x48).trans x52).below (Nat.le_refl _) kp56.below).size) ?_
    refine d_act1 (i := 15) (L' := [true, true, true, true, true, true, true, true, true, true, true, true, true, true, true, true, false]) (by kernel_rfl) rfl rfl ?_
    refine p_appendO (f := fVt) (B := w.heap.size) (xs := l) (z := (⟨y.src, r, pr⟩ : Vt)) (cells := [iJ y.src, iJ r.inst.replica, iJ r.inst.slot, iJ r.status, iJ r.promise.number, iJ r.promise.replica, iJ r.ballot.number, iJ r.ballot.replica, iJ r.cmd.kind, iJ r.cmd.txn.client, iJ r.cmd.txn.number, iJ r.cmd.stp.time, iJ r.cmd.stp.client, iJ r.cmd.shards, .slice pr.A r.cmd.reads.length pr.n, .slice pr.B r.cmd.writes.length pr.m, .bool r.cmd.commit, iJ r.seq, iJ r.deps.d0, iJ r.deps.d1, iJ r.deps.d2, iJ r.deps.d3, iJ r.deps.d4, iJ r.deps.d5, iJ r.deps.d6, .bool r.kept]) el_24 rfl rfl rfl rfl (ho55.ext x61) rfl b60 rfl rfl rfl (by omega) (by omega) ((((((((x3.trans x7).trans x10).trans x30).trans x33).trans x48).trans x52).below (Nat.le_refl _) kp56.below).trans x61).size (fun A66 c67 w63 ho64 kp65 => ?_)
    refine d_next (((((Kept.refl _ _ _).ext x52 (((((x3.trans x7).trans x10).trans x30).trans x33).trans x48).size).trans kp56).ext x61 (((((((x3.trans x7).trans x10).trans x30).trans x33).trans x48).trans x52).below (Nat.le_refl _) kp56.below).size).trans kp65) ?_
    refine d_take (v := .slice A66 (List.length (α := Vt) (l ++ [(⟨y.src, r, pr⟩ : Vt)])) c67) (i := 16) (d := 11) (L' := [true, true, true, true, true, true, true, true, true, true, true, true, true, true, true, true, true]) rfl (by kernel_rfl) rfl (((((Kept.refl _ _ _).ext x52 (((((x3.trans x7).trans x10).trans x30).trans x33).trans x48).size).trans kp56).ext x61 (((((((x3.trans x7).trans x10).trans x30).trans x33).trans x48).trans x52).below (Nat.le_refl _) kp56.below).size).trans kp65) (fun _ s' => x_assign rfl rfl) ?_
    refine d_end (by kernel_rfl) ?_
    exact t_norm ⟨_, rfl, A66, c67, rfl, rfl, rfl, rfl, rfl, ho64, ((((((Kept.refl _ _ _).ext x48 ((((x3.trans x7).trans x10).trans x30).trans x33).size).ext x52 (((((x3.trans x7).trans x10).trans x30).trans x33).trans x48).size).trans kp56).ext x61 (((((((x3.trans x7).trans x10).trans x30).trans x33).trans x48).trans x52).below (Nat.le_refl _) kp56.below).size).trans kp65)⟩
   refine p_buildSlice (cs := [iJ y.src, iJ r.inst.replica, iJ r.inst.slot, iJ r.status, iJ r.promise.number, iJ r.promise.replica, iJ r.ballot.number, iJ r.ballot.replica, iJ r.cmd.kind, iJ r.cmd.txn.client, iJ r.cmd.txn.number, iJ r.cmd.stp.time, iJ r.cmd.stp.client, iJ r.cmd.shards, .slice pr.A r.cmd.reads.length pr.n, .slice pr.B r.cmd.writes.length pr.m, .bool r.cmd.commit, iJ r.seq, iJ r.deps.d0, iJ r.deps.d1, iJ r.deps.d2, iJ r.deps.d3, iJ r.deps.d4, iJ r.deps.d5, iJ r.deps.d6, .bool r.kept]) el_24 rfl rfl rfl (parts1 rfl) (by decide) (by decide) (fill_ok [.agg #[iJ y.src, iJ r.inst.replica, iJ r.inst.slot, iJ r.status, iJ r.promise.number, iJ r.promise.replica, iJ r.ballot.number, iJ r.ballot.replica, iJ r.cmd.kind, iJ r.cmd.txn.client, iJ r.cmd.txn.number, iJ r.cmd.stp.time, iJ r.cmd.stp.client, iJ r.cmd.shards, .slice pr.A r.cmd.reads.length pr.n, .slice pr.B r.cmd.writes.length pr.m, .bool r.cmd.commit, iJ r.seq, iJ r.deps.d0, iJ r.deps.d1, iJ r.deps.d2, iJ r.deps.d3, iJ r.deps.d4, iJ r.deps.d5, iJ r.deps.d6, .bool r.kept]] [iJ y.src, iJ r.inst.replica, iJ r.inst.slot, iJ r.status, iJ r.promise.number, iJ r.promise.replica, iJ r.ballot.number, iJ r.ballot.replica, iJ r.cmd.kind, iJ r.cmd.txn.client, iJ r.cmd.txn.number, iJ r.cmd.stp.time, iJ r.cmd.stp.client, iJ r.cmd.shards, .slice pr.A r.cmd.reads.length pr.n, .slice pr.B r.cmd.writes.length pr.m, .bool r.cmd.commit, iJ r.seq, iJ r.deps.d0, iJ r.deps.d1, iJ r.deps.d2, iJ r.deps.d3, iJ r.deps.d4, iJ r.deps.d5, iJ r.deps.d6, .bool r.kept] rfl rfl) (fun w68 b69 x70 z71 => ?_)
   refine d_next (((Kept.refl _ _ _).ext x52 (((((x3.trans x7).trans x10).trans x30).trans x33).trans x48).size).ext x70 ((((((x3.trans x7).trans x10).trans x30).trans x33).trans x48).trans x52).size) ?_
   refine d_act1 (i := 2) (L' := [true, true, true, true, true, true, true, true, true, true, true, true, true, true, true, false, false]) (by kernel_rfl) rfl rfl ?_
   refine p_appendOR0 (dd := kVt) (f := fVt) (B := w.heap.size) (ys := l) el_24 rfl rfl rfl rfl (Own.box0 _ _ (b51.ext x70) (((((x3.trans x7).trans x10).trans x30).trans x33).trans x48).size) rfl ((((((((hV.lies.ext x3).ext x7).ext x10).ext x30).ext x33).ext x48).ext x52).ext x70) (fun _ => rfl) (fun _ _ h => h) (fun _ => rfl) (by omega) (by omega) (((((((x3.trans x7).trans x10).trans x30).trans x33).trans x48).trans x52).trans x70).size (fun A75 c76 w72 ho73 kp74 kp74o => ?_)
   have b77 := kp74o _ _ _ (fun ad h => by cases h; show w47.heap.size ≠ w50.heap.size; omega) b69
   refine d_next ((((Kept.refl _ _ _).ext x52 (((((x3.trans x7).trans x10).trans x30).trans x33).trans x48).size).ext x70 ((((((x3.trans x7).trans x10).trans x30).trans x33).trans x48).trans x52).size).trans kp74) ?_
   refine d_act1 (i := 15) (L' := [true, true, true, true, true, true, true, true, true, true, true, true, true, true, true, true, false]) (by kernel_rfl) rfl rfl ?_
   refine p_appendO (f := fVt) (B := w.heap.size) (xs := l) (z := (⟨y.src, r, pr⟩ : Vt)) (cells := [iJ y.src, iJ r.inst.replica, iJ r.inst.slot, iJ r.status, iJ r.promise.number, iJ r.promise.replica, iJ r.ballot.number, iJ r.ballot.replica, iJ r.cmd.kind, iJ r.cmd.txn.client, iJ r.cmd.txn.number, iJ r.cmd.stp.time, iJ r.cmd.stp.client, iJ r.cmd.shards, .slice pr.A r.cmd.reads.length pr.n, .slice pr.B r.cmd.writes.length pr.m, .bool r.cmd.commit, iJ r.seq, iJ r.deps.d0, iJ r.deps.d1, iJ r.deps.d2, iJ r.deps.d3, iJ r.deps.d4, iJ r.deps.d5, iJ r.deps.d6, .bool r.kept]) el_24 rfl rfl rfl rfl ho73 rfl b77 rfl rfl rfl (by omega) (by omega) ((((((((x3.trans x7).trans x10).trans x30).trans x33).trans x48).trans x52).trans x70).below (Nat.le_refl _) kp74.below).size (fun A81 c82 w78 ho79 kp80 => ?_)
   refine d_next (((((Kept.refl _ _ _).ext x52 (((((x3.trans x7).trans x10).trans x30).trans x33).trans x48).size).ext x70 ((((((x3.trans x7).trans x10).trans x30).trans x33).trans x48).trans x52).size).trans kp74).trans kp80) ?_
   refine d_take (v := .slice A81 (List.length (α := Vt) (l ++ [(⟨y.src, r, pr⟩ : Vt)])) c82) (i := 16) (d := 11) (L' := [true, true, true, true, true, true, true, true, true, true, true, true, true, true, true, true, true]) rfl (by kernel_rfl) rfl (((((Kept.refl _ _ _).ext x52 (((((x3.trans x7).trans x10).trans x30).trans x33).trans x48).size).ext x70 ((((((x3.trans x7).trans x10).trans x30).trans x33).trans x48).trans x52).size).trans kp74).trans kp80) (fun _ s' => x_assign rfl rfl) ?_
   refine d_end (by kernel_rfl) ?_
   exact t_norm ⟨_, rfl, A81, c82, rfl, rfl, rfl, rfl, rfl, ho79, ((((((Kept.refl _ _ _).ext x48 ((((x3.trans x7).trans x10).trans x30).trans x33).size).ext x52 (((((x3.trans x7).trans x10).trans x30).trans x33).trans x48).size).ext x70 ((((((x3.trans x7).trans x10).trans x30).trans x33).trans x48).trans x52).size).trans kp74).trans kp80)⟩
  refine p_buildSlice (cs := [iJ y.src, iJ r.inst.replica, iJ r.inst.slot, iJ r.status, iJ r.promise.number, iJ r.promise.replica, iJ r.ballot.number, iJ r.ballot.replica, iJ r.cmd.kind, iJ r.cmd.txn.client, iJ r.cmd.txn.number, iJ r.cmd.stp.time, iJ r.cmd.stp.client, iJ r.cmd.shards, .slice pr.A r.cmd.reads.length pr.n, .slice pr.B r.cmd.writes.length pr.m, .bool r.cmd.commit, iJ r.seq, iJ r.deps.d0, iJ r.deps.d1, iJ r.deps.d2, iJ r.deps.d3, iJ r.deps.d4, iJ r.deps.d5, iJ r.deps.d6, .bool r.kept]) el_24 rfl rfl rfl (parts1 rfl) (by decide) (by decide) (fill_ok [.agg #[iJ y.src, iJ r.inst.replica, iJ r.inst.slot, iJ r.status, iJ r.promise.number, iJ r.promise.replica, iJ r.ballot.number, iJ r.ballot.replica, iJ r.cmd.kind, iJ r.cmd.txn.client, iJ r.cmd.txn.number, iJ r.cmd.stp.time, iJ r.cmd.stp.client, iJ r.cmd.shards, .slice pr.A r.cmd.reads.length pr.n, .slice pr.B r.cmd.writes.length pr.m, .bool r.cmd.commit, iJ r.seq, iJ r.deps.d0, iJ r.deps.d1, iJ r.deps.d2, iJ r.deps.d3, iJ r.deps.d4, iJ r.deps.d5, iJ r.deps.d6, .bool r.kept]] [iJ y.src, iJ r.inst.replica, iJ r.inst.slot, iJ r.status, iJ r.promise.number, iJ r.promise.replica, iJ r.ballot.number, iJ r.ballot.replica, iJ r.cmd.kind, iJ r.cmd.txn.client, iJ r.cmd.txn.number, iJ r.cmd.stp.time, iJ r.cmd.stp.client, iJ r.cmd.shards, .slice pr.A r.cmd.reads.length pr.n, .slice pr.B r.cmd.writes.length pr.m, .bool r.cmd.commit, iJ r.seq, iJ r.deps.d0, iJ r.deps.d1, iJ r.deps.d2, iJ r.deps.d3, iJ r.deps.d4, iJ r.deps.d5, iJ r.deps.d6, .bool r.kept] rfl rfl) (fun w83 b84 x85 z86 => ?_)
  refine d_next ((Kept.refl _ _ _).ext x85 (((((x3.trans x7).trans x10).trans x30).trans x33).trans x48).size) ?_
  refine d_act1 (i := 0) (L' := [true, true, false, true, true, true, true, true, true, true, true, true, true, true, true, false, false]) (by kernel_rfl) rfl rfl ?_
  refine p_build00 el_24 rfl rfl rfl (fun w87 b88 x89 z90 => ?_)
  refine d_next (((Kept.refl _ _ _).ext x85 (((((x3.trans x7).trans x10).trans x30).trans x33).trans x48).size).ext x89 ((((((x3.trans x7).trans x10).trans x30).trans x33).trans x48).trans x85).size) ?_
  refine d_act1 (i := 2) (L' := [true, true, true, true, true, true, true, true, true, true, true, true, true, true, true, false, false]) (by kernel_rfl) rfl rfl ?_
  refine p_appendOR0 (dd := kVt) (f := fVt) (B := w.heap.size) (ys := l) el_24 rfl rfl rfl rfl (Own.box0 _ _ b88 ((((((x3.trans x7).trans x10).trans x30).trans x33).trans x48).trans x85).size) rfl ((((((((hV.lies.ext x3).ext x7).ext x10).ext x30).ext x33).ext x48).ext x85).ext x89) (fun _ => rfl) (fun _ _ h => h) (fun _ => rfl) (by omega) (by omega) (((((((x3.trans x7).trans x10).trans x30).trans x33).trans x48).trans x85).trans x89).size (fun A94 c95 w91 ho92 kp93 kp93o => ?_)
  have b96 := kp93o _ _ _ (fun ad h => by cases h; show w83.heap.size ≠ w47.heap.size; omega) (b84.ext x89)
  refine d_next ((((Kept.refl _ _ _).ext x85 (((((x3.trans x7).trans x10).trans x30).trans x33).trans x48).size).ext x89 ((((((x3.trans x7).trans x10).trans x30).trans x33).trans x48).trans x85).size).trans kp93) ?_
  refine d_act1 (i := 15) (L' := [true, true, true, true, true, true, true, true, true, true, true, true, true, true, true, true, false]) (by kernel_rfl) rfl rfl ?_
  refine p_appendO (f := fVt) (B := w.heap.size) (xs := l) (z := (⟨y.src, r, pr⟩ : Vt)) (cells := [iJ y.src, iJ r.inst.replica, iJ r.inst.slot, iJ r.status, iJ r.promise.number, iJ r.promise.replica, iJ r.ballot.number, iJ r.ballot.replica, iJ r.cmd.kind, iJ r.cmd.txn.client, iJ r.cmd.txn.number, iJ r.cmd.stp.time, iJ r.cmd.stp.client, iJ r.cmd.shards, .slice pr.A r.cmd.reads.length pr.n, .slice pr.B r.cmd.writes.length pr.m, .bool r.cmd.commit, iJ r.seq, iJ r.deps.d0, iJ r.deps.d1, iJ r.deps.d2, iJ r.deps.d3, iJ r.deps.d4, iJ r.deps.d5, iJ r.deps.d6, .bool r.kept]) el_24 rfl rfl rfl rfl ho92 rfl b96 rfl rfl rfl (by omega) (by omega) ((((((((x3.trans x7).trans x10).trans x30).trans x33).trans x48).trans x85).trans x89).below (Nat.le_refl _) kp93.below).size (fun A100 c101 w97 ho98 kp99 => ?_)
  refine d_next (((((Kept.refl _ _ _).ext x85 (((((x3.trans x7).trans x10).trans x30).trans x33).trans x48).size).ext x89 ((((((x3.trans x7).trans x10).trans x30).trans x33).trans x48).trans x85).size).trans kp93).trans kp99) ?_
  refine d_take (v := .slice A100 (List.length (α := Vt) (l ++ [(⟨y.src, r, pr⟩ : Vt)])) c101) (i := 16) (d := 11) (L' := [true, true, true, true, true, true, true, true, true, true, true, true, true, true, true, true, true]) rfl (by kernel_rfl) rfl (((((Kept.refl _ _ _).ext x85 (((((x3.trans x7).trans x10).trans x30).trans x33).trans x48).size).ext x89 ((((((x3.trans x7).trans x10).trans x30).trans x33).trans x48).trans x85).size).trans kp93).trans kp99) (fun _ s' => x_assign rfl rfl) ?_
  refine d_end (by kernel_rfl) ?_
  exact t_norm ⟨_, rfl, A100, c101, rfl, rfl, rfl, rfl, rfl, ho98, ((((((Kept.refl _ _ _).ext x48 ((((x3.trans x7).trans x10).trans x30).trans x33).size).ext x85 (((((x3.trans x7).trans x10).trans x30).trans x33).trans x48).size).ext x89 ((((((x3.trans x7).trans x10).trans x30).trans x33).trans x48).trans x85).size).trans kp93).trans kp99)⟩
 rintro ρ w37 ⟨A42, c43, e38, e39, e40, e41, e45, ho44, kp46⟩
 refine t_norm (c_seq (c_meet (fun ρ w102 => ∃ g109 : Nat, ∃ p112 : Ptr, ρ 0 = iJ f ∧ ρ 6 = pJ w.heap.size ∧ ρ 10 = .bool false ∧ ρ 11 = .slice A42 (List.length (α := Vt) (l ++ [(⟨y.src, r, pr⟩ : Vt)])) c43 ∧ ρ 12 = pJ g109 ∧ ρ 13 = iJ E ∧ CmdAt w102 R.cmd p112 ∧ Box w102 g109 40 [iJ R.inst.replica, iJ R.inst.slot, iJ R.status, iJ R.promise.number, iJ R.promise.replica, iJ R.ballot.number, iJ R.ballot.replica, iJ R.cmd.kind, iJ R.cmd.txn.client, iJ R.cmd.txn.number, iJ R.cmd.stp.time, iJ R.cmd.stp.client, iJ R.cmd.shards, .slice p112.A R.cmd.reads.length p112.n, .slice p112.B R.cmd.writes.length p112.m, .bool R.cmd.commit, iJ R.seq, iJ R.deps.d0, iJ R.deps.d1, iJ R.deps.d2, iJ R.deps.d3, iJ R.deps.d4, iJ R.deps.d5, iJ R.deps.d6, .bool R.kept] ∧ w37.heap.size ≤ g109 ∧ Ext w37 w102) ?_ ?_))
 ·refine c_held mixed (by kernel_rfl) (fun _ _ _ _ _ h => h) (fun v1 v2 => Ext v1 v2) 9 11 rfl (fun w115 x116 z117 => ?_)
  refine h_take (v := iJ f) (i := 0) (d := 54) (L' := [true, false, false, false, false, false, false, false, false, false, false]) rfl (by kernel_rfl) rfl (by kernel_rfl) rfl rfl (Ext.refl _) (fun _ s' => x_move rfl e38) ?_
  refine h_take (v := vInst i) (i := 1) (d := 55) (L' := [true, true, false, false, false, false, false, false, false, false, false]) rfl (by kernel_rfl) rfl (by kernel_rfl) rfl rfl (Ext.refl _) (fun _ s' => x_load rfl e40 ((((((((b2.ext x7).ext x10).ext x30).ext x33).kept kp46 (by decide)).ext x116).ext s').agg (vs := [iJ i.replica, iJ i.slot]) agg_23_2 rfl)) ?_
  refine h_take (v := .slice A l.length c) (i := 2) (d := 56) (L' := [true, true, true, false, false, false, false, false, false, false, false]) rfl (by kernel_rfl) rfl (by kernel_rfl) rfl rfl (Ext.refl _) (fun _ s' => x_move rfl e39) ?_
  refine h_act2 (i := 3) (j := 8) (L' := [true, true, true, true, false, false, false, false, false, false, false]) (L'' := [true, true, true, false, false, false, false, false, true, false, false]) (by kernel_rfl) rfl rfl rfl rfl ?_ ?_
  ·refine p_call (vs := #[.slice A l.length c]) fn_11 rfl rfl rfl (args1 rfl) ?_
   refine (C_given _ A c l (hV.ext ((((((x3.trans x7).trans x10).trans x30).trans x33).below (Nat.le_refl _) kp46.below).trans x116))).mono ?_
   rintro e w118 ⟨A119, c120, rfl, hV121, x122⟩
   refine ⟨_, rfl, ?_⟩
   refine h_nextG (i := 3) (fun _ _ => x122) ?_
   refine h_act2 (i := 4) (j := 8) (L' := [true, true, true, true, true, false, false, false, false, false, false]) (L'' := [true, true, true, true, false, false, false, false, true, false, false]) (by kernel_rfl) rfl rfl rfl rfl ?_ ?_
   ·refine p_call (vs := #[iJ f, vInst i, .slice A119 l.length c120]) fn_10 rfl rfl rfl (args3 rfl rfl rfl) ?_
    refine (C_decide _ f i A119 c120 l hV121).mono ?_
    rw [hd]
    rintro e w123 ⟨p124, rfl, hc125, x126, fa127, fb128⟩
    refine ⟨_, rfl, ?_⟩
    refine h_nextG (i := 4) (fun _ _ => (x122.trans x126)) ?_
    refine h_take (v := .tuple #[vRec R p124, iJ E]) (i := 5) (d := 53) (L' := [true, true, true, true, true, true, false, false, false, false, false]) rfl (by kernel_rfl) rfl (by kernel_rfl) rfl rfl (x122.trans x126) (fun _ s' => x_move rfl rfl) ?_
    refine h_take (v := vRec R p124) (i := 6) (d := 59) (L' := [true, true, true, true, true, true, true, false, false, false, false]) rfl (by kernel_rfl) rfl (by kernel_rfl) rfl rfl (x122.trans x126) (fun _ s' => x_extract rfl rfl rfl) ?_
    refine h_act2 (i := 7) (j := 8) (L' := [true, true, true, true, true, true, true, true, false, false, false]) (L'' := [true, true, true, true, true, true, true, false, true, false, false]) (by kernel_rfl) rfl rfl rfl rfl ?_ ?_
    ·refine pv (iJ E) (x_extract rfl rfl rfl) ?_
     refine h_nextG (i := 7) (fun _ _ => (x122.trans x126)) ?_
     refine h_act1 (i := 8) (L' := [true, true, true, true, true, true, true, true, true, false, false]) (by kernel_rfl) rfl rfl ?_
     refine p_alloc (cs := [iJ 0, iJ 0, iJ 0, iJ 0, iJ 0, iJ 0, iJ 0, iJ 0, iJ 0, iJ 0, iJ 0, iJ 0, iJ 0, .slice none 0 0, .slice none 0 0, .bool false, iJ 0, iJ 0, iJ 0, iJ 0, iJ 0, iJ 0, iJ 0, iJ 0, .bool false]) rfl rfl rfl zero_40 rfl (fun w129 b130 x131 z132 => ?_)
     refine h_nextG (i := 8) (fun _ _ => ((x122.trans x126).trans x131)) ?_
     refine h_act1 (i := 9) (L' := [true, true, true, true, true, true, true, true, true, true, false]) (by kernel_rfl) rfl rfl ?_
     refine p_store (v := vRec R p124) (vs := [iJ R.inst.replica, iJ R.inst.slot, iJ R.status, iJ R.promise.number, iJ R.promise.replica, iJ R.ballot.number, iJ R.ballot.replica, iJ R.cmd.kind, iJ R.cmd.txn.client, iJ R.cmd.txn.number, iJ R.cmd.stp.time, iJ R.cmd.stp.client, iJ R.cmd.shards, .slice p124.A R.cmd.reads.length p124.n, .slice p124.B R.cmd.writes.length p124.m, .bool R.cmd.commit, iJ R.seq, iJ R.deps.d0, iJ R.deps.d1, iJ R.deps.d2, iJ R.deps.d3, iJ R.deps.d4, iJ R.deps.d5, iJ R.deps.d6, .bool R.kept]) (cs' := [iJ R.inst.replica, iJ R.inst.slot, iJ R.status, iJ R.promise.number, iJ R.promise.replica, iJ R.ballot.number, iJ R.ballot.replica, iJ R.cmd.kind, iJ R.cmd.txn.client, iJ R.cmd.txn.number, iJ R.cmd.stp.time, iJ R.cmd.stp.client, iJ R.cmd.shards, .slice p124.A R.cmd.reads.length p124.n, .slice p124.B R.cmd.writes.length p124.m, .bool R.cmd.commit, iJ R.seq, iJ R.deps.d0, iJ R.deps.d1, iJ R.deps.d2, iJ R.deps.d3, iJ R.deps.d4, iJ R.deps.d5, iJ R.deps.d6, .bool R.kept]) rfl rfl rfl rfl rfl rfl b130 size_40 rfl rfl rfl (fun w133 b134 s135 => ?_)
     have b136 := (((((((((b2.ext x7).ext x10).ext x30).ext x33).kept kp46 (by decide)).ext x116).ext x122).ext x126).ext x131).far s135 (by have hz := (Nat.le_trans (Nat.le_trans (Nat.le_trans (Nat.le_trans (Nat.le_trans (Nat.le_trans (Nat.le_trans x7.size x10.size) x30.size) x33.size) kp46.below.size) x116.size) x122.size) x126.size); omega)
     have b137 := ((((((((b6.ext x10).ext x30).ext x33).kept kp46 (by decide)).ext x116).ext x122).ext x126).ext x131).far s135 (by have hz := (Nat.le_trans (Nat.le_trans (Nat.le_trans (Nat.le_trans (Nat.le_trans (Nat.le_trans x10.size x30.size) x33.size) kp46.below.size) x116.size) x122.size) x126.size); omega)
     have b138 := ((((((b29.ext x33).kept kp46 (by decide)).ext x116).ext x122).ext x126).ext x131).far s135 (by have hz := (Nat.le_trans (Nat.le_trans (Nat.le_trans (Nat.le_trans x33.size kp46.below.size) x116.size) x122.size) x126.size); omega)
     refine h_nextG (i := 9) (fun h => absurd rfl h) ?_
     refine h_act1 (i := 10) (L' := [true, true, true, true, true, true, true, true, true, true, true]) (by kernel_rfl) rfl rfl ?_
     refine pv (iJ E) (x_assign rfl rfl) ?_
     refine h_nextG (i := 10) (fun _ h => by cases h) ?_
     refine h_end (by kernel_rfl) ?_
     exact t_norm ⟨_, rfl, w123.heap.size, p124, e38, e40, e41, e45, rfl, rfl, (hc125.ext (x131.stored (Nat.le_refl _) s135)), b134, (Nat.le_trans (Nat.le_trans x116.size x122.size) x126.size), ((((x116.trans x122).trans x126).trans x131).stored ((x116.trans x122).trans x126).size s135)⟩
    refine p_alloc (cs := [iJ 0, iJ 0, iJ 0, iJ 0, iJ 0, iJ 0, iJ 0, iJ 0, iJ 0, iJ 0, iJ 0, iJ 0, iJ 0, .slice none 0 0, .slice none 0 0, .bool false, iJ 0, iJ 0, iJ 0, iJ 0, iJ 0, iJ 0, iJ 0, iJ 0, .bool false]) rfl rfl rfl zero_40 rfl (fun w139 b140 x141 z142 => ?_)
    refine h_nextG (i := 8) (fun _ _ => ((x122.trans x126).trans x141)) ?_
    refine h_act2 (i := 7) (j := 9) (L' := [true, true, true, true, true, true, true, true, true, false, false]) (L'' := [true, true, true, true, true, true, true, false, true, true, false]) (by kernel_rfl) rfl rfl rfl rfl ?_ ?_
    ·refine pv (iJ E) (x_extract rfl rfl rfl) ?_
     refine h_nextG (i := 7) (fun _ _ => ((x122.trans x126).trans x141)) ?_
     refine h_act1 (i := 9) (L' := [true, true, true, true, true, true, true, true, true, true, false]) (by kernel_rfl) rfl rfl ?_
     refine p_store (v := vRec R p124) (vs := [iJ R.inst.replica, iJ R.inst.slot, iJ R.status, iJ R.promise.number, iJ R.promise.replica, iJ R.ballot.number, iJ R.ballot.replica, iJ R.cmd.kind, iJ R.cmd.txn.client, iJ R.cmd.txn.number, iJ R.cmd.stp.time, iJ R.cmd.stp.client, iJ R.cmd.shards, .slice p124.A R.cmd.reads.length p124.n, .slice p124.B R.cmd.writes.length p124.m, .bool R.cmd.commit, iJ R.seq, iJ R.deps.d0, iJ R.deps.d1, iJ R.deps.d2, iJ R.deps.d3, iJ R.deps.d4, iJ R.deps.d5, iJ R.deps.d6, .bool R.kept]) (cs' := [iJ R.inst.replica, iJ R.inst.slot, iJ R.status, iJ R.promise.number, iJ R.promise.replica, iJ R.ballot.number, iJ R.ballot.replica, iJ R.cmd.kind, iJ R.cmd.txn.client, iJ R.cmd.txn.number, iJ R.cmd.stp.time, iJ R.cmd.stp.client, iJ R.cmd.shards, .slice p124.A R.cmd.reads.length p124.n, .slice p124.B R.cmd.writes.length p124.m, .bool R.cmd.commit, iJ R.seq, iJ R.deps.d0, iJ R.deps.d1, iJ R.deps.d2, iJ R.deps.d3, iJ R.deps.d4, iJ R.deps.d5, iJ R.deps.d6, .bool R.kept]) rfl rfl rfl rfl rfl rfl b140 size_40 rfl rfl rfl (fun w143 b144 s145 => ?_)
     have b146 := (((((((((b2.ext x7).ext x10).ext x30).ext x33).kept kp46 (by decide)).ext x116).ext x122).ext x126).ext x141).far s145 (by have hz := (Nat.le_trans (Nat.le_trans (Nat.le_trans (Nat.le_trans (Nat.le_trans (Nat.le_trans (Nat.le_trans x7.size x10.size) x30.size) x33.size) kp46.below.size) x116.size) x122.size) x126.size); omega)
     have b147 := ((((((((b6.ext x10).ext x30).ext x33).kept kp46 (by decide)).ext x116).ext x122).ext x126).ext x141).far s145 (by have hz := (Nat.le_trans (Nat.le_trans (Nat.le_trans (Nat.le_trans (Nat.le_trans (Nat.le_trans x10.size x30.size) x33.size) kp46.below.size) x116.size) x122.size) x126.size); omega)
     have b148 := ((((((b29.ext x33).kept kp46 (by decide)).ext x116).ext x122).ext x126).ext x141).far s145 (by have hz := (Nat.le_trans (Nat.le_trans (Nat.le_trans (Nat.le_trans x33.size kp46.below.size) x116.size) x122.size) x126.size); omega)
     refine h_nextG (i := 9) (fun h => absurd rfl h) ?_
     refine h_act1 (i := 10) (L' := [true, true, true, true, true, true, true, true, true, true, true]) (by kernel_rfl) rfl rfl ?_
     refine pv (iJ E) (x_assign rfl rfl) ?_
     refine h_nextG (i := 10) (fun _ h => by cases h) ?_
     refine h_end (by kernel_rfl) ?_
     exact t_norm ⟨_, rfl, w123.heap.size, p124, e38, e40, e41, e45, rfl, rfl, (hc125.ext (x141.stored (Nat.le_refl _) s145)), b144, (Nat.le_trans (Nat.le_trans x116.size x122.size) x126.size), ((((x116.trans x122).trans x126).trans x141).stored ((x116.trans x122).trans x126).size s145)⟩
    refine p_store (v := vRec R p124) (vs := [iJ R.inst.replica, iJ R.inst.slot, iJ R.status, iJ R.promise.number, iJ R.promise.replica, iJ R.ballot.number, iJ R.ballot.replica, iJ R.cmd.kind, iJ R.cmd.txn.client, iJ R.cmd.txn.number, iJ R.cmd.stp.time, iJ R.cmd.stp.client, iJ R.cmd.shards, .slice p124.A R.cmd.reads.length p124.n, .slice p124.B R.cmd.writes.length p124.m, .bool R.cmd.commit, iJ R.seq, iJ R.deps.d0, iJ R.deps.d1, iJ R.deps.d2, iJ R.deps.d3, iJ R.deps.d4, iJ R.deps.d5, iJ R.deps.d6, .bool R.kept]) (cs' := [iJ R.inst.replica, iJ R.inst.slot, iJ R.status, iJ R.promise.number, iJ R.promise.replica, iJ R.ballot.number, iJ R.ballot.replica, iJ R.cmd.kind, iJ R.cmd.txn.client, iJ R.cmd.txn.number, iJ R.cmd.stp.time, iJ R.cmd.stp.client, iJ R.cmd.shards, .slice p124.A R.cmd.reads.length p124.n, .slice p124.B R.cmd.writes.length p124.m, .bool R.cmd.commit, iJ R.seq, iJ R.deps.d0, iJ R.deps.d1, iJ R.deps.d2, iJ R.deps.d3, iJ R.deps.d4, iJ R.deps.d5, iJ R.deps.d6, .bool R.kept]) rfl rfl rfl rfl rfl rfl b140 size_40 rfl rfl rfl (fun w149 b150 s151 => ?_)
    have b152 := (((((((((b2.ext x7).ext x10).ext x30).ext x33).kept kp46 (by decide)).ext x116).ext x122).ext x126).ext x141).far s151 (by have hz := (Nat.le_trans (Nat.le_trans (Nat.le_trans (Nat.le_trans (Nat.le_trans (Nat.le_trans (Nat.le_trans x7.size x10.size) x30.size) x33.size) kp46.below.size) x116.size) x122.size) x126.size); omega)
    have b153 := ((((((((b6.ext x10).ext x30).ext x33).kept kp46 (by decide)).ext x116).ext x122).ext x126).ext x141).far s151 (by have hz := (Nat.le_trans (Nat.le_trans (Nat.le_trans (Nat.le_trans (Nat.le_trans (Nat.le_trans x10.size x30.size) x33.size) kp46.below.size) x116.size) x122.size) x126.size); omega)
    have b154 := ((((((b29.ext x33).kept kp46 (by decide)).ext x116).ext x122).ext x126).ext x141).far s151 (by have hz := (Nat.le_trans (Nat.le_trans (Nat.le_trans (Nat.le_trans x33.size kp46.below.size) x116.size) x122.size) x126.size); omega)
    refine h_nextG (i := 9) (fun h => absurd rfl h) ?_
    refine h_act1 (i := 7) (L' := [true, true, true, true, true, true, true, true, true, true, false]) (by kernel_rfl) rfl rfl ?_
    refine pv (iJ E) (x_extract rfl rfl rfl) ?_
    refine h_nextG (i := 7) (fun _ h => by cases h) ?_
    refine h_act1 (i := 10) (L' := [true, true, true, true, true, true, true, true, true, true, true]) (by kernel_rfl) rfl rfl ?_
    refine pv (iJ E) (x_assign rfl rfl) ?_
    refine h_nextG (i := 10) (fun _ h => by cases h) ?_
    refine h_end (by kernel_rfl) ?_
    exact t_norm ⟨_, rfl, w123.heap.size, p124, e38, e40, e41, e45, rfl, rfl, (hc125.ext (x141.stored (Nat.le_refl _) s151)), b150, (Nat.le_trans (Nat.le_trans x116.size x122.size) x126.size), ((((x116.trans x122).trans x126).trans x141).stored ((x116.trans x122).trans x126).size s151)⟩
   refine p_alloc (cs := [iJ 0, iJ 0, iJ 0, iJ 0, iJ 0, iJ 0, iJ 0, iJ 0, iJ 0, iJ 0, iJ 0, iJ 0, iJ 0, .slice none 0 0, .slice none 0 0, .bool false, iJ 0, iJ 0, iJ 0, iJ 0, iJ 0, iJ 0, iJ 0, iJ 0, .bool false]) rfl rfl rfl zero_40 rfl (fun w155 b156 x157 z158 => ?_)
   refine h_nextG (i := 8) (fun _ _ => (x122.trans x157)) ?_
   refine h_act1 (i := 4) (L' := [true, true, true, true, true, false, false, false, true, false, false]) (by kernel_rfl) rfl rfl ?_
   refine p_call (vs := #[iJ f, vInst i, .slice A119 l.length c120]) fn_10 rfl rfl rfl (args3 rfl rfl rfl) ?_
   refine (C_decide _ f i A119 c120 l (hV121.ext x157)).mono ?_
   rw [hd]
   rintro e w159 ⟨p160, rfl, hc161, x162, fa163, fb164⟩
   refine ⟨_, rfl, ?_⟩
   refine h_nextG (i := 4) (fun _ _ => ((x122.trans x157).trans x162)) ?_
   refine h_take (v := .tuple #[vRec R p160, iJ E]) (i := 5) (d := 53) (L' := [true, true, true, true, true, true, false, false, true, false, false]) rfl (by kernel_rfl) rfl (by kernel_rfl) rfl rfl ((x122.trans x157).trans x162) (fun _ s' => x_move rfl rfl) ?_
   refine h_take (v := vRec R p160) (i := 6) (d := 59) (L' := [true, true, true, true, true, true, true, false, true, false, false]) rfl (by kernel_rfl) rfl (by kernel_rfl) rfl rfl ((x122.trans x157).trans x162) (fun _ s' => x_extract rfl rfl rfl) ?_
   refine h_act2 (i := 7) (j := 9) (L' := [true, true, true, true, true, true, true, true, true, false, false]) (L'' := [true, true, true, true, true, true, true, false, true, true, false]) (by kernel_rfl) rfl rfl rfl rfl ?_ ?_
   ·refine pv (iJ E) (x_extract rfl rfl rfl) ?_
    refine h_nextG (i := 7) (fun _ _ => ((x122.trans x157).trans x162)) ?_
    refine h_act1 (i := 9) (L' := [true, true, true, true, true, true, true, true, true, true, false]) (by kernel_rfl) rfl rfl ?_
    refine p_store (v := vRec R p160) (vs := [iJ R.inst.replica, iJ R.inst.slot, iJ R.status, iJ R.promise.number, iJ R.promise.replica, iJ R.ballot.number, iJ R.ballot.replica, iJ R.cmd.kind, iJ R.cmd.txn.client, iJ R.cmd.txn.number, iJ R.cmd.stp.time, iJ R.cmd.stp.client, iJ R.cmd.shards, .slice p160.A R.cmd.reads.length p160.n, .slice p160.B R.cmd.writes.length p160.m, .bool R.cmd.commit, iJ R.seq, iJ R.deps.d0, iJ R.deps.d1, iJ R.deps.d2, iJ R.deps.d3, iJ R.deps.d4, iJ R.deps.d5, iJ R.deps.d6, .bool R.kept]) (cs' := [iJ R.inst.replica, iJ R.inst.slot, iJ R.status, iJ R.promise.number, iJ R.promise.replica, iJ R.ballot.number, iJ R.ballot.replica, iJ R.cmd.kind, iJ R.cmd.txn.client, iJ R.cmd.txn.number, iJ R.cmd.stp.time, iJ R.cmd.stp.client, iJ R.cmd.shards, .slice p160.A R.cmd.reads.length p160.n, .slice p160.B R.cmd.writes.length p160.m, .bool R.cmd.commit, iJ R.seq, iJ R.deps.d0, iJ R.deps.d1, iJ R.deps.d2, iJ R.deps.d3, iJ R.deps.d4, iJ R.deps.d5, iJ R.deps.d6, .bool R.kept]) rfl rfl rfl rfl rfl rfl (b156.ext x162) size_40 rfl rfl rfl (fun w165 b166 s167 => ?_)
    have b168 := (((((((((b2.ext x7).ext x10).ext x30).ext x33).kept kp46 (by decide)).ext x116).ext x122).ext x157).ext x162).far s167 (by have hz := (Nat.le_trans (Nat.le_trans (Nat.le_trans (Nat.le_trans (Nat.le_trans (Nat.le_trans x7.size x10.size) x30.size) x33.size) kp46.below.size) x116.size) x122.size); omega)
    have b169 := ((((((((b6.ext x10).ext x30).ext x33).kept kp46 (by decide)).ext x116).ext x122).ext x157).ext x162).far s167 (by have hz := (Nat.le_trans (Nat.le_trans (Nat.le_trans (Nat.le_trans (Nat.le_trans x10.size x30.size) x33.size) kp46.below.size) x116.size) x122.size); omega)
    have b170 := ((((((b29.ext x33).kept kp46 (by decide)).ext x116).ext x122).ext x157).ext x162).far s167 (by have hz := (Nat.le_trans (Nat.le_trans (Nat.le_trans x33.size kp46.below.size) x116.size) x122.size); omega)
    have hc171 := hc161.far s167 (fun ad h => by have hf := fa163 ad h; omega) (fun ad h => by have hf := fb164 ad h; omega)
    refine h_nextG (i := 9) (fun h => absurd rfl h) ?_
    refine h_act1 (i := 10) (L' := [true, true, true, true, true, true, true, true, true, true, true]) (by kernel_rfl) rfl rfl ?_
    refine pv (iJ E) (x_assign rfl rfl) ?_
    refine h_nextG (i := 10) (fun _ h => by cases h) ?_
    refine h_end (by kernel_rfl) ?_
    exact t_norm ⟨_, rfl, w118.heap.size, p160, e38, e40, e41, e45, rfl, rfl, hc171, b166, (Nat.le_trans x116.size x122.size), ((((x116.trans x122).trans x157).trans x162).stored (x116.trans x122).size s167)⟩
   refine p_store (v := vRec R p160) (vs := [iJ R.inst.replica, iJ R.inst.slot, iJ R.status, iJ R.promise.number, iJ R.promise.replica, iJ R.ballot.number, iJ R.ballot.replica, iJ R.cmd.kind, iJ R.cmd.txn.client, iJ R.cmd.txn.number, iJ R.cmd.stp.time, iJ R.cmd.stp.client, iJ R.cmd.shards, .slice p160.A R.cmd.reads.length p160.n, .slice p160.B R.cmd.writes.length p160.m, .bool R.cmd.commit, iJ R.seq, iJ R.deps.d0, iJ R.deps.d1, iJ R.deps.d2, iJ R.deps.d3, iJ R.deps.d4, iJ R.deps.d5, iJ R.deps.d6, .bool R.kept]) (cs' := [iJ R.inst.replica, iJ R.inst.slot, iJ R.status, iJ R.promise.number, iJ R.promise.replica, iJ R.ballot.number, iJ R.ballot.replica, iJ R.cmd.kind, iJ R.cmd.txn.client, iJ R.cmd.txn.number, iJ R.cmd.stp.time, iJ R.cmd.stp.client, iJ R.cmd.shards, .slice p160.A R.cmd.reads.length p160.n, .slice p160.B R.cmd.writes.length p160.m, .bool R.cmd.commit, iJ R.seq, iJ R.deps.d0, iJ R.deps.d1, iJ R.deps.d2, iJ R.deps.d3, iJ R.deps.d4, iJ R.deps.d5, iJ R.deps.d6, .bool R.kept]) rfl rfl rfl rfl rfl rfl (b156.ext x162) size_40 rfl rfl rfl (fun w172 b173 s174 => ?_)
   have b175 := (((((((((b2.ext x7).ext x10).ext x30).ext x33).kept kp46 (by decide)).ext x116).ext x122).ext x157).ext x162).far s174 (by have hz := (Nat.le_trans (Nat.le_trans (Nat.le_trans (Nat.le_trans (Nat.le_trans (Nat.le_trans x7.size x10.size) x30.size) x33.size) kp46.below.size) x116.size) x122.size); omega)
   have b176 := ((((((((b6.ext x10).ext x30).ext x33).kept kp46 (by decide)).ext x116).ext x122).ext x157).ext x162).far s174 (by have hz := (Nat.le_trans (Nat.le_trans (Nat.le_trans (Nat.le_trans (Nat.le_trans x10.size x30.size) x33.size) kp46.below.size) x116.size) x122.size); omega)
   have b177 := ((((((b29.ext x33).kept kp46 (by decide)).ext x116).ext x122).ext x157).ext x162).far s174 (by have hz := (Nat.le_trans (Nat.le_trans (Nat.le_trans x33.size kp46.below.size) x116.size) x122.size); omega)
   have hc178 := hc161.far s174 (fun ad h => by have hf := fa163 ad h; omega) (fun ad h => by have hf := fb164 ad h; omega)
   refine h_nextG (i := 9) (fun h => absurd rfl h) ?_
   refine h_act1 (i := 7) (L' := [true, true, true, true, true, true, true, true, true, true, false]) (by kernel_rfl) rfl rfl ?_
   refine pv (iJ E) (x_extract rfl rfl rfl) ?_
   refine h_nextG (i := 7) (fun _ h => by cases h) ?_
   refine h_act1 (i := 10) (L' := [true, true, true, true, true, true, true, true, true, true, true]) (by kernel_rfl) rfl rfl ?_
   refine pv (iJ E) (x_assign rfl rfl) ?_
   refine h_nextG (i := 10) (fun _ h => by cases h) ?_
   refine h_end (by kernel_rfl) ?_
   exact t_norm ⟨_, rfl, w118.heap.size, p160, e38, e40, e41, e45, rfl, rfl, hc178, b173, (Nat.le_trans x116.size x122.size), ((((x116.trans x122).trans x157).trans x162).stored (x116.trans x122).size s174)⟩
  refine p_alloc (cs := [iJ 0, iJ 0, iJ 0, iJ 0, iJ 0, iJ 0, iJ 0, iJ 0, iJ 0, iJ 0, iJ 0, iJ 0, iJ 0, .slice none 0 0, .slice none 0 0, .bool false, iJ 0, iJ 0, iJ 0, iJ 0, iJ 0, iJ 0, iJ 0, iJ 0, .bool false]) rfl rfl rfl zero_40 rfl (fun w179 b180 x181 z182 => ?_)
  refine h_nextG (i := 8) (fun _ _ => x181) ?_
  refine h_act1 (i := 3) (L' := [true, true, true, true, false, false, false, false, true, false, false]) (by kernel_rfl) rfl rfl ?_
  refine p_call (vs := #[.slice A l.length c]) fn_11 rfl rfl rfl (args1 rfl) ?_
  refine (C_given _ A c l (hV.ext (((((((x3.trans x7).trans x10).trans x30).trans x33).below (Nat.le_refl _) kp46.below).trans x116).trans x181))).mono ?_
  rintro e w183 ⟨A184, c185, rfl, hV186, x187⟩
  refine ⟨_, rfl, ?_⟩
  refine h_nextG (i := 3) (fun _ _ => (x181.trans x187)) ?_
  refine h_act1 (i := 4) (L' := [true, true, true, true, true, false, false, false, true, false, false]) (by kernel_rfl) rfl rfl ?_
  refine p_call (vs := #[iJ f, vInst i, .slice A184 l.length c185]) fn_10 rfl rfl rfl (args3 rfl rfl rfl) ?_
  refine (C_decide _ f i A184 c185 l hV186).mono ?_
  rw [hd]
  rintro e w188 ⟨p189, rfl, hc190, x191, fa192, fb193⟩
  refine ⟨_, rfl, ?_⟩
  refine h_nextG (i := 4) (fun _ _ => ((x181.trans x187).trans x191)) ?_
  refine h_take (v := .tuple #[vRec R p189, iJ E]) (i := 5) (d := 53) (L' := [true, true, true, true, true, true, false, false, true, false, false]) rfl (by kernel_rfl) rfl (by kernel_rfl) rfl rfl ((x181.trans x187).trans x191) (fun _ s' => x_move rfl rfl) ?_
  refine h_take (v := vRec R p189) (i := 6) (d := 59) (L' := [true, true, true, true, true, true, true, false, true, false, false]) rfl (by kernel_rfl) rfl (by kernel_rfl) rfl rfl ((x181.trans x187).trans x191) (fun _ s' => x_extract rfl rfl rfl) ?_
  refine h_act2 (i := 7) (j := 9) (L' := [true, true, true, true, true, true, true, true, true, false, false]) (L'' := [true, true, true, true, true, true, true, false, true, true, false]) (by kernel_rfl) rfl rfl rfl rfl ?_ ?_
  ·refine pv (iJ E) (x_extract rfl rfl rfl) ?_
   refine h_nextG (i := 7) (fun _ _ => ((x181.trans x187).trans x191)) ?_
   refine h_act1 (i := 9) (L' := [true, true, true, true, true, true, true, true, true, true, false]) (by kernel_rfl) rfl rfl ?_
   refine p_store (v := vRec R p189) (vs := [iJ R.inst.replica, iJ R.inst.slot, iJ R.status, iJ R.promise.number, iJ R.promise.replica, iJ R.ballot.number, iJ R.ballot.replica, iJ R.cmd.kind, iJ R.cmd.txn.client, iJ R.cmd.txn.number, iJ R.cmd.stp.time, iJ R.cmd.stp.client, iJ R.cmd.shards, .slice p189.A R.cmd.reads.length p189.n, .slice p189.B R.cmd.writes.length p189.m, .bool R.cmd.commit, iJ R.seq, iJ R.deps.d0, iJ R.deps.d1, iJ R.deps.d2, iJ R.deps.d3, iJ R.deps.d4, iJ R.deps.d5, iJ R.deps.d6, .bool R.kept]) (cs' := [iJ R.inst.replica, iJ R.inst.slot, iJ R.status, iJ R.promise.number, iJ R.promise.replica, iJ R.ballot.number, iJ R.ballot.replica, iJ R.cmd.kind, iJ R.cmd.txn.client, iJ R.cmd.txn.number, iJ R.cmd.stp.time, iJ R.cmd.stp.client, iJ R.cmd.shards, .slice p189.A R.cmd.reads.length p189.n, .slice p189.B R.cmd.writes.length p189.m, .bool R.cmd.commit, iJ R.seq, iJ R.deps.d0, iJ R.deps.d1, iJ R.deps.d2, iJ R.deps.d3, iJ R.deps.d4, iJ R.deps.d5, iJ R.deps.d6, .bool R.kept]) rfl rfl rfl rfl rfl rfl ((b180.ext x187).ext x191) size_40 rfl rfl rfl (fun w194 b195 s196 => ?_)
   have b197 := (((((((((b2.ext x7).ext x10).ext x30).ext x33).kept kp46 (by decide)).ext x116).ext x181).ext x187).ext x191).far s196 (by have hz := (Nat.le_trans (Nat.le_trans (Nat.le_trans (Nat.le_trans (Nat.le_trans x7.size x10.size) x30.size) x33.size) kp46.below.size) x116.size); omega)
   have b198 := ((((((((b6.ext x10).ext x30).ext x33).kept kp46 (by decide)).ext x116).ext x181).ext x187).ext x191).far s196 (by have hz := (Nat.le_trans (Nat.le_trans (Nat.le_trans (Nat.le_trans x10.size x30.size) x33.size) kp46.below.size) x116.size); omega)
   have b199 := ((((((b29.ext x33).kept kp46 (by decide)).ext x116).ext x181).ext x187).ext x191).far s196 (by have hz := (Nat.le_trans (Nat.le_trans x33.size kp46.below.size) x116.size); omega)
   have hc200 := hc190.far s196 (fun ad h => by have hf := fa192 ad h; have hz := x187.size; omega) (fun ad h => by have hf := fb193 ad h; have hz := x187.size; omega)
   refine h_nextG (i := 9) (fun h => absurd rfl h) ?_
   refine h_act1 (i := 10) (L' := [true, true, true, true, true, true, true, true, true, true, true]) (by kernel_rfl) rfl rfl ?_
   refine pv (iJ E) (x_assign rfl rfl) ?_
   refine h_nextG (i := 10) (fun _ h => by cases h) ?_
   refine h_end (by kernel_rfl) ?_
   exact t_norm ⟨_, rfl, w115.heap.size, p189, e38, e40, e41, e45, rfl, rfl, hc200, b195, x116.size, ((((x116.trans x181).trans x187).trans x191).stored x116.size s196)⟩
  refine p_store (v := vRec R p189) (vs := [iJ R.inst.replica, iJ R.inst.slot, iJ R.status, iJ R.promise.number, iJ R.promise.replica, iJ R.ballot.number, iJ R.ballot.replica, iJ R.cmd.kind, iJ R.cmd.txn.client, iJ R.cmd.txn.number, iJ R.cmd.stp.time, iJ R.cmd.stp.client, iJ R.cmd.shards, .slice p189.A R.cmd.reads.length p189.n, .slice p189.B R.cmd.writes.length p189.m, .bool R.cmd.commit, iJ R.seq, iJ R.deps.d0, iJ R.deps.d1, iJ R.deps.d2, iJ R.deps.d3, iJ R.deps.d4, iJ R.deps.d5, iJ R.deps.d6, .bool R.kept]) (cs' := [iJ R.inst.replica, iJ R.inst.slot, iJ R.status, iJ R.promise.number, iJ R.promise.replica, iJ R.ballot.number, iJ R.ballot.replica, iJ R.cmd.kind, iJ R.cmd.txn.client, iJ R.cmd.txn.number, iJ R.cmd.stp.time, iJ R.cmd.stp.client, iJ R.cmd.shards, .slice p189.A R.cmd.reads.length p189.n, .slice p189.B R.cmd.writes.length p189.m, .bool R.cmd.commit, iJ R.seq, iJ R.deps.d0, iJ R.deps.d1, iJ R.deps.d2, iJ R.deps.d3, iJ R.deps.d4, iJ R.deps.d5, iJ R.deps.d6, .bool R.kept]) rfl rfl rfl rfl rfl rfl ((b180.ext x187).ext x191) size_40 rfl rfl rfl (fun w201 b202 s203 => ?_)
  have b204 := (((((((((b2.ext x7).ext x10).ext x30).ext x33).kept kp46 (by decide)).ext x116).ext x181).ext x187).ext x191).far s203 (by have hz := (Nat.le_trans (Nat.le_trans (Nat.le_trans (Nat.le_trans (Nat.le_trans x7.size x10.size) x30.size) x33.size) kp46.below.size) x116.size); omega)
  have b205 := ((((((((b6.ext x10).ext x30).ext x33).kept kp46 (by decide)).ext x116).ext x181).ext x187).ext x191).far s203 (by have hz := (Nat.le_trans (Nat.le_trans (Nat.le_trans (Nat.le_trans x10.size x30.size) x33.size) kp46.below.size) x116.size); omega)
  have b206 := ((((((b29.ext x33).kept kp46 (by decide)).ext x116).ext x181).ext x187).ext x191).far s203 (by have hz := (Nat.le_trans (Nat.le_trans x33.size kp46.below.size) x116.size); omega)
  have hc207 := hc190.far s203 (fun ad h => by have hf := fa192 ad h; have hz := x187.size; omega) (fun ad h => by have hf := fb193 ad h; have hz := x187.size; omega)
  refine h_nextG (i := 9) (fun h => absurd rfl h) ?_
  refine h_act1 (i := 7) (L' := [true, true, true, true, true, true, true, true, true, true, false]) (by kernel_rfl) rfl rfl ?_
  refine pv (iJ E) (x_extract rfl rfl rfl) ?_
  refine h_nextG (i := 7) (fun _ h => by cases h) ?_
  refine h_act1 (i := 10) (L' := [true, true, true, true, true, true, true, true, true, true, true]) (by kernel_rfl) rfl rfl ?_
  refine pv (iJ E) (x_assign rfl rfl) ?_
  refine h_nextG (i := 10) (fun _ h => by cases h) ?_
  refine h_end (by kernel_rfl) ?_
  exact t_norm ⟨_, rfl, w115.heap.size, p189, e38, e40, e41, e45, rfl, rfl, hc207, b202, x116.size, ((((x116.trans x181).trans x187).trans x191).stored x116.size s203)⟩
 rintro ρ w102 ⟨g109, p112, e104, e105, e106, e107, e108, e114, hc113, hb110, hg111, kp103⟩
 have hb110l := hb110.lt
 refine t_norm (c_seq (c_meet (fun ρ w208 => ∃ g214 : Nat, ∃ p217 : Ptr, ρ 10 = .bool false ∧ ρ 12 = pJ g109 ∧ ρ 13 = iJ E ∧ ρ 14 = pJ g214 ∧ ρ 15 = iJ E ∧ CmdAt w208 R.cmd p217 ∧ Box w208 g214 40 [iJ R.inst.replica, iJ R.inst.slot, iJ R.status, iJ R.promise.number, iJ R.promise.replica, iJ R.ballot.number, iJ R.ballot.replica, iJ R.cmd.kind, iJ R.cmd.txn.client, iJ R.cmd.txn.number, iJ R.cmd.stp.time, iJ R.cmd.stp.client, iJ R.cmd.shards, .slice p217.A R.cmd.reads.length p217.n, .slice p217.B R.cmd.writes.length p217.m, .bool R.cmd.commit, iJ R.seq, iJ R.deps.d0, iJ R.deps.d1, iJ R.deps.d2, iJ R.deps.d3, iJ R.deps.d4, iJ R.deps.d5, iJ R.deps.d6, .bool R.kept] ∧ w102.heap.size ≤ g214 ∧ Ext w102 w208) ?_ ?_))
 ·refine c_held mixed (by kernel_rfl) (fun _ _ _ _ _ h => h) (fun v1 v2 => Ext v1 v2) 9 11 rfl (fun w220 x221 z222 => ?_)
  refine h_take (v := iJ f) (i := 0) (d := 62) (L' := [true, false, false, false, false, false, false, false, false, false, false]) rfl (by kernel_rfl) rfl (by kernel_rfl) rfl rfl (Ext.refl _) (fun _ s' => x_move rfl e104) ?_
  refine h_take (v := vInst i) (i := 1) (d := 63) (L' := [true, true, false, false, false, false, false, false, false, false, false]) rfl (by kernel_rfl) rfl (by kernel_rfl) rfl rfl (Ext.refl _) (fun _ s' => x_load rfl e105 (((((((((b2.ext x7).ext x10).ext x30).ext x33).kept kp46 (by decide)).ext kp103).ext x221).ext s').agg (vs := [iJ i.replica, iJ i.slot]) agg_23_2 rfl)) ?_
  refine h_take (v := .slice A42 (List.length (α := Vt) (l ++ [(⟨y.src, r, pr⟩ : Vt)])) c43) (i := 2) (d := 64) (L' := [true, true, true, false, false, false, false, false, false, false, false]) rfl (by kernel_rfl) rfl (by kernel_rfl) rfl rfl (Ext.refl _) (fun _ s' => x_move rfl e107) ?_
  refine h_act2 (i := 3) (j := 8) (L' := [true, true, true, true, false, false, false, false, false, false, false]) (L'' := [true, true, true, false, false, false, false, false, true, false, false]) (by kernel_rfl) rfl rfl rfl rfl ?_ ?_
  ·have hV223 := hV.snoc (((((((((Below.refl _ _).trans (x3.mono (Nat.le_refl _))).trans (x7.mono x3.size)).trans (x10.mono (x3.trans x7).size)).trans (x30.mono ((x3.trans x7).trans x10).size)).trans (x33.mono (((x3.trans x7).trans x10).trans x30).size)).trans (kp46).below).trans (kp103.mono (((((x3.trans x7).trans x10).trans x30).trans x33).below (Nat.le_refl _) kp46.below).size)).trans (x221.mono ((((((x3.trans x7).trans x10).trans x30).trans x33).below (Nat.le_refl _) kp46.below).trans kp103).size)) ((ho44.ext kp103).ext x221) hr hsr (hV.wf y (at_of hy)) (by omega)
   refine p_call (vs := #[.slice A42 (List.length (α := Vt) (l ++ [(⟨y.src, r, pr⟩ : Vt)])) c43]) fn_11 rfl rfl rfl (args1 rfl) ?_
   refine (C_given _ A42 c43 (l ++ [(⟨y.src, r, pr⟩ : Vt)]) hV223).mono ?_
   rintro e w224 ⟨A225, c226, rfl, hV227, x228⟩
   refine ⟨_, rfl, ?_⟩
   refine h_nextG (i := 3) (fun _ _ => x228) ?_
   refine h_act2 (i := 4) (j := 8) (L' := [true, true, true, true, true, false, false, false, false, false, false]) (L'' := [true, true, true, true, false, false, false, false, true, false, false]) (by kernel_rfl) rfl rfl rfl rfl ?_ ?_
   ·refine p_call (vs := #[iJ f, vInst i, .slice A225 ((l ++ [(⟨y.src, r, pr⟩ : Vt)]).length) c226]) fn_10 rfl rfl rfl (args3 rfl rfl rfl) ?_
    refine (C_decide _ f i A225 c226 (l ++ [(⟨y.src, r, pr⟩ : Vt)]) hV227).mono ?_
    rw [(dec_twice (l := l) (z := (⟨y.src, r, pr⟩ : Vt)) hy rfl).trans hd]
    rintro e w229 ⟨p230, rfl, hc231, x232, fa233, fb234⟩
    refine ⟨_, rfl, ?_⟩
    refine h_nextG (i := 4) (fun _ _ => (x228.trans x232)) ?_
    refine h_take (v := .tuple #[vRec R p230, iJ E]) (i := 5) (d := 61) (L' := [true, true, true, true, true, true, false, false, false, false, false]) rfl (by kernel_rfl) rfl (by kernel_rfl) rfl rfl (x228.trans x232) (fun _ s' => x_move rfl rfl) ?_
    refine h_take (v := vRec R p230) (i := 6) (d := 67) (L' := [true, true, true, true, true, true, true, false, false, false, false]) rfl (by kernel_rfl) rfl (by kernel_rfl) rfl rfl (x228.trans x232) (fun _ s' => x_extract rfl rfl rfl) ?_
    refine h_act2 (i := 7) (j := 8) (L' := [true, true, true, true, true, true, true, true, false, false, false]) (L'' := [true, true, true, true, true, true, true, false, true, false, false]) (by kernel_rfl) rfl rfl rfl rfl ?_ ?_
    ·refine pv (iJ E) (x_extract rfl rfl rfl) ?_
     refine h_nextG (i := 7) (fun _ _ => (x228.trans x232)) ?_
     refine h_act1 (i := 8) (L' := [true, true, true, true, true, true, true, true, true, false, false]) (by kernel_rfl) rfl rfl ?_
     refine p_alloc (cs := [iJ 0, iJ 0, iJ 0, iJ 0, iJ 0, iJ 0, iJ 0, iJ 0, iJ 0, iJ 0, iJ 0, iJ 0, iJ 0, .slice none 0 0, .slice none 0 0, .bool false, iJ 0, iJ 0, iJ 0, iJ 0, iJ 0, iJ 0, iJ 0, iJ 0, .bool false]) rfl rfl rfl zero_40 rfl (fun w235 b236 x237 z238 => ?_)
     refine h_nextG (i := 8) (fun _ _ => ((x228.trans x232).trans x237)) ?_
     refine h_act1 (i := 9) (L' := [true, true, true, true, true, true, true, true, true, true, false]) (by kernel_rfl) rfl rfl ?_
     refine p_store (v := vRec R p230) (vs := [iJ R.inst.replica, iJ R.inst.slot, iJ R.status, iJ R.promise.number, iJ R.promise.replica, iJ R.ballot.number, iJ R.ballot.replica, iJ R.cmd.kind, iJ R.cmd.txn.client, iJ R.cmd.txn.number, iJ R.cmd.stp.time, iJ R.cmd.stp.client, iJ R.cmd.shards, .slice p230.A R.cmd.reads.length p230.n, .slice p230.B R.cmd.writes.length p230.m, .bool R.cmd.commit, iJ R.seq, iJ R.deps.d0, iJ R.deps.d1, iJ R.deps.d2, iJ R.deps.d3, iJ R.deps.d4, iJ R.deps.d5, iJ R.deps.d6, .bool R.kept]) (cs' := [iJ R.inst.replica, iJ R.inst.slot, iJ R.status, iJ R.promise.number, iJ R.promise.replica, iJ R.ballot.number, iJ R.ballot.replica, iJ R.cmd.kind, iJ R.cmd.txn.client, iJ R.cmd.txn.number, iJ R.cmd.stp.time, iJ R.cmd.stp.client, iJ R.cmd.shards, .slice p230.A R.cmd.reads.length p230.n, .slice p230.B R.cmd.writes.length p230.m, .bool R.cmd.commit, iJ R.seq, iJ R.deps.d0, iJ R.deps.d1, iJ R.deps.d2, iJ R.deps.d3, iJ R.deps.d4, iJ R.deps.d5, iJ R.deps.d6, .bool R.kept]) rfl rfl rfl rfl rfl rfl b236 size_40 rfl rfl rfl (fun w239 b240 s241 => ?_)
     have b242 := ((((((((((b2.ext x7).ext x10).ext x30).ext x33).kept kp46 (by decide)).ext kp103).ext x221).ext x228).ext x232).ext x237).far s241 (by have hz := (Nat.le_trans (Nat.le_trans (Nat.le_trans (Nat.le_trans (Nat.le_trans (Nat.le_trans (Nat.le_trans (Nat.le_trans x7.size x10.size) x30.size) x33.size) kp46.below.size) kp103.size) x221.size) x228.size) x232.size); omega)
     have b243 := (((((((((b6.ext x10).ext x30).ext x33).kept kp46 (by decide)).ext kp103).ext x221).ext x228).ext x232).ext x237).far s241 (by have hz := (Nat.le_trans (Nat.le_trans (Nat.le_trans (Nat.le_trans (Nat.le_trans (Nat.le_trans (Nat.le_trans x10.size x30.size) x33.size) kp46.below.size) kp103.size) x221.size) x228.size) x232.size); omega)
     have b244 := (((((((b29.ext x33).kept kp46 (by decide)).ext kp103).ext x221).ext x228).ext x232).ext x237).far s241 (by have hz := (Nat.le_trans (Nat.le_trans (Nat.le_trans (Nat.le_trans (Nat.le_trans x33.size kp46.below.size) kp103.size) x221.size) x228.size) x232.size); omega)
     refine h_nextG (i := 9) (fun h => absurd rfl h) ?_
     refine h_act1 (i := 10) (L' := [true, true, true, true, true, true, true, true, true, true, true]) (by kernel_rfl) rfl rfl ?_
     refine pv (iJ E) (x_assign rfl rfl) ?_
     refine h_nextG (i := 10) (fun _ h => by cases h) ?_
     refine h_end (by kernel_rfl) ?_
     exact t_norm ⟨_, rfl, w229.heap.size, p230, e106, e108, e114, rfl, rfl, (hc231.ext (x237.stored (Nat.le_refl _) s241)), b240, (Nat.le_trans (Nat.le_trans x221.size x228.size) x232.size), ((((x221.trans x228).trans x232).trans x237).stored ((x221.trans x228).trans x232).size s241)⟩
    refine p_alloc (cs := [iJ 0, iJ 0, iJ 0, iJ 0, iJ 0, iJ 0, iJ 0, iJ 0, iJ 0, iJ 0, iJ 0, iJ 0, iJ 0, .slice none 0 0, .slice none 0 0, .bool false, iJ 0, iJ 0, iJ 0, iJ 0, iJ 0, iJ 0, iJ 0, iJ 0, .bool false]) rfl rfl rfl zero_40 rfl (fun w245 b246 x247 z248 => ?_)
    refine h_nextG (i := 8) (fun _ _ => ((x228.trans x232).trans x247)) ?_
    refine h_act2 (i := 7) (j := 9) (L' := [true, true, true, true, true, true, true, true, true, false, false]) (L'' := [true, true, true, true, true, true, true, false, true, true, false]) (by kernel_rfl) rfl rfl rfl rfl ?_ ?_
    ·refine pv (iJ E) (x_extract rfl rfl rfl) ?_
     refine h_nextG (i := 7) (fun _ _ => ((x228.trans x232).trans x247)) ?_
     refine h_act1 (i := 9) (L' := [true, true, true, true, true, true, true, true, true, true, false]) (by kernel_rfl) rfl rfl ?_
     refine p_store (v := vRec R p230) (vs := [iJ R.inst.replica, iJ R.inst.slot, iJ R.status, iJ R.promise.number, iJ R.promise.replica, iJ R.ballot.number, iJ R.ballot.replica, iJ R.cmd.kind, iJ R.cmd.txn.client, iJ R.cmd.txn.number, iJ R.cmd.stp.time, iJ R.cmd.stp.client, iJ R.cmd.shards, .slice p230.A R.cmd.reads.length p230.n, .slice p230.B R.cmd.writes.length p230.m, .bool R.cmd.commit, iJ R.seq, iJ R.deps.d0, iJ R.deps.d1, iJ R.deps.d2, iJ R.deps.d3, iJ R.deps.d4, iJ R.deps.d5, iJ R.deps.d6, .bool R.kept]) (cs' := [iJ R.inst.replica, iJ R.inst.slot, iJ R.status, iJ R.promise.number, iJ R.promise.replica, iJ R.ballot.number, iJ R.ballot.replica, iJ R.cmd.kind, iJ R.cmd.txn.client, iJ R.cmd.txn.number, iJ R.cmd.stp.time, iJ R.cmd.stp.client, iJ R.cmd.shards, .slice p230.A R.cmd.reads.length p230.n, .slice p230.B R.cmd.writes.length p230.m, .bool R.cmd.commit, iJ R.seq, iJ R.deps.d0, iJ R.deps.d1, iJ R.deps.d2, iJ R.deps.d3, iJ R.deps.d4, iJ R.deps.d5, iJ R.deps.d6, .bool R.kept]) rfl rfl rfl rfl rfl rfl b246 size_40 rfl rfl rfl (fun w249 b250 s251 => ?_)
     have b252 := ((((((((((b2.ext x7).ext x10).ext x30).ext x33).kept kp46 (by decide)).ext kp103).ext x221).ext x228).ext x232).ext x247).far s251 (by have hz := (Nat.le_trans (Nat.le_trans (Nat.le_trans (Nat.le_trans (Nat.le_trans (Nat.le_trans (Nat.le_trans (Nat.le_trans x7.size x10.size) x30.size) x33.size) kp46.below.size) kp103.size) x221.size) x228.size) x232.size); omega)
     have b253 := (((((((((b6.ext x10).ext x30).ext x33).kept kp46 (by decide)).ext kp103).ext x221).ext x228).ext x232).ext x247).far s251 (by have hz := (Nat.le_trans (Nat.le_trans (Nat.le_trans (Nat.le_trans (Nat.le_trans (Nat.le_trans (Nat.le_trans x10.size x30.size) x33.size) kp46.below.size) kp103.size) x221.size) x228.size) x232.size); omega)
     have b254 := (((((((b29.ext x33).kept kp46 (by decide)).ext kp103).ext x221).ext x228).ext x232).ext x247).far s251 (by have hz := (Nat.le_trans (Nat.le_trans (Nat.le_trans (Nat.le_trans (Nat.le_trans x33.size kp46.below.size) kp103.size) x221.size) x228.size) x232.size); omega)
     refine h_nextG (i := 9) (fun h => absurd rfl h) ?_
     refine h_act1 (i := 10) (L' := [true, true, true, true, true, true, true, true, true, true, true]) (by kernel_rfl) rfl rfl ?_
     refine pv (iJ E) (x_assign rfl rfl) ?_
     refine h_nextG (i := 10) (fun _ h => by cases h) ?_
     refine h_end (by kernel_rfl) ?_
     exact t_norm ⟨_, rfl, w229.heap.size, p230, e106, e108, e114, rfl, rfl, (hc231.ext (x247.stored (Nat.le_refl _) s251)), b250, (Nat.le_trans (Nat.le_trans x221.size x228.size) x232.size), ((((x221.trans x228).trans x232).trans x247).stored ((x221.trans x228).trans x232).size s251)⟩
    refine p_store (v := vRec R p230) (vs := [iJ R.inst.replica, iJ R.inst.slot, iJ R.status, iJ R.promise.number, iJ R.promise.replica, iJ R.ballot.number, iJ R.ballot.replica, iJ R.cmd.kind, iJ R.cmd.txn.client, iJ R.cmd.txn.number, iJ R.cmd.stp.time, iJ R.cmd.stp.client, iJ R.cmd.shards, .slice p230.A R.cmd.reads.length p230.n, .slice p230.B R.cmd.writes.length p230.m, .bool R.cmd.commit, iJ R.seq, iJ R.deps.d0, iJ R.deps.d1, iJ R.deps.d2, iJ R.deps.d3, iJ R.deps.d4, iJ R.deps.d5, iJ R.deps.d6, .bool R.kept]) (cs' := [iJ R.inst.replica, iJ R.inst.slot, iJ R.status, iJ R.promise.number, iJ R.promise.replica, iJ R.ballot.number, iJ R.ballot.replica, iJ R.cmd.kind, iJ R.cmd.txn.client, iJ R.cmd.txn.number, iJ R.cmd.stp.time, iJ R.cmd.stp.client, iJ R.cmd.shards, .slice p230.A R.cmd.reads.length p230.n, .slice p230.B R.cmd.writes.length p230.m, .bool R.cmd.commit, iJ R.seq, iJ R.deps.d0, iJ R.deps.d1, iJ R.deps.d2, iJ R.deps.d3, iJ R.deps.d4, iJ R.deps.d5, iJ R.deps.d6, .bool R.kept]) rfl rfl rfl rfl rfl rfl b246 size_40 rfl rfl rfl (fun w255 b256 s257 => ?_)
    have b258 := ((((((((((b2.ext x7).ext x10).ext x30).ext x33).kept kp46 (by decide)).ext kp103).ext x221).ext x228).ext x232).ext x247).far s257 (by have hz := (Nat.le_trans (Nat.le_trans (Nat.le_trans (Nat.le_trans (Nat.le_trans (Nat.le_trans (Nat.le_trans (Nat.le_trans x7.size x10.size) x30.size) x33.size) kp46.below.size) kp103.size) x221.size) x228.size) x232.size); omega)
    have b259 := (((((((((b6.ext x10).ext x30).ext x33).kept kp46 (by decide)).ext kp103).ext x221).ext x228).ext x232).ext x247).far s257 (by have hz := (Nat.le_trans (Nat.le_trans (Nat.le_trans (Nat.le_trans (Nat.le_trans (Nat.le_trans (Nat.le_trans x10.size x30.size) x33.size) kp46.below.size) kp103.size) x221.size) x228.size) x232.size); omega)
    have b260 := (((((((b29.ext x33).kept kp46 (by decide)).ext kp103).ext x221).ext x228).ext x232).ext x247).far s257 (by have hz := (Nat.le_trans (Nat.le_trans (Nat.le_trans (Nat.le_trans (Nat.le_trans x33.size kp46.below.size) kp103.size) x221.size) x228.size) x232.size); omega)
    refine h_nextG (i := 9) (fun h => absurd rfl h) ?_
    refine h_act1 (i := 7) (L' := [true, true, true, true, true, true, true, true, true, true, false]) (by kernel_rfl) rfl rfl ?_
    refine pv (iJ E) (x_extract rfl rfl rfl) ?_
    refine h_nextG (i := 7) (fun _ h => by cases h) ?_
    refine h_act1 (i := 10) (L' := [true, true, true, true, true, true, true, true, true, true, true]) (by kernel_rfl) rfl rfl ?_
    refine pv (iJ E) (x_assign rfl rfl) ?_
    refine h_nextG (i := 10) (fun _ h => by cases h) ?_
    refine h_end (by kernel_rfl) ?_
    exact t_norm ⟨_, rfl, w229.heap.size, p230, e106, e108, e114, rfl, rfl, (hc231.ext (x247.stored (Nat.le_refl _) s257)), b256, (Nat.le_trans (Nat.le_trans x221.size x228.size) x232.size), ((((x221.trans x228).trans x232).trans x247).stored ((x221.trans x228).trans x232).size s257)⟩
   refine p_alloc (cs := [iJ 0, iJ 0, iJ 0, iJ 0, iJ 0, iJ 0, iJ 0, iJ 0, iJ 0, iJ 0, iJ 0, iJ 0, iJ 0, .slice none 0 0, .slice none 0 0, .bool false, iJ 0, iJ 0, iJ 0, iJ 0, iJ 0, iJ 0, iJ 0, iJ 0, .bool false]) rfl rfl rfl zero_40 rfl (fun w261 b262 x263 z264 => ?_)
   refine h_nextG (i := 8) (fun _ _ => (x228.trans x263)) ?_
   refine h_act1 (i := 4) (L' := [true, true, true, true, true, false, false, false, true, false, false]) (by kernel_rfl) rfl rfl ?_
   refine p_call (vs := #[iJ f, vInst i, .slice A225 ((l ++ [(⟨y.src, r, pr⟩ : Vt)]).length) c226]) fn_10 rfl rfl rfl (args3 rfl rfl rfl) ?_
   refine (C_decide _ f i A225 c226 (l ++ [(⟨y.src, r, pr⟩ : Vt)]) (hV227.ext x263)).mono ?_
   rw [(dec_twice (l := l) (z := (⟨y.src, r, pr⟩ : Vt)) hy rfl).trans hd]
   rintro e w265 ⟨p266, rfl, hc267, x268, fa269, fb270⟩
   refine ⟨_, rfl, ?_⟩
   refine h_nextG (i := 4) (fun _ _ => ((x228.trans x263).trans x268)) ?_
   refine h_take (v := .tuple #[vRec R p266, iJ E]) (i := 5) (d := 61) (L' := [true, true, true, true, true, true, false, false, true, false, false]) rfl (by kernel_rfl) rfl (by kernel_rfl) rfl rfl ((x228.trans x263).trans x268) (fun _ s' => x_move rfl rfl) ?_
   refine h_take (v := vRec R p266) (i := 6) (d := 67) (L' := [true, true, true, true, true, true, true, false, true, false, false]) rfl (by kernel_rfl) rfl (by kernel_rfl) rfl rfl ((x228.trans x263).trans x268) (fun _ s' => x_extract rfl rfl rfl) ?_
   refine h_act2 (i := 7) (j := 9) (L' := [true, true, true, true, true, true, true, true, true, false, false]) (L'' := [true, true, true, true, true, true, true, false, true, true, false]) (by kernel_rfl) rfl rfl rfl rfl ?_ ?_
   ·refine pv (iJ E) (x_extract rfl rfl rfl) ?_
    refine h_nextG (i := 7) (fun _ _ => ((x228.trans x263).trans x268)) ?_
    refine h_act1 (i := 9) (L' := [true, true, true, true, true, true, true, true, true, true, false]) (by kernel_rfl) rfl rfl ?_
    refine p_store (v := vRec R p266) (vs := [iJ R.inst.replica, iJ R.inst.slot, iJ R.status, iJ R.promise.number, iJ R.promise.replica, iJ R.ballot.number, iJ R.ballot.replica, iJ R.cmd.kind, iJ R.cmd.txn.client, iJ R.cmd.txn.number, iJ R.cmd.stp.time, iJ R.cmd.stp.client, iJ R.cmd.shards, .slice p266.A R.cmd.reads.length p266.n, .slice p266.B R.cmd.writes.length p266.m, .bool R.cmd.commit, iJ R.seq, iJ R.deps.d0, iJ R.deps.d1, iJ R.deps.d2, iJ R.deps.d3, iJ R.deps.d4, iJ R.deps.d5, iJ R.deps.d6, .bool R.kept]) (cs' := [iJ R.inst.replica, iJ R.inst.slot, iJ R.status, iJ R.promise.number, iJ R.promise.replica, iJ R.ballot.number, iJ R.ballot.replica, iJ R.cmd.kind, iJ R.cmd.txn.client, iJ R.cmd.txn.number, iJ R.cmd.stp.time, iJ R.cmd.stp.client, iJ R.cmd.shards, .slice p266.A R.cmd.reads.length p266.n, .slice p266.B R.cmd.writes.length p266.m, .bool R.cmd.commit, iJ R.seq, iJ R.deps.d0, iJ R.deps.d1, iJ R.deps.d2, iJ R.deps.d3, iJ R.deps.d4, iJ R.deps.d5, iJ R.deps.d6, .bool R.kept]) rfl rfl rfl rfl rfl rfl (b262.ext x268) size_40 rfl rfl rfl (fun w271 b272 s273 => ?_)
    have b274 := ((((((((((b2.ext x7).ext x10).ext x30).ext x33).kept kp46 (by decide)).ext kp103).ext x221).ext x228).ext x263).ext x268).far s273 (by have hz := (Nat.le_trans (Nat.le_trans (Nat.le_trans (Nat.le_trans (Nat.le_trans (Nat.le_trans (Nat.le_trans x7.size x10.size) x30.size) x33.size) kp46.below.size) kp103.size) x221.size) x228.size); omega)
    have b275 := (((((((((b6.ext x10).ext x30).ext x33).kept kp46 (by decide)).ext kp103).ext x221).ext x228).ext x263).ext x268).far s273 (by have hz := (Nat.le_trans (Nat.le_trans (Nat.le_trans (Nat.le_trans (Nat.le_trans (Nat.le_trans x10.size x30.size) x33.size) kp46.below.size) kp103.size) x221.size) x228.size); omega)
    have b276 := (((((((b29.ext x33).kept kp46 (by decide)).ext kp103).ext x221).ext x228).ext x263).ext x268).far s273 (by have hz := (Nat.le_trans (Nat.le_trans (Nat.le_trans (Nat.le_trans x33.size kp46.below.size) kp103.size) x221.size) x228.size); omega)
    have hc277 := hc267.far s273 (fun ad h => by have hf := fa269 ad h; omega) (fun ad h => by have hf := fb270 ad h; omega)
    refine h_nextG (i := 9) (fun h => absurd rfl h) ?_
    refine h_act1 (i := 10) (L' := [true, true, true, true, true, true, true, true, true, true, true]) (by kernel_rfl) rfl rfl ?_
    refine pv (iJ E) (x_assign rfl rfl) ?_
    refine h_nextG (i := 10) (fun _ h => by cases h) ?_
    refine h_end (by kernel_rfl) ?_
    exact t_norm ⟨_, rfl, w224.heap.size, p266, e106, e108, e114, rfl, rfl, hc277, b272, (Nat.le_trans x221.size x228.size), ((((x221.trans x228).trans x263).trans x268).stored (x221.trans x228).size s273)⟩
   refine p_store (v := vRec R p266) (vs := [iJ R.inst.replica, iJ R.inst.slot, iJ R.status, iJ R.promise.number, iJ R.promise.replica, iJ R.ballot.number, iJ R.ballot.replica, iJ R.cmd.kind, iJ R.cmd.txn.client, iJ R.cmd.txn.number, iJ R.cmd.stp.time, iJ R.cmd.stp.client, iJ R.cmd.shards, .slice p266.A R.cmd.reads.length p266.n, .slice p266.B R.cmd.writes.length p266.m, .bool R.cmd.commit, iJ R.seq, iJ R.deps.d0, iJ R.deps.d1, iJ R.deps.d2, iJ R.deps.d3, iJ R.deps.d4, iJ R.deps.d5, iJ R.deps.d6, .bool R.kept]) (cs' := [iJ R.inst.replica, iJ R.inst.slot, iJ R.status, iJ R.promise.number, iJ R.promise.replica, iJ R.ballot.number, iJ R.ballot.replica, iJ R.cmd.kind, iJ R.cmd.txn.client, iJ R.cmd.txn.number, iJ R.cmd.stp.time, iJ R.cmd.stp.client, iJ R.cmd.shards, .slice p266.A R.cmd.reads.length p266.n, .slice p266.B R.cmd.writes.length p266.m, .bool R.cmd.commit, iJ R.seq, iJ R.deps.d0, iJ R.deps.d1, iJ R.deps.d2, iJ R.deps.d3, iJ R.deps.d4, iJ R.deps.d5, iJ R.deps.d6, .bool R.kept]) rfl rfl rfl rfl rfl rfl (b262.ext x268) size_40 rfl rfl rfl (fun w278 b279 s280 => ?_)
   have b281 := ((((((((((b2.ext x7).ext x10).ext x30).ext x33).kept kp46 (by decide)).ext kp103).ext x221).ext x228).ext x263).ext x268).far s280 (by have hz := (Nat.le_trans (Nat.le_trans (Nat.le_trans (Nat.le_trans (Nat.le_trans (Nat.le_trans (Nat.le_trans x7.size x10.size) x30.size) x33.size) kp46.below.size) kp103.size) x221.size) x228.size); omega)
   have b282 := (((((((((b6.ext x10).ext x30).ext x33).kept kp46 (by decide)).ext kp103).ext x221).ext x228).ext x263).ext x268).far s280 (by have hz := (Nat.le_trans (Nat.le_trans (Nat.le_trans (Nat.le_trans (Nat.le_trans (Nat.le_trans x10.size x30.size) x33.size) kp46.below.size) kp103.size) x221.size) x228.size); omega)
   have b283 := (((((((b29.ext x33).kept kp46 (by decide)).ext kp103).ext x221).ext x228).ext x263).ext x268).far s280 (by have hz := (Nat.le_trans (Nat.le_trans (Nat.le_trans (Nat.le_trans x33.size kp46.below.size) kp103.size) x221.size) x228.size); omega)
   have hc284 := hc267.far s280 (fun ad h => by have hf := fa269 ad h; omega) (fun ad h => by have hf := fb270 ad h; omega)
   refine h_nextG (i := 9) (fun h => absurd rfl h) ?_
   refine h_act1 (i := 7) (L' := [true, true, true, true, true, true, true, true, true, true, false]) (by kernel_rfl) rfl rfl ?_
   refine pv (iJ E) (x_extract rfl rfl rfl) ?_
   refine h_nextG (i := 7) (fun _ h => by cases h) ?_
   refine h_act1 (i := 10) (L' := [true, true, true, true, true, true, true, true, true, true, true]) (by kernel_rfl) rfl rfl ?_
   refine pv (iJ E) (x_assign rfl rfl) ?_
   refine h_nextG (i := 10) (fun _ h => by cases h) ?_
   refine h_end (by kernel_rfl) ?_
   exact t_norm ⟨_, rfl, w224.heap.size, p266, e106, e108, e114, rfl, rfl, hc284, b279, (Nat.le_trans x221.size x228.size), ((((x221.trans x228).trans x263).trans x268).stored (x221.trans x228).size s280)⟩
  refine p_alloc (cs := [iJ 0, iJ 0, iJ 0, iJ 0, iJ 0, iJ 0, iJ 0, iJ 0, iJ 0, iJ 0, iJ 0, iJ 0, iJ 0, .slice none 0 0, .slice none 0 0, .bool false, iJ 0, iJ 0, iJ 0, iJ 0, iJ 0, iJ 0, iJ 0, iJ 0, .bool false]) rfl rfl rfl zero_40 rfl (fun w285 b286 x287 z288 => ?_)
  refine h_nextG (i := 8) (fun _ _ => x287) ?_
  refine h_act1 (i := 3) (L' := [true, true, true, true, false, false, false, false, true, false, false]) (by kernel_rfl) rfl rfl ?_
  have hV289 := hV.snoc ((((((((((Below.refl _ _).trans (x3.mono (Nat.le_refl _))).trans (x7.mono x3.size)).trans (x10.mono (x3.trans x7).size)).trans (x30.mono ((x3.trans x7).trans x10).size)).trans (x33.mono (((x3.trans x7).trans x10).trans x30).size)).trans (kp46).below).trans (kp103.mono (((((x3.trans x7).trans x10).trans x30).trans x33).below (Nat.le_refl _) kp46.below).size)).trans (x221.mono ((((((x3.trans x7).trans x10).trans x30).trans x33).below (Nat.le_refl _) kp46.below).trans kp103).size)).trans (x287.mono (((((((x3.trans x7).trans x10).trans x30).trans x33).below (Nat.le_refl _) kp46.below).trans kp103).trans x221).size)) (((ho44.ext kp103).ext x221).ext x287) hr hsr (hV.wf y (at_of hy)) (by omega)
  refine p_call (vs := #[.slice A42 (List.length (α := Vt) (l ++ [(⟨y.src, r, pr⟩ : Vt)])) c43]) fn_11 rfl rfl rfl (args1 rfl) ?_
  refine (C_given _ A42 c43 (l ++ [(⟨y.src, r, pr⟩ : Vt)]) hV289).mono ?_
  rintro e w290 ⟨A291, c292, rfl, hV293, x294⟩
  refine ⟨_, rfl, ?_⟩
  refine h_nextG (i := 3) (fun _ _ => (x287.trans x294)) ?_
  refine h_act1 (i := 4) (L' := [true, true, true, true, true, false, false, false, true, false, false]) (by kernel_rfl) rfl rfl ?_
  refine p_call (vs := #[iJ f, vInst i, .slice A291 ((l ++ [(⟨y.src, r, pr⟩ : Vt)]).length) c292]) fn_10 rfl rfl rfl (args3 rfl rfl rfl) ?_
  refine (C_decide _ f i A291 c292 (l ++ [(⟨y.src, r, pr⟩ : Vt)]) hV293).mono ?_
  rw [(dec_twice (l := l) (z := (⟨y.src, r, pr⟩ : Vt)) hy rfl).trans hd]
  rintro e w295 ⟨p296, rfl, hc297, x298, fa299, fb300⟩
  refine ⟨_, rfl, ?_⟩
  refine h_nextG (i := 4) (fun _ _ => ((x287.trans x294).trans x298)) ?_
  refine h_take (v := .tuple #[vRec R p296, iJ E]) (i := 5) (d := 61) (L' := [true, true, true, true, true, true, false, false, true, false, false]) rfl (by kernel_rfl) rfl (by kernel_rfl) rfl rfl ((x287.trans x294).trans x298) (fun _ s' => x_move rfl rfl) ?_
  refine h_take (v := vRec R p296) (i := 6) (d := 67) (L' := [true, true, true, true, true, true, true, false, true, false, false]) rfl (by kernel_rfl) rfl (by kernel_rfl) rfl rfl ((x287.trans x294).trans x298) (fun _ s' => x_extract rfl rfl rfl) ?_
  refine h_act2 (i := 7) (j := 9) (L' := [true, true, true, true, true, true, true, true, true, false, false]) (L'' := [true, true, true, true, true, true, true, false, true, true, false]) (by kernel_rfl) rfl rfl rfl rfl ?_ ?_
  ·refine pv (iJ E) (x_extract rfl rfl rfl) ?_
   refine h_nextG (i := 7) (fun _ _ => ((x287.trans x294).trans x298)) ?_
   refine h_act1 (i := 9) (L' := [true, true, true, true, true, true, true, true, true, true, false]) (by kernel_rfl) rfl rfl ?_
   refine p_store (v := vRec R p296) (vs := [iJ R.inst.replica, iJ R.inst.slot, iJ R.status, iJ R.promise.number, iJ R.promise.replica, iJ R.ballot.number, iJ R.ballot.replica, iJ R.cmd.kind, iJ R.cmd.txn.client, iJ R.cmd.txn.number, iJ R.cmd.stp.time, iJ R.cmd.stp.client, iJ R.cmd.shards, .slice p296.A R.cmd.reads.length p296.n, .slice p296.B R.cmd.writes.length p296.m, .bool R.cmd.commit, iJ R.seq, iJ R.deps.d0, iJ R.deps.d1, iJ R.deps.d2, iJ R.deps.d3, iJ R.deps.d4, iJ R.deps.d5, iJ R.deps.d6, .bool R.kept]) (cs' := [iJ R.inst.replica, iJ R.inst.slot, iJ R.status, iJ R.promise.number, iJ R.promise.replica, iJ R.ballot.number, iJ R.ballot.replica, iJ R.cmd.kind, iJ R.cmd.txn.client, iJ R.cmd.txn.number, iJ R.cmd.stp.time, iJ R.cmd.stp.client, iJ R.cmd.shards, .slice p296.A R.cmd.reads.length p296.n, .slice p296.B R.cmd.writes.length p296.m, .bool R.cmd.commit, iJ R.seq, iJ R.deps.d0, iJ R.deps.d1, iJ R.deps.d2, iJ R.deps.d3, iJ R.deps.d4, iJ R.deps.d5, iJ R.deps.d6, .bool R.kept]) rfl rfl rfl rfl rfl rfl ((b286.ext x294).ext x298) size_40 rfl rfl rfl (fun w301 b302 s303 => ?_)
   have b304 := ((((((((((b2.ext x7).ext x10).ext x30).ext x33).kept kp46 (by decide)).ext kp103).ext x221).ext x287).ext x294).ext x298).far s303 (by have hz := (Nat.le_trans (Nat.le_trans (Nat.le_trans (Nat.le_trans (Nat.le_trans (Nat.le_trans x7.size x10.size) x30.size) x33.size) kp46.below.size) kp103.size) x221.size); omega)
   have b305 := (((((((((b6.ext x10).ext x30).ext x33).kept kp46 (by decide)).ext kp103).ext x221).ext x287).ext x294).ext x298).far s303 (by have hz := (Nat.le_trans (Nat.le_trans (Nat.le_trans (Nat.le_trans (Nat.le_trans x10.size x30.size) x33.size) kp46.below.size) kp103.size) x221.size); omega)
   have b306 := (((((((b29.ext x33).kept kp46 (by decide)).ext kp103).ext x221).ext x287).ext x294).ext x298).far s303 (by have hz := (Nat.le_trans (Nat.le_trans (Nat.le_trans x33.size kp46.below.size) kp103.size) x221.size); omega)
   have hc307 := hc297.far s303 (fun ad h => by have hf := fa299 ad h; have hz := x294.size; omega) (fun ad h => by have hf := fb300 ad h; have hz := x294.size; omega)
   refine h_nextG (i := 9) (fun h => absurd rfl h) ?_
   refine h_act1 (i := 10) (L' := [true, true, true, true, true, true, true, true, true, true, true]) (by kernel_rfl) rfl rfl ?_
   refine pv (iJ E) (x_assign rfl rfl) ?_
   refine h_nextG (i := 10) (fun _ h => by cases h) ?_
   refine h_end (by kernel_rfl) ?_
   exact t_norm ⟨_, rfl, w220.heap.size, p296, e106, e108, e114, rfl, rfl, hc307, b302, x221.size, ((((x221.trans x287).trans x294).trans x298).stored x221.size s303)⟩
  refine p_store (v := vRec R p296) (vs := [iJ R.inst.replica, iJ R.inst.slot, iJ R.status, iJ R.promise.number, iJ R.promise.replica, iJ R.ballot.number, iJ R.ballot.replica, iJ R.cmd.kind, iJ R.cmd.txn.client, iJ R.cmd.txn.number, iJ R.cmd.stp.time, iJ R.cmd.stp.client, iJ R.cmd.shards, .slice p296.A R.cmd.reads.length p296.n, .slice p296.B R.cmd.writes.length p296.m, .bool R.cmd.commit, iJ R.seq, iJ R.deps.d0, iJ R.deps.d1, iJ R.deps.d2, iJ R.deps.d3, iJ R.deps.d4, iJ R.deps.d5, iJ R.deps.d6, .bool R.kept]) (cs' := [iJ R.inst.replica, iJ R.inst.slot, iJ R.status, iJ R.promise.number, iJ R.promise.replica, iJ R.ballot.number, iJ R.ballot.replica, iJ R.cmd.kind, iJ R.cmd.txn.client, iJ R.cmd.txn.number, iJ R.cmd.stp.time, iJ R.cmd.stp.client, iJ R.cmd.shards, .slice p296.A R.cmd.reads.length p296.n, .slice p296.B R.cmd.writes.length p296.m, .bool R.cmd.commit, iJ R.seq, iJ R.deps.d0, iJ R.deps.d1, iJ R.deps.d2, iJ R.deps.d3, iJ R.deps.d4, iJ R.deps.d5, iJ R.deps.d6, .bool R.kept]) rfl rfl rfl rfl rfl rfl ((b286.ext x294).ext x298) size_40 rfl rfl rfl (fun w308 b309 s310 => ?_)
  have b311 := ((((((((((b2.ext x7).ext x10).ext x30).ext x33).kept kp46 (by decide)).ext kp103).ext x221).ext x287).ext x294).ext x298).far s310 (by have hz := (Nat.le_trans (Nat.le_trans (Nat.le_trans (Nat.le_trans (Nat.le_trans (Nat.le_trans x7.size x10.size) x30.size) x33.size) kp46.below.size) kp103.size) x221.size); omega)
  have b312 := (((((((((b6.ext x10).ext x30).ext x33).kept kp46 (by decide)).ext kp103).ext x221).ext x287).ext x294).ext x298).far s310 (by have hz := (Nat.le_trans (Nat.le_trans (Nat.le_trans (Nat.le_trans (Nat.le_trans x10.size x30.size) x33.size) kp46.below.size) kp103.size) x221.size); omega)
  have b313 := (((((((b29.ext x33).kept kp46 (by decide)).ext kp103).ext x221).ext x287).ext x294).ext x298).far s310 (by have hz := (Nat.le_trans (Nat.le_trans (Nat.le_trans x33.size kp46.below.size) kp103.size) x221.size); omega)
  have hc314 := hc297.far s310 (fun ad h => by have hf := fa299 ad h; have hz := x294.size; omega) (fun ad h => by have hf := fb300 ad h; have hz := x294.size; omega)
  refine h_nextG (i := 9) (fun h => absurd rfl h) ?_
  refine h_act1 (i := 7) (L' := [true, true, true, true, true, true, true, true, true, true, false]) (by kernel_rfl) rfl rfl ?_
  refine pv (iJ E) (x_extract rfl rfl rfl) ?_
  refine h_nextG (i := 7) (fun _ h => by cases h) ?_
  refine h_act1 (i := 10) (L' := [true, true, true, true, true, true, true, true, true, true, true]) (by kernel_rfl) rfl rfl ?_
  refine pv (iJ E) (x_assign rfl rfl) ?_
  refine h_nextG (i := 10) (fun _ h => by cases h) ?_
  refine h_end (by kernel_rfl) ?_
  exact t_norm ⟨_, rfl, w220.heap.size, p296, e106, e108, e114, rfl, rfl, hc314, b309, x221.size, ((((x221.trans x287).trans x294).trans x298).stored x221.size s310)⟩
 rintro ρ w208 ⟨g214, p217, e210, e211, e212, e213, e219, hc218, hb215, hg216, kp209⟩
 have hb215l := hb215.lt
 refine t_norm (c_seq (c_quiet (qv (iJ E) (fun _ x' => x_move rfl e212) ?_)))
 refine qv (iJ E) (fun _ x' => x_move rfl e219) ?_
 refine qv (.bool true) (fun _ x' => yb (x_eql rfl rfl rfl) (by simp)) ?_
 refine qv (.bool true) (fun _ x' => x_move rfl rfl) ?_
 refine qv (.agg #[iJ R.inst.replica, iJ R.inst.slot, iJ R.status, iJ R.promise.number, iJ R.promise.replica, iJ R.ballot.number, iJ R.ballot.replica, iJ R.cmd.kind, iJ R.cmd.txn.client, iJ R.cmd.txn.number, iJ R.cmd.stp.time, iJ R.cmd.stp.client, iJ R.cmd.shards, .slice p112.A R.cmd.reads.length p112.n, .slice p112.B R.cmd.writes.length p112.m, .bool R.cmd.commit, iJ R.seq, iJ R.deps.d0, iJ R.deps.d1, iJ R.deps.d2, iJ R.deps.d3, iJ R.deps.d4, iJ R.deps.d5, iJ R.deps.d6, .bool R.kept]) (fun _ x' => x_load rfl e211 (((hb110.ext kp209).ext x').agg (vs := [iJ R.inst.replica, iJ R.inst.slot, iJ R.status, iJ R.promise.number, iJ R.promise.replica, iJ R.ballot.number, iJ R.ballot.replica, iJ R.cmd.kind, iJ R.cmd.txn.client, iJ R.cmd.txn.number, iJ R.cmd.stp.time, iJ R.cmd.stp.client, iJ R.cmd.shards, .slice p112.A R.cmd.reads.length p112.n, .slice p112.B R.cmd.writes.length p112.m, .bool R.cmd.commit, iJ R.seq, iJ R.deps.d0, iJ R.deps.d1, iJ R.deps.d2, iJ R.deps.d3, iJ R.deps.d4, iJ R.deps.d5, iJ R.deps.d6, .bool R.kept]) agg_40_25 rfl)) ?_
 refine qv (.agg #[iJ R.inst.replica, iJ R.inst.slot, iJ R.status, iJ R.promise.number, iJ R.promise.replica, iJ R.ballot.number, iJ R.ballot.replica, iJ R.cmd.kind, iJ R.cmd.txn.client, iJ R.cmd.txn.number, iJ R.cmd.stp.time, iJ R.cmd.stp.client, iJ R.cmd.shards, .slice p217.A R.cmd.reads.length p217.n, .slice p217.B R.cmd.writes.length p217.m, .bool R.cmd.commit, iJ R.seq, iJ R.deps.d0, iJ R.deps.d1, iJ R.deps.d2, iJ R.deps.d3, iJ R.deps.d4, iJ R.deps.d5, iJ R.deps.d6, .bool R.kept]) (fun _ x' => x_load rfl e213 ((hb215.ext x').agg (vs := [iJ R.inst.replica, iJ R.inst.slot, iJ R.status, iJ R.promise.number, iJ R.promise.replica, iJ R.ballot.number, iJ R.ballot.replica, iJ R.cmd.kind, iJ R.cmd.txn.client, iJ R.cmd.txn.number, iJ R.cmd.stp.time, iJ R.cmd.stp.client, iJ R.cmd.shards, .slice p217.A R.cmd.reads.length p217.n, .slice p217.B R.cmd.writes.length p217.m, .bool R.cmd.commit, iJ R.seq, iJ R.deps.d0, iJ R.deps.d1, iJ R.deps.d2, iJ R.deps.d3, iJ R.deps.d4, iJ R.deps.d5, iJ R.deps.d6, .bool R.kept]) agg_40_25 rfl)) ?_
 refine q_call (vs := #[.agg #[iJ R.inst.replica, iJ R.inst.slot, iJ R.status, iJ R.promise.number, iJ R.promise.replica, iJ R.ballot.number, iJ R.ballot.replica, iJ R.cmd.kind, iJ R.cmd.txn.client, iJ R.cmd.txn.number, iJ R.cmd.stp.time, iJ R.cmd.stp.client, iJ R.cmd.shards, .slice p112.A R.cmd.reads.length p112.n, .slice p112.B R.cmd.writes.length p112.m, .bool R.cmd.commit, iJ R.seq, iJ R.deps.d0, iJ R.deps.d1, iJ R.deps.d2, iJ R.deps.d3, iJ R.deps.d4, iJ R.deps.d5, iJ R.deps.d6, .bool R.kept], .agg #[iJ R.inst.replica, iJ R.inst.slot, iJ R.status, iJ R.promise.number, iJ R.promise.replica, iJ R.ballot.number, iJ R.ballot.replica, iJ R.cmd.kind, iJ R.cmd.txn.client, iJ R.cmd.txn.number, iJ R.cmd.stp.time, iJ R.cmd.stp.client, iJ R.cmd.shards, .slice p217.A R.cmd.reads.length p217.n, .slice p217.B R.cmd.writes.length p217.m, .bool R.cmd.commit, iJ R.seq, iJ R.deps.d0, iJ R.deps.d1, iJ R.deps.d2, iJ R.deps.d3, iJ R.deps.d4, iJ R.deps.d5, iJ R.deps.d6, .bool R.kept]]) fn_13 rfl rfl rfl (args2 rfl rfl) (v := .bool true) (fun _ x' => ((decide_eq_true (rfl : R = R))) ▸ D_sameRec _ R p112 ((hc113.ext kp209).ext x') R p217 (hc218.ext x')) ?_
 refine qv (.bool true) (fun _ x' => x_pick_t rfl rfl rfl) ?_
 refine qv (.bool true) (fun _ x' => x_move rfl rfl) ?_
 refine q_call (vs := #[]) fn_9 rfl rfl rfl (args0) (v := .bool true) (fun _ x' => C_awake _) ?_
 refine qv (.bool true) (fun _ x' => x_pick_t rfl rfl rfl) ?_
 refine qv (.bool true) (fun _ x' => x_assign rfl rfl) ?_
 exact q_nil (fun w315 x316 => t_norm (c_ret (c_done rfl rfl (Ret.b (rfl) ((((((((x3.trans x7).trans x10).trans x30).trans x33).below (Nat.le_refl _) kp46.below).trans kp103).trans kp209).trans x316)))))
end Go.Proofs.Ytgamfmkefipngaa
