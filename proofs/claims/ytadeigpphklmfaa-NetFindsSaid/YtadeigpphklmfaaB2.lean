/- A walk through the code of layers below, or of layer 10. -/
import Derived.Test.YtadeigpphklmfaaDos
import Derived.Test.YtadeigpphklmfaaDrs
import Derived.Test.YtadeigpphklmfaaPan
import Derived.Test.YtadeigpphklmfaaB1
namespace Go.Proofs.Ytadeigpphklmfaa
open Go.RowKit Go.Eng
set_option linter.unusedVariables false
set_option linter.unusedSimpArgs false
theorem N_look (w : World) (k : Int) :
    Calls Try.prog 24 #[.pointer none, .int .i64 k] w (Ret w (.tuple #[.agg #[.int .i64 0, .int .i64 0, .int .i64 0, .int .i64 0, .int .i64 0, .int .i64 0, .int .i64 0, .int .i64 0, .int .i64 0, .int .i64 0, .int .i64 0, .int .i64 0, .int .i64 0, .int .i64 0, .int .i64 0, .int .i64 0, .int .i64 0, .int .i64 0, .slice none 0 0, .slice none 0 0, .bool false, .int .i64 0, .int .i64 0, .int .i64 0, .int .i64 0, .int .i64 0, .int .i64 0, .int .i64 0, .int .i64 0, .bool false], .int .i64 1])) := by
 refine c_enter (n := 22) Try.func24 rfl rfl rfl ?_
 refine c_seq (c_plain (p_alloc (cs := [iJ 0, iJ 0, iJ 0, iJ 0, iJ 0, iJ 0, iJ 0, iJ 0, iJ 0, iJ 0, iJ 0, iJ 0, iJ 0, iJ 0, iJ 0, iJ 0, iJ 0, iJ 0, .slice none 0 0, .slice none 0 0, .bool false, iJ 0, iJ 0, iJ 0, iJ 0, iJ 0, iJ 0, iJ 0, iJ 0, .bool false]) rfl rfl rfl zero_43 rfl (fun w1 b2 x3 z4 => ?_)))
 refine pv (iJ 0) (x_assign rfl rfl) ?_
 refine p_nil (t_norm (c_seq (c_seq (c_quiet (qv (.pointer none) (fun _ x' => x_move rfl rfl) ?_)))))
 refine qv (iJ k) (fun _ x' => x_move rfl rfl) ?_
 refine q_call (vs := #[.pointer none, iJ k]) fn_33 rfl rfl rfl (args2 rfl rfl) (v := iJ 1) (fun _ x' => N_is _ k) ?_
 refine qv (iJ 1) (fun _ x' => x_assign rfl rfl) ?_
 refine q_nil (fun w5 x6 => t_norm (c_seq (c_quiet (qv (iJ 1) (fun _ x' => x_move rfl rfl) ?_))))
 refine qv (.bool true) (fun _ x' => yb (x_neq rfl rfl rfl) rfl) ?_
 refine q_nil (fun w7 x8 => t_norm (c_true rfl (c_seq (c_plain (pv (.agg #[iJ 0, iJ 0, iJ 0, iJ 0, iJ 0, iJ 0, iJ 0, iJ 0, iJ 0, iJ 0, iJ 0, iJ 0, iJ 0, iJ 0, iJ 0, iJ 0, iJ 0, iJ 0, .slice none 0 0, .slice none 0 0, .bool false, iJ 0, iJ 0, iJ 0, iJ 0, iJ 0, iJ 0, iJ 0, iJ 0, .bool false]) (x_build0 zero_43 bld_43 rfl) ?_)))))
 refine pv (iJ 1) (x_move rfl rfl) ?_
 refine p_store (v := .agg #[iJ 0, iJ 0, iJ 0, iJ 0, iJ 0, iJ 0, iJ 0, iJ 0, iJ 0, iJ 0, iJ 0, iJ 0, iJ 0, iJ 0, iJ 0, iJ 0, iJ 0, iJ 0, .slice none 0 0, .slice none 0 0, .bool false, iJ 0, iJ 0, iJ 0, iJ 0, iJ 0, iJ 0, iJ 0, iJ 0, .bool false]) (vs := [iJ 0, iJ 0, iJ 0, iJ 0, iJ 0, iJ 0, iJ 0, iJ 0, iJ 0, iJ 0, iJ 0, iJ 0, iJ 0, iJ 0, iJ 0, iJ 0, iJ 0, iJ 0, .slice none 0 0, .slice none 0 0, .bool false, iJ 0, iJ 0, iJ 0, iJ 0, iJ 0, iJ 0, iJ 0, iJ 0, .bool false]) (cs' := [iJ 0, iJ 0, iJ 0, iJ 0, iJ 0, iJ 0, iJ 0, iJ 0, iJ 0, iJ 0, iJ 0, iJ 0, iJ 0, iJ 0, iJ 0, iJ 0, iJ 0, iJ 0, .slice none 0 0, .slice none 0 0, .bool false, iJ 0, iJ 0, iJ 0, iJ 0, iJ 0, iJ 0, iJ 0, iJ 0, .bool false]) rfl rfl rfl rfl rfl rfl ((b2.ext x6).ext x8) size_43 rfl rfl rfl (fun w9 b10 s11 => ?_)
 refine pv (iJ 1) (x_assign rfl rfl) ?_
 exact p_nil (t_norm (c_ret (t_ret (c_doneC2 rfl rfl rfl (b10.agg (vs := [iJ 0, iJ 0, iJ 0, iJ 0, iJ 0, iJ 0, iJ 0, iJ 0, iJ 0, iJ 0, iJ 0, iJ 0, iJ 0, iJ 0, iJ 0, iJ 0, iJ 0, iJ 0, .slice none 0 0, .slice none 0 0, .bool false, iJ 0, iJ 0, iJ 0, iJ 0, iJ 0, iJ 0, iJ 0, iJ 0, .bool false]) agg_43_30 rfl) ⟨rfl, (((x3.trans x6).trans x8).stored (Nat.le_refl _) s11)⟩))))
theorem C_look (w : World) (g : Nat) (s : PN) (A : Option Addr) (c : Nat) (zs : List (Msg × Ptr)) (hN : NetIn 74 w g s A c zs) (k : Int) :
    Calls Try.prog 24 #[.pointer (some (⟨g, 0, none⟩)), .int .i64 k] w (fun e w' => ∃ p' : Ptr, e = .returned (.tuple #[vMsg (lookP s k).1 p', .int .i64 (lookP s k).2]) ∧ CmdAt w' (lookP s k).1.r.cmd p' ∧ Ext w w' ∧ (∀ ad, p'.A = some ad → w.heap.size ≤ ad.block) ∧ (∀ ad, p'.B = some ad → w.heap.size ≤ ad.block) ∧ Own fWr 2 w' w.heap.size 80 p'.B p'.m (lookP s k).1.r.cmd.writes) := by
 have hgl := hN.box.lt
 have hle := hN.le
 have hlr := hN.room
 have hr2 := hN.r2
 have hml := hN.len
 have hmx := hN.mx
 refine c_enter (n := 22) Try.func24 rfl rfl rfl ?_
 refine c_seq (c_plain (p_alloc (cs := [iJ 0, iJ 0, iJ 0, iJ 0, iJ 0, iJ 0, iJ 0, iJ 0, iJ 0, iJ 0, iJ 0, iJ 0, iJ 0, iJ 0, iJ 0, iJ 0, iJ 0, iJ 0, .slice none 0 0, .slice none 0 0, .bool false, iJ 0, iJ 0, iJ 0, iJ 0, iJ 0, iJ 0, iJ 0, iJ 0, .bool false]) rfl rfl rfl zero_43 rfl (fun w1 b2 x3 z4 => ?_)))
 refine pv (iJ 0) (x_assign rfl rfl) ?_
 refine p_nil (t_norm (c_seq (c_seq (c_quiet (qv (pJ g) (fun _ x' => x_move rfl rfl) ?_)))))
 refine qv (iJ k) (fun _ x' => x_move rfl rfl) ?_
 refine q_call (vs := #[pJ g, iJ k]) fn_33 rfl rfl rfl (args2 rfl rfl) (v := iJ (isP s k)) (fun _ x' => C_is _ g s A c zs ((hN.ext x3).ext x') k) ?_
 refine qv (iJ (isP s k)) (fun _ x' => x_assign rfl rfl) ?_
 refine q_nil (fun w5 x6 => t_norm (c_seq (c_quiet (qv (iJ (isP s k)) (fun _ x' => x_move rfl rfl) ?_))))
 refine q_bool (b := decide (isP s k ≠ 0)) rfl rfl (fun _ x' => x_neq rfl rfl rfl) (fun c7 => ?_) (fun c7 => ?_)
 ·have hk := is_no c7
  refine q_nil (fun w8 x9 => t_norm (c_true rfl (c_seq (c_plain (pv (.agg #[iJ 0, iJ 0, iJ 0, iJ 0, iJ 0, iJ 0, iJ 0, iJ 0, iJ 0, iJ 0, iJ 0, iJ 0, iJ 0, iJ 0, iJ 0, iJ 0, iJ 0, iJ 0, .slice none 0 0, .slice none 0 0, .bool false, iJ 0, iJ 0, iJ 0, iJ 0, iJ 0, iJ 0, iJ 0, iJ 0, .bool false]) (x_build0 zero_43 bld_43 rfl) ?_)))))
  refine pv (iJ (isP s k)) (x_move rfl rfl) ?_
  refine p_store (v := .agg #[iJ 0, iJ 0, iJ 0, iJ 0, iJ 0, iJ 0, iJ 0, iJ 0, iJ 0, iJ 0, iJ 0, iJ 0, iJ 0, iJ 0, iJ 0, iJ 0, iJ 0, iJ 0, .slice none 0 0, .slice none 0 0, .bool false, iJ 0, iJ 0, iJ 0, iJ 0, iJ 0, iJ 0, iJ 0, iJ 0, .bool false]) (vs := [iJ 0, iJ 0, iJ 0, iJ 0, iJ 0, iJ 0, iJ 0, iJ 0, iJ 0, iJ 0, iJ 0, iJ 0, iJ 0, iJ 0, iJ 0, iJ 0, iJ 0, iJ 0, .slice none 0 0, .slice none 0 0, .bool false, iJ 0, iJ 0, iJ 0, iJ 0, iJ 0, iJ 0, iJ 0, iJ 0, .bool false]) (cs' := [iJ 0, iJ 0, iJ 0, iJ 0, iJ 0, iJ 0, iJ 0, iJ 0, iJ 0, iJ 0, iJ 0, iJ 0, iJ 0, iJ 0, iJ 0, iJ 0, iJ 0, iJ 0, .slice none 0 0, .slice none 0 0, .bool false, iJ 0, iJ 0, iJ 0, iJ 0, iJ 0, iJ 0, iJ 0, iJ 0, .bool false]) rfl rfl rfl rfl rfl rfl ((b2.ext x6).ext x9) size_43 rfl rfl rfl (fun w10 b11 s12 => ?_)
  refine pv (iJ (isP s k)) (x_assign rfl rfl) ?_
  refine p_nil (t_norm (c_ret (t_ret (c_doneC2 rfl rfl rfl (b11.agg (vs := [iJ 0, iJ 0, iJ 0, iJ 0, iJ 0, iJ 0, iJ 0, iJ 0, iJ 0, iJ 0, iJ 0, iJ 0, iJ 0, iJ 0, iJ 0, iJ 0, iJ 0, iJ 0, .slice none 0 0, .slice none 0 0, .bool false, iJ 0, iJ 0, iJ 0, iJ 0, iJ 0, iJ 0, iJ 0, iJ 0, .bool false]) agg_43_30 rfl) ?_))))
  rw [look_no hk, is_ten c7]
  exact ⟨⟨none, 0, none, 0⟩, rfl, CmdAt.nil _ rfl rfl, (((x3.trans x6).trans x9).stored (Nat.le_refl _) s12), fun ad h => (by cases h), fun ad h => (by cases h), Own.nil _ _ _ _ _⟩
 have hk := is_yes c7
 obtain ⟨K, rfl⟩ := Int.eq_ofNat_of_zero_le hk.1
 have hK : K < zs.length := by have := hk.2; omega
 obtain ⟨z, hz⟩ := some_of (l := zs) (k := K) (by omega)
 obtain ⟨ad13, cs14, eA15, hK16, hE17⟩ := hN.lies K z hz
 have hK16' : cs14 = [iJ z.1.kind, iJ z.1.src, iJ z.1.dst, iJ z.1.ballot.number, iJ z.1.ballot.replica, iJ z.1.r.inst.replica, iJ z.1.r.inst.slot, iJ z.1.r.status, iJ z.1.r.promise.number, iJ z.1.r.promise.replica, iJ z.1.r.ballot.number, iJ z.1.r.ballot.replica, iJ z.1.r.cmd.kind, iJ z.1.r.cmd.txn.client, iJ z.1.r.cmd.txn.number, iJ z.1.r.cmd.stp.time, iJ z.1.r.cmd.stp.client, iJ z.1.r.cmd.shards, .slice z.2.A z.1.r.cmd.reads.length z.2.n, .slice z.2.B z.1.r.cmd.writes.length z.2.m, .bool z.1.r.cmd.commit, iJ z.1.r.seq, iJ z.1.r.deps.d0, iJ z.1.r.deps.d1, iJ z.1.r.deps.d2, iJ z.1.r.deps.d3, iJ z.1.r.deps.d4, iJ z.1.r.deps.d5, iJ z.1.r.deps.d6, .bool z.1.r.kept] := hK16
 subst hK16'
 have ha18 := hN.at_.out _ (at_of hz)
 have hs19 := hN.slim _ (at_of hz)
 refine q_nil (fun w21 x22 => t_norm (c_false rfl (c_skip (t_norm (c_seq (c_plain (pv (pJ g) (x_move rfl rfl) ?_)))))))
 refine pv (pJ g) (x_nilCheck rfl rfl) ?_
 refine pv (.pointer (some (⟨g, 3, none⟩))) (x_fieldAddr fld_74_1 rfl rfl rfl) ?_
 refine pv (.slice A zs.length c) (x_load rfl rfl ((((hN.box.ext x3).ext x6).ext x22).one one_22 rfl)) ?_
 refine pv (iJ (K : Int)) (x_move rfl rfl) ?_
 refine pv (.pointer (some (ad13.add (K * 30)))) (x_indexAddr sl_22 rfl rfl eA15 rfl (by omega) (by omega) rfl) ?_
 refine pv (vMsg z.1 z.2) (x_load rfl rfl ((((hE17.ext x3).ext x6).ext x22).agg (vs := [iJ z.1.kind, iJ z.1.src, iJ z.1.dst, iJ z.1.ballot.number, iJ z.1.ballot.replica, iJ z.1.r.inst.replica, iJ z.1.r.inst.slot, iJ z.1.r.status, iJ z.1.r.promise.number, iJ z.1.r.promise.replica, iJ z.1.r.ballot.number, iJ z.1.r.ballot.replica, iJ z.1.r.cmd.kind, iJ z.1.r.cmd.txn.client, iJ z.1.r.cmd.txn.number, iJ z.1.r.cmd.stp.time, iJ z.1.r.cmd.stp.client, iJ z.1.r.cmd.shards, .slice z.2.A z.1.r.cmd.reads.length z.2.n, .slice z.2.B z.1.r.cmd.writes.length z.2.m, .bool z.1.r.cmd.commit, iJ z.1.r.seq, iJ z.1.r.deps.d0, iJ z.1.r.deps.d1, iJ z.1.r.deps.d2, iJ z.1.r.deps.d3, iJ z.1.r.deps.d4, iJ z.1.r.deps.d5, iJ z.1.r.deps.d6, .bool z.1.r.kept]) agg_43_30 0 rfl rfl)) ?_
 refine p_call (vs := #[vMsg z.1 z.2]) fn_40 rfl rfl rfl (args1 rfl) ?_
 refine (C_own _ z.1 z.2 (((ha18.ext x3).ext x6).ext x22) hs19).mono ?_
 rintro e w23 ⟨p24, rfl, hc25, x26, fa27, fb28, fa27l, fb28l, fb28o⟩
 refine ⟨_, rfl, ?_⟩
 refine p_store (v := vMsg z.1 p24) (vs := [iJ z.1.kind, iJ z.1.src, iJ z.1.dst, iJ z.1.ballot.number, iJ z.1.ballot.replica, iJ z.1.r.inst.replica, iJ z.1.r.inst.slot, iJ z.1.r.status, iJ z.1.r.promise.number, iJ z.1.r.promise.replica, iJ z.1.r.ballot.number, iJ z.1.r.ballot.replica, iJ z.1.r.cmd.kind, iJ z.1.r.cmd.txn.client, iJ z.1.r.cmd.txn.number, iJ z.1.r.cmd.stp.time, iJ z.1.r.cmd.stp.client, iJ z.1.r.cmd.shards, .slice p24.A z.1.r.cmd.reads.length p24.n, .slice p24.B z.1.r.cmd.writes.length p24.m, .bool z.1.r.cmd.commit, iJ z.1.r.seq, iJ z.1.r.deps.d0, iJ z.1.r.deps.d1, iJ z.1.r.deps.d2, iJ z.1.r.deps.d3, iJ z.1.r.deps.d4, iJ z.1.r.deps.d5, iJ z.1.r.deps.d6, .bool z.1.r.kept]) (cs' := [iJ z.1.kind, iJ z.1.src, iJ z.1.dst, iJ z.1.ballot.number, iJ z.1.ballot.replica, iJ z.1.r.inst.replica, iJ z.1.r.inst.slot, iJ z.1.r.status, iJ z.1.r.promise.number, iJ z.1.r.promise.replica, iJ z.1.r.ballot.number, iJ z.1.r.ballot.replica, iJ z.1.r.cmd.kind, iJ z.1.r.cmd.txn.client, iJ z.1.r.cmd.txn.number, iJ z.1.r.cmd.stp.time, iJ z.1.r.cmd.stp.client, iJ z.1.r.cmd.shards, .slice p24.A z.1.r.cmd.reads.length p24.n, .slice p24.B z.1.r.cmd.writes.length p24.m, .bool z.1.r.cmd.commit, iJ z.1.r.seq, iJ z.1.r.deps.d0, iJ z.1.r.deps.d1, iJ z.1.r.deps.d2, iJ z.1.r.deps.d3, iJ z.1.r.deps.d4, iJ z.1.r.deps.d5, iJ z.1.r.deps.d6, .bool z.1.r.kept]) rfl rfl rfl rfl rfl rfl (((b2.ext x6).ext x22).ext x26) size_43 rfl rfl rfl (fun w29 b30 s31 => ?_)
 have hc32 := hc25.far s31 (fun ad h => by have hf := fa27 ad h; have hz := (Nat.le_trans x6.size x22.size); omega) (fun ad h => by have hf := fb28 ad h; have hz := (Nat.le_trans x6.size x22.size); omega)
 refine pv (iJ 0) (x_assign rfl rfl) ?_
 refine p_nil (t_norm (c_ret (c_doneC2 rfl rfl rfl (b30.agg (vs := [iJ z.1.kind, iJ z.1.src, iJ z.1.dst, iJ z.1.ballot.number, iJ z.1.ballot.replica, iJ z.1.r.inst.replica, iJ z.1.r.inst.slot, iJ z.1.r.status, iJ z.1.r.promise.number, iJ z.1.r.promise.replica, iJ z.1.r.ballot.number, iJ z.1.r.ballot.replica, iJ z.1.r.cmd.kind, iJ z.1.r.cmd.txn.client, iJ z.1.r.cmd.txn.number, iJ z.1.r.cmd.stp.time, iJ z.1.r.cmd.stp.client, iJ z.1.r.cmd.shards, .slice p24.A z.1.r.cmd.reads.length p24.n, .slice p24.B z.1.r.cmd.writes.length p24.m, .bool z.1.r.cmd.commit, iJ z.1.r.seq, iJ z.1.r.deps.d0, iJ z.1.r.deps.d1, iJ z.1.r.deps.d2, iJ z.1.r.deps.d3, iJ z.1.r.deps.d4, iJ z.1.r.deps.d5, iJ z.1.r.deps.d6, .bool z.1.r.kept]) agg_43_30 rfl) ?_)))
 rw [look_yes (at_map hN.map hz)]
 exact ⟨p24, rfl, hc32, ((((x3.trans x6).trans x22).trans x26).stored (Nat.le_refl _) s31), fun ad h => Nat.le_trans (Nat.le_trans (Nat.le_trans x3.size x6.size) x22.size) (fa27 ad h), fun ad h => Nat.le_trans (Nat.le_trans (Nat.le_trans x3.size x6.size) x22.size) (fb28 ad h), (fb28o.far s31 (((b2.ext x6).ext x22).ext x26) (by decide)).mono (Nat.le_trans (Nat.le_trans x3.size x6.size) x22.size)⟩
theorem C_put (w : World) (g : Nat) (s : PN) (A : Option Addr) (c : Nat) (zs : List (Msg × Ptr)) (hN : NetIn 74 w g s A c zs) (ht : Tame s) (m : Msg) (p : Ptr) (hm : CmdAt w m.r.cmd p) (hs : Slim m.r.cmd) :
    Calls Try.prog 28 #[.pointer (some (⟨g, 0, none⟩)), vMsg m p] w (fun e w' => (fullP s = true ∧ e = .returned (.int .i64 7) ∧ NetIn 74 w' g s A c zs ∧ Ext w w') ∨ (fullP s = false ∧ e = .returned (.int .i64 0) ∧ ∃ A' c' zs', NetIn 74 w' g (addP s m) A' c' zs' ∧ Off g w w' ∧ Keeps w A zs A' zs')) := by
 have hgl := hN.box.lt
 have hle := hN.le
 have hlr := hN.room
 have hr2 := hN.r2
 have hml := hN.len
 have hmx := hN.mx
 obtain ⟨ht1, ht2, ht3, ht4, ht5, ht6⟩ := ht
 refine c_enter (n := 48) Try.func28 rfl rfl rfl ?_
 refine c_seq (c_plain (p_box rfl rfl rfl rfl (fun w1 b2 x3 z4 => ?_)))
 refine pv (iJ 0) (x_assign rfl rfl) ?_
 refine p_nil (t_norm (c_seq (c_seq (c_draw mixed (by kernel_rfl) (qv (pJ g) (fun _ x' => x_move rfl rfl) ?_)))))
 refine qv (pJ g) (fun _ x' => x_nilCheck rfl rfl) ?_
 refine qv (.pointer (some (⟨g, 3, none⟩))) (fun _ x' => x_fieldAddr fld_74_1 rfl rfl rfl) ?_
 refine qv (.slice A zs.length c) (fun _ x' => x_load rfl rfl (((hN.box.ext x3).ext x').one one_22 rfl)) ?_
 refine qv (iJ (zs.length : Int)) (fun _ x' => x_len_slice sl_22 rfl rfl) ?_
 refine qv (pJ g) (fun _ x' => x_move rfl rfl) ?_
 refine qv (pJ g) (fun _ x' => x_nilCheck rfl rfl) ?_
 refine qv (.pointer (some (⟨g, 4, none⟩))) (fun _ x' => x_fieldAddr fld_74_2 rfl rfl rfl) ?_
 refine qv (iJ s.room) (fun _ x' => x_load rfl rfl (((hN.box.ext x3).ext x').one one_3 rfl)) ?_
 refine q_bool (b := decide ((zs.length : Int) = s.room)) rfl rfl (fun _ x' => x_eql rfl rfl rfl) (fun c5 => ?_) (fun c5 => ?_)
 ·refine q_nil (fun w6 x7 => t_norm (c_true rfl (c_seq (c_quiet (qv (iJ 7) (fun _ x' => x_assign rfl rfl) ?_)))))
  exact q_nil (fun w8 x9 => t_norm (c_ret (t_ret (c_done rfl rfl (.inl ⟨full_yes hN c5, rfl, (hN.ext ((x3.trans x7).trans x9)), ((x3.trans x7).trans x9)⟩)))))
 refine q_nil (fun w10 x11 => t_norm (c_false rfl (c_skip (t_norm (c_seq (c_held mixed (by kernel_rfl) (fun _ _ _ _ _ h => h) (fun v1 v2 => Ext v1 v2) 22 23 rfl (fun w12 x13 z14 => ?_)))))))
 refine h_take (v := pJ g) (i := 0) (d := 15) (L' := [true, false, false, false, false, false, false, false, false, false, false, false, false, false, false, false, false, false, false, false, false, false, false]) rfl (by kernel_rfl) rfl (by kernel_rfl) rfl rfl (Ext.refl _) (fun _ s' => x_move rfl rfl) ?_
 refine h_take (v := pJ g) (i := 1) (d := 16) (L' := [true, true, false, false, false, false, false, false, false, false, false, false, false, false, false, false, false, false, false, false, false, false, false]) rfl (by kernel_rfl) rfl (by kernel_rfl) rfl rfl (Ext.refl _) (fun _ s' => x_move rfl rfl) ?_
 refine h_take (v := pJ g) (i := 2) (d := 17) (L' := [true, true, true, false, false, false, false, false, false, false, false, false, false, false, false, false, false, false, false, false, false, false, false]) rfl (by kernel_rfl) rfl (by kernel_rfl) rfl rfl (Ext.refl _) (fun _ s' => x_nilCheck rfl rfl) ?_
 refine h_take (v := .pointer (some (⟨g, 3, none⟩))) (i := 3) (d := 18) (L' := [true, true, true, true, false, false, false, false, false, false, false, false, false, false, false, false, false, false, false, false, false, false, false]) rfl (by kernel_rfl) rfl (by kernel_rfl) rfl rfl (Ext.refl _) (fun _ s' => x_fieldAddr fld_74_1 rfl rfl rfl) ?_
 refine h_take (v := .slice A zs.length c) (i := 4) (d := 19) (L' := [true, true, true, true, true, false, false, false, false, false, false, false, false, false, false, false, false, false, false, false, false, false, false]) rfl (by kernel_rfl) rfl (by kernel_rfl) rfl rfl (Ext.refl _) (fun _ s' => x_load rfl rfl (((((hN.box.ext x3).ext x11).ext x13).ext s').one one_22 rfl)) ?_
 refine h_take (v := pJ g) (i := 5) (d := 20) (L' := [true, true, true, true, true, true, false, false, false, false, false, false, false, false, false, false, false, false, false, false, false, false, false]) rfl (by kernel_rfl) rfl (by kernel_rfl) rfl rfl (Ext.refl _) (fun _ s' => x_move rfl rfl) ?_
 refine h_take (v := pJ g) (i := 6) (d := 21) (L' := [true, true, true, true, true, true, true, false, false, false, false, false, false, false, false, false, false, false, false, false, false, false, false]) rfl (by kernel_rfl) rfl (by kernel_rfl) rfl rfl (Ext.refl _) (fun _ s' => x_nilCheck rfl rfl) ?_
 refine h_take (v := .pointer (some (⟨g, 3, none⟩))) (i := 7) (d := 22) (L' := [true, true, true, true, true, true, true, true, false, false, false, false, false, false, false, false, false, false, false, false, false, false, false]) rfl (by kernel_rfl) rfl (by kernel_rfl) rfl rfl (Ext.refl _) (fun _ s' => x_fieldAddr fld_74_1 rfl rfl rfl) ?_
 refine h_take (v := .slice A zs.length c) (i := 8) (d := 23) (L' := [true, true, true, true, true, true, true, true, true, false, false, false, false, false, false, false, false, false, false, false, false, false, false]) rfl (by kernel_rfl) rfl (by kernel_rfl) rfl rfl (Ext.refl _) (fun _ s' => x_load rfl rfl (((((hN.box.ext x3).ext x11).ext x13).ext s').one one_22 rfl)) ?_
 refine h_take (v := iJ (zs.length : Int)) (i := 9) (d := 24) (L' := [true, true, true, true, true, true, true, true, true, true, false, false, false, false, false, false, false, false, false, false, false, false, false]) rfl (by kernel_rfl) rfl (by kernel_rfl) rfl rfl (Ext.refl _) (fun _ s' => x_len_slice sl_22 rfl rfl) ?_
 refine h_take (v := pJ g) (i := 10) (d := 25) (L' := [true, true, true, true, true, true, true, true, true, true, true, false, false, false, false, false, false, false, false, false, false, false, false]) rfl (by kernel_rfl) rfl (by kernel_rfl) rfl rfl (Ext.refl _) (fun _ s' => x_move rfl rfl) ?_
 refine h_take (v := pJ g) (i := 11) (d := 26) (L' := [true, true, true, true, true, true, true, true, true, true, true, true, false, false, false, false, false, false, false, false, false, false, false]) rfl (by kernel_rfl) rfl (by kernel_rfl) rfl rfl (Ext.refl _) (fun _ s' => x_nilCheck rfl rfl) ?_
 refine h_take (v := .pointer (some (⟨g, 3, none⟩))) (i := 12) (d := 27) (L' := [true, true, true, true, true, true, true, true, true, true, true, true, true, false, false, false, false, false, false, false, false, false, false]) rfl (by kernel_rfl) rfl (by kernel_rfl) rfl rfl (Ext.refl _) (fun _ s' => x_fieldAddr fld_74_1 rfl rfl rfl) ?_
 refine h_take (v := .slice A zs.length c) (i := 13) (d := 28) (L' := [true, true, true, true, true, true, true, true, true, true, true, true, true, true, false, false, false, false, false, false, false, false, false]) rfl (by kernel_rfl) rfl (by kernel_rfl) rfl rfl (Ext.refl _) (fun _ s' => x_load rfl rfl (((((hN.box.ext x3).ext x11).ext x13).ext s').one one_22 rfl)) ?_
 refine h_take (v := iJ (zs.length : Int)) (i := 14) (d := 29) (L' := [true, true, true, true, true, true, true, true, true, true, true, true, true, true, true, false, false, false, false, false, false, false, false]) rfl (by kernel_rfl) rfl (by kernel_rfl) rfl rfl (Ext.refl _) (fun _ s' => x_len_slice sl_22 rfl rfl) ?_
 refine h_take (v := .slice A zs.length zs.length) (i := 15) (d := 30) (L' := [true, true, true, true, true, true, true, true, true, true, true, true, true, true, true, true, false, false, false, false, false, false, false]) rfl (by kernel_rfl) rfl (by kernel_rfl) rfl rfl (Ext.refl _) (fun _ s' => x_slice3 (h := zs.length) (m := zs.length) sl_22 rfl rfl rfl rfl (Nat.le_refl _) hN.le) ?_
 refine h_take (v := vMsg m p) (i := 16) (d := 31) (L' := [true, true, true, true, true, true, true, true, true, true, true, true, true, true, true, true, true, false, false, false, false, false, false]) rfl (by kernel_rfl) rfl (by kernel_rfl) rfl rfl (Ext.refl _) (fun _ s' => x_load rfl rfl ((((b2.ext x11).ext x13).ext s').agg (vs := [iJ m.kind, iJ m.src, iJ m.dst, iJ m.ballot.number, iJ m.ballot.replica, iJ m.r.inst.replica, iJ m.r.inst.slot, iJ m.r.status, iJ m.r.promise.number, iJ m.r.promise.replica, iJ m.r.ballot.number, iJ m.r.ballot.replica, iJ m.r.cmd.kind, iJ m.r.cmd.txn.client, iJ m.r.cmd.txn.number, iJ m.r.cmd.stp.time, iJ m.r.cmd.stp.client, iJ m.r.cmd.shards, .slice p.A m.r.cmd.reads.length p.n, .slice p.B m.r.cmd.writes.length p.m, .bool m.r.cmd.commit, iJ m.r.seq, iJ m.r.deps.d0, iJ m.r.deps.d1, iJ m.r.deps.d2, iJ m.r.deps.d3, iJ m.r.deps.d4, iJ m.r.deps.d5, iJ m.r.deps.d6, .bool m.r.kept]) agg_43_30 rfl)) ?_
 refine h_act1 (i := 17) (L' := [true, true, true, true, true, true, true, true, true, true, true, true, true, true, true, true, true, true, false, false, false, false, false]) (by kernel_rfl) rfl rfl ?_
 refine p_call (vs := #[vMsg m p]) fn_40 rfl rfl rfl (args1 rfl) ?_
 refine (C_own _ m p (((hm.ext x3).ext x11).ext x13) hs).mono ?_
 rintro e w15 ⟨p16, rfl, hc17, x18, fa19, fb20, fa19l, fb20l, fb20o⟩
 refine ⟨_, rfl, ?_⟩
 refine h_nextG (i := 17) (fun _ _ => x18) ?_
 refine h_act1 (i := 18) (L' := [true, true, true, true, true, true, true, true, true, true, true, true, true, true, true, true, true, true, true, false, false, false, false]) (by kernel_rfl) rfl rfl ?_
 refine p_buildSlice (cs := [iJ m.kind, iJ m.src, iJ m.dst, iJ m.ballot.number, iJ m.ballot.replica, iJ m.r.inst.replica, iJ m.r.inst.slot, iJ m.r.status, iJ m.r.promise.number, iJ m.r.promise.replica, iJ m.r.ballot.number, iJ m.r.ballot.replica, iJ m.r.cmd.kind, iJ m.r.cmd.txn.client, iJ m.r.cmd.txn.number, iJ m.r.cmd.stp.time, iJ m.r.cmd.stp.client, iJ m.r.cmd.shards, .slice p16.A m.r.cmd.reads.length p16.n, .slice p16.B m.r.cmd.writes.length p16.m, .bool m.r.cmd.commit, iJ m.r.seq, iJ m.r.deps.d0, iJ m.r.deps.d1, iJ m.r.deps.d2, iJ m.r.deps.d3, iJ m.r.deps.d4, iJ m.r.deps.d5, iJ m.r.deps.d6, .bool m.r.kept]) el_22 rfl rfl rfl (parts1 rfl) (by decide) (by decide) (fill_ok [vMsg m p16] [iJ m.kind, iJ m.src, iJ m.dst, iJ m.ballot.number, iJ m.ballot.replica, iJ m.r.inst.replica, iJ m.r.inst.slot, iJ m.r.status, iJ m.r.promise.number, iJ m.r.promise.replica, iJ m.r.ballot.number, iJ m.r.ballot.replica, iJ m.r.cmd.kind, iJ m.r.cmd.txn.client, iJ m.r.cmd.txn.number, iJ m.r.cmd.stp.time, iJ m.r.cmd.stp.client, iJ m.r.cmd.shards, .slice p16.A m.r.cmd.reads.length p16.n, .slice p16.B m.r.cmd.writes.length p16.m, .bool m.r.cmd.commit, iJ m.r.seq, iJ m.r.deps.d0, iJ m.r.deps.d1, iJ m.r.deps.d2, iJ m.r.deps.d3, iJ m.r.deps.d4, iJ m.r.deps.d5, iJ m.r.deps.d6, .bool m.r.kept] rfl rfl) (fun w21 b22 x23 z24 => ?_)
 refine h_nextG (i := 18) (fun _ _ => (x18.trans x23)) ?_
 refine h_act1 (i := 19) (L' := [true, true, true, true, true, true, true, true, true, true, true, true, true, true, true, true, true, true, true, true, false, false, false]) (by kernel_rfl) rfl rfl ?_
 refine p_appendF (d := kMz) (f := fMz) (B := w.heap.size) (xs := zs) (z := (m, p16)) (cells := [iJ m.kind, iJ m.src, iJ m.dst, iJ m.ballot.number, iJ m.ballot.replica, iJ m.r.inst.replica, iJ m.r.inst.slot, iJ m.r.status, iJ m.r.promise.number, iJ m.r.promise.replica, iJ m.r.ballot.number, iJ m.r.ballot.replica, iJ m.r.cmd.kind, iJ m.r.cmd.txn.client, iJ m.r.cmd.txn.number, iJ m.r.cmd.stp.time, iJ m.r.cmd.stp.client, iJ m.r.cmd.shards, .slice p16.A m.r.cmd.reads.length p16.n, .slice p16.B m.r.cmd.writes.length p16.m, .bool m.r.cmd.commit, iJ m.r.seq, iJ m.r.deps.d0, iJ m.r.deps.d1, iJ m.r.deps.d2, iJ m.r.deps.d3, iJ m.r.deps.d4, iJ m.r.deps.d5, iJ m.r.deps.d6, .bool m.r.kept]) el_22 rfl rfl rfl rfl (((((hN.lies.ext x3).ext x11).ext x13).ext x18).ext x23) rfl b22 rfl (fun _ => rfl) (fun _ _ h => h) (fun _ => rfl) (by omega) (by omega) (Nat.le_trans (Nat.le_trans (Nat.le_trans (Nat.le_trans x3.size x11.size) x13.size) x18.size) x23.size) (fun A28 c29 w25 ho26 x27 => ?_)
 refine h_nextG (i := 19) (fun _ _ => ((x18.trans x23).trans x27)) ?_
 refine h_act1 (i := 20) (L' := [true, true, true, true, true, true, true, true, true, true, true, true, true, true, true, true, true, true, true, true, true, false, false]) (by kernel_rfl) rfl rfl ?_
 refine pv (pJ g) (x_nilCheck rfl rfl) ?_
 refine h_nextG (i := 20) (fun _ _ => ((x18.trans x23).trans x27)) ?_
 refine h_take (v := .pointer (some (⟨g, 3, none⟩))) (i := 21) (d := 36) (L' := [true, true, true, true, true, true, true, true, true, true, true, true, true, true, true, true, true, true, true, true, true, true, false]) rfl (by kernel_rfl) rfl (by kernel_rfl) rfl rfl ((x18.trans x23).trans x27) (fun _ s' => x_fieldAddr fld_74_1 rfl rfl rfl) ?_
 refine h_act1 (i := 22) (L' := [true, true, true, true, true, true, true, true, true, true, true, true, true, true, true, true, true, true, true, true, true, true, true]) (by kernel_rfl) rfl rfl ?_
 refine p_store (v := .slice A28 (List.length (α := (Msg × Ptr)) (zs ++ [(m, p16)])) c29) (vs := [.slice A28 (List.length (α := (Msg × Ptr)) (zs ++ [(m, p16)])) c29]) (cs' := [iJ s.sent, iJ s.came, iJ s.lost, .slice A28 (List.length (α := (Msg × Ptr)) (zs ++ [(m, p16)])) c29, iJ s.room]) rfl rfl rfl rfl rfl rfl ((((((hN.box.ext x3).ext x11).ext x13).ext x18).ext x23).ext x27) size_22 rfl rfl rfl (fun w30 b31 s32 => ?_)
 have b33 := (((((b2.ext x11).ext x13).ext x18).ext x23).ext x27).far s32 (by omega)
 have b34 := (b22.ext x27).far s32 (by have hz := (Nat.le_trans (Nat.le_trans (Nat.le_trans x3.size x11.size) x13.size) x18.size); omega)
 have hc35 := ((hc17.ext x23).ext x27).far s32 (fun ad h => by have hf := fa19 ad h; have hz := (Nat.le_trans (Nat.le_trans x3.size x11.size) x13.size); omega) (fun ad h => by have hf := fb20 ad h; have hz := (Nat.le_trans (Nat.le_trans x3.size x11.size) x13.size); omega)
 refine h_nextG (i := 22) (fun h => absurd rfl h) ?_
 refine h_end (by kernel_rfl) ?_
 refine t_norm (c_seq (c_plain (pv (pJ g) (x_move rfl rfl) ?_)))
 refine pv (pJ g) (x_nilCheck rfl rfl) ?_
 refine pv (pJ g) (x_fieldAddr fld_74_0 rfl rfl rfl) ?_
 refine pv (pJ g) (x_fieldAddr fld_72_0 rfl rfl rfl) ?_
 refine pv (pJ g) (x_fieldAddr fld_66_0 rfl rfl rfl) ?_
 refine pv (iJ s.sent) (x_load rfl rfl (b31.one one_3 rfl)) ?_
 refine pv (iJ (s.sent + 1)) (x_add rfl rfl rfl (wrap_of (by omega) (by omega))) ?_
 refine pv (pJ g) (x_nilCheck rfl rfl) ?_
 refine pv (pJ g) (x_fieldAddr fld_74_0 rfl rfl rfl) ?_
 refine pv (pJ g) (x_fieldAddr fld_72_0 rfl rfl rfl) ?_
 refine pv (pJ g) (x_fieldAddr fld_66_0 rfl rfl rfl) ?_
 refine p_store (v := iJ (s.sent + 1)) (vs := [iJ (s.sent + 1)]) (cs' := [iJ (s.sent + 1), iJ s.came, iJ s.lost, .slice A28 (List.length (α := (Msg × Ptr)) (zs ++ [(m, p16)])) c29, iJ s.room]) rfl rfl rfl rfl rfl rfl b31 size_3 rfl rfl rfl (fun w36 b37 s38 => ?_)
 have b39 := b33.far s38 (by omega)
 have b40 := b34.far s38 (by have hz := (Nat.le_trans (Nat.le_trans (Nat.le_trans x3.size x11.size) x13.size) x18.size); omega)
 have hc41 := hc35.far s38 (fun ad h => by have hf := fa19 ad h; have hz := (Nat.le_trans (Nat.le_trans x3.size x11.size) x13.size); omega) (fun ad h => by have hf := fb20 ad h; have hz := (Nat.le_trans (Nat.le_trans x3.size x11.size) x13.size); omega)
 refine p_nil (t_norm (c_seq (c_quiet (qv (iJ 0) (fun _ x' => x_assign rfl rfl) ?_))))
 exact q_nil (fun w42 x43 => t_norm (c_ret (c_done rfl rfl (.inr ⟨full_no hN c5, rfl, A28, c29, _, hN.put (s' := addP s m) (z := (m, p16)) (((((x3.trans x11).trans x13).trans x18).trans x23).trans x27) (((Off.store s32).trans (Off.store s38)).trans (Off.of x43 _)) (b37.ext x43) (((ho26.far s32 ((((((hN.box.ext x3).ext x11).ext x13).ext x18).ext x23).ext x27) (by decide)).far s38 b31 (by decide)).ext x43) (hc41.ext x43) (fun ad h => Nat.le_trans (Nat.le_trans (Nat.le_trans x3.size x11.size) x13.size) (fa19 ad h)) (fun ad h => Nat.le_trans (Nat.le_trans (Nat.le_trans x3.size x11.size) x13.size) (fb20 ad h)) ⟨fun ad h => Nat.lt_of_lt_of_le (fa19l ad h) (Nat.le_trans (Nat.le_trans (Nat.le_trans (Nat.le_trans x23.size x27.size) (Nat.le_of_eq s32.size.symm)) (Nat.le_of_eq s38.size.symm)) x43.size), fun ad h => Nat.lt_of_lt_of_le (fb20l ad h) (Nat.le_trans (Nat.le_trans (Nat.le_trans (Nat.le_trans x23.size x27.size) (Nat.le_of_eq s32.size.symm)) (Nat.le_of_eq s38.size.symm)) x43.size)⟩ hs rfl rfl (by have q := of_decide_eq_false c5; simpa using q), (Off.trans (Off.of (((((x3.trans x11).trans x13).trans x18).trans x23).trans x27) _) (((Off.store s32).trans (Off.store s38)).trans (Off.of x43 _))), keeps_put (((ho26.far s32 ((((((hN.box.ext x3).ext x11).ext x13).ext x18).ext x23).ext x27) (by decide)).far s38 b31 (by decide)).ext x43) (fun ad h => Nat.le_trans (Nat.le_trans (Nat.le_trans x3.size x11.size) x13.size) (fa19 ad h)) (fun ad h => Nat.le_trans (Nat.le_trans (Nat.le_trans x3.size x11.size) x13.size) (fb20 ad h))⟩))))
theorem C_out (w : World) (g : Nat) (s : PN) (A : Option Addr) (c : Nat) (zs : List (Msg × Ptr)) (hN : NetIn 74 w g s A c zs) (k : Int) (hk : 0 ≤ k ∧ k < (s.l.length : Int)) :
    Calls Try.prog 29 #[.pointer (some (⟨g, 0, none⟩)), .int .i64 k] w (fun e w' => e = .returned (.tuple #[]) ∧ ∃ A' c' zs', NetIn 74 w' g ⟨s.sent, s.came, s.lost, outL s.l k.toNat, s.room⟩ A' c' zs' ∧ Off g w w' ∧ Keeps w A zs A' zs') := by
 have hgl := hN.box.lt
 have hle := hN.le
 have hlr := hN.room
 have hr2 := hN.r2
 have hml := hN.len
 have hmx := hN.mx
 obtain ⟨K, rfl⟩ := Int.eq_ofNat_of_zero_le hk.1
 have hK : K < zs.length := by have := hk.2; omega
 refine c_enter (n := 25) Try.func29 rfl rfl rfl ?_
 refine c_seq (c_plain (p_build00 el_22 rfl rfl rfl (fun w1 b2 x3 z4 => ?_)))
 refine pv (pJ g) (x_move rfl rfl) ?_
 refine pv (pJ g) (x_nilCheck rfl rfl) ?_
 refine pv (.pointer (some (⟨g, 3, none⟩))) (x_fieldAddr fld_74_1 rfl rfl rfl) ?_
 refine pv (.slice A zs.length c) (x_load rfl rfl ((hN.box.ext x3).one one_22 rfl)) ?_
 refine pv (iJ (K : Int)) (x_move rfl rfl) ?_
 refine pv (.slice A K c) (x_sliceHi (h := K) sl_22 rfl rfl rfl (by omega)) ?_
 have hpl10 : K = (zs.take K).length := by simp <;> omega
 refine p_appendOR0 (dd := kMz) (f := fMz) (B := w.heap.size) (ys := (zs.take K)) el_22 rfl rfl rfl rfl (Own.box0 _ _ b2 (Nat.le_refl _)) (Eq.trans (show _ = Value.slice A K c from rfl) (congrArg (fun q => Value.slice A q c) hpl10)) ((hN.lies.ext x3).take K) (fun _ => rfl) (fun _ _ h => h) (fun _ => rfl) (by simp; omega) (by simp; omega) x3.size (fun A8 c9 w5 ho6 kp7 kp7o => ?_)
 refine pv (.slice A8 ((zs.take K).length) c9) (x_assign rfl rfl) ?_
 refine p_nil (t_norm (c_plain (pv (pJ g) (x_move rfl rfl) ?_)))
 refine pv (.slice A8 ((zs.take K).length) c9) (x_move rfl rfl) ?_
 refine pv (pJ g) (x_move rfl rfl) ?_
 refine pv (pJ g) (x_nilCheck rfl rfl) ?_
 refine pv (.pointer (some (⟨g, 3, none⟩))) (x_fieldAddr fld_74_1 rfl rfl rfl) ?_
 refine pv (.slice A zs.length c) (x_load rfl rfl (((hN.box.ext x3).kept kp7 (by decide)).one one_22 rfl)) ?_
 refine pv (iJ (K : Int)) (x_move rfl rfl) ?_
 refine pv (iJ ((K : Int) + 1)) (x_add rfl rfl rfl (wrap_of (by omega) (by omega))) ?_
 refine pv (.slice (dropA A c (K + 1) 30) (zs.length - (K + 1)) (c - (K + 1))) (x_sliceLo (lo := (K + 1)) sl_22 rfl rfl rfl (by omega)) ?_
 have hpl16 : zs.length - (K + 1) = (zs.drop (K + 1)).length := by simp <;> omega
 refine p_appendOR (d := kMz) (f := fMz) (B := w.heap.size) (xs := (zs.take K)) (ys := (zs.drop (K + 1))) el_22 rfl rfl rfl rfl ho6 (Eq.trans (show _ = Value.slice (dropA A c (K + 1) 30) (zs.length - (K + 1)) (c - (K + 1)) from rfl) (congrArg (fun q => Value.slice (dropA A c (K + 1) 30) q (c - (K + 1))) hpl16)) ((hN.lies.ext (x3.below (Nat.le_refl _) kp7.below)).drop (by omega)) (fun _ => rfl) (fun _ _ h => h) (fun _ => rfl) (by simp; omega) (by simp; omega) (Nat.le_trans x3.size kp7.below.size) (fun A14 c15 w11 ho12 kp13 => ?_)
 refine pv (pJ g) (x_nilCheck rfl rfl) ?_
 refine pv (.pointer (some (⟨g, 3, none⟩))) (x_fieldAddr fld_74_1 rfl rfl rfl) ?_
 refine p_store (v := .slice A14 (List.length (α := (Msg × Ptr)) ((zs.take K) ++ (zs.drop (K + 1)))) c15) (vs := [.slice A14 (List.length (α := (Msg × Ptr)) ((zs.take K) ++ (zs.drop (K + 1)))) c15]) (cs' := [iJ s.sent, iJ s.came, iJ s.lost, .slice A14 (List.length (α := (Msg × Ptr)) ((zs.take K) ++ (zs.drop (K + 1)))) c15, iJ s.room]) rfl rfl rfl rfl rfl rfl (((hN.box.ext x3).kept kp7 (by decide)).kept kp13 (by decide)) size_22 rfl rfl rfl (fun w17 b18 s19 => ?_)
 exact p_nil (c_done0 (fn := _) rfl ⟨rfl, A14, c15, _, hN.out (s' := ⟨s.sent, s.came, s.lost, outL s.l K, s.room⟩) (k := K) ((((Below.refl _ _).trans (x3.mono (Nat.le_refl _))).trans kp7.below).trans kp13.below) (Off.store s19) b18 (ho12.far s19 (((hN.box.ext x3).kept kp7 (by decide)).kept kp13 (by decide)) (by decide)) rfl rfl, (Off.trans (Off.of ((((Below.refl _ _).trans (x3.mono (Nat.le_refl _))).trans kp7.below).trans kp13.below) _) (Off.store s19)), keeps_out (ho12.far s19 (((hN.box.ext x3).kept kp7 (by decide)).kept kp13 (by decide)) (by decide))⟩)
end Go.Proofs.Ytadeigpphklmfaa
