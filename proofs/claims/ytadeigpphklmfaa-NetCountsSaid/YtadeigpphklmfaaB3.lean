/- A walk through the code of layers below, or of layer 10. -/
import Derived.Test.YtadeigpphklmfaaDos
import Derived.Test.YtadeigpphklmfaaDrs
import Derived.Test.YtadeigpphklmfaaPan
import Derived.Test.YtadeigpphklmfaaB2
namespace Go.Proofs.Ytadeigpphklmfaa
open Go.RowKit Go.Eng
set_option linter.unusedVariables false
set_option linter.unusedSimpArgs false
theorem N_send (w : World) (m : Msg) (p : Ptr) (hm : CmdAt w m.r.cmd p) (hs : Slim m.r.cmd) :
    Calls Try.prog 12 #[.pointer none, vMsg m p] w (Ret w (.int .i64 1)) := by
 refine c_enter (n := 41) Try.func12 rfl rfl rfl ?_
 refine c_seq (c_plain (p_box rfl rfl rfl rfl (fun w1 b2 x3 z4 => ?_)))
 refine pv (iJ 0) (x_assign rfl rfl) ?_
 refine p_nil (t_norm (c_seq (c_seq (c_quiet (qv (.pointer none) (fun _ x' => x_move rfl rfl) ?_)))))
 refine qv (.bool true) (fun _ x' => x_peqN ptr_23 rfl rfl rfl) ?_
 refine qv (.bool true) (fun _ x' => x_move rfl rfl) ?_
 refine qk rfl rfl (qk rfl rfl (qk rfl rfl (qv (.bool true) (fun _ x' => x_pick_t rfl rfl rfl) ?_)))
 refine q_nil (fun w5 x6 => t_norm (c_true rfl (c_seq (c_quiet (qv (iJ 1) (fun _ x' => x_assign rfl rfl) ?_)))))
 exact q_nil (fun w7 x8 => t_norm (c_ret (t_ret (c_done rfl rfl (Ret.i (rfl) ((x3.trans x6).trans x8))))))
theorem C_send (w : World) (g : Nat) (s : PN) (A : Option Addr) (c : Nat) (zs : List (Msg × Ptr)) (hN : NetIn 74 w g s A c zs) (ht : Tame s) (m : Msg) (p : Ptr) (hm : CmdAt w m.r.cmd p) (hs : Slim m.r.cmd) :
    Calls Try.prog 12 #[.pointer (some (⟨g, 0, none⟩)), vMsg m p] w (fun e w' => ∃ A' c' zs', e = .returned (.int .i64 (sendP s m).2) ∧ NetIn 74 w' g (sendP s m).1 A' c' zs' ∧ Off g w w' ∧ Keeps w A zs A' zs') := by
 have hgl := hN.box.lt
 have hle := hN.le
 have hlr := hN.room
 have hr2 := hN.r2
 have hml := hN.len
 have hmx := hN.mx
 have ht0 := ht
 obtain ⟨ht1, ht2, ht3, ht4, ht5, ht6⟩ := ht0
 refine c_enter (n := 41) Try.func12 rfl rfl rfl ?_
 refine c_seq (c_plain (p_box rfl rfl rfl rfl (fun w1 b2 x3 z4 => ?_)))
 refine pv (iJ 0) (x_assign rfl rfl) ?_
 refine p_nil (t_norm (c_seq (c_seq (c_quiet (qv (pJ g) (fun _ x' => x_move rfl rfl) ?_)))))
 refine qv (.bool false) (fun _ x' => x_peqS ptr_23 rfl rfl rfl) ?_
 refine qv (.bool false) (fun _ x' => x_move rfl rfl) ?_
 refine qv (vMsg m p) (fun _ x' => x_load rfl rfl ((b2.ext x').agg (vs := [iJ m.kind, iJ m.src, iJ m.dst, iJ m.ballot.number, iJ m.ballot.replica, iJ m.r.inst.replica, iJ m.r.inst.slot, iJ m.r.status, iJ m.r.promise.number, iJ m.r.promise.replica, iJ m.r.ballot.number, iJ m.r.ballot.replica, iJ m.r.cmd.kind, iJ m.r.cmd.txn.client, iJ m.r.cmd.txn.number, iJ m.r.cmd.stp.time, iJ m.r.cmd.stp.client, iJ m.r.cmd.shards, .slice p.A m.r.cmd.reads.length p.n, .slice p.B m.r.cmd.writes.length p.m, .bool m.r.cmd.commit, iJ m.r.seq, iJ m.r.deps.d0, iJ m.r.deps.d1, iJ m.r.deps.d2, iJ m.r.deps.d3, iJ m.r.deps.d4, iJ m.r.deps.d5, iJ m.r.deps.d6, .bool m.r.kept]) agg_43_30 rfl)) ?_
 refine q_callb (b := rightMsg m) (vs := #[vMsg m p]) fn_27 rfl rfl rfl (args1 rfl) (fun _ x' => C_rightMsg _ m p ((hm.ext x3).ext x') hs) (fun c5 => ?_) (fun c5 => ?_)
 ·refine qv (.bool false) (fun _ x' => x_not (b := true) rfl rfl) ?_
  refine qv (.bool false) (fun _ x' => x_pick_f rfl rfl rfl) ?_
  refine q_nil (fun w6 x7 => t_norm (c_false rfl (c_skip (t_norm (c_seq (c_plain (pv (pJ g) (x_move rfl rfl) ?_)))))))
  refine pv (vMsg m p) (x_load rfl rfl ((b2.ext x7).agg (vs := [iJ m.kind, iJ m.src, iJ m.dst, iJ m.ballot.number, iJ m.ballot.replica, iJ m.r.inst.replica, iJ m.r.inst.slot, iJ m.r.status, iJ m.r.promise.number, iJ m.r.promise.replica, iJ m.r.ballot.number, iJ m.r.ballot.replica, iJ m.r.cmd.kind, iJ m.r.cmd.txn.client, iJ m.r.cmd.txn.number, iJ m.r.cmd.stp.time, iJ m.r.cmd.stp.client, iJ m.r.cmd.shards, .slice p.A m.r.cmd.reads.length p.n, .slice p.B m.r.cmd.writes.length p.m, .bool m.r.cmd.commit, iJ m.r.seq, iJ m.r.deps.d0, iJ m.r.deps.d1, iJ m.r.deps.d2, iJ m.r.deps.d3, iJ m.r.deps.d4, iJ m.r.deps.d5, iJ m.r.deps.d6, .bool m.r.kept]) agg_43_30 rfl)) ?_
  refine p_call (vs := #[pJ g, vMsg m p]) fn_28 rfl rfl rfl (args2 rfl rfl) ?_
  refine (C_put _ g s A c zs (hN.ext (x3.trans x7)) ht m p ((hm.ext x3).ext x7) hs).mono ?_
  rintro e w8 (⟨hf9, rfl, hN10, o11⟩ | ⟨hf9, rfl, A12, c13, zs14, hN10, o11, hN10k⟩)
  ·refine ⟨_, rfl, ?_⟩
   refine pv (iJ 7) (x_assign rfl rfl) ?_
   refine p_nil (t_norm (c_seq (c_seq (c_quiet (qv (iJ 7) (fun _ x' => x_move rfl rfl) ?_)))))
   refine qv (.bool true) (fun _ x' => yb (x_neq rfl rfl rfl) rfl) ?_
   refine q_nil (fun w15 x16 => t_norm (c_true rfl (c_seq (c_plain (pv (pJ g) (x_move rfl rfl) ?_)))))
   refine pv (pJ g) (x_nilCheck rfl rfl) ?_
   refine pv (pJ g) (x_fieldAddr fld_74_0 rfl rfl rfl) ?_
   refine pv (pJ g) (x_fieldAddr fld_72_0 rfl rfl rfl) ?_
   refine pv (pJ g) (x_fieldAddr fld_66_0 rfl rfl rfl) ?_
   refine pv (iJ s.sent) (x_load rfl rfl (((((hN.box.ext x3).ext x7).ext o11).ext x16).one one_3 rfl)) ?_
   refine pv (iJ (s.sent + 1)) (x_add rfl rfl rfl (wrap_of (by omega) (by omega))) ?_
   refine pv (pJ g) (x_nilCheck rfl rfl) ?_
   refine pv (pJ g) (x_fieldAddr fld_74_0 rfl rfl rfl) ?_
   refine pv (pJ g) (x_fieldAddr fld_72_0 rfl rfl rfl) ?_
   refine pv (pJ g) (x_fieldAddr fld_66_0 rfl rfl rfl) ?_
   refine p_store (v := iJ (s.sent + 1)) (vs := [iJ (s.sent + 1)]) (cs' := [iJ (s.sent + 1), iJ s.came, iJ s.lost, .slice A zs.length c, iJ s.room]) rfl rfl rfl rfl rfl rfl ((((hN.box.ext x3).ext x7).ext o11).ext x16) size_3 rfl rfl rfl (fun w17 b18 s19 => ?_)
   have b20 := (((b2.ext x7).ext o11).ext x16).far s19 (by omega)
   refine p_nil (t_norm (c_plain (pv (pJ g) (x_move rfl rfl) ?_)))
   refine pv (pJ g) (x_nilCheck rfl rfl) ?_
   refine pv (pJ g) (x_fieldAddr fld_74_0 rfl rfl rfl) ?_
   refine pv (pJ g) (x_fieldAddr fld_72_0 rfl rfl rfl) ?_
   refine pv (.pointer (some (⟨g, 2, none⟩))) (x_fieldAddr fld_66_2 rfl rfl rfl) ?_
   refine pv (iJ s.lost) (x_load rfl rfl (b18.one one_3 rfl)) ?_
   refine pv (iJ (s.lost + 1)) (x_add rfl rfl rfl (wrap_of (by omega) (by omega))) ?_
   refine pv (pJ g) (x_nilCheck rfl rfl) ?_
   refine pv (pJ g) (x_fieldAddr fld_74_0 rfl rfl rfl) ?_
   refine pv (pJ g) (x_fieldAddr fld_72_0 rfl rfl rfl) ?_
   refine pv (.pointer (some (⟨g, 2, none⟩))) (x_fieldAddr fld_66_2 rfl rfl rfl) ?_
   refine p_store (v := iJ (s.lost + 1)) (vs := [iJ (s.lost + 1)]) (cs' := [iJ (s.sent + 1), iJ s.came, iJ (s.lost + 1), .slice A zs.length c, iJ s.room]) rfl rfl rfl rfl rfl rfl b18 size_3 rfl rfl rfl (fun w21 b22 s23 => ?_)
   have b24 := b20.far s23 (by omega)
   refine p_nil (t_norm (c_seq (c_quiet (qv (iJ 7) (fun _ x' => x_move rfl rfl) ?_))))
   refine qv (iJ 7) (fun _ x' => x_assign rfl rfl) ?_
   refine q_nil (fun w25 x26 => t_norm (c_ret ?_))
   rw [send_full c5 hf9]
   exact c_done rfl rfl ⟨A, c, zs, rfl, (((hN.ext (((x3.trans x7).trans o11).trans x16)).count (s' := ⟨s.sent + 1, s.came, s.lost + 1, s.l, s.room⟩) (Ext.refl _) ((Off.store s19).trans (Off.store s23)) b22 rfl rfl).ext x26), ((((Off.of (((x3.trans x7).trans o11).trans x16) _).trans (Off.store s19)).trans (Off.store s23)).trans (Off.of x26 _)), (Keeps.refl _ _ _)⟩
  refine ⟨_, rfl, ?_⟩
  refine pv (iJ 0) (x_assign rfl rfl) ?_
  refine p_nil (t_norm (c_seq (c_seq (c_quiet (qv (iJ 0) (fun _ x' => x_move rfl rfl) ?_)))))
  refine qv (.bool false) (fun _ x' => yb (x_neq rfl rfl rfl) rfl) ?_
  refine q_nil (fun w27 x28 => t_norm (c_false rfl (c_skip (t_norm (c_seq (c_quiet (qv (iJ 0) (fun _ x' => x_move rfl rfl) ?_)))))))
  refine qv (iJ 0) (fun _ x' => x_assign rfl rfl) ?_
  refine q_nil (fun w29 x30 => t_norm (c_ret ?_))
  rw [send_add c5 hf9]
  exact c_done rfl rfl ⟨A12, c13, zs14, rfl, (hN10.ext (x28.trans x30)), (((Off.of (x3.trans x7) _).trans o11).trans (Off.of (x28.trans x30) _)), ((Keeps.refl _ _ _).trans hN10k (Nat.le_trans x3.size x7.size))⟩
 refine qv (.bool true) (fun _ x' => x_not (b := false) rfl rfl) ?_
 refine qv (.bool true) (fun _ x' => x_pick_f rfl rfl rfl) ?_
 refine q_nil (fun w31 x32 => t_norm (c_true rfl (c_seq (c_quiet (qv (iJ 1) (fun _ x' => x_assign rfl rfl) ?_)))))
 refine q_nil (fun w33 x34 => t_norm (c_ret (t_ret ?_)))
 rw [send_no c5]
 exact c_done rfl rfl ⟨A, c, zs, rfl, (hN.ext ((x3.trans x32).trans x34)), (Off.of ((x3.trans x32).trans x34) _), (Keeps.refl _ _ _)⟩
theorem N_take (w : World) (k : Int) :
    Calls Try.prog 13 #[.pointer none, .int .i64 k] w (Ret w (.tuple #[.agg #[.int .i64 0, .int .i64 0, .int .i64 0, .int .i64 0, .int .i64 0, .int .i64 0, .int .i64 0, .int .i64 0, .int .i64 0, .int .i64 0, .int .i64 0, .int .i64 0, .int .i64 0, .int .i64 0, .int .i64 0, .int .i64 0, .int .i64 0, .int .i64 0, .slice none 0 0, .slice none 0 0, .bool false, .int .i64 0, .int .i64 0, .int .i64 0, .int .i64 0, .int .i64 0, .int .i64 0, .int .i64 0, .int .i64 0, .bool false], .int .i64 1])) := by
 refine c_enter (n := 32) Try.func13 rfl rfl rfl ?_
 refine c_seq (c_plain (p_alloc (cs := [iJ 0, iJ 0, iJ 0, iJ 0, iJ 0, iJ 0, iJ 0, iJ 0, iJ 0, iJ 0, iJ 0, iJ 0, iJ 0, iJ 0, iJ 0, iJ 0, iJ 0, iJ 0, .slice none 0 0, .slice none 0 0, .bool false, iJ 0, iJ 0, iJ 0, iJ 0, iJ 0, iJ 0, iJ 0, iJ 0, .bool false]) rfl rfl rfl zero_43 rfl (fun w1 b2 x3 z4 => ?_)))
 refine pv (iJ 0) (x_assign rfl rfl) ?_
 refine p_nil (t_norm (c_seq (c_plain (pv (.pointer none) (x_move rfl rfl) ?_))))
 refine pv (iJ k) (x_move rfl rfl) ?_
 refine p_call (vs := #[.pointer none, iJ k]) fn_24 rfl rfl rfl (args2 rfl rfl) ?_
 refine (N_look _ k).mono ?_
 rintro e w5 ⟨rfl, x8⟩
 refine ⟨_, rfl, ?_⟩
 refine pv (.tuple #[.agg #[iJ 0, iJ 0, iJ 0, iJ 0, iJ 0, iJ 0, iJ 0, iJ 0, iJ 0, iJ 0, iJ 0, iJ 0, iJ 0, iJ 0, iJ 0, iJ 0, iJ 0, iJ 0, .slice none 0 0, .slice none 0 0, .bool false, iJ 0, iJ 0, iJ 0, iJ 0, iJ 0, iJ 0, iJ 0, iJ 0, .bool false], iJ 1]) (x_move rfl rfl) ?_
 refine pv (.agg #[iJ 0, iJ 0, iJ 0, iJ 0, iJ 0, iJ 0, iJ 0, iJ 0, iJ 0, iJ 0, iJ 0, iJ 0, iJ 0, iJ 0, iJ 0, iJ 0, iJ 0, iJ 0, .slice none 0 0, .slice none 0 0, .bool false, iJ 0, iJ 0, iJ 0, iJ 0, iJ 0, iJ 0, iJ 0, iJ 0, .bool false]) (x_extract rfl rfl rfl) ?_
 refine pv (iJ 1) (x_extract rfl rfl rfl) ?_
 refine p_var (v := .agg #[iJ 0, iJ 0, iJ 0, iJ 0, iJ 0, iJ 0, iJ 0, iJ 0, iJ 0, iJ 0, iJ 0, iJ 0, iJ 0, iJ 0, iJ 0, iJ 0, iJ 0, iJ 0, .slice none 0 0, .slice none 0 0, .bool false, iJ 0, iJ 0, iJ 0, iJ 0, iJ 0, iJ 0, iJ 0, iJ 0, .bool false]) (vs := [iJ 0, iJ 0, iJ 0, iJ 0, iJ 0, iJ 0, iJ 0, iJ 0, iJ 0, iJ 0, iJ 0, iJ 0, iJ 0, iJ 0, iJ 0, iJ 0, iJ 0, iJ 0, .slice none 0 0, .slice none 0 0, .bool false, iJ 0, iJ 0, iJ 0, iJ 0, iJ 0, iJ 0, iJ 0, iJ 0, .bool false]) rfl rfl rfl zero_43 rfl rfl rfl rfl rfl rfl rfl size_43 rfl (fun w11 b12 x13 z14 => ?_)
 refine pv (iJ 1) (x_assign rfl rfl) ?_
 refine p_nil (t_norm (c_seq (c_seq (c_quiet (qv (iJ 1) (fun _ x' => x_move rfl rfl) ?_)))))
 refine qv (.bool false) (fun _ x' => yb (x_eql rfl rfl rfl) rfl) ?_
 refine q_nil (fun w15 x16 => t_norm (c_false rfl (c_skip (t_norm (c_seq (c_plain (pv (.agg #[iJ 0, iJ 0, iJ 0, iJ 0, iJ 0, iJ 0, iJ 0, iJ 0, iJ 0, iJ 0, iJ 0, iJ 0, iJ 0, iJ 0, iJ 0, iJ 0, iJ 0, iJ 0, .slice none 0 0, .slice none 0 0, .bool false, iJ 0, iJ 0, iJ 0, iJ 0, iJ 0, iJ 0, iJ 0, iJ 0, .bool false]) (x_load rfl rfl ((b12.ext x16).agg (vs := [iJ 0, iJ 0, iJ 0, iJ 0, iJ 0, iJ 0, iJ 0, iJ 0, iJ 0, iJ 0, iJ 0, iJ 0, iJ 0, iJ 0, iJ 0, iJ 0, iJ 0, iJ 0, .slice none 0 0, .slice none 0 0, .bool false, iJ 0, iJ 0, iJ 0, iJ 0, iJ 0, iJ 0, iJ 0, iJ 0, .bool false]) agg_43_30 rfl)) ?_)))))))
 refine pv (iJ 1) (x_move rfl rfl) ?_
 refine p_store (v := .agg #[iJ 0, iJ 0, iJ 0, iJ 0, iJ 0, iJ 0, iJ 0, iJ 0, iJ 0, iJ 0, iJ 0, iJ 0, iJ 0, iJ 0, iJ 0, iJ 0, iJ 0, iJ 0, .slice none 0 0, .slice none 0 0, .bool false, iJ 0, iJ 0, iJ 0, iJ 0, iJ 0, iJ 0, iJ 0, iJ 0, .bool false]) (vs := [iJ 0, iJ 0, iJ 0, iJ 0, iJ 0, iJ 0, iJ 0, iJ 0, iJ 0, iJ 0, iJ 0, iJ 0, iJ 0, iJ 0, iJ 0, iJ 0, iJ 0, iJ 0, .slice none 0 0, .slice none 0 0, .bool false, iJ 0, iJ 0, iJ 0, iJ 0, iJ 0, iJ 0, iJ 0, iJ 0, .bool false]) (cs' := [iJ 0, iJ 0, iJ 0, iJ 0, iJ 0, iJ 0, iJ 0, iJ 0, iJ 0, iJ 0, iJ 0, iJ 0, iJ 0, iJ 0, iJ 0, iJ 0, iJ 0, iJ 0, .slice none 0 0, .slice none 0 0, .bool false, iJ 0, iJ 0, iJ 0, iJ 0, iJ 0, iJ 0, iJ 0, iJ 0, .bool false]) rfl rfl rfl rfl rfl rfl (((b2.ext x8).ext x13).ext x16) size_43 rfl rfl rfl (fun w17 b18 s19 => ?_)
 have b20 := (b12.ext x16).far s19 (by have hz := x8.size; omega)
 refine pv (iJ 1) (x_assign rfl rfl) ?_
 exact p_nil (t_norm (c_ret (c_doneC2 rfl rfl rfl (b18.agg (vs := [iJ 0, iJ 0, iJ 0, iJ 0, iJ 0, iJ 0, iJ 0, iJ 0, iJ 0, iJ 0, iJ 0, iJ 0, iJ 0, iJ 0, iJ 0, iJ 0, iJ 0, iJ 0, .slice none 0 0, .slice none 0 0, .bool false, iJ 0, iJ 0, iJ 0, iJ 0, iJ 0, iJ 0, iJ 0, iJ 0, .bool false]) agg_43_30 rfl) ⟨rfl, ((((x3.trans x8).trans x13).trans x16).stored (Nat.le_refl _) s19)⟩)))
theorem C_take (w : World) (g : Nat) (s : PN) (A : Option Addr) (c : Nat) (zs : List (Msg × Ptr)) (hN : NetIn 74 w g s A c zs) (ht : Tame s) (k : Int) :
    Calls Try.prog 13 #[.pointer (some (⟨g, 0, none⟩)), .int .i64 k] w (fun e w' => ∃ A' c' zs', ∃ p' : Ptr, e = .returned (.tuple #[vMsg (takeP s k).2.1 p', .int .i64 (takeP s k).2.2]) ∧ CmdAt w' (takeP s k).2.1.r.cmd p' ∧ NetIn 74 w' g (takeP s k).1 A' c' zs' ∧ Off g w w' ∧ Keeps w A zs A' zs' ∧ (∀ ad, p'.A = some ad → w.heap.size ≤ ad.block) ∧ (∀ ad, p'.B = some ad → w.heap.size ≤ ad.block)) := by
 have hgl := hN.box.lt
 have hle := hN.le
 have hlr := hN.room
 have hr2 := hN.r2
 have hml := hN.len
 have hmx := hN.mx
 have ht0 := ht
 obtain ⟨ht1, ht2, ht3, ht4, ht5, ht6⟩ := ht0
 refine c_enter (n := 32) Try.func13 rfl rfl rfl ?_
 refine c_seq (c_plain (p_alloc (cs := [iJ 0, iJ 0, iJ 0, iJ 0, iJ 0, iJ 0, iJ 0, iJ 0, iJ 0, iJ 0, iJ 0, iJ 0, iJ 0, iJ 0, iJ 0, iJ 0, iJ 0, iJ 0, .slice none 0 0, .slice none 0 0, .bool false, iJ 0, iJ 0, iJ 0, iJ 0, iJ 0, iJ 0, iJ 0, iJ 0, .bool false]) rfl rfl rfl zero_43 rfl (fun w1 b2 x3 z4 => ?_)))
 refine pv (iJ 0) (x_assign rfl rfl) ?_
 refine p_nil (t_norm (c_seq (c_plain (pv (pJ g) (x_move rfl rfl) ?_))))
 refine pv (iJ k) (x_move rfl rfl) ?_
 refine p_call (vs := #[pJ g, iJ k]) fn_24 rfl rfl rfl (args2 rfl rfl) ?_
 refine (C_look _ g s A c zs (hN.ext x3) k).mono ?_
 rintro e w5 ⟨p6, rfl, hc7, x8, fa9, fb10, fb10o⟩
 refine ⟨_, rfl, ?_⟩
 refine pv (.tuple #[vMsg ((lookP s k).1) p6, iJ ((lookP s k).2)]) (x_move rfl rfl) ?_
 refine pv (vMsg ((lookP s k).1) p6) (x_extract rfl rfl rfl) ?_
 refine pv (iJ ((lookP s k).2)) (x_extract rfl rfl rfl) ?_
 refine p_var (v := vMsg ((lookP s k).1) p6) (vs := [iJ ((lookP s k).1.kind), iJ ((lookP s k).1.src), iJ ((lookP s k).1.dst), iJ ((lookP s k).1.ballot.number), iJ ((lookP s k).1.ballot.replica), iJ ((lookP s k).1.r.inst.replica), iJ ((lookP s k).1.r.inst.slot), iJ ((lookP s k).1.r.status), iJ ((lookP s k).1.r.promise.number), iJ ((lookP s k).1.r.promise.replica), iJ ((lookP s k).1.r.ballot.number), iJ ((lookP s k).1.r.ballot.replica), iJ ((lookP s k).1.r.cmd.kind), iJ ((lookP s k).1.r.cmd.txn.client), iJ ((lookP s k).1.r.cmd.txn.number), iJ ((lookP s k).1.r.cmd.stp.time), iJ ((lookP s k).1.r.cmd.stp.client), iJ ((lookP s k).1.r.cmd.shards), .slice p6.A ((lookP s k).1.r.cmd.reads.length) p6.n, .slice p6.B ((lookP s k).1.r.cmd.writes.length) p6.m, .bool ((lookP s k).1.r.cmd.commit), iJ ((lookP s k).1.r.seq), iJ ((lookP s k).1.r.deps.d0), iJ ((lookP s k).1.r.deps.d1), iJ ((lookP s k).1.r.deps.d2), iJ ((lookP s k).1.r.deps.d3), iJ ((lookP s k).1.r.deps.d4), iJ ((lookP s k).1.r.deps.d5), iJ ((lookP s k).1.r.deps.d6), .bool ((lookP s k).1.r.kept)]) rfl rfl rfl zero_43 rfl rfl rfl rfl rfl rfl rfl size_43 rfl (fun w11 b12 x13 z14 => ?_)
 refine pv (iJ ((lookP s k).2)) (x_assign rfl rfl) ?_
 refine p_nil (t_norm (c_seq (c_seq (c_quiet (qv (iJ ((lookP s k).2)) (fun _ x' => x_move rfl rfl) ?_)))))
 refine q_bool (b := decide ((lookP s k).2 = 0)) rfl rfl (fun _ x' => x_eql rfl rfl rfl) (fun c15 => ?_) (fun c15 => ?_)
 ·refine q_nil (fun w16 x17 => t_norm (c_true rfl (c_seq (c_plain (pv (pJ g) (x_move rfl rfl) ?_)))))
  refine pv (iJ k) (x_move rfl rfl) ?_
  refine p_call (vs := #[pJ g, iJ k]) fn_29 rfl rfl rfl (args2 rfl rfl) ?_
  refine (C_out _ g s A c zs (hN.ext (((x3.trans x8).trans x13).trans x17)) k (look_in c15)).mono ?_
  rintro e w18 ⟨rfl, A21, c22, zs23, hN19, o20, hN19k⟩
  refine ⟨_, rfl, ?_⟩
  have hc24 := ((hc7.ext x13).ext x17).off o20 ⟨fun ad h => by have hf := fa9 ad h; have hz := x3.size; omega, fun ad h => by have hf := fb10 ad h; have hz := x3.size; omega⟩
  refine p_nil (t_norm (c_plain (pv (pJ g) (x_move rfl rfl) ?_)))
  refine pv (pJ g) (x_nilCheck rfl rfl) ?_
  refine pv (pJ g) (x_fieldAddr fld_74_0 rfl rfl rfl) ?_
  refine pv (pJ g) (x_fieldAddr fld_72_0 rfl rfl rfl) ?_
  refine pv (.pointer (some (⟨g, 1, none⟩))) (x_fieldAddr fld_66_1 rfl rfl rfl) ?_
  refine pv (iJ s.came) (x_load rfl rfl (hN19.box.one one_3 rfl)) ?_
  refine pv (iJ (s.came + 1)) (x_add rfl rfl rfl (wrap_of (by omega) (by omega))) ?_
  refine pv (pJ g) (x_nilCheck rfl rfl) ?_
  refine pv (pJ g) (x_fieldAddr fld_74_0 rfl rfl rfl) ?_
  refine pv (pJ g) (x_fieldAddr fld_72_0 rfl rfl rfl) ?_
  refine pv (.pointer (some (⟨g, 1, none⟩))) (x_fieldAddr fld_66_1 rfl rfl rfl) ?_
  refine p_store (v := iJ (s.came + 1)) (vs := [iJ (s.came + 1)]) (cs' := [iJ s.sent, iJ (s.came + 1), iJ s.lost, .slice A21 zs23.length c22, iJ s.room]) rfl rfl rfl rfl rfl rfl hN19.box size_3 rfl rfl rfl (fun w25 b26 s27 => ?_)
  have b28 := ((((b2.ext x8).ext x13).ext x17).off ((((hN.box.ext x3).ext x8).ext x13).ext x17) o20 (by decide)).far s27 (by omega)
  have b29 := ((b12.ext x17).off ((((hN.box.ext x3).ext x8).ext x13).ext x17) o20 (by decide)).far s27 (by have hz := (Nat.le_trans x3.size x8.size); omega)
  have hc30 := hc24.far s27 (fun ad h => by have hf := fa9 ad h; have hz := x3.size; omega) (fun ad h => by have hf := fb10 ad h; have hz := x3.size; omega)
  refine p_nil (t_norm (c_seq (c_plain (pv (vMsg ((lookP s k).1) p6) (x_load rfl rfl (b29.agg (vs := [iJ ((lookP s k).1.kind), iJ ((lookP s k).1.src), iJ ((lookP s k).1.dst), iJ ((lookP s k).1.ballot.number), iJ ((lookP s k).1.ballot.replica), iJ ((lookP s k).1.r.inst.replica), iJ ((lookP s k).1.r.inst.slot), iJ ((lookP s k).1.r.status), iJ ((lookP s k).1.r.promise.number), iJ ((lookP s k).1.r.promise.replica), iJ ((lookP s k).1.r.ballot.number), iJ ((lookP s k).1.r.ballot.replica), iJ ((lookP s k).1.r.cmd.kind), iJ ((lookP s k).1.r.cmd.txn.client), iJ ((lookP s k).1.r.cmd.txn.number), iJ ((lookP s k).1.r.cmd.stp.time), iJ ((lookP s k).1.r.cmd.stp.client), iJ ((lookP s k).1.r.cmd.shards), .slice p6.A ((lookP s k).1.r.cmd.reads.length) p6.n, .slice p6.B ((lookP s k).1.r.cmd.writes.length) p6.m, .bool ((lookP s k).1.r.cmd.commit), iJ ((lookP s k).1.r.seq), iJ ((lookP s k).1.r.deps.d0), iJ ((lookP s k).1.r.deps.d1), iJ ((lookP s k).1.r.deps.d2), iJ ((lookP s k).1.r.deps.d3), iJ ((lookP s k).1.r.deps.d4), iJ ((lookP s k).1.r.deps.d5), iJ ((lookP s k).1.r.deps.d6), .bool ((lookP s k).1.r.kept)]) agg_43_30 rfl)) ?_))))
  refine pv (iJ ((lookP s k).2)) (x_move rfl rfl) ?_
  refine p_store (v := vMsg ((lookP s k).1) p6) (vs := [iJ ((lookP s k).1.kind), iJ ((lookP s k).1.src), iJ ((lookP s k).1.dst), iJ ((lookP s k).1.ballot.number), iJ ((lookP s k).1.ballot.replica), iJ ((lookP s k).1.r.inst.replica), iJ ((lookP s k).1.r.inst.slot), iJ ((lookP s k).1.r.status), iJ ((lookP s k).1.r.promise.number), iJ ((lookP s k).1.r.promise.replica), iJ ((lookP s k).1.r.ballot.number), iJ ((lookP s k).1.r.ballot.replica), iJ ((lookP s k).1.r.cmd.kind), iJ ((lookP s k).1.r.cmd.txn.client), iJ ((lookP s k).1.r.cmd.txn.number), iJ ((lookP s k).1.r.cmd.stp.time), iJ ((lookP s k).1.r.cmd.stp.client), iJ ((lookP s k).1.r.cmd.shards), .slice p6.A ((lookP s k).1.r.cmd.reads.length) p6.n, .slice p6.B ((lookP s k).1.r.cmd.writes.length) p6.m, .bool ((lookP s k).1.r.cmd.commit), iJ ((lookP s k).1.r.seq), iJ ((lookP s k).1.r.deps.d0), iJ ((lookP s k).1.r.deps.d1), iJ ((lookP s k).1.r.deps.d2), iJ ((lookP s k).1.r.deps.d3), iJ ((lookP s k).1.r.deps.d4), iJ ((lookP s k).1.r.deps.d5), iJ ((lookP s k).1.r.deps.d6), .bool ((lookP s k).1.r.kept)]) (cs' := [iJ ((lookP s k).1.kind), iJ ((lookP s k).1.src), iJ ((lookP s k).1.dst), iJ ((lookP s k).1.ballot.number), iJ ((lookP s k).1.ballot.replica), iJ ((lookP s k).1.r.inst.replica), iJ ((lookP s k).1.r.inst.slot), iJ ((lookP s k).1.r.status), iJ ((lookP s k).1.r.promise.number), iJ ((lookP s k).1.r.promise.replica), iJ ((lookP s k).1.r.ballot.number), iJ ((lookP s k).1.r.ballot.replica), iJ ((lookP s k).1.r.cmd.kind), iJ ((lookP s k).1.r.cmd.txn.client), iJ ((lookP s k).1.r.cmd.txn.number), iJ ((lookP s k).1.r.cmd.stp.time), iJ ((lookP s k).1.r.cmd.stp.client), iJ ((lookP s k).1.r.cmd.shards), .slice p6.A ((lookP s k).1.r.cmd.reads.length) p6.n, .slice p6.B ((lookP s k).1.r.cmd.writes.length) p6.m, .bool ((lookP s k).1.r.cmd.commit), iJ ((lookP s k).1.r.seq), iJ ((lookP s k).1.r.deps.d0), iJ ((lookP s k).1.r.deps.d1), iJ ((lookP s k).1.r.deps.d2), iJ ((lookP s k).1.r.deps.d3), iJ ((lookP s k).1.r.deps.d4), iJ ((lookP s k).1.r.deps.d5), iJ ((lookP s k).1.r.deps.d6), .bool ((lookP s k).1.r.kept)]) rfl rfl rfl rfl rfl rfl b28 size_43 rfl rfl rfl (fun w31 b32 s33 => ?_)
  have b34 := b26.far s33 (by omega)
  have b35 := b29.far s33 (by have hz := x8.size; omega)
  have hc36 := hc30.far s33 (fun ad h => by have hf := fa9 ad h; omega) (fun ad h => by have hf := fb10 ad h; omega)
  refine pv (iJ ((lookP s k).2)) (x_assign rfl rfl) ?_
  refine p_nil (t_norm (c_ret (c_doneC2 rfl rfl rfl (b32.agg (vs := [iJ ((lookP s k).1.kind), iJ ((lookP s k).1.src), iJ ((lookP s k).1.dst), iJ ((lookP s k).1.ballot.number), iJ ((lookP s k).1.ballot.replica), iJ ((lookP s k).1.r.inst.replica), iJ ((lookP s k).1.r.inst.slot), iJ ((lookP s k).1.r.status), iJ ((lookP s k).1.r.promise.number), iJ ((lookP s k).1.r.promise.replica), iJ ((lookP s k).1.r.ballot.number), iJ ((lookP s k).1.r.ballot.replica), iJ ((lookP s k).1.r.cmd.kind), iJ ((lookP s k).1.r.cmd.txn.client), iJ ((lookP s k).1.r.cmd.txn.number), iJ ((lookP s k).1.r.cmd.stp.time), iJ ((lookP s k).1.r.cmd.stp.client), iJ ((lookP s k).1.r.cmd.shards), .slice p6.A ((lookP s k).1.r.cmd.reads.length) p6.n, .slice p6.B ((lookP s k).1.r.cmd.writes.length) p6.m, .bool ((lookP s k).1.r.cmd.commit), iJ ((lookP s k).1.r.seq), iJ ((lookP s k).1.r.deps.d0), iJ ((lookP s k).1.r.deps.d1), iJ ((lookP s k).1.r.deps.d2), iJ ((lookP s k).1.r.deps.d3), iJ ((lookP s k).1.r.deps.d4), iJ ((lookP s k).1.r.deps.d5), iJ ((lookP s k).1.r.deps.d6), .bool ((lookP s k).1.r.kept)]) agg_43_30 rfl) ?_)))
  rw [take_yes c15]
  exact ⟨A21, c22, zs23, p6, rfl, hc36, ((hN19.count (s' := ⟨s.sent, s.came + 1, s.lost, outL s.l k.toNat, s.room⟩) (Ext.refl _) (Off.store s27) b26 rfl rfl).other s33 (by omega) (hN19k _ (by have hz := (Nat.le_trans (Nat.le_trans x8.size x13.size) x17.size); omega) (hN.fresh (Nat.le_refl _)))), ((((Off.of (((x3.trans x8).trans x13).trans x17) _).trans o20).trans (Off.store s27)).fresh s33 (Nat.le_refl _)), ((Keeps.refl _ _ _).trans hN19k (Nat.le_trans (Nat.le_trans (Nat.le_trans x3.size x8.size) x13.size) x17.size)), fun ad h => Nat.le_trans x3.size (fa9 ad h), fun ad h => Nat.le_trans x3.size (fb10 ad h)⟩
 refine q_nil (fun w37 x38 => t_norm (c_false rfl (c_skip (t_norm (c_seq (c_plain (pv (vMsg ((lookP s k).1) p6) (x_load rfl rfl ((b12.ext x38).agg (vs := [iJ ((lookP s k).1.kind), iJ ((lookP s k).1.src), iJ ((lookP s k).1.dst), iJ ((lookP s k).1.ballot.number), iJ ((lookP s k).1.ballot.replica), iJ ((lookP s k).1.r.inst.replica), iJ ((lookP s k).1.r.inst.slot), iJ ((lookP s k).1.r.status), iJ ((lookP s k).1.r.promise.number), iJ ((lookP s k).1.r.promise.replica), iJ ((lookP s k).1.r.ballot.number), iJ ((lookP s k).1.r.ballot.replica), iJ ((lookP s k).1.r.cmd.kind), iJ ((lookP s k).1.r.cmd.txn.client), iJ ((lookP s k).1.r.cmd.txn.number), iJ ((lookP s k).1.r.cmd.stp.time), iJ ((lookP s k).1.r.cmd.stp.client), iJ ((lookP s k).1.r.cmd.shards), .slice p6.A ((lookP s k).1.r.cmd.reads.length) p6.n, .slice p6.B ((lookP s k).1.r.cmd.writes.length) p6.m, .bool ((lookP s k).1.r.cmd.commit), iJ ((lookP s k).1.r.seq), iJ ((lookP s k).1.r.deps.d0), iJ ((lookP s k).1.r.deps.d1), iJ ((lookP s k).1.r.deps.d2), iJ ((lookP s k).1.r.deps.d3), iJ ((lookP s k).1.r.deps.d4), iJ ((lookP s k).1.r.deps.d5), iJ ((lookP s k).1.r.deps.d6), .bool ((lookP s k).1.r.kept)]) agg_43_30 rfl)) ?_)))))))
 refine pv (iJ ((lookP s k).2)) (x_move rfl rfl) ?_
 refine p_store (v := vMsg ((lookP s k).1) p6) (vs := [iJ ((lookP s k).1.kind), iJ ((lookP s k).1.src), iJ ((lookP s k).1.dst), iJ ((lookP s k).1.ballot.number), iJ ((lookP s k).1.ballot.replica), iJ ((lookP s k).1.r.inst.replica), iJ ((lookP s k).1.r.inst.slot), iJ ((lookP s k).1.r.status), iJ ((lookP s k).1.r.promise.number), iJ ((lookP s k).1.r.promise.replica), iJ ((lookP s k).1.r.ballot.number), iJ ((lookP s k).1.r.ballot.replica), iJ ((lookP s k).1.r.cmd.kind), iJ ((lookP s k).1.r.cmd.txn.client), iJ ((lookP s k).1.r.cmd.txn.number), iJ ((lookP s k).1.r.cmd.stp.time), iJ ((lookP s k).1.r.cmd.stp.client), iJ ((lookP s k).1.r.cmd.shards), .slice p6.A ((lookP s k).1.r.cmd.reads.length) p6.n, .slice p6.B ((lookP s k).1.r.cmd.writes.length) p6.m, .bool ((lookP s k).1.r.cmd.commit), iJ ((lookP s k).1.r.seq), iJ ((lookP s k).1.r.deps.d0), iJ ((lookP s k).1.r.deps.d1), iJ ((lookP s k).1.r.deps.d2), iJ ((lookP s k).1.r.deps.d3), iJ ((lookP s k).1.r.deps.d4), iJ ((lookP s k).1.r.deps.d5), iJ ((lookP s k).1.r.deps.d6), .bool ((lookP s k).1.r.kept)]) (cs' := [iJ ((lookP s k).1.kind), iJ ((lookP s k).1.src), iJ ((lookP s k).1.dst), iJ ((lookP s k).1.ballot.number), iJ ((lookP s k).1.ballot.replica), iJ ((lookP s k).1.r.inst.replica), iJ ((lookP s k).1.r.inst.slot), iJ ((lookP s k).1.r.status), iJ ((lookP s k).1.r.promise.number), iJ ((lookP s k).1.r.promise.replica), iJ ((lookP s k).1.r.ballot.number), iJ ((lookP s k).1.r.ballot.replica), iJ ((lookP s k).1.r.cmd.kind), iJ ((lookP s k).1.r.cmd.txn.client), iJ ((lookP s k).1.r.cmd.txn.number), iJ ((lookP s k).1.r.cmd.stp.time), iJ ((lookP s k).1.r.cmd.stp.client), iJ ((lookP s k).1.r.cmd.shards), .slice p6.A ((lookP s k).1.r.cmd.reads.length) p6.n, .slice p6.B ((lookP s k).1.r.cmd.writes.length) p6.m, .bool ((lookP s k).1.r.cmd.commit), iJ ((lookP s k).1.r.seq), iJ ((lookP s k).1.r.deps.d0), iJ ((lookP s k).1.r.deps.d1), iJ ((lookP s k).1.r.deps.d2), iJ ((lookP s k).1.r.deps.d3), iJ ((lookP s k).1.r.deps.d4), iJ ((lookP s k).1.r.deps.d5), iJ ((lookP s k).1.r.deps.d6), .bool ((lookP s k).1.r.kept)]) rfl rfl rfl rfl rfl rfl (((b2.ext x8).ext x13).ext x38) size_43 rfl rfl rfl (fun w39 b40 s41 => ?_)
 have b42 := (b12.ext x38).far s41 (by have hz := x8.size; omega)
 have hc43 := ((hc7.ext x13).ext x38).far s41 (fun ad h => by have hf := fa9 ad h; omega) (fun ad h => by have hf := fb10 ad h; omega)
 refine pv (iJ ((lookP s k).2)) (x_assign rfl rfl) ?_
 refine p_nil (t_norm (c_ret (c_doneC2 rfl rfl rfl (b40.agg (vs := [iJ ((lookP s k).1.kind), iJ ((lookP s k).1.src), iJ ((lookP s k).1.dst), iJ ((lookP s k).1.ballot.number), iJ ((lookP s k).1.ballot.replica), iJ ((lookP s k).1.r.inst.replica), iJ ((lookP s k).1.r.inst.slot), iJ ((lookP s k).1.r.status), iJ ((lookP s k).1.r.promise.number), iJ ((lookP s k).1.r.promise.replica), iJ ((lookP s k).1.r.ballot.number), iJ ((lookP s k).1.r.ballot.replica), iJ ((lookP s k).1.r.cmd.kind), iJ ((lookP s k).1.r.cmd.txn.client), iJ ((lookP s k).1.r.cmd.txn.number), iJ ((lookP s k).1.r.cmd.stp.time), iJ ((lookP s k).1.r.cmd.stp.client), iJ ((lookP s k).1.r.cmd.shards), .slice p6.A ((lookP s k).1.r.cmd.reads.length) p6.n, .slice p6.B ((lookP s k).1.r.cmd.writes.length) p6.m, .bool ((lookP s k).1.r.cmd.commit), iJ ((lookP s k).1.r.seq), iJ ((lookP s k).1.r.deps.d0), iJ ((lookP s k).1.r.deps.d1), iJ ((lookP s k).1.r.deps.d2), iJ ((lookP s k).1.r.deps.d3), iJ ((lookP s k).1.r.deps.d4), iJ ((lookP s k).1.r.deps.d5), iJ ((lookP s k).1.r.deps.d6), .bool ((lookP s k).1.r.kept)]) agg_43_30 rfl) ?_)))
 rw [take_no c15]
 exact ⟨A, c, zs, p6, rfl, hc43, (hN.ext ((((x3.trans x8).trans x13).trans x38).stored (Nat.le_refl _) s41)), (Off.of ((((x3.trans x8).trans x13).trans x38).stored (Nat.le_refl _) s41) _), (Keeps.refl _ _ _), fun ad h => Nat.le_trans x3.size (fa9 ad h), fun ad h => Nat.le_trans x3.size (fb10 ad h)⟩
theorem N_lose (w : World) (k : Int) :
    Calls Try.prog 25 #[.pointer none, .int .i64 k] w (Ret w (.int .i64 1)) := by
 refine c_enter (n := 26) Try.func25 rfl rfl rfl ?_
 refine c_seq (c_quiet (qv (iJ 0) (fun _ x' => x_assign rfl rfl) ?_))
 refine q_nil (fun w1 x2 => t_norm (c_seq (c_quiet (qv (.pointer none) (fun _ x' => x_move rfl rfl) ?_))))
 refine qv (iJ k) (fun _ x' => x_move rfl rfl) ?_
 refine q_call (vs := #[.pointer none, iJ k]) fn_33 rfl rfl rfl (args2 rfl rfl) (v := iJ 1) (fun _ x' => N_is _ k) ?_
 refine qv (iJ 1) (fun _ x' => x_assign rfl rfl) ?_
 refine q_nil (fun w3 x4 => t_norm (c_seq (c_seq (c_quiet (qv (iJ 1) (fun _ x' => x_move rfl rfl) ?_)))))
 refine qv (.bool false) (fun _ x' => yb (x_eql rfl rfl rfl) rfl) ?_
 refine q_nil (fun w5 x6 => t_norm (c_false rfl (c_skip (t_norm (c_seq (c_quiet (qv (iJ 1) (fun _ x' => x_move rfl rfl) ?_)))))))
 refine qv (iJ 1) (fun _ x' => x_assign rfl rfl) ?_
 exact q_nil (fun w7 x8 => t_norm (c_ret (c_done rfl rfl (Ret.i (rfl) (((x2.trans x4).trans x6).trans x8)))))
theorem C_lose (w : World) (g : Nat) (s : PN) (A : Option Addr) (c : Nat) (zs : List (Msg × Ptr)) (hN : NetIn 74 w g s A c zs) (ht : Tame s) (k : Int) :
    Calls Try.prog 25 #[.pointer (some (⟨g, 0, none⟩)), .int .i64 k] w (fun e w' => ∃ A' c' zs', e = .returned (.int .i64 (loseP s k).2) ∧ NetIn 74 w' g (loseP s k).1 A' c' zs' ∧ Off g w w' ∧ Keeps w A zs A' zs') := by
 have hgl := hN.box.lt
 have hle := hN.le
 have hlr := hN.room
 have hr2 := hN.r2
 have hml := hN.len
 have hmx := hN.mx
 have ht0 := ht
 obtain ⟨ht1, ht2, ht3, ht4, ht5, ht6⟩ := ht0
 refine c_enter (n := 26) Try.func25 rfl rfl rfl ?_
 refine c_seq (c_quiet (qv (iJ 0) (fun _ x' => x_assign rfl rfl) ?_))
 refine q_nil (fun w1 x2 => t_norm (c_seq (c_quiet (qv (pJ g) (fun _ x' => x_move rfl rfl) ?_))))
 refine qv (iJ k) (fun _ x' => x_move rfl rfl) ?_
 refine q_call (vs := #[pJ g, iJ k]) fn_33 rfl rfl rfl (args2 rfl rfl) (v := iJ (isP s k)) (fun _ x' => C_is _ g s A c zs ((hN.ext x2).ext x') k) ?_
 refine qv (iJ (isP s k)) (fun _ x' => x_assign rfl rfl) ?_
 refine q_nil (fun w3 x4 => t_norm (c_seq (c_seq (c_quiet (qv (iJ (isP s k)) (fun _ x' => x_move rfl rfl) ?_)))))
 refine q_bool (b := decide (isP s k = 0)) rfl rfl (fun _ x' => x_eql rfl rfl rfl) (fun c5 => ?_) (fun c5 => ?_)
 ·refine q_nil (fun w6 x7 => t_norm (c_true rfl (c_seq (c_plain (pv (pJ g) (x_move rfl rfl) ?_)))))
  refine pv (iJ k) (x_move rfl rfl) ?_
  refine p_call (vs := #[pJ g, iJ k]) fn_29 rfl rfl rfl (args2 rfl rfl) ?_
  refine (C_out _ g s A c zs (hN.ext ((x2.trans x4).trans x7)) k (is_yes' c5)).mono ?_
  rintro e w8 ⟨rfl, A11, c12, zs13, hN9, o10, hN9k⟩
  refine ⟨_, rfl, ?_⟩
  refine p_nil (t_norm (c_plain (pv (pJ g) (x_move rfl rfl) ?_)))
  refine pv (pJ g) (x_nilCheck rfl rfl) ?_
  refine pv (pJ g) (x_fieldAddr fld_74_0 rfl rfl rfl) ?_
  refine pv (pJ g) (x_fieldAddr fld_72_0 rfl rfl rfl) ?_
  refine pv (.pointer (some (⟨g, 2, none⟩))) (x_fieldAddr fld_66_2 rfl rfl rfl) ?_
  refine pv (iJ s.lost) (x_load rfl rfl (hN9.box.one one_3 rfl)) ?_
  refine pv (iJ (s.lost + 1)) (x_add rfl rfl rfl (wrap_of (by omega) (by omega))) ?_
  refine pv (pJ g) (x_nilCheck rfl rfl) ?_
  refine pv (pJ g) (x_fieldAddr fld_74_0 rfl rfl rfl) ?_
  refine pv (pJ g) (x_fieldAddr fld_72_0 rfl rfl rfl) ?_
  refine pv (.pointer (some (⟨g, 2, none⟩))) (x_fieldAddr fld_66_2 rfl rfl rfl) ?_
  refine p_store (v := iJ (s.lost + 1)) (vs := [iJ (s.lost + 1)]) (cs' := [iJ s.sent, iJ s.came, iJ (s.lost + 1), .slice A11 zs13.length c12, iJ s.room]) rfl rfl rfl rfl rfl rfl hN9.box size_3 rfl rfl rfl (fun w14 b15 s16 => ?_)
  refine p_nil (t_norm (c_seq (c_quiet (qv (iJ (isP s k)) (fun _ x' => x_move rfl rfl) ?_))))
  refine qv (iJ (isP s k)) (fun _ x' => x_assign rfl rfl) ?_
  refine q_nil (fun w17 x18 => t_norm (c_ret ?_))
  rw [lose_yes (is_yes' c5)]
  exact c_done rfl rfl ⟨A11, c12, zs13, rfl, ((hN9.count (s' := ⟨s.sent, s.came, s.lost + 1, outL s.l k.toNat, s.room⟩) (Ext.refl _) (Off.store s16) b15 rfl rfl).ext x18), ((((Off.of ((x2.trans x4).trans x7) _).trans o10).trans (Off.store s16)).trans (Off.of x18 _)), ((Keeps.refl _ _ _).trans hN9k (Nat.le_trans (Nat.le_trans x2.size x4.size) x7.size))⟩
 refine q_nil (fun w19 x20 => t_norm (c_false rfl (c_skip (t_norm (c_seq (c_quiet (qv (iJ (isP s k)) (fun _ x' => x_move rfl rfl) ?_)))))))
 refine qv (iJ (isP s k)) (fun _ x' => x_assign rfl rfl) ?_
 refine q_nil (fun w21 x22 => t_norm (c_ret ?_))
 rw [lose_no (is_no' c5)]
 exact c_done rfl rfl ⟨A, c, zs, rfl, (hN.ext (((x2.trans x4).trans x20).trans x22)), (Off.of (((x2.trans x4).trans x20).trans x22) _), (Keeps.refl _ _ _)⟩
theorem N_twice (w : World) (k : Int) :
    Calls Try.prog 18 #[.pointer none, .int .i64 k] w (Ret w (.int .i64 1)) := by
 refine c_enter (n := 21) Try.func18 rfl rfl rfl ?_
 refine c_seq (c_quiet (qv (iJ 0) (fun _ x' => x_assign rfl rfl) ?_))
 refine q_nil (fun w1 x2 => t_norm (c_seq (c_seq (c_quiet (qv (.pointer none) (fun _ x' => x_move rfl rfl) ?_)))))
 refine qv (iJ k) (fun _ x' => x_move rfl rfl) ?_
 refine q_call (vs := #[.pointer none, iJ k]) fn_33 rfl rfl rfl (args2 rfl rfl) (v := iJ 1) (fun _ x' => N_is _ k) ?_
 refine qv (iJ 1) (fun _ x' => x_assign rfl rfl) ?_
 refine q_nil (fun w3 x4 => t_norm (c_seq (c_quiet (qv (iJ 1) (fun _ x' => x_move rfl rfl) ?_))))
 refine qv (.bool true) (fun _ x' => yb (x_neq rfl rfl rfl) rfl) ?_
 refine q_nil (fun w5 x6 => t_norm (c_true rfl (c_seq (c_quiet (qv (iJ 1) (fun _ x' => x_move rfl rfl) ?_)))))
 refine qv (iJ 1) (fun _ x' => x_assign rfl rfl) ?_
 exact q_nil (fun w7 x8 => t_norm (c_ret (t_ret (c_done rfl rfl (Ret.i (rfl) (((x2.trans x4).trans x6).trans x8))))))
theorem C_twice (w : World) (g : Nat) (s : PN) (A : Option Addr) (c : Nat) (zs : List (Msg × Ptr)) (hN : NetIn 74 w g s A c zs) (ht : Tame s) (k : Int) :
    Calls Try.prog 18 #[.pointer (some (⟨g, 0, none⟩)), .int .i64 k] w (fun e w' => ∃ A' c' zs', e = .returned (.int .i64 (twiceP s k).2) ∧ NetIn 74 w' g (twiceP s k).1 A' c' zs' ∧ Off g w w' ∧ Keeps w A zs A' zs') := by
 have hgl := hN.box.lt
 have hle := hN.le
 have hlr := hN.room
 have hr2 := hN.r2
 have hml := hN.len
 have hmx := hN.mx
 have ht0 := ht
 obtain ⟨ht1, ht2, ht3, ht4, ht5, ht6⟩ := ht0
 refine c_enter (n := 21) Try.func18 rfl rfl rfl ?_
 refine c_seq (c_quiet (qv (iJ 0) (fun _ x' => x_assign rfl rfl) ?_))
 refine q_nil (fun w1 x2 => t_norm (c_seq (c_seq (c_quiet (qv (pJ g) (fun _ x' => x_move rfl rfl) ?_)))))
 refine qv (iJ k) (fun _ x' => x_move rfl rfl) ?_
 refine q_call (vs := #[pJ g, iJ k]) fn_33 rfl rfl rfl (args2 rfl rfl) (v := iJ (isP s k)) (fun _ x' => C_is _ g s A c zs ((hN.ext x2).ext x') k) ?_
 refine qv (iJ (isP s k)) (fun _ x' => x_assign rfl rfl) ?_
 refine q_nil (fun w3 x4 => t_norm (c_seq (c_quiet (qv (iJ (isP s k)) (fun _ x' => x_move rfl rfl) ?_))))
 refine q_bool (b := decide (isP s k ≠ 0)) rfl rfl (fun _ x' => x_neq rfl rfl rfl) (fun c5 => ?_) (fun c5 => ?_)
 ·have hk := is_no c5
  refine q_nil (fun w6 x7 => t_norm (c_true rfl (c_seq (c_quiet (qv (iJ (isP s k)) (fun _ x' => x_move rfl rfl) ?_)))))
  refine qv (iJ (isP s k)) (fun _ x' => x_assign rfl rfl) ?_
  refine q_nil (fun w8 x9 => t_norm (c_ret (t_ret ?_)))
  rw [twice_no hk]
  exact c_done rfl rfl ⟨A, c, zs, rfl, (hN.ext (((x2.trans x4).trans x7).trans x9)), (Off.of (((x2.trans x4).trans x7).trans x9) _), (Keeps.refl _ _ _)⟩
 have hk := is_yes c5
 obtain ⟨K, rfl⟩ := Int.eq_ofNat_of_zero_le hk.1
 have hK : K < zs.length := by have := hk.2; omega
 obtain ⟨z, hz⟩ := some_of (l := zs) (k := K) (by omega)
 obtain ⟨ad10, cs11, eA12, hK13, hE14⟩ := hN.lies K z hz
 have hK13' : cs11 = [iJ z.1.kind, iJ z.1.src, iJ z.1.dst, iJ z.1.ballot.number, iJ z.1.ballot.replica, iJ z.1.r.inst.replica, iJ z.1.r.inst.slot, iJ z.1.r.status, iJ z.1.r.promise.number, iJ z.1.r.promise.replica, iJ z.1.r.ballot.number, iJ z.1.r.ballot.replica, iJ z.1.r.cmd.kind, iJ z.1.r.cmd.txn.client, iJ z.1.r.cmd.txn.number, iJ z.1.r.cmd.stp.time, iJ z.1.r.cmd.stp.client, iJ z.1.r.cmd.shards, .slice z.2.A z.1.r.cmd.reads.length z.2.n, .slice z.2.B z.1.r.cmd.writes.length z.2.m, .bool z.1.r.cmd.commit, iJ z.1.r.seq, iJ z.1.r.deps.d0, iJ z.1.r.deps.d1, iJ z.1.r.deps.d2, iJ z.1.r.deps.d3, iJ z.1.r.deps.d4, iJ z.1.r.deps.d5, iJ z.1.r.deps.d6, .bool z.1.r.kept] := hK13
 subst hK13'
 have ha15 := hN.at_.out _ (at_of hz)
 have hs16 := hN.slim _ (at_of hz)
 refine q_nil (fun w18 x19 => t_norm (c_false rfl (c_skip (t_norm (c_seq (c_plain (pv (pJ g) (x_move rfl rfl) ?_)))))))
 refine pv (pJ g) (x_move rfl rfl) ?_
 refine pv (pJ g) (x_nilCheck rfl rfl) ?_
 refine pv (.pointer (some (⟨g, 3, none⟩))) (x_fieldAddr fld_74_1 rfl rfl rfl) ?_
 refine pv (.slice A zs.length c) (x_load rfl rfl ((((hN.box.ext x2).ext x4).ext x19).one one_22 rfl)) ?_
 refine pv (iJ (K : Int)) (x_move rfl rfl) ?_
 refine pv (.pointer (some (ad10.add (K * 30)))) (x_indexAddr sl_22 rfl rfl eA12 rfl (by omega) (by omega) rfl) ?_
 refine pv (vMsg z.1 z.2) (x_load rfl rfl ((((hE14.ext x2).ext x4).ext x19).agg (vs := [iJ z.1.kind, iJ z.1.src, iJ z.1.dst, iJ z.1.ballot.number, iJ z.1.ballot.replica, iJ z.1.r.inst.replica, iJ z.1.r.inst.slot, iJ z.1.r.status, iJ z.1.r.promise.number, iJ z.1.r.promise.replica, iJ z.1.r.ballot.number, iJ z.1.r.ballot.replica, iJ z.1.r.cmd.kind, iJ z.1.r.cmd.txn.client, iJ z.1.r.cmd.txn.number, iJ z.1.r.cmd.stp.time, iJ z.1.r.cmd.stp.client, iJ z.1.r.cmd.shards, .slice z.2.A z.1.r.cmd.reads.length z.2.n, .slice z.2.B z.1.r.cmd.writes.length z.2.m, .bool z.1.r.cmd.commit, iJ z.1.r.seq, iJ z.1.r.deps.d0, iJ z.1.r.deps.d1, iJ z.1.r.deps.d2, iJ z.1.r.deps.d3, iJ z.1.r.deps.d4, iJ z.1.r.deps.d5, iJ z.1.r.deps.d6, .bool z.1.r.kept]) agg_43_30 0 rfl rfl)) ?_
 refine p_call (vs := #[pJ g, vMsg z.1 z.2]) fn_28 rfl rfl rfl (args2 rfl rfl) ?_
 refine (C_put _ g s A c zs (hN.ext ((x2.trans x4).trans x19)) ht z.1 z.2 (((ha15.ext x2).ext x4).ext x19) hs16).mono ?_
 rintro e w20 (⟨hf21, rfl, hN22, o23⟩ | ⟨hf21, rfl, A24, c25, zs26, hN22, o23, hN22k⟩)
 ·refine ⟨_, rfl, ?_⟩
  refine pv (iJ 7) (x_assign rfl rfl) ?_
  refine p_nil (t_norm (c_ret ?_))
  rw [twice_full (at_map hN.map hz) hf21]
  exact c_done rfl rfl ⟨A, c, zs, rfl, (hN.ext (((x2.trans x4).trans x19).trans o23)), (Off.of (((x2.trans x4).trans x19).trans o23) _), (Keeps.refl _ _ _)⟩
 refine ⟨_, rfl, ?_⟩
 refine pv (iJ 0) (x_assign rfl rfl) ?_
 refine p_nil (t_norm (c_ret ?_))
 rw [twice_add (at_map hN.map hz) hf21]
 exact c_done rfl rfl ⟨A24, c25, zs26, rfl, hN22, ((Off.of ((x2.trans x4).trans x19) _).trans o23), ((Keeps.refl _ _ _).trans hN22k (Nat.le_trans (Nat.le_trans x2.size x4.size) x19.size))⟩
theorem N_find (w : World) (a b : Int) :
    Calls Try.prog 23 #[.pointer none, .int .i64 a, .int .i64 b] w (Ret w (.int .i64 (-1))) := by
 refine c_enter (n := 37) Try.func23 rfl rfl rfl ?_
 refine c_seq (c_quiet (qv (iJ 0) (fun _ x' => x_assign rfl rfl) ?_))
 refine q_nil (fun w1 x2 => t_norm (c_seq (c_seq (c_quiet (qv (.pointer none) (fun _ x' => x_move rfl rfl) ?_)))))
 refine q_call (vs := #[.pointer none]) fn_15 rfl rfl rfl (args1 rfl) (v := iJ 0) (fun _ x' => N_len _) ?_
 refine qv (iJ 0) (fun _ x' => x_move rfl rfl) ?_
 refine q_nil (fun w3 x4 => t_norm (c_block (wp_loop_rounds 1 ?_)))
 refine r_round ?_
 refine c_seq (c_quiet (qv (.bool false) (fun _ x' => yb (x_lss rfl rfl rfl) rfl) ?_))
 refine q_nil (fun w5 x6 => t_norm (c_seq (c_false rfl (c_exit (t_exit (t_exit (b_exit (t_norm (c_seq (c_quiet (qv (iJ (-1)) (fun _ x' => x_assign rfl rfl) ?_)))))))))))
 exact q_nil (fun w7 x8 => t_norm (c_ret (c_done rfl rfl (Ret.i (rfl) (((x2.trans x4).trans x6).trans x8)))))
end Go.Proofs.Ytadeigpphklmfaa
