/- A walk through the code of layers below, or of layer 10. -/
import Derived.Test.YtadeigpphklmfaaDos
import Derived.Test.YtadeigpphklmfaaDrs
import Derived.Test.YtadeigpphklmfaaPan
import Derived.Test.YtadeigpphklmfaaB8
namespace Go.Proofs.Ytadeigpphklmfaa
open Go.RowKit Go.Eng
set_option linter.unusedVariables false
set_option linter.unusedSimpArgs false
theorem C_isNet (w : World) (g : Nat) (s : PN) (A : Option Addr) (c : Nat) (zs : List (Msg × Ptr)) (hN : NetIn 74 w g s A c zs) (A2 : Option Addr) (c2 : Nat) (ys : List (Msg × Ptr)) (hL : RefIn w s A2 c2 ys) (hM : MAll w ys) :
    Calls Try.prog 21 #[.pointer (some (⟨g, 0, none⟩)), .agg #[.int .i64 s.room, .slice A2 ys.length c2, .int .i64 s.sent, .int .i64 s.came, .int .i64 s.lost]] w (Ret w (.bool true)) := by
 have hgl := hN.box.lt
 have hle := hN.le
 have hlr := hN.room
 have hr2 := hN.r2
 have hml := hN.len
 have hmx := hN.mx
 have hly := hL.len
 refine c_enter (n := 51) Try.func21 rfl rfl rfl ?_
 refine c_seq (c_plain (p_box rfl rfl rfl rfl (fun w1 b2 x3 z4 => ?_)))
 refine pv (.bool false) (x_assign rfl rfl) ?_
 refine p_nil (t_norm (c_seq (c_seq (c_draw mixed (by kernel_rfl) (qv (pJ g) (fun _ x' => x_move rfl rfl) ?_)))))
 refine q_call (vs := #[pJ g]) fn_15 rfl rfl rfl (args1 rfl) (v := iJ (s.l.length : Int)) (fun _ x' => C_len _ g s A c zs ((hN.ext x3).ext x')) ?_
 refine qv (.pointer (some (⟨w.heap.size, 1, none⟩))) (fun _ x' => x_fieldAddr fld_59_1 rfl rfl rfl) ?_
 refine qv (.slice A2 ys.length c2) (fun _ x' => x_load rfl rfl ((b2.ext x').one one_22 rfl)) ?_
 refine qv (iJ (ys.length : Int)) (fun _ x' => x_len_slice sl_22 rfl rfl) ?_
 refine qv (.bool false) (fun _ x' => yb (x_neq rfl rfl rfl) (decide_eq_false (fun h => h (by rw [← hL.len])))) ?_
 refine qv (.bool false) (fun _ x' => x_move rfl rfl) ?_
 refine qv (pJ g) (fun _ x' => x_move rfl rfl) ?_
 refine q_call (vs := #[pJ g]) fn_22 rfl rfl rfl (args1 rfl) (v := .agg #[iJ s.sent, iJ s.came, iJ s.lost]) (fun _ x' => C_tally _ g s A c zs ((hN.ext x3).ext x')) ?_
 refine qv (.pointer (some (⟨w.heap.size, 2, none⟩))) (fun _ x' => x_fieldAddr fld_59_2 rfl rfl rfl) ?_
 refine qv (iJ s.sent) (fun _ x' => x_load rfl rfl ((b2.ext x').one one_3 rfl)) ?_
 refine qv (.pointer (some (⟨w.heap.size, 3, none⟩))) (fun _ x' => x_fieldAddr fld_59_3 rfl rfl rfl) ?_
 refine qv (iJ s.came) (fun _ x' => x_load rfl rfl ((b2.ext x').one one_3 rfl)) ?_
 refine qv (.pointer (some (⟨w.heap.size, 4, none⟩))) (fun _ x' => x_fieldAddr fld_59_4 rfl rfl rfl) ?_
 refine qv (iJ s.lost) (fun _ x' => x_load rfl rfl ((b2.ext x').one one_3 rfl)) ?_
 refine qv (.agg #[iJ s.sent, iJ s.came, iJ s.lost]) (fun _ x' => x_build (z := [iJ 0, iJ 0, iJ 0]) (r := [iJ s.sent, iJ s.came, iJ s.lost]) zero_66 pl_66 rfl (partsI3 rfl rfl rfl) (fill_cons (vs := [iJ s.sent]) (cs' := [iJ s.sent, iJ 0, iJ 0]) rfl rfl rfl rfl rfl (fill_cons (vs := [iJ s.came]) (cs' := [iJ s.sent, iJ s.came, iJ 0]) rfl rfl rfl rfl rfl (fill_cons (vs := [iJ s.lost]) (cs' := [iJ s.sent, iJ s.came, iJ s.lost]) rfl rfl rfl rfl rfl (fill_nil))))) ?_
 refine qv (.bool false) (fun _ x' => yb (x_neCn (a := (⟨s.sent, s.came, s.lost⟩ : Cn)) (b := (⟨s.sent, s.came, s.lost⟩ : Cn)) ints3_66 rfl rfl rfl) (by simp)) ?_
 refine qv (.bool false) (fun _ x' => x_pick_f rfl rfl rfl) ?_
 refine q_nil (fun w5 x6 => t_norm (c_false rfl (c_skip (t_norm (c_seq (c_seq (c_quiet (qv (.pointer (some (⟨w.heap.size, 1, none⟩))) (fun _ x' => x_fieldAddr fld_59_1 rfl rfl rfl) ?_))))))))
 refine qv (.slice A2 ys.length c2) (fun _ x' => x_load rfl rfl (((b2.ext x6).ext x').one one_22 rfl)) ?_
 refine qv (iJ (ys.length : Int)) (fun _ x' => x_len_slice sl_22 rfl rfl) ?_
 refine qv (iJ 0) (fun _ x' => x_move rfl rfl) ?_
 refine q_nil (fun w7 x8 => t_norm (c_block (c_loop (fun ρ w11 => ∃ k9 : Nat, k9 ≤ ys.length ∧ ρ 0 = pJ g ∧ ρ 3 = pJ w.heap.size ∧ ρ 28 = iJ (ys.length : Int) ∧ ρ 29 = iJ (k9 : Int) ∧ Ext w7 w11) (fun ρ _ => ys.length - (intOf (ρ 29)).toNat) ⟨0, Nat.zero_le _, rfl, rfl, rfl, rfl, Ext.refl _⟩ ?_)))
 rintro ρ w11 ⟨k9, hk10, e13, e14, e15, e16, x12⟩
 by_cases hl17 : k9 < ys.length
 ·obtain ⟨y18, hx19⟩ := some_of (l := ys) (k := k9) (by omega)
  obtain ⟨ad20, cs21, eA22, hK23, hE24⟩ := hL.lies k9 y18 hx19
  have hK23' : cs21 = [iJ y18.1.kind, iJ y18.1.src, iJ y18.1.dst, iJ y18.1.ballot.number, iJ y18.1.ballot.replica, iJ y18.1.r.inst.replica, iJ y18.1.r.inst.slot, iJ y18.1.r.status, iJ y18.1.r.promise.number, iJ y18.1.r.promise.replica, iJ y18.1.r.ballot.number, iJ y18.1.r.ballot.replica, iJ y18.1.r.cmd.kind, iJ y18.1.r.cmd.txn.client, iJ y18.1.r.cmd.txn.number, iJ y18.1.r.cmd.stp.time, iJ y18.1.r.cmd.stp.client, iJ y18.1.r.cmd.shards, .slice y18.2.A y18.1.r.cmd.reads.length y18.2.n, .slice y18.2.B y18.1.r.cmd.writes.length y18.2.m, .bool y18.1.r.cmd.commit, iJ y18.1.r.seq, iJ y18.1.r.deps.d0, iJ y18.1.r.deps.d1, iJ y18.1.r.deps.d2, iJ y18.1.r.deps.d3, iJ y18.1.r.deps.d4, iJ y18.1.r.deps.d5, iJ y18.1.r.deps.d6, .bool y18.1.r.kept] := hK23
  subst hK23'
  have ha25 := hM.out _ (at_of hx19)
  have hs26 := hL.slim _ (at_of hx19)
  refine c_seq (c_quiet (qv (.bool true) (fun _ x' => yb (x_lss rfl e16 e15) (decide_eq_true (by omega))) ?_))
  refine q_nil (fun w28 x29 => t_norm (c_seq (c_true rfl (c_skip (t_norm (c_seq (c_block (c_seq (c_quiet (qv (iJ (k9 : Int)) (fun _ x' => x_move rfl e16) ?_))))))))))
  refine qv (iJ (k9 : Int)) (fun _ x' => x_assign rfl rfl) ?_
  refine q_nil (fun w30 x31 => t_norm (c_seq (c_plain (pv (pJ g) (x_move rfl e13) ?_))))
  refine pv (iJ (k9 : Int)) (x_move rfl rfl) ?_
  refine p_call (vs := #[pJ g, iJ (k9 : Int)]) fn_24 rfl rfl rfl (args2 rfl rfl) ?_
  refine (C_look _ g s A c zs (hN.ext (((((x3.trans x6).trans x8).trans x12).trans x29).trans x31)) (k9 : Int)).mono ?_
  rw [look_yes (at_map hL.map hx19)]
  rintro e w32 ⟨p33, rfl, hc34, x35, fa36, fb37, fb37o⟩
  refine ⟨_, rfl, ?_⟩
  refine pv (.tuple #[vMsg y18.1 p33, iJ 0]) (x_move rfl rfl) ?_
  refine pv (vMsg y18.1 p33) (x_extract rfl rfl rfl) ?_
  refine pv (iJ 0) (x_extract rfl rfl rfl) ?_
  refine p_var (v := vMsg y18.1 p33) (vs := [iJ y18.1.kind, iJ y18.1.src, iJ y18.1.dst, iJ y18.1.ballot.number, iJ y18.1.ballot.replica, iJ y18.1.r.inst.replica, iJ y18.1.r.inst.slot, iJ y18.1.r.status, iJ y18.1.r.promise.number, iJ y18.1.r.promise.replica, iJ y18.1.r.ballot.number, iJ y18.1.r.ballot.replica, iJ y18.1.r.cmd.kind, iJ y18.1.r.cmd.txn.client, iJ y18.1.r.cmd.txn.number, iJ y18.1.r.cmd.stp.time, iJ y18.1.r.cmd.stp.client, iJ y18.1.r.cmd.shards, .slice p33.A y18.1.r.cmd.reads.length p33.n, .slice p33.B y18.1.r.cmd.writes.length p33.m, .bool y18.1.r.cmd.commit, iJ y18.1.r.seq, iJ y18.1.r.deps.d0, iJ y18.1.r.deps.d1, iJ y18.1.r.deps.d2, iJ y18.1.r.deps.d3, iJ y18.1.r.deps.d4, iJ y18.1.r.deps.d5, iJ y18.1.r.deps.d6, .bool y18.1.r.kept]) rfl rfl rfl zero_43 rfl rfl rfl rfl rfl rfl rfl size_43 rfl (fun w38 b39 x40 z41 => ?_)
  refine pv (iJ 0) (x_assign rfl rfl) ?_
  refine p_nil (t_norm (c_seq (c_draw mixed (by kernel_rfl) (qv (iJ 0) (fun _ x' => x_move rfl rfl) ?_))))
  refine qv (.bool false) (fun _ x' => yb (x_neq rfl rfl rfl) rfl) ?_
  refine qv (.bool false) (fun _ x' => x_move rfl rfl) ?_
  refine qv (vMsg y18.1 p33) (fun _ x' => x_load rfl rfl ((b39.ext x').agg (vs := [iJ y18.1.kind, iJ y18.1.src, iJ y18.1.dst, iJ y18.1.ballot.number, iJ y18.1.ballot.replica, iJ y18.1.r.inst.replica, iJ y18.1.r.inst.slot, iJ y18.1.r.status, iJ y18.1.r.promise.number, iJ y18.1.r.promise.replica, iJ y18.1.r.ballot.number, iJ y18.1.r.ballot.replica, iJ y18.1.r.cmd.kind, iJ y18.1.r.cmd.txn.client, iJ y18.1.r.cmd.txn.number, iJ y18.1.r.cmd.stp.time, iJ y18.1.r.cmd.stp.client, iJ y18.1.r.cmd.shards, .slice p33.A y18.1.r.cmd.reads.length p33.n, .slice p33.B y18.1.r.cmd.writes.length p33.m, .bool y18.1.r.cmd.commit, iJ y18.1.r.seq, iJ y18.1.r.deps.d0, iJ y18.1.r.deps.d1, iJ y18.1.r.deps.d2, iJ y18.1.r.deps.d3, iJ y18.1.r.deps.d4, iJ y18.1.r.deps.d5, iJ y18.1.r.deps.d6, .bool y18.1.r.kept]) agg_43_30 rfl)) ?_
  refine qv (.pointer (some (⟨w.heap.size, 1, none⟩))) (fun _ x' => x_fieldAddr fld_59_1 rfl e14 rfl) ?_
  refine qv (.slice A2 ys.length c2) (fun _ x' => x_load rfl rfl (((((((((b2.ext x6).ext x8).ext x12).ext x29).ext x31).ext x35).ext x40).ext x').one one_22 rfl)) ?_
  refine qv (iJ (k9 : Int)) (fun _ x' => x_move rfl rfl) ?_
  refine qv (.pointer (some (ad20.add (k9 * 30)))) (fun _ x' => x_indexAddr sl_22 rfl rfl eA22 rfl (by omega) (by omega) rfl) ?_
  refine qv (vMsg y18.1 y18.2) (fun _ x' => x_load rfl rfl ((((((((((hE24.ext x3).ext x6).ext x8).ext x12).ext x29).ext x31).ext x35).ext x40).ext x').agg (vs := [iJ y18.1.kind, iJ y18.1.src, iJ y18.1.dst, iJ y18.1.ballot.number, iJ y18.1.ballot.replica, iJ y18.1.r.inst.replica, iJ y18.1.r.inst.slot, iJ y18.1.r.status, iJ y18.1.r.promise.number, iJ y18.1.r.promise.replica, iJ y18.1.r.ballot.number, iJ y18.1.r.ballot.replica, iJ y18.1.r.cmd.kind, iJ y18.1.r.cmd.txn.client, iJ y18.1.r.cmd.txn.number, iJ y18.1.r.cmd.stp.time, iJ y18.1.r.cmd.stp.client, iJ y18.1.r.cmd.shards, .slice y18.2.A y18.1.r.cmd.reads.length y18.2.n, .slice y18.2.B y18.1.r.cmd.writes.length y18.2.m, .bool y18.1.r.cmd.commit, iJ y18.1.r.seq, iJ y18.1.r.deps.d0, iJ y18.1.r.deps.d1, iJ y18.1.r.deps.d2, iJ y18.1.r.deps.d3, iJ y18.1.r.deps.d4, iJ y18.1.r.deps.d5, iJ y18.1.r.deps.d6, .bool y18.1.r.kept]) agg_43_30 0 rfl rfl)) ?_
  refine q_call (vs := #[vMsg y18.1 p33, vMsg y18.1 y18.2]) fn_14 rfl rfl rfl (args2 rfl rfl) (v := .bool true) (fun _ x' => ((decide_eq_true (rfl : y18.1 = y18.1))) ▸ D_sameMsg _ y18.1 p33 ((hc34.ext x40).ext x') y18.1 y18.2 (((((((((ha25.ext x3).ext x6).ext x8).ext x12).ext x29).ext x31).ext x35).ext x40).ext x')) ?_
  refine qv (.bool false) (fun _ x' => x_not (b := true) rfl rfl) ?_
  refine qv (.bool false) (fun _ x' => x_pick_f rfl rfl rfl) ?_
  refine q_nil (fun w42 x43 => t_norm (c_false rfl (c_skip (b_norm (t_norm (c_quiet (qv (iJ ((k9 : Int) + 1)) (fun _ x' => x_add rfl e16 rfl (wrap_of (by omega) (by omega))) ?_)))))))
  refine qv (iJ ((k9 : Int) + 1)) (fun _ x' => x_move rfl rfl) ?_
  exact q_nil (fun w44 x45 => t_norm (⟨_, rfl, ⟨k9 + 1, by omega, e13, e14, e15, rfl, ((((((x12.trans x29).trans x31).trans x35).trans x40).trans x43).trans x45)⟩, meas_up e16 hl17⟩))
 refine c_seq (c_quiet (qv (.bool false) (fun _ x' => yb (x_lss rfl e16 e15) (decide_eq_false (by omega))) ?_))
 refine q_nil (fun w46 x47 => t_norm (c_seq (c_false rfl (c_exit (t_exit (t_exit (b_exit (t_norm (c_seq (c_quiet (qv (.bool true) (fun _ x' => x_assign rfl rfl) ?_)))))))))))
 exact q_nil (fun w48 x49 => t_norm (c_ret (c_done rfl rfl (Ret.b (rfl) (((((x3.trans x6).trans x8).trans x12).trans x47).trans x49)))))
theorem C_find (w : World) (g : Nat) (s : PN) (A : Option Addr) (c : Nat) (zs : List (Msg × Ptr)) (hN : NetIn 74 w g s A c zs) (a b : Int) :
    Calls Try.prog 23 #[.pointer (some (⟨g, 0, none⟩)), .int .i64 a, .int .i64 b] w (Ret w (.int .i64 (fi (fromTo a b) s.l 0))) := by
 have hgl := hN.box.lt
 have hle := hN.le
 have hlr := hN.room
 have hr2 := hN.r2
 have hml := hN.len
 have hmx := hN.mx
 refine c_enter (n := 37) Try.func23 rfl rfl rfl ?_
 refine c_seq (c_quiet (qv (iJ 0) (fun _ x' => x_assign rfl rfl) ?_))
 refine q_nil (fun w1 x2 => t_norm (c_seq (c_seq (c_quiet (qv (pJ g) (fun _ x' => x_move rfl rfl) ?_)))))
 refine q_call (vs := #[pJ g]) fn_15 rfl rfl rfl (args1 rfl) (v := iJ (s.l.length : Int)) (fun _ x' => C_len _ g s A c zs ((hN.ext x2).ext x')) ?_
 refine qv (iJ 0) (fun _ x' => x_move rfl rfl) ?_
 refine q_nil (fun w3 x4 => t_norm (c_block (c_loop (fun ρ w8 => ∃ k5 : Nat, k5 ≤ zs.length ∧ fi (fromTo a b) s.l k5 = fi (fromTo a b) s.l 0 ∧ ρ 0 = pJ g ∧ ρ 1 = iJ a ∧ ρ 2 = iJ b ∧ ρ 9 = iJ (s.l.length : Int) ∧ ρ 10 = iJ (k5 : Int) ∧ Ext w3 w8) (fun ρ _ => zs.length - (intOf (ρ 10)).toNat) ⟨0, Nat.zero_le _, rfl, rfl, rfl, rfl, rfl, rfl, Ext.refl _⟩ ?_)))
 rintro ρ w8 ⟨k5, hk6, hi7, e10, e11, e12, e13, e14, x9⟩
 by_cases hl15 : k5 < zs.length
 ·obtain ⟨y16, hx17⟩ := some_of (l := zs) (k := k5) (by omega)
  obtain ⟨ad18, cs19, eA20, hK21, hE22⟩ := hN.lies k5 y16 hx17
  have hK21' : cs19 = [iJ y16.1.kind, iJ y16.1.src, iJ y16.1.dst, iJ y16.1.ballot.number, iJ y16.1.ballot.replica, iJ y16.1.r.inst.replica, iJ y16.1.r.inst.slot, iJ y16.1.r.status, iJ y16.1.r.promise.number, iJ y16.1.r.promise.replica, iJ y16.1.r.ballot.number, iJ y16.1.r.ballot.replica, iJ y16.1.r.cmd.kind, iJ y16.1.r.cmd.txn.client, iJ y16.1.r.cmd.txn.number, iJ y16.1.r.cmd.stp.time, iJ y16.1.r.cmd.stp.client, iJ y16.1.r.cmd.shards, .slice y16.2.A y16.1.r.cmd.reads.length y16.2.n, .slice y16.2.B y16.1.r.cmd.writes.length y16.2.m, .bool y16.1.r.cmd.commit, iJ y16.1.r.seq, iJ y16.1.r.deps.d0, iJ y16.1.r.deps.d1, iJ y16.1.r.deps.d2, iJ y16.1.r.deps.d3, iJ y16.1.r.deps.d4, iJ y16.1.r.deps.d5, iJ y16.1.r.deps.d6, .bool y16.1.r.kept] := hK21
  subst hK21'
  have ha23 := hN.at_.out _ (at_of hx17)
  have hs24 := hN.slim _ (at_of hx17)
  refine c_seq (c_quiet (qv (.bool true) (fun _ x' => yb (x_lss rfl e14 e13) (decide_eq_true (by omega))) ?_))
  refine q_nil (fun w26 x27 => t_norm (c_seq (c_true rfl (c_skip (t_norm (c_seq (c_block (c_seq (c_quiet (qv (iJ (k5 : Int)) (fun _ x' => x_move rfl e14) ?_))))))))))
  refine qv (iJ (k5 : Int)) (fun _ x' => x_assign rfl rfl) ?_
  refine q_nil (fun w28 x29 => t_norm (c_seq (c_quiet (qv (pJ g) (fun _ x' => x_move rfl e10) ?_))))
  refine qv (pJ g) (fun _ x' => x_nilCheck rfl rfl) ?_
  refine qv (.pointer (some (⟨g, 3, none⟩))) (fun _ x' => x_fieldAddr fld_74_1 rfl rfl rfl) ?_
  refine qv (.slice A zs.length c) (fun _ x' => x_load rfl rfl (((((((hN.box.ext x2).ext x4).ext x9).ext x27).ext x29).ext x').one one_22 rfl)) ?_
  refine qv (iJ (k5 : Int)) (fun _ x' => x_move rfl rfl) ?_
  refine qv (.pointer (some (ad18.add (k5 * 30)))) (fun _ x' => x_indexAddr sl_22 rfl rfl eA20 rfl (by omega) (by omega) rfl) ?_
  refine qv (.pointer (some ((ad18.add (k5 * 30)).add 1))) (fun _ x' => x_fieldAddr fld_43_1 rfl rfl rfl) ?_
  refine qv (iJ y16.1.src) (fun _ x' => x_load rfl rfl (((((((hE22.ext x2).ext x4).ext x9).ext x27).ext x29).ext x').one one_3 1 rfl rfl)) ?_
  refine qv (iJ a) (fun _ x' => x_move rfl e11) ?_
  refine q_bool (b := decide (y16.1.src = a)) rfl rfl (fun _ x' => x_eql rfl rfl rfl) (fun c30 => ?_) (fun c30 => ?_)
  ·refine qv (.bool true) (fun _ x' => x_move rfl rfl) ?_
   refine qv (pJ g) (fun _ x' => x_move rfl e10) ?_
   refine qv (pJ g) (fun _ x' => x_nilCheck rfl rfl) ?_
   refine qv (.pointer (some (⟨g, 3, none⟩))) (fun _ x' => x_fieldAddr fld_74_1 rfl rfl rfl) ?_
   refine qv (.slice A zs.length c) (fun _ x' => x_load rfl rfl (((((((hN.box.ext x2).ext x4).ext x9).ext x27).ext x29).ext x').one one_22 rfl)) ?_
   refine qv (iJ (k5 : Int)) (fun _ x' => x_move rfl rfl) ?_
   refine qv (.pointer (some (ad18.add (k5 * 30)))) (fun _ x' => x_indexAddr sl_22 rfl rfl eA20 rfl (by omega) (by omega) rfl) ?_
   refine qv (.pointer (some ((ad18.add (k5 * 30)).add 2))) (fun _ x' => x_fieldAddr fld_43_2 rfl rfl rfl) ?_
   refine qv (iJ y16.1.dst) (fun _ x' => x_load rfl rfl (((((((hE22.ext x2).ext x4).ext x9).ext x27).ext x29).ext x').one one_3 2 rfl rfl)) ?_
   refine qv (iJ b) (fun _ x' => x_move rfl e12) ?_
   refine q_bool (b := decide (y16.1.dst = b)) rfl rfl (fun _ x' => x_eql rfl rfl rfl) (fun c31 => ?_) (fun c31 => ?_)
   ·refine qv (.bool true) (fun _ x' => x_pick_t rfl rfl rfl) ?_
    refine q_nil (fun w32 x33 => t_norm (c_true rfl (c_seq (c_quiet (qv (iJ (k5 : Int)) (fun _ x' => x_move rfl rfl) ?_)))))
    refine qv (iJ (k5 : Int)) (fun _ x' => x_assign rfl rfl) ?_
    exact q_nil (fun w34 x35 => t_norm (c_ret (b_ret (t_ret (t_ret (b_ret (t_ret (c_done rfl rfl (Ret.i ((by rw [← hi7]; exact (fi_hit (at_map hN.map hx17) (by simp only [fromTo, Bool.and_eq_true]; exact ⟨c30, c31⟩)).symm)) ((((((x2.trans x4).trans x9).trans x27).trans x29).trans x33).trans x35))))))))))
   refine qv (.bool false) (fun _ x' => x_pick_t rfl rfl rfl) ?_
   refine q_nil (fun w36 x37 => t_norm (c_false rfl (c_skip (b_norm (t_norm (c_quiet (qv (iJ ((k5 : Int) + 1)) (fun _ x' => x_add rfl e14 rfl (wrap_of (by omega) (by omega))) ?_)))))))
   refine qv (iJ ((k5 : Int) + 1)) (fun _ x' => x_move rfl rfl) ?_
   exact q_nil (fun w38 x39 => t_norm (⟨_, rfl, ⟨k5 + 1, by omega, ((fi_miss (at_map hN.map hx17) (by simp only [fromTo, c30, c31]; rfl)).symm.trans hi7), e10, e11, e12, e13, rfl, ((((x9.trans x27).trans x29).trans x37).trans x39)⟩, meas_up e14 hl15⟩))
  refine qv (.bool false) (fun _ x' => x_move rfl rfl) ?_
  refine qk rfl rfl (qk rfl rfl (qk rfl rfl (qk rfl rfl (qk rfl rfl (qk rfl rfl (qk rfl rfl (qk rfl rfl (qk rfl rfl (qk rfl rfl (qv (.bool false) (fun _ x' => x_pick_f rfl rfl rfl) ?_))))))))))
  refine q_nil (fun w40 x41 => t_norm (c_false rfl (c_skip (b_norm (t_norm (c_quiet (qv (iJ ((k5 : Int) + 1)) (fun _ x' => x_add rfl e14 rfl (wrap_of (by omega) (by omega))) ?_)))))))
  refine qv (iJ ((k5 : Int) + 1)) (fun _ x' => x_move rfl rfl) ?_
  exact q_nil (fun w42 x43 => t_norm (⟨_, rfl, ⟨k5 + 1, by omega, ((fi_miss (at_map hN.map hx17) (by simp only [fromTo, c30]; rfl)).symm.trans hi7), e10, e11, e12, e13, rfl, ((((x9.trans x27).trans x29).trans x41).trans x43)⟩, meas_up e14 hl15⟩))
 refine c_seq (c_quiet (qv (.bool false) (fun _ x' => yb (x_lss rfl e14 e13) (decide_eq_false (by omega))) ?_))
 refine q_nil (fun w44 x45 => t_norm (c_seq (c_false rfl (c_exit (t_exit (t_exit (b_exit (t_norm (c_seq (c_quiet (qv (iJ (-1)) (fun _ x' => x_assign rfl rfl) ?_)))))))))))
 exact q_nil (fun w46 x47 => t_norm (c_ret (c_done rfl rfl (Ret.i ((by rw [← hi7]; exact (fi_end (by omega)).symm)) ((((x2.trans x4).trans x9).trans x45).trans x47)))))
end Go.Proofs.Ytadeigpphklmfaa
