/- A walk through the code of layers below, or of layer 13. -/
import Derived.Test.YtgamfmkefipngaaRep
import Derived.Test.YtgamfmkefipngaaDrs
import Derived.Test.YtgamfmkefipngaaPan
import Derived.Test.YtgamfmkefipngaaB4
namespace Go.Proofs.Ytgamfmkefipngaa
open Go.RowKit Go.Eng
set_option linter.unusedVariables false
set_option linter.unusedSimpArgs false
set_option maxHeartbeats 1000000 in
theorem C_pickOf (w : World) (k : Int) (gb : Nat) (hb : Box w gb 3 [.int .i64 k]) (A : Option Addr) (c : Nat) (l : List Vt) (hV : Vts w A l) :
    Calls Try.prog 29 #[.slice A l.length c, .func (.func 27) #[] #[.pointer (some (⟨gb, 0, none⟩))]] w (fun e w' => Ext w w' ∧ ((pickV (ofS k) l = none ∧ e = .returned (.tuple #[.agg #[.int .i64 0, .int .i64 0, .int .i64 0, .int .i64 0, .int .i64 0, .int .i64 0, .int .i64 0, .int .i64 0, .int .i64 0, .int .i64 0, .int .i64 0, .int .i64 0, .int .i64 0, .slice none 0 0, .slice none 0 0, .bool false, .int .i64 0, .int .i64 0, .int .i64 0, .int .i64 0, .int .i64 0, .int .i64 0, .int .i64 0, .int .i64 0, .bool false], .bool false])) ∨ (∃ v, pickV (ofS k) l = some v ∧ e = .returned (.tuple #[vRec v.r v.p, .bool true])))) := by
 have hlen0 := hV.len
 refine c_enter (n := 46) Try.func29 rfl rfl rfl ?_
 refine c_seq (c_plain (p_alloc (cs := [iJ 0, iJ 0, iJ 0, iJ 0, iJ 0, iJ 0, iJ 0, iJ 0, iJ 0, iJ 0, iJ 0, iJ 0, iJ 0, .slice none 0 0, .slice none 0 0, .bool false, iJ 0, iJ 0, iJ 0, iJ 0, iJ 0, iJ 0, iJ 0, iJ 0, .bool false]) rfl rfl rfl zero_40 rfl (fun w1 b2 x3 z4 => ?_)))
 refine pv (.bool false) (x_assign rfl rfl) ?_
 refine p_nil (t_norm (c_seq (c_quiet (qv (iJ (-1)) (fun _ x' => x_assign rfl rfl) ?_))))
 refine q_nil (fun w5 x6 => t_norm (c_seq (c_seq (c_quiet (qv (.slice A l.length c) (fun _ x' => x_move rfl rfl) ?_)))))
 refine qv (iJ (l.length : Int)) (fun _ x' => x_len_slice sl_44 rfl rfl) ?_
 refine qv (iJ 0) (fun _ x' => x_move rfl rfl) ?_
 refine q_nil (fun w7 x8 => t_norm (c_block (c_loop (fun ρ w13 => ∃ k10 : Nat, ∃ bi9 : Int, k10 ≤ l.length ∧ Best (ofS k) l k10 bi9 ∧ ρ 0 = .slice A l.length c ∧ ρ 1 = .func (.func 27) #[] #[pJ gb] ∧ ρ 4 = pJ w.heap.size ∧ ρ 5 = .bool false ∧ ρ 9 = .slice A l.length c ∧ ρ 10 = iJ (l.length : Int) ∧ ρ 6 = iJ bi9 ∧ ρ 11 = iJ (k10 : Int) ∧ Ext w7 w13) (fun ρ _ => l.length - (intOf (ρ 11)).toNat) ⟨0, (-1), Nat.zero_le _, best_none rfl, rfl, rfl, rfl, rfl, rfl, rfl, rfl, rfl, Ext.refl _⟩ ?_)))
 rintro ρ w13 ⟨k10, bi9, hk11, hi12, e15, e16, e17, e18, e19, e20, e21, e22, x14⟩
 by_cases hl23 : k10 < l.length
 ·obtain ⟨y24, hx25⟩ := some_of (l := l) (k := k10) (by omega)
  obtain ⟨ad26, cs27, eA28, hK29, hE30⟩ := hV.lies k10 y24 hx25
  have hK29' : cs27 = [iJ y24.src, iJ y24.r.inst.replica, iJ y24.r.inst.slot, iJ y24.r.status, iJ y24.r.promise.number, iJ y24.r.promise.replica, iJ y24.r.ballot.number, iJ y24.r.ballot.replica, iJ y24.r.cmd.kind, iJ y24.r.cmd.txn.client, iJ y24.r.cmd.txn.number, iJ y24.r.cmd.stp.time, iJ y24.r.cmd.stp.client, iJ y24.r.cmd.shards, .slice y24.p.A y24.r.cmd.reads.length y24.p.n, .slice y24.p.B y24.r.cmd.writes.length y24.p.m, .bool y24.r.cmd.commit, iJ y24.r.seq, iJ y24.r.deps.d0, iJ y24.r.deps.d1, iJ y24.r.deps.d2, iJ y24.r.deps.d3, iJ y24.r.deps.d4, iJ y24.r.deps.d5, iJ y24.r.deps.d6, .bool y24.r.kept] := hK29
  subst hK29'
  have ha31 := hV.at_.out _ (at_of hx25)
  have hs32 := hV.slim _ (at_of hx25)
  rcases hi12 with ⟨hbi, hp34⟩ | ⟨j35, b36, hbi, hj37, hp34⟩
  ·subst hbi
   refine c_seq (c_quiet (qv (.bool true) (fun _ x' => yb (x_lss rfl e22 e20) (decide_eq_true (by omega))) ?_))
   refine q_nil (fun w38 x39 => t_norm (c_seq (c_true rfl (c_skip (t_norm (c_seq (c_block (c_seq (c_plain (pv (iJ (k10 : Int)) (x_move rfl e22) ?_))))))))))
   refine pv (.pointer (some (ad26.add (k10 * 26)))) (x_indexAddr sl_44 rfl e19 eA28 e22 (by omega) (by omega) rfl) ?_
   refine pv (vVt y24) (x_load rfl rfl ((((((hE30.ext x3).ext x6).ext x8).ext x14).ext x39).agg (vs := [iJ y24.src, iJ y24.r.inst.replica, iJ y24.r.inst.slot, iJ y24.r.status, iJ y24.r.promise.number, iJ y24.r.promise.replica, iJ y24.r.ballot.number, iJ y24.r.ballot.replica, iJ y24.r.cmd.kind, iJ y24.r.cmd.txn.client, iJ y24.r.cmd.txn.number, iJ y24.r.cmd.stp.time, iJ y24.r.cmd.stp.client, iJ y24.r.cmd.shards, .slice y24.p.A y24.r.cmd.reads.length y24.p.n, .slice y24.p.B y24.r.cmd.writes.length y24.p.m, .bool y24.r.cmd.commit, iJ y24.r.seq, iJ y24.r.deps.d0, iJ y24.r.deps.d1, iJ y24.r.deps.d2, iJ y24.r.deps.d3, iJ y24.r.deps.d4, iJ y24.r.deps.d5, iJ y24.r.deps.d6, .bool y24.r.kept]) agg_63_26 0 rfl rfl)) ?_
   refine p_alloc (cs := [iJ 0, iJ 0, iJ 0, iJ 0, iJ 0, iJ 0, iJ 0, iJ 0, iJ 0, iJ 0, iJ 0, iJ 0, iJ 0, iJ 0, .slice none 0 0, .slice none 0 0, .bool false, iJ 0, iJ 0, iJ 0, iJ 0, iJ 0, iJ 0, iJ 0, iJ 0, .bool false]) rfl rfl rfl zero_63 rfl (fun w40 b41 x42 z43 => ?_)
   refine pv (iJ (k10 : Int)) (x_assign rfl rfl) ?_
   refine p_store (v := vVt y24) (vs := [iJ y24.src, iJ y24.r.inst.replica, iJ y24.r.inst.slot, iJ y24.r.status, iJ y24.r.promise.number, iJ y24.r.promise.replica, iJ y24.r.ballot.number, iJ y24.r.ballot.replica, iJ y24.r.cmd.kind, iJ y24.r.cmd.txn.client, iJ y24.r.cmd.txn.number, iJ y24.r.cmd.stp.time, iJ y24.r.cmd.stp.client, iJ y24.r.cmd.shards, .slice y24.p.A y24.r.cmd.reads.length y24.p.n, .slice y24.p.B y24.r.cmd.writes.length y24.p.m, .bool y24.r.cmd.commit, iJ y24.r.seq, iJ y24.r.deps.d0, iJ y24.r.deps.d1, iJ y24.r.deps.d2, iJ y24.r.deps.d3, iJ y24.r.deps.d4, iJ y24.r.deps.d5, iJ y24.r.deps.d6, .bool y24.r.kept]) (cs' := [iJ y24.src, iJ y24.r.inst.replica, iJ y24.r.inst.slot, iJ y24.r.status, iJ y24.r.promise.number, iJ y24.r.promise.replica, iJ y24.r.ballot.number, iJ y24.r.ballot.replica, iJ y24.r.cmd.kind, iJ y24.r.cmd.txn.client, iJ y24.r.cmd.txn.number, iJ y24.r.cmd.stp.time, iJ y24.r.cmd.stp.client, iJ y24.r.cmd.shards, .slice y24.p.A y24.r.cmd.reads.length y24.p.n, .slice y24.p.B y24.r.cmd.writes.length y24.p.m, .bool y24.r.cmd.commit, iJ y24.r.seq, iJ y24.r.deps.d0, iJ y24.r.deps.d1, iJ y24.r.deps.d2, iJ y24.r.deps.d3, iJ y24.r.deps.d4, iJ y24.r.deps.d5, iJ y24.r.deps.d6, .bool y24.r.kept]) rfl rfl rfl rfl rfl rfl b41 size_63 rfl rfl rfl (fun w44 b45 s46 => ?_)
   refine p_nil (t_norm (c_seq (c_draw mixed (by kernel_rfl) (qv (.func (.func 27) #[] #[pJ gb]) (fun _ x' => x_move rfl e16) ?_))))
   refine qv (.agg #[iJ y24.src, iJ y24.r.inst.replica, iJ y24.r.inst.slot, iJ y24.r.status, iJ y24.r.promise.number, iJ y24.r.promise.replica, iJ y24.r.ballot.number, iJ y24.r.ballot.replica, iJ y24.r.cmd.kind, iJ y24.r.cmd.txn.client, iJ y24.r.cmd.txn.number, iJ y24.r.cmd.stp.time, iJ y24.r.cmd.stp.client, iJ y24.r.cmd.shards, .slice y24.p.A y24.r.cmd.reads.length y24.p.n, .slice y24.p.B y24.r.cmd.writes.length y24.p.m, .bool y24.r.cmd.commit, iJ y24.r.seq, iJ y24.r.deps.d0, iJ y24.r.deps.d1, iJ y24.r.deps.d2, iJ y24.r.deps.d3, iJ y24.r.deps.d4, iJ y24.r.deps.d5, iJ y24.r.deps.d6, .bool y24.r.kept]) (fun _ x' => x_load rfl rfl ((b45.ext x').agg (vs := [iJ y24.src, iJ y24.r.inst.replica, iJ y24.r.inst.slot, iJ y24.r.status, iJ y24.r.promise.number, iJ y24.r.promise.replica, iJ y24.r.ballot.number, iJ y24.r.ballot.replica, iJ y24.r.cmd.kind, iJ y24.r.cmd.txn.client, iJ y24.r.cmd.txn.number, iJ y24.r.cmd.stp.time, iJ y24.r.cmd.stp.client, iJ y24.r.cmd.shards, .slice y24.p.A y24.r.cmd.reads.length y24.p.n, .slice y24.p.B y24.r.cmd.writes.length y24.p.m, .bool y24.r.cmd.commit, iJ y24.r.seq, iJ y24.r.deps.d0, iJ y24.r.deps.d1, iJ y24.r.deps.d2, iJ y24.r.deps.d3, iJ y24.r.deps.d4, iJ y24.r.deps.d5, iJ y24.r.deps.d6, .bool y24.r.kept]) agg_63_26 rfl)) ?_
   refine q_callvb (b := ofS k y24) (vs := #[.agg #[iJ y24.src, iJ y24.r.inst.replica, iJ y24.r.inst.slot, iJ y24.r.status, iJ y24.r.promise.number, iJ y24.r.promise.replica, iJ y24.r.ballot.number, iJ y24.r.ballot.replica, iJ y24.r.cmd.kind, iJ y24.r.cmd.txn.client, iJ y24.r.cmd.txn.number, iJ y24.r.cmd.stp.time, iJ y24.r.cmd.stp.client, iJ y24.r.cmd.shards, .slice y24.p.A y24.r.cmd.reads.length y24.p.n, .slice y24.p.B y24.r.cmd.writes.length y24.p.m, .bool y24.r.cmd.commit, iJ y24.r.seq, iJ y24.r.deps.d0, iJ y24.r.deps.d1, iJ y24.r.deps.d2, iJ y24.r.deps.d3, iJ y24.r.deps.d4, iJ y24.r.deps.d5, iJ y24.r.deps.d6, .bool y24.r.kept]]) (cap := #[pJ gb]) (all := #[.agg #[iJ y24.src, iJ y24.r.inst.replica, iJ y24.r.inst.slot, iJ y24.r.status, iJ y24.r.promise.number, iJ y24.r.promise.replica, iJ y24.r.ballot.number, iJ y24.r.ballot.replica, iJ y24.r.cmd.kind, iJ y24.r.cmd.txn.client, iJ y24.r.cmd.txn.number, iJ y24.r.cmd.stp.time, iJ y24.r.cmd.stp.client, iJ y24.r.cmd.shards, .slice y24.p.A y24.r.cmd.reads.length y24.p.n, .slice y24.p.B y24.r.cmd.writes.length y24.p.m, .bool y24.r.cmd.commit, iJ y24.r.seq, iJ y24.r.deps.d0, iJ y24.r.deps.d1, iJ y24.r.deps.d2, iJ y24.r.deps.d3, iJ y24.r.deps.d4, iJ y24.r.deps.d5, iJ y24.r.deps.d6, .bool y24.r.kept], pJ gb]) fn_27 rfl rfl rfl rfl (args1 rfl) (by simp) (fun _ x' => C_ofS _ y24 k _ (hb.ext (((((((x3.trans x6).trans x8).trans x14).trans x39).trans x42).stored ((((x3.trans x6).trans x8).trans x14).trans x39).size s46).trans x'))) (fun c47 => ?_) (fun c47 => ?_)
   ·refine qv (.bool true) (fun _ x' => x_move rfl rfl) ?_
    refine qv (iJ (-1)) (fun _ x' => x_move rfl e21) ?_
    refine qv (.bool true) (fun _ x' => yb (x_lss rfl rfl rfl) rfl) ?_
    refine qv (.bool true) (fun _ x' => x_move rfl rfl) ?_
    refine qk rfl rfl (qk rfl rfl (qk rfl rfl (qk rfl rfl (qk rfl rfl (qk rfl rfl (qk rfl rfl (qk rfl rfl (qk rfl rfl (qk rfl rfl (qk rfl rfl (qv (.bool true) (fun _ x' => x_pick_t rfl rfl rfl) ?_)))))))))))
    refine qv (.bool true) (fun _ x' => x_pick_t rfl rfl rfl) ?_
    refine q_nil (fun w48 x49 => t_norm (c_true rfl (c_quiet (qv (iJ (k10 : Int)) (fun _ x' => x_move rfl rfl) ?_))))
    refine qv (iJ (k10 : Int)) (fun _ x' => x_assign rfl rfl) ?_
    refine q_nil (fun w50 x51 => b_norm (t_norm (c_quiet (qv (iJ ((k10 : Int) + 1)) (fun _ x' => x_add rfl e22 rfl (wrap_of (by omega) (by omega))) ?_))))
    refine qv (iJ ((k10 : Int) + 1)) (fun _ x' => x_move rfl rfl) ?_
    exact q_nil (fun w52 x53 => t_norm (⟨_, rfl, ⟨k10 + 1, (k10 : Int), by omega, best_first hp34 hx25 c47, e15, e16, e17, e18, e19, e20, rfl, rfl, ((((((x14.trans x39).trans x42).stored (x14.trans x39).size s46).trans x49).trans x51).trans x53)⟩, meas_up e22 hl23⟩))
   refine qv (.bool false) (fun _ x' => x_move rfl rfl) ?_
   refine qk rfl rfl (qk rfl rfl (qk rfl rfl (qk rfl rfl (qk rfl rfl (qk rfl rfl (qk rfl rfl (qk rfl rfl (qk rfl rfl (qk rfl rfl (qk rfl rfl (qk rfl rfl (qk rfl rfl (qk rfl rfl (qk rfl rfl (qv (.bool false) (fun _ x' => x_pick_f rfl rfl rfl) ?_)))))))))))))))
   refine q_nil (fun w54 x55 => t_norm (c_false rfl (c_skip (b_norm (t_norm (c_quiet (qv (iJ ((k10 : Int) + 1)) (fun _ x' => x_add rfl e22 rfl (wrap_of (by omega) (by omega))) ?_)))))))
   refine qv (iJ ((k10 : Int) + 1)) (fun _ x' => x_move rfl rfl) ?_
   exact q_nil (fun w56 x57 => t_norm (⟨_, rfl, ⟨k10 + 1, (-1), by omega, best_skip (best_none hp34) hx25 c47, e15, e16, e17, e18, e19, e20, e21, rfl, (((((x14.trans x39).trans x42).stored (x14.trans x39).size s46).trans x55).trans x57)⟩, meas_up e22 hl23⟩))
  subst hbi
  have hjl58 := lt_of hj37
  obtain ⟨ad59, cs60, eA61, hK62, hE63⟩ := hV.lies j35 b36 hj37
  have hK62' : cs60 = [iJ b36.src, iJ b36.r.inst.replica, iJ b36.r.inst.slot, iJ b36.r.status, iJ b36.r.promise.number, iJ b36.r.promise.replica, iJ b36.r.ballot.number, iJ b36.r.ballot.replica, iJ b36.r.cmd.kind, iJ b36.r.cmd.txn.client, iJ b36.r.cmd.txn.number, iJ b36.r.cmd.stp.time, iJ b36.r.cmd.stp.client, iJ b36.r.cmd.shards, .slice b36.p.A b36.r.cmd.reads.length b36.p.n, .slice b36.p.B b36.r.cmd.writes.length b36.p.m, .bool b36.r.cmd.commit, iJ b36.r.seq, iJ b36.r.deps.d0, iJ b36.r.deps.d1, iJ b36.r.deps.d2, iJ b36.r.deps.d3, iJ b36.r.deps.d4, iJ b36.r.deps.d5, iJ b36.r.deps.d6, .bool b36.r.kept] := hK62
  subst hK62'
  have ha64 := hV.at_.out _ (at_of hj37)
  have hs65 := hV.slim _ (at_of hj37)
  refine c_seq (c_quiet (qv (.bool true) (fun _ x' => yb (x_lss rfl e22 e20) (decide_eq_true (by omega))) ?_))
  refine q_nil (fun w67 x68 => t_norm (c_seq (c_true rfl (c_skip (t_norm (c_seq (c_block (c_seq (c_plain (pv (iJ (k10 : Int)) (x_move rfl e22) ?_))))))))))
  refine pv (.pointer (some (ad26.add (k10 * 26)))) (x_indexAddr sl_44 rfl e19 eA28 e22 (by omega) (by omega) rfl) ?_
  refine pv (vVt y24) (x_load rfl rfl ((((((hE30.ext x3).ext x6).ext x8).ext x14).ext x68).agg (vs := [iJ y24.src, iJ y24.r.inst.replica, iJ y24.r.inst.slot, iJ y24.r.status, iJ y24.r.promise.number, iJ y24.r.promise.replica, iJ y24.r.ballot.number, iJ y24.r.ballot.replica, iJ y24.r.cmd.kind, iJ y24.r.cmd.txn.client, iJ y24.r.cmd.txn.number, iJ y24.r.cmd.stp.time, iJ y24.r.cmd.stp.client, iJ y24.r.cmd.shards, .slice y24.p.A y24.r.cmd.reads.length y24.p.n, .slice y24.p.B y24.r.cmd.writes.length y24.p.m, .bool y24.r.cmd.commit, iJ y24.r.seq, iJ y24.r.deps.d0, iJ y24.r.deps.d1, iJ y24.r.deps.d2, iJ y24.r.deps.d3, iJ y24.r.deps.d4, iJ y24.r.deps.d5, iJ y24.r.deps.d6, .bool y24.r.kept]) agg_63_26 0 rfl rfl)) ?_
  refine p_alloc (cs := [iJ 0, iJ 0, iJ 0, iJ 0, iJ 0, iJ 0, iJ 0, iJ 0, iJ 0, iJ 0, iJ 0, iJ 0, iJ 0, iJ 0, .slice none 0 0, .slice none 0 0, .bool false, iJ 0, iJ 0, iJ 0, iJ 0, iJ 0, iJ 0, iJ 0, iJ 0, .bool false]) rfl rfl rfl zero_63 rfl (fun w69 b70 x71 z72 => ?_)
  refine pv (iJ (k10 : Int)) (x_assign rfl rfl) ?_
  refine p_store (v := vVt y24) (vs := [iJ y24.src, iJ y24.r.inst.replica, iJ y24.r.inst.slot, iJ y24.r.status, iJ y24.r.promise.number, iJ y24.r.promise.replica, iJ y24.r.ballot.number, iJ y24.r.ballot.replica, iJ y24.r.cmd.kind, iJ y24.r.cmd.txn.client, iJ y24.r.cmd.txn.number, iJ y24.r.cmd.stp.time, iJ y24.r.cmd.stp.client, iJ y24.r.cmd.shards, .slice y24.p.A y24.r.cmd.reads.length y24.p.n, .slice y24.p.B y24.r.cmd.writes.length y24.p.m, .bool y24.r.cmd.commit, iJ y24.r.seq, iJ y24.r.deps.d0, iJ y24.r.deps.d1, iJ y24.r.deps.d2, iJ y24.r.deps.d3, iJ y24.r.deps.d4, iJ y24.r.deps.d5, iJ y24.r.deps.d6, .bool y24.r.kept]) (cs' := [iJ y24.src, iJ y24.r.inst.replica, iJ y24.r.inst.slot, iJ y24.r.status, iJ y24.r.promise.number, iJ y24.r.promise.replica, iJ y24.r.ballot.number, iJ y24.r.ballot.replica, iJ y24.r.cmd.kind, iJ y24.r.cmd.txn.client, iJ y24.r.cmd.txn.number, iJ y24.r.cmd.stp.time, iJ y24.r.cmd.stp.client, iJ y24.r.cmd.shards, .slice y24.p.A y24.r.cmd.reads.length y24.p.n, .slice y24.p.B y24.r.cmd.writes.length y24.p.m, .bool y24.r.cmd.commit, iJ y24.r.seq, iJ y24.r.deps.d0, iJ y24.r.deps.d1, iJ y24.r.deps.d2, iJ y24.r.deps.d3, iJ y24.r.deps.d4, iJ y24.r.deps.d5, iJ y24.r.deps.d6, .bool y24.r.kept]) rfl rfl rfl rfl rfl rfl b70 size_63 rfl rfl rfl (fun w73 b74 s75 => ?_)
  refine p_nil (t_norm (c_seq (c_draw mixed (by kernel_rfl) (qv (.func (.func 27) #[] #[pJ gb]) (fun _ x' => x_move rfl e16) ?_))))
  refine qv (.agg #[iJ y24.src, iJ y24.r.inst.replica, iJ y24.r.inst.slot, iJ y24.r.status, iJ y24.r.promise.number, iJ y24.r.promise.replica, iJ y24.r.ballot.number, iJ y24.r.ballot.replica, iJ y24.r.cmd.kind, iJ y24.r.cmd.txn.client, iJ y24.r.cmd.txn.number, iJ y24.r.cmd.stp.time, iJ y24.r.cmd.stp.client, iJ y24.r.cmd.shards, .slice y24.p.A y24.r.cmd.reads.length y24.p.n, .slice y24.p.B y24.r.cmd.writes.length y24.p.m, .bool y24.r.cmd.commit, iJ y24.r.seq, iJ y24.r.deps.d0, iJ y24.r.deps.d1, iJ y24.r.deps.d2, iJ y24.r.deps.d3, iJ y24.r.deps.d4, iJ y24.r.deps.d5, iJ y24.r.deps.d6, .bool y24.r.kept]) (fun _ x' => x_load rfl rfl ((b74.ext x').agg (vs := [iJ y24.src, iJ y24.r.inst.replica, iJ y24.r.inst.slot, iJ y24.r.status, iJ y24.r.promise.number, iJ y24.r.promise.replica, iJ y24.r.ballot.number, iJ y24.r.ballot.replica, iJ y24.r.cmd.kind, iJ y24.r.cmd.txn.client, iJ y24.r.cmd.txn.number, iJ y24.r.cmd.stp.time, iJ y24.r.cmd.stp.client, iJ y24.r.cmd.shards, .slice y24.p.A y24.r.cmd.reads.length y24.p.n, .slice y24.p.B y24.r.cmd.writes.length y24.p.m, .bool y24.r.cmd.commit, iJ y24.r.seq, iJ y24.r.deps.d0, iJ y24.r.deps.d1, iJ y24.r.deps.d2, iJ y24.r.deps.d3, iJ y24.r.deps.d4, iJ y24.r.deps.d5, iJ y24.r.deps.d6, .bool y24.r.kept]) agg_63_26 rfl)) ?_
  refine q_callvb (b := ofS k y24) (vs := #[.agg #[iJ y24.src, iJ y24.r.inst.replica, iJ y24.r.inst.slot, iJ y24.r.status, iJ y24.r.promise.number, iJ y24.r.promise.replica, iJ y24.r.ballot.number, iJ y24.r.ballot.replica, iJ y24.r.cmd.kind, iJ y24.r.cmd.txn.client, iJ y24.r.cmd.txn.number, iJ y24.r.cmd.stp.time, iJ y24.r.cmd.stp.client, iJ y24.r.cmd.shards, .slice y24.p.A y24.r.cmd.reads.length y24.p.n, .slice y24.p.B y24.r.cmd.writes.length y24.p.m, .bool y24.r.cmd.commit, iJ y24.r.seq, iJ y24.r.deps.d0, iJ y24.r.deps.d1, iJ y24.r.deps.d2, iJ y24.r.deps.d3, iJ y24.r.deps.d4, iJ y24.r.deps.d5, iJ y24.r.deps.d6, .bool y24.r.kept]]) (cap := #[pJ gb]) (all := #[.agg #[iJ y24.src, iJ y24.r.inst.replica, iJ y24.r.inst.slot, iJ y24.r.status, iJ y24.r.promise.number, iJ y24.r.promise.replica, iJ y24.r.ballot.number, iJ y24.r.ballot.replica, iJ y24.r.cmd.kind, iJ y24.r.cmd.txn.client, iJ y24.r.cmd.txn.number, iJ y24.r.cmd.stp.time, iJ y24.r.cmd.stp.client, iJ y24.r.cmd.shards, .slice y24.p.A y24.r.cmd.reads.length y24.p.n, .slice y24.p.B y24.r.cmd.writes.length y24.p.m, .bool y24.r.cmd.commit, iJ y24.r.seq, iJ y24.r.deps.d0, iJ y24.r.deps.d1, iJ y24.r.deps.d2, iJ y24.r.deps.d3, iJ y24.r.deps.d4, iJ y24.r.deps.d5, iJ y24.r.deps.d6, .bool y24.r.kept], pJ gb]) fn_27 rfl rfl rfl rfl (args1 rfl) (by simp) (fun _ x' => C_ofS _ y24 k _ (hb.ext (((((((x3.trans x6).trans x8).trans x14).trans x68).trans x71).stored ((((x3.trans x6).trans x8).trans x14).trans x68).size s75).trans x'))) (fun c76 => ?_) (fun c76 => ?_)
  ·refine qv (.bool true) (fun _ x' => x_move rfl rfl) ?_
   refine qv (iJ (j35 : Int)) (fun _ x' => x_move rfl e21) ?_
   refine qv (.bool false) (fun _ x' => yb (x_lss rfl rfl rfl) (decide_eq_false (by omega))) ?_
   refine qv (.bool false) (fun _ x' => x_move rfl rfl) ?_
   refine qv (.pointer (some (⟨w67.heap.size, 1, none⟩))) (fun _ x' => x_fieldAddr fld_63_1 rfl rfl rfl) ?_
   refine qv (.pointer (some (⟨w67.heap.size, 6, none⟩))) (fun _ x' => x_fieldAddr fld_40_3 rfl rfl rfl) ?_
   refine qv (.agg #[iJ y24.r.ballot.number, iJ y24.r.ballot.replica]) (fun _ x' => x_load rfl rfl ((b74.ext x').agg (vs := [iJ y24.r.ballot.number, iJ y24.r.ballot.replica]) agg_28_2 rfl)) ?_
   refine qv (.slice A l.length c) (fun _ x' => x_move rfl e15) ?_
   refine qv (iJ (j35 : Int)) (fun _ x' => x_move rfl e21) ?_
   refine qv (.pointer (some (ad59.add (j35 * 26)))) (fun _ x' => x_indexAddr sl_44 rfl rfl eA61 rfl (by omega) (by omega) rfl) ?_
   refine qv (.pointer (some ((ad59.add (j35 * 26)).add 1))) (fun _ x' => x_fieldAddr fld_63_1 rfl rfl rfl) ?_
   refine qv (.pointer (some (((ad59.add (j35 * 26)).add 1).add 5))) (fun _ x' => x_fieldAddr fld_40_3 rfl rfl rfl) ?_
   refine qv (.agg #[iJ b36.r.ballot.number, iJ b36.r.ballot.replica]) (fun _ x' => x_load rfl rfl ((hE63.ext (((((((x3.trans x6).trans x8).trans x14).trans x68).trans x71).stored ((((x3.trans x6).trans x8).trans x14).trans x68).size s75).trans x')).agg (vs := [iJ b36.r.ballot.number, iJ b36.r.ballot.replica]) agg_28_2 6 rfl rfl)) ?_
   refine q_call (vs := #[.agg #[iJ y24.r.ballot.number, iJ y24.r.ballot.replica], .agg #[iJ b36.r.ballot.number, iJ b36.r.ballot.replica]]) fn_47 rfl rfl rfl (args2 rfl rfl) (v := iJ (cmpBal y24.r.ballot b36.r.ballot)) (fun _ x' => C_cmpBal _ y24.r.ballot b36.r.ballot) ?_
   refine q_bool (b := decide (cmpBal y24.r.ballot b36.r.ballot > 0)) rfl rfl (fun _ x' => x_gtr rfl rfl rfl) (fun c77 => ?_) (fun c77 => ?_)
   ·refine qv (.bool true) (fun _ x' => x_pick_f rfl rfl rfl) ?_
    refine qv (.bool true) (fun _ x' => x_pick_t rfl rfl rfl) ?_
    refine q_nil (fun w78 x79 => t_norm (c_true rfl (c_quiet (qv (iJ (k10 : Int)) (fun _ x' => x_move rfl rfl) ?_))))
    refine qv (iJ (k10 : Int)) (fun _ x' => x_assign rfl rfl) ?_
    refine q_nil (fun w80 x81 => b_norm (t_norm (c_quiet (qv (iJ ((k10 : Int) + 1)) (fun _ x' => x_add rfl e22 rfl (wrap_of (by omega) (by omega))) ?_))))
    refine qv (iJ ((k10 : Int) + 1)) (fun _ x' => x_move rfl rfl) ?_
    exact q_nil (fun w82 x83 => t_norm (⟨_, rfl, ⟨k10 + 1, (k10 : Int), by omega, best_above hp34 hx25 c76 (of_decide_eq_true c77), e15, e16, e17, e18, e19, e20, rfl, rfl, ((((((x14.trans x68).trans x71).stored (x14.trans x68).size s75).trans x79).trans x81).trans x83)⟩, meas_up e22 hl23⟩))
   refine qv (.bool false) (fun _ x' => x_pick_f rfl rfl rfl) ?_
   refine qv (.bool false) (fun _ x' => x_pick_t rfl rfl rfl) ?_
   refine q_nil (fun w84 x85 => t_norm (c_false rfl (c_skip (b_norm (t_norm (c_quiet (qv (iJ ((k10 : Int) + 1)) (fun _ x' => x_add rfl e22 rfl (wrap_of (by omega) (by omega))) ?_)))))))
   refine qv (iJ ((k10 : Int) + 1)) (fun _ x' => x_move rfl rfl) ?_
   exact q_nil (fun w86 x87 => t_norm (⟨_, rfl, ⟨k10 + 1, (j35 : Int), by omega, best_below hp34 hj37 hx25 (of_decide_eq_false c77), e15, e16, e17, e18, e19, e20, e21, rfl, (((((x14.trans x68).trans x71).stored (x14.trans x68).size s75).trans x85).trans x87)⟩, meas_up e22 hl23⟩))
  refine qv (.bool false) (fun _ x' => x_move rfl rfl) ?_
  refine qk rfl rfl (qk rfl rfl (qk rfl rfl (qk rfl rfl (qk rfl rfl (qk rfl rfl (qk rfl rfl (qk rfl rfl (qk rfl rfl (qk rfl rfl (qk rfl rfl (qk rfl rfl (qk rfl rfl (qk rfl rfl (qk rfl rfl (qv (.bool false) (fun _ x' => x_pick_f rfl rfl rfl) ?_)))))))))))))))
  refine q_nil (fun w88 x89 => t_norm (c_false rfl (c_skip (b_norm (t_norm (c_quiet (qv (iJ ((k10 : Int) + 1)) (fun _ x' => x_add rfl e22 rfl (wrap_of (by omega) (by omega))) ?_)))))))
  refine qv (iJ ((k10 : Int) + 1)) (fun _ x' => x_move rfl rfl) ?_
  exact q_nil (fun w90 x91 => t_norm (⟨_, rfl, ⟨k10 + 1, (j35 : Int), by omega, best_skip (best_some hp34 hj37) hx25 c76, e15, e16, e17, e18, e19, e20, e21, rfl, (((((x14.trans x68).trans x71).stored (x14.trans x68).size s75).trans x89).trans x91)⟩, meas_up e22 hl23⟩))
 rcases hi12 with ⟨hbi, hp92⟩ | ⟨j93, b94, hbi, hj95, hp92⟩
 ·subst hbi
  refine c_seq (c_quiet (qv (.bool false) (fun _ x' => yb (x_lss rfl e22 e20) (decide_eq_false (by omega))) ?_))
  refine q_nil (fun w96 x97 => t_norm (c_seq (c_false rfl (c_exit (t_exit (t_exit (b_exit (t_norm (c_seq (c_seq (c_quiet (qv (iJ (-1)) (fun _ x' => x_move rfl e21) ?_))))))))))))
  refine qv (.bool true) (fun _ x' => yb (x_lss rfl rfl rfl) rfl) ?_
  refine q_nil (fun w98 x99 => t_norm (c_true rfl (c_seq (c_plain (pv (.agg #[iJ 0, iJ 0, iJ 0, iJ 0, iJ 0, iJ 0, iJ 0, iJ 0, iJ 0, iJ 0, iJ 0, iJ 0, iJ 0, .slice none 0 0, .slice none 0 0, .bool false, iJ 0, iJ 0, iJ 0, iJ 0, iJ 0, iJ 0, iJ 0, iJ 0, .bool false]) (x_build0 zero_40 bld_40 rfl) ?_)))))
  refine p_store (v := .agg #[iJ 0, iJ 0, iJ 0, iJ 0, iJ 0, iJ 0, iJ 0, iJ 0, iJ 0, iJ 0, iJ 0, iJ 0, iJ 0, .slice none 0 0, .slice none 0 0, .bool false, iJ 0, iJ 0, iJ 0, iJ 0, iJ 0, iJ 0, iJ 0, iJ 0, .bool false]) (vs := [iJ 0, iJ 0, iJ 0, iJ 0, iJ 0, iJ 0, iJ 0, iJ 0, iJ 0, iJ 0, iJ 0, iJ 0, iJ 0, .slice none 0 0, .slice none 0 0, .bool false, iJ 0, iJ 0, iJ 0, iJ 0, iJ 0, iJ 0, iJ 0, iJ 0, .bool false]) (cs' := [iJ 0, iJ 0, iJ 0, iJ 0, iJ 0, iJ 0, iJ 0, iJ 0, iJ 0, iJ 0, iJ 0, iJ 0, iJ 0, .slice none 0 0, .slice none 0 0, .bool false, iJ 0, iJ 0, iJ 0, iJ 0, iJ 0, iJ 0, iJ 0, iJ 0, .bool false]) rfl rfl rfl e17 rfl rfl (((((b2.ext x6).ext x8).ext x14).ext x97).ext x99) size_40 rfl rfl rfl (fun w100 b101 s102 => ?_)
  refine pv (.bool false) (x_assign rfl rfl) ?_
  exact p_nil (t_norm (c_ret (t_ret (c_doneC2 rfl e17 rfl (b101.agg (vs := [iJ 0, iJ 0, iJ 0, iJ 0, iJ 0, iJ 0, iJ 0, iJ 0, iJ 0, iJ 0, iJ 0, iJ 0, iJ 0, .slice none 0 0, .slice none 0 0, .bool false, iJ 0, iJ 0, iJ 0, iJ 0, iJ 0, iJ 0, iJ 0, iJ 0, .bool false]) agg_40_25 rfl) ⟨((((((x3.trans x6).trans x8).trans x14).trans x97).trans x99).stored (Nat.le_refl _) s102), .inl ⟨best_end hp92 hl23, rfl⟩⟩))))
 subst hbi
 have hjl103 := lt_of hj95
 obtain ⟨ad104, cs105, eA106, hK107, hE108⟩ := hV.lies j93 b94 hj95
 have hK107' : cs105 = [iJ b94.src, iJ b94.r.inst.replica, iJ b94.r.inst.slot, iJ b94.r.status, iJ b94.r.promise.number, iJ b94.r.promise.replica, iJ b94.r.ballot.number, iJ b94.r.ballot.replica, iJ b94.r.cmd.kind, iJ b94.r.cmd.txn.client, iJ b94.r.cmd.txn.number, iJ b94.r.cmd.stp.time, iJ b94.r.cmd.stp.client, iJ b94.r.cmd.shards, .slice b94.p.A b94.r.cmd.reads.length b94.p.n, .slice b94.p.B b94.r.cmd.writes.length b94.p.m, .bool b94.r.cmd.commit, iJ b94.r.seq, iJ b94.r.deps.d0, iJ b94.r.deps.d1, iJ b94.r.deps.d2, iJ b94.r.deps.d3, iJ b94.r.deps.d4, iJ b94.r.deps.d5, iJ b94.r.deps.d6, .bool b94.r.kept] := hK107
 subst hK107'
 have ha109 := hV.at_.out _ (at_of hj95)
 have hs110 := hV.slim _ (at_of hj95)
 refine c_seq (c_quiet (qv (.bool false) (fun _ x' => yb (x_lss rfl e22 e20) (decide_eq_false (by omega))) ?_))
 refine q_nil (fun w112 x113 => t_norm (c_seq (c_false rfl (c_exit (t_exit (t_exit (b_exit (t_norm (c_seq (c_seq (c_quiet (qv (iJ (j93 : Int)) (fun _ x' => x_move rfl e21) ?_))))))))))))
 refine qv (.bool false) (fun _ x' => yb (x_lss rfl rfl rfl) (decide_eq_false (by omega))) ?_
 refine q_nil (fun w114 x115 => t_norm (c_false rfl (c_skip (t_norm (c_seq (c_plain (pv (.slice A l.length c) (x_move rfl e15) ?_)))))))
 refine pv (iJ (j93 : Int)) (x_move rfl e21) ?_
 refine pv (.pointer (some (ad104.add (j93 * 26)))) (x_indexAddr sl_44 rfl rfl eA106 rfl (by omega) (by omega) rfl) ?_
 refine pv (.pointer (some ((ad104.add (j93 * 26)).add 1))) (x_fieldAddr fld_63_1 rfl rfl rfl) ?_
 refine pv (.agg #[iJ b94.r.inst.replica, iJ b94.r.inst.slot, iJ b94.r.status, iJ b94.r.promise.number, iJ b94.r.promise.replica, iJ b94.r.ballot.number, iJ b94.r.ballot.replica, iJ b94.r.cmd.kind, iJ b94.r.cmd.txn.client, iJ b94.r.cmd.txn.number, iJ b94.r.cmd.stp.time, iJ b94.r.cmd.stp.client, iJ b94.r.cmd.shards, .slice b94.p.A b94.r.cmd.reads.length b94.p.n, .slice b94.p.B b94.r.cmd.writes.length b94.p.m, .bool b94.r.cmd.commit, iJ b94.r.seq, iJ b94.r.deps.d0, iJ b94.r.deps.d1, iJ b94.r.deps.d2, iJ b94.r.deps.d3, iJ b94.r.deps.d4, iJ b94.r.deps.d5, iJ b94.r.deps.d6, .bool b94.r.kept]) (x_load rfl rfl (((((((hE108.ext x3).ext x6).ext x8).ext x14).ext x113).ext x115).agg (vs := [iJ b94.r.inst.replica, iJ b94.r.inst.slot, iJ b94.r.status, iJ b94.r.promise.number, iJ b94.r.promise.replica, iJ b94.r.ballot.number, iJ b94.r.ballot.replica, iJ b94.r.cmd.kind, iJ b94.r.cmd.txn.client, iJ b94.r.cmd.txn.number, iJ b94.r.cmd.stp.time, iJ b94.r.cmd.stp.client, iJ b94.r.cmd.shards, .slice b94.p.A b94.r.cmd.reads.length b94.p.n, .slice b94.p.B b94.r.cmd.writes.length b94.p.m, .bool b94.r.cmd.commit, iJ b94.r.seq, iJ b94.r.deps.d0, iJ b94.r.deps.d1, iJ b94.r.deps.d2, iJ b94.r.deps.d3, iJ b94.r.deps.d4, iJ b94.r.deps.d5, iJ b94.r.deps.d6, .bool b94.r.kept]) agg_40_25 1 rfl rfl)) ?_
 refine p_store (v := .agg #[iJ b94.r.inst.replica, iJ b94.r.inst.slot, iJ b94.r.status, iJ b94.r.promise.number, iJ b94.r.promise.replica, iJ b94.r.ballot.number, iJ b94.r.ballot.replica, iJ b94.r.cmd.kind, iJ b94.r.cmd.txn.client, iJ b94.r.cmd.txn.number, iJ b94.r.cmd.stp.time, iJ b94.r.cmd.stp.client, iJ b94.r.cmd.shards, .slice b94.p.A b94.r.cmd.reads.length b94.p.n, .slice b94.p.B b94.r.cmd.writes.length b94.p.m, .bool b94.r.cmd.commit, iJ b94.r.seq, iJ b94.r.deps.d0, iJ b94.r.deps.d1, iJ b94.r.deps.d2, iJ b94.r.deps.d3, iJ b94.r.deps.d4, iJ b94.r.deps.d5, iJ b94.r.deps.d6, .bool b94.r.kept]) (vs := [iJ b94.r.inst.replica, iJ b94.r.inst.slot, iJ b94.r.status, iJ b94.r.promise.number, iJ b94.r.promise.replica, iJ b94.r.ballot.number, iJ b94.r.ballot.replica, iJ b94.r.cmd.kind, iJ b94.r.cmd.txn.client, iJ b94.r.cmd.txn.number, iJ b94.r.cmd.stp.time, iJ b94.r.cmd.stp.client, iJ b94.r.cmd.shards, .slice b94.p.A b94.r.cmd.reads.length b94.p.n, .slice b94.p.B b94.r.cmd.writes.length b94.p.m, .bool b94.r.cmd.commit, iJ b94.r.seq, iJ b94.r.deps.d0, iJ b94.r.deps.d1, iJ b94.r.deps.d2, iJ b94.r.deps.d3, iJ b94.r.deps.d4, iJ b94.r.deps.d5, iJ b94.r.deps.d6, .bool b94.r.kept]) (cs' := [iJ b94.r.inst.replica, iJ b94.r.inst.slot, iJ b94.r.status, iJ b94.r.promise.number, iJ b94.r.promise.replica, iJ b94.r.ballot.number, iJ b94.r.ballot.replica, iJ b94.r.cmd.kind, iJ b94.r.cmd.txn.client, iJ b94.r.cmd.txn.number, iJ b94.r.cmd.stp.time, iJ b94.r.cmd.stp.client, iJ b94.r.cmd.shards, .slice b94.p.A b94.r.cmd.reads.length b94.p.n, .slice b94.p.B b94.r.cmd.writes.length b94.p.m, .bool b94.r.cmd.commit, iJ b94.r.seq, iJ b94.r.deps.d0, iJ b94.r.deps.d1, iJ b94.r.deps.d2, iJ b94.r.deps.d3, iJ b94.r.deps.d4, iJ b94.r.deps.d5, iJ b94.r.deps.d6, .bool b94.r.kept]) rfl rfl rfl e17 rfl rfl (((((b2.ext x6).ext x8).ext x14).ext x113).ext x115) size_40 rfl rfl rfl (fun w116 b117 s118 => ?_)
 refine pv (.bool true) (x_assign rfl rfl) ?_
 exact p_nil (t_norm (c_ret (c_doneC2 rfl e17 rfl (b117.agg (vs := [iJ b94.r.inst.replica, iJ b94.r.inst.slot, iJ b94.r.status, iJ b94.r.promise.number, iJ b94.r.promise.replica, iJ b94.r.ballot.number, iJ b94.r.ballot.replica, iJ b94.r.cmd.kind, iJ b94.r.cmd.txn.client, iJ b94.r.cmd.txn.number, iJ b94.r.cmd.stp.time, iJ b94.r.cmd.stp.client, iJ b94.r.cmd.shards, .slice b94.p.A b94.r.cmd.reads.length b94.p.n, .slice b94.p.B b94.r.cmd.writes.length b94.p.m, .bool b94.r.cmd.commit, iJ b94.r.seq, iJ b94.r.deps.d0, iJ b94.r.deps.d1, iJ b94.r.deps.d2, iJ b94.r.deps.d3, iJ b94.r.deps.d4, iJ b94.r.deps.d5, iJ b94.r.deps.d6, .bool b94.r.kept]) agg_40_25 rfl) ⟨((((((x3.trans x6).trans x8).trans x14).trans x113).trans x115).stored (Nat.le_refl _) s118), .inr ⟨b94, best_end hp92 hl23, rfl⟩⟩)))
set_option maxHeartbeats 1000000 in
theorem C_pickFast (w : World) (A : Option Addr) (c : Nat) (l : List Vt) (hV : Vts w A l) :
    Calls Try.prog 29 #[.slice A l.length c, .func (.func 30) #[] #[]] w (fun e w' => Ext w w' ∧ ((pickV (quick) l = none ∧ e = .returned (.tuple #[.agg #[.int .i64 0, .int .i64 0, .int .i64 0, .int .i64 0, .int .i64 0, .int .i64 0, .int .i64 0, .int .i64 0, .int .i64 0, .int .i64 0, .int .i64 0, .int .i64 0, .int .i64 0, .slice none 0 0, .slice none 0 0, .bool false, .int .i64 0, .int .i64 0, .int .i64 0, .int .i64 0, .int .i64 0, .int .i64 0, .int .i64 0, .int .i64 0, .bool false], .bool false])) ∨ (∃ v, pickV (quick) l = some v ∧ e = .returned (.tuple #[vRec v.r v.p, .bool true])))) := by
 have hlen0 := hV.len
 refine c_enter (n := 46) Try.func29 rfl rfl rfl ?_
 refine c_seq (c_plain (p_alloc (cs := [iJ 0, iJ 0, iJ 0, iJ 0, iJ 0, iJ 0, iJ 0, iJ 0, iJ 0, iJ 0, iJ 0, iJ 0, iJ 0, .slice none 0 0, .slice none 0 0, .bool false, iJ 0, iJ 0, iJ 0, iJ 0, iJ 0, iJ 0, iJ 0, iJ 0, .bool false]) rfl rfl rfl zero_40 rfl (fun w1 b2 x3 z4 => ?_)))
 refine pv (.bool false) (x_assign rfl rfl) ?_
 refine p_nil (t_norm (c_seq (c_quiet (qv (iJ (-1)) (fun _ x' => x_assign rfl rfl) ?_))))
 refine q_nil (fun w5 x6 => t_norm (c_seq (c_seq (c_quiet (qv (.slice A l.length c) (fun _ x' => x_move rfl rfl) ?_)))))
 refine qv (iJ (l.length : Int)) (fun _ x' => x_len_slice sl_44 rfl rfl) ?_
 refine qv (iJ 0) (fun _ x' => x_move rfl rfl) ?_
 refine q_nil (fun w7 x8 => t_norm (c_block (c_loop (fun ρ w13 => ∃ k10 : Nat, ∃ bi9 : Int, k10 ≤ l.length ∧ Best (quick) l k10 bi9 ∧ ρ 0 = .slice A l.length c ∧ ρ 1 = .func (.func 30) #[] #[] ∧ ρ 4 = pJ w.heap.size ∧ ρ 5 = .bool false ∧ ρ 9 = .slice A l.length c ∧ ρ 10 = iJ (l.length : Int) ∧ ρ 6 = iJ bi9 ∧ ρ 11 = iJ (k10 : Int) ∧ Ext w7 w13) (fun ρ _ => l.length - (intOf (ρ 11)).toNat) ⟨0, (-1), Nat.zero_le _, best_none rfl, rfl, rfl, rfl, rfl, rfl, rfl, rfl, rfl, Ext.refl _⟩ ?_)))
 rintro ρ w13 ⟨k10, bi9, hk11, hi12, e15, e16, e17, e18, e19, e20, e21, e22, x14⟩
 by_cases hl23 : k10 < l.length
 ·obtain ⟨y24, hx25⟩ := some_of (l := l) (k := k10) (by omega)
  obtain ⟨ad26, cs27, eA28, hK29, hE30⟩ := hV.lies k10 y24 hx25
  have hK29' : cs27 = [iJ y24.src, iJ y24.r.inst.replica, iJ y24.r.inst.slot, iJ y24.r.status, iJ y24.r.promise.number, iJ y24.r.promise.replica, iJ y24.r.ballot.number, iJ y24.r.ballot.replica, iJ y24.r.cmd.kind, iJ y24.r.cmd.txn.client, iJ y24.r.cmd.txn.number, iJ y24.r.cmd.stp.time, iJ y24.r.cmd.stp.client, iJ y24.r.cmd.shards, .slice y24.p.A y24.r.cmd.reads.length y24.p.n, .slice y24.p.B y24.r.cmd.writes.length y24.p.m, .bool y24.r.cmd.commit, iJ y24.r.seq, iJ y24.r.deps.d0, iJ y24.r.deps.d1, iJ y24.r.deps.d2, iJ y24.r.deps.d3, iJ y24.r.deps.d4, iJ y24.r.deps.d5, iJ y24.r.deps.d6, .bool y24.r.kept] := hK29
  subst hK29'
  have ha31 := hV.at_.out _ (at_of hx25)
  have hs32 := hV.slim _ (at_of hx25)
  rcases hi12 with ⟨hbi, hp34⟩ | ⟨j35, b36, hbi, hj37, hp34⟩
  ·subst hbi
   refine c_seq (c_quiet (qv (.bool true) (fun _ x' => yb (x_lss rfl e22 e20) (decide_eq_true (by omega))) ?_))
   refine q_nil (fun w38 x39 => t_norm (c_seq (c_true rfl (c_skip (t_norm (c_seq (c_block (c_seq (c_plain (pv (iJ (k10 : Int)) (x_move rfl e22) ?_))))))))))
   refine pv (.pointer (some (ad26.add (k10 * 26)))) (x_indexAddr sl_44 rfl e19 eA28 e22 (by omega) (by omega) rfl) ?_
   refine pv (vVt y24) (x_load rfl rfl ((((((hE30.ext x3).ext x6).ext x8).ext x14).ext x39).agg (vs := [iJ y24.src, iJ y24.r.inst.replica, iJ y24.r.inst.slot, iJ y24.r.status, iJ y24.r.promise.number, iJ y24.r.promise.replica, iJ y24.r.ballot.number, iJ y24.r.ballot.replica, iJ y24.r.cmd.kind, iJ y24.r.cmd.txn.client, iJ y24.r.cmd.txn.number, iJ y24.r.cmd.stp.time, iJ y24.r.cmd.stp.client, iJ y24.r.cmd.shards, .slice y24.p.A y24.r.cmd.reads.length y24.p.n, .slice y24.p.B y24.r.cmd.writes.length y24.p.m, .bool y24.r.cmd.commit, iJ y24.r.seq, iJ y24.r.deps.d0, iJ y24.r.deps.d1, iJ y24.r.deps.d2, iJ y24.r.deps.d3, iJ y24.r.deps.d4, iJ y24.r.deps.d5, iJ y24.r.deps.d6, .bool y24.r.kept]) agg_63_26 0 rfl rfl)) ?_
   refine p_alloc (cs := [iJ 0, iJ 0, iJ 0, iJ 0, iJ 0, iJ 0, iJ 0, iJ 0, iJ 0, iJ 0, iJ 0, iJ 0, iJ 0, iJ 0, .slice none 0 0, .slice none 0 0, .bool false, iJ 0, iJ 0, iJ 0, iJ 0, iJ 0, iJ 0, iJ 0, iJ 0, .bool false]) rfl rfl rfl zero_63 rfl (fun w40 b41 x42 z43 => ?_)
   refine pv (iJ (k10 : Int)) (x_assign rfl rfl) ?_
   refine p_store (v := vVt y24) (vs := [iJ y24.src, iJ y24.r.inst.replica, iJ y24.r.inst.slot, iJ y24.r.status, iJ y24.r.promise.number, iJ y24.r.promise.replica, iJ y24.r.ballot.number, iJ y24.r.ballot.replica, iJ y24.r.cmd.kind, iJ y24.r.cmd.txn.client, iJ y24.r.cmd.txn.number, iJ y24.r.cmd.stp.time, iJ y24.r.cmd.stp.client, iJ y24.r.cmd.shards, .slice y24.p.A y24.r.cmd.reads.length y24.p.n, .slice y24.p.B y24.r.cmd.writes.length y24.p.m, .bool y24.r.cmd.commit, iJ y24.r.seq, iJ y24.r.deps.d0, iJ y24.r.deps.d1, iJ y24.r.deps.d2, iJ y24.r.deps.d3, iJ y24.r.deps.d4, iJ y24.r.deps.d5, iJ y24.r.deps.d6, .bool y24.r.kept]) (cs' := [iJ y24.src, iJ y24.r.inst.replica, iJ y24.r.inst.slot, iJ y24.r.status, iJ y24.r.promise.number, iJ y24.r.promise.replica, iJ y24.r.ballot.number, iJ y24.r.ballot.replica, iJ y24.r.cmd.kind, iJ y24.r.cmd.txn.client, iJ y24.r.cmd.txn.number, iJ y24.r.cmd.stp.time, iJ y24.r.cmd.stp.client, iJ y24.r.cmd.shards, .slice y24.p.A y24.r.cmd.reads.length y24.p.n, .slice y24.p.B y24.r.cmd.writes.length y24.p.m, .bool y24.r.cmd.commit, iJ y24.r.seq, iJ y24.r.deps.d0, iJ y24.r.deps.d1, iJ y24.r.deps.d2, iJ y24.r.deps.d3, iJ y24.r.deps.d4, iJ y24.r.deps.d5, iJ y24.r.deps.d6, .bool y24.r.kept]) rfl rfl rfl rfl rfl rfl b41 size_63 rfl rfl rfl (fun w44 b45 s46 => ?_)
   refine p_nil (t_norm (c_seq (c_draw mixed (by kernel_rfl) (qv (.func (.func 30) #[] #[]) (fun _ x' => x_move rfl e16) ?_))))
   refine qv (.agg #[iJ y24.src, iJ y24.r.inst.replica, iJ y24.r.inst.slot, iJ y24.r.status, iJ y24.r.promise.number, iJ y24.r.promise.replica, iJ y24.r.ballot.number, iJ y24.r.ballot.replica, iJ y24.r.cmd.kind, iJ y24.r.cmd.txn.client, iJ y24.r.cmd.txn.number, iJ y24.r.cmd.stp.time, iJ y24.r.cmd.stp.client, iJ y24.r.cmd.shards, .slice y24.p.A y24.r.cmd.reads.length y24.p.n, .slice y24.p.B y24.r.cmd.writes.length y24.p.m, .bool y24.r.cmd.commit, iJ y24.r.seq, iJ y24.r.deps.d0, iJ y24.r.deps.d1, iJ y24.r.deps.d2, iJ y24.r.deps.d3, iJ y24.r.deps.d4, iJ y24.r.deps.d5, iJ y24.r.deps.d6, .bool y24.r.kept]) (fun _ x' => x_load rfl rfl ((b45.ext x').agg (vs := [iJ y24.src, iJ y24.r.inst.replica, iJ y24.r.inst.slot, iJ y24.r.status, iJ y24.r.promise.number, iJ y24.r.promise.replica, iJ y24.r.ballot.number, iJ y24.r.ballot.replica, iJ y24.r.cmd.kind, iJ y24.r.cmd.txn.client, iJ y24.r.cmd.txn.number, iJ y24.r.cmd.stp.time, iJ y24.r.cmd.stp.client, iJ y24.r.cmd.shards, .slice y24.p.A y24.r.cmd.reads.length y24.p.n, .slice y24.p.B y24.r.cmd.writes.length y24.p.m, .bool y24.r.cmd.commit, iJ y24.r.seq, iJ y24.r.deps.d0, iJ y24.r.deps.d1, iJ y24.r.deps.d2, iJ y24.r.deps.d3, iJ y24.r.deps.d4, iJ y24.r.deps.d5, iJ y24.r.deps.d6, .bool y24.r.kept]) agg_63_26 rfl)) ?_
   refine q_callvb (b := quick y24) (vs := #[.agg #[iJ y24.src, iJ y24.r.inst.replica, iJ y24.r.inst.slot, iJ y24.r.status, iJ y24.r.promise.number, iJ y24.r.promise.replica, iJ y24.r.ballot.number, iJ y24.r.ballot.replica, iJ y24.r.cmd.kind, iJ y24.r.cmd.txn.client, iJ y24.r.cmd.txn.number, iJ y24.r.cmd.stp.time, iJ y24.r.cmd.stp.client, iJ y24.r.cmd.shards, .slice y24.p.A y24.r.cmd.reads.length y24.p.n, .slice y24.p.B y24.r.cmd.writes.length y24.p.m, .bool y24.r.cmd.commit, iJ y24.r.seq, iJ y24.r.deps.d0, iJ y24.r.deps.d1, iJ y24.r.deps.d2, iJ y24.r.deps.d3, iJ y24.r.deps.d4, iJ y24.r.deps.d5, iJ y24.r.deps.d6, .bool y24.r.kept]]) (cap := #[]) (all := #[.agg #[iJ y24.src, iJ y24.r.inst.replica, iJ y24.r.inst.slot, iJ y24.r.status, iJ y24.r.promise.number, iJ y24.r.promise.replica, iJ y24.r.ballot.number, iJ y24.r.ballot.replica, iJ y24.r.cmd.kind, iJ y24.r.cmd.txn.client, iJ y24.r.cmd.txn.number, iJ y24.r.cmd.stp.time, iJ y24.r.cmd.stp.client, iJ y24.r.cmd.shards, .slice y24.p.A y24.r.cmd.reads.length y24.p.n, .slice y24.p.B y24.r.cmd.writes.length y24.p.m, .bool y24.r.cmd.commit, iJ y24.r.seq, iJ y24.r.deps.d0, iJ y24.r.deps.d1, iJ y24.r.deps.d2, iJ y24.r.deps.d3, iJ y24.r.deps.d4, iJ y24.r.deps.d5, iJ y24.r.deps.d6, .bool y24.r.kept]]) fn_30 rfl rfl rfl rfl (args1 rfl) (by simp) (fun _ x' => C_quick _ y24) (fun c47 => ?_) (fun c47 => ?_)
   ·refine qv (.bool true) (fun _ x' => x_move rfl rfl) ?_
    refine qv (iJ (-1)) (fun _ x' => x_move rfl e21) ?_
    refine qv (.bool true) (fun _ x' => yb (x_lss rfl rfl rfl) rfl) ?_
    refine qv (.bool true) (fun _ x' => x_move rfl rfl) ?_
    refine qk rfl rfl (qk rfl rfl (qk rfl rfl (qk rfl rfl (qk rfl rfl (qk rfl rfl (qk rfl rfl (qk rfl rfl (qk rfl rfl (qk rfl rfl (qk rfl rfl (qv (.bool true) (fun _ x' => x_pick_t rfl rfl rfl) ?_)))))))))))
    refine qv (.bool true) (fun _ x' => x_pick_t rfl rfl rfl) ?_
    refine q_nil (fun w48 x49 => t_norm (c_true rfl (c_quiet (qv (iJ (k10 : Int)) (fun _ x' => x_move rfl rfl) ?_))))
    refine qv (iJ (k10 : Int)) (fun _ x' => x_assign rfl rfl) ?_
    refine q_nil (fun w50 x51 => b_norm (t_norm (c_quiet (qv (iJ ((k10 : Int) + 1)) (fun _ x' => x_add rfl e22 rfl (wrap_of (by omega) (by omega))) ?_))))
    refine qv (iJ ((k10 : Int) + 1)) (fun _ x' => x_move rfl rfl) ?_
    exact q_nil (fun w52 x53 => t_norm (⟨_, rfl, ⟨k10 + 1, (k10 : Int), by omega, best_first hp34 hx25 c47, e15, e16, e17, e18, e19, e20, rfl, rfl, ((((((x14.trans x39).trans x42).stored (x14.trans x39).size s46).trans x49).trans x51).trans x53)⟩, meas_up e22 hl23⟩))
   refine qv (.bool false) (fun _ x' => x_move rfl rfl) ?_
   refine qk rfl rfl (qk rfl rfl (qk rfl rfl (qk rfl rfl (qk rfl rfl (qk rfl rfl (qk rfl rfl (qk rfl rfl (qk rfl rfl (qk rfl rfl (qk rfl rfl (qk rfl rfl (qk rfl rfl (qk rfl rfl (qk rfl rfl (qv (.bool false) (fun _ x' => x_pick_f rfl rfl rfl) ?_)))))))))))))))
   refine q_nil (fun w54 x55 => t_norm (c_false rfl (c_skip (b_norm (t_norm (c_quiet (qv (iJ ((k10 : Int) + 1)) (fun _ x' => x_add rfl e22 rfl (wrap_of (by omega) (by omega))) ?_)))))))
   refine qv (iJ ((k10 : Int) + 1)) (fun _ x' => x_move rfl rfl) ?_
   exact q_nil (fun w56 x57 => t_norm (⟨_, rfl, ⟨k10 + 1, (-1), by omega, best_skip (best_none hp34) hx25 c47, e15, e16, e17, e18, e19, e20, e21, rfl, (((((x14.trans x39).trans x42).stored (x14.trans x39).size s46).trans x55).trans x57)⟩, meas_up e22 hl23⟩))
  subst hbi
  have hjl58 := lt_of hj37
  obtain ⟨ad59, cs60, eA61, hK62, hE63⟩ := hV.lies j35 b36 hj37
  have hK62' : cs60 = [iJ b36.src, iJ b36.r.inst.replica, iJ b36.r.inst.slot, iJ b36.r.status, iJ b36.r.promise.number, iJ b36.r.promise.replica, iJ b36.r.ballot.number, iJ b36.r.ballot.replica, iJ b36.r.cmd.kind, iJ b36.r.cmd.txn.client, iJ b36.r.cmd.txn.number, iJ b36.r.cmd.stp.time, iJ b36.r.cmd.stp.client, iJ b36.r.cmd.shards, .slice b36.p.A b36.r.cmd.reads.length b36.p.n, .slice b36.p.B b36.r.cmd.writes.length b36.p.m, .bool b36.r.cmd.commit, iJ b36.r.seq, iJ b36.r.deps.d0, iJ b36.r.deps.d1, iJ b36.r.deps.d2, iJ b36.r.deps.d3, iJ b36.r.deps.d4, iJ b36.r.deps.d5, iJ b36.r.deps.d6, .bool b36.r.kept] := hK62
  subst hK62'
  have ha64 := hV.at_.out _ (at_of hj37)
  have hs65 := hV.slim _ (at_of hj37)
  refine c_seq (c_quiet (qv (.bool true) (fun _ x' => yb (x_lss rfl e22 e20) (decide_eq_true (by omega))) ?_))
  refine q_nil (fun w67 x68 => t_norm (c_seq (c_true rfl (c_skip (t_norm (c_seq (c_block (c_seq (c_plain (pv (iJ (k10 : Int)) (x_move rfl e22) ?_))))))))))
  refine pv (.pointer (some (ad26.add (k10 * 26)))) (x_indexAddr sl_44 rfl e19 eA28 e22 (by omega) (by omega) rfl) ?_
  refine pv (vVt y24) (x_load rfl rfl ((((((hE30.ext x3).ext x6).ext x8).ext x14).ext x68).agg (vs := [iJ y24.src, iJ y24.r.inst.replica, iJ y24.r.inst.slot, iJ y24.r.status, iJ y24.r.promise.number, iJ y24.r.promise.replica, iJ y24.r.ballot.number, iJ y24.r.ballot.replica, iJ y24.r.cmd.kind, iJ y24.r.cmd.txn.client, iJ y24.r.cmd.txn.number, iJ y24.r.cmd.stp.time, iJ y24.r.cmd.stp.client, iJ y24.r.cmd.shards, .slice y24.p.A y24.r.cmd.reads.length y24.p.n, .slice y24.p.B y24.r.cmd.writes.length y24.p.m, .bool y24.r.cmd.commit, iJ y24.r.seq, iJ y24.r.deps.d0, iJ y24.r.deps.d1, iJ y24.r.deps.d2, iJ y24.r.deps.d3, iJ y24.r.deps.d4, iJ y24.r.deps.d5, iJ y24.r.deps.d6, .bool y24.r.kept]) agg_63_26 0 rfl rfl)) ?_
  refine p_alloc (cs := [iJ 0, iJ 0, iJ 0, iJ 0, iJ 0, iJ 0, iJ 0, iJ 0, iJ 0, iJ 0, iJ 0, iJ 0, iJ 0, iJ 0, .slice none 0 0, .slice none 0 0, .bool false, iJ 0, iJ 0, iJ 0, iJ 0, iJ 0, iJ 0, iJ 0, iJ 0, .bool false]) rfl rfl rfl zero_63 rfl (fun w69 b70 x71 z72 => ?_)
  refine pv (iJ (k10 : Int)) (x_assign rfl rfl) ?_
  refine p_store (v := vVt y24) (vs := [iJ y24.src, iJ y24.r.inst.replica, iJ y24.r.inst.slot, iJ y24.r.status, iJ y24.r.promise.number, iJ y24.r.promise.replica, iJ y24.r.ballot.number, iJ y24.r.ballot.replica, iJ y24.r.cmd.kind, iJ y24.r.cmd.txn.client, iJ y24.r.cmd.txn.number, iJ y24.r.cmd.stp.time, iJ y24.r.cmd.stp.client, iJ y24.r.cmd.shards, .slice y24.p.A y24.r.cmd.reads.length y24.p.n, .slice y24.p.B y24.r.cmd.writes.length y24.p.m, .bool y24.r.cmd.commit, iJ y24.r.seq, iJ y24.r.deps.d0, iJ y24.r.deps.d1, iJ y24.r.deps.d2, iJ y24.r.deps.d3, iJ y24.r.deps.d4, iJ y24.r.deps.d5, iJ y24.r.deps.d6, .bool y24.r.kept]) (cs' := [iJ y24.src, iJ y24.r.inst.replica, iJ y24.r.inst.slot, iJ y24.r.status, iJ y24.r.promise.number, iJ y24.r.promise.replica, iJ y24.r.ballot.number, iJ y24.r.ballot.replica, iJ y24.r.cmd.kind, iJ y24.r.cmd.txn.client, iJ y24.r.cmd.txn.number, iJ y24.r.cmd.stp.time, iJ y24.r.cmd.stp.client, iJ y24.r.cmd.shards, .slice y24.p.A y24.r.cmd.reads.length y24.p.n, .slice y24.p.B y24.r.cmd.writes.length y24.p.m, .bool y24.r.cmd.commit, iJ y24.r.seq, iJ y24.r.deps.d0, iJ y24.r.deps.d1, iJ y24.r.deps.d2, iJ y24.r.deps.d3, iJ y24.r.deps.d4, iJ y24.r.deps.d5, iJ y24.r.deps.d6, .bool y24.r.kept]) rfl rfl rfl rfl rfl rfl b70 size_63 rfl rfl rfl (fun w73 b74 s75 => ?_)
  refine p_nil (t_norm (c_seq (c_draw mixed (by kernel_rfl) (qv (.func (.func 30) #[] #[]) (fun _ x' => x_move rfl e16) ?_))))
  refine qv (.agg #[iJ y24.src, iJ y24.r.inst.replica, iJ y24.r.inst.slot, iJ y24.r.status, iJ y24.r.promise.number, iJ y24.r.promise.replica, iJ y24.r.ballot.number, iJ y24.r.ballot.replica, iJ y24.r.cmd.kind, iJ y24.r.cmd.txn.client, iJ y24.r.cmd.txn.number, iJ y24.r.cmd.stp.time, iJ y24.r.cmd.stp.client, iJ y24.r.cmd.shards, .slice y24.p.A y24.r.cmd.reads.length y24.p.n, .slice y24.p.B y24.r.cmd.writes.length y24.p.m, .bool y24.r.cmd.commit, iJ y24.r.seq, iJ y24.r.deps.d0, iJ y24.r.deps.d1, iJ y24.r.deps.d2, iJ y24.r.deps.d3, iJ y24.r.deps.d4, iJ y24.r.deps.d5, iJ y24.r.deps.d6, .bool y24.r.kept]) (fun _ x' => x_load rfl rfl ((b74.ext x').agg (vs := [iJ y24.src, iJ y24.r.inst.replica, iJ y24.r.inst.slot, iJ y24.r.status, iJ y24.r.promise.number, iJ y24.r.promise.replica, iJ y24.r.ballot.number, iJ y24.r.ballot.replica, iJ y24.r.cmd.kind, iJ y24.r.cmd.txn.client, iJ y24.r.cmd.txn.number, iJ y24.r.cmd.stp.time, iJ y24.r.cmd.stp.client, iJ y24.r.cmd.shards, .slice y24.p.A y24.r.cmd.reads.length y24.p.n, .slice y24.p.B y24.r.cmd.writes.length y24.p.m, .bool y24.r.cmd.commit, iJ y24.r.seq, iJ y24.r.deps.d0, iJ y24.r.deps.d1, iJ y24.r.deps.d2, iJ y24.r.deps.d3, iJ y24.r.deps.d4, iJ y24.r.deps.d5, iJ y24.r.deps.d6, .bool y24.r.kept]) agg_63_26 rfl)) ?_
  refine q_callvb (b := quick y24) (vs := #[.agg #[iJ y24.src, iJ y24.r.inst.replica, iJ y24.r.inst.slot, iJ y24.r.status, iJ y24.r.promise.number, iJ y24.r.promise.replica, iJ y24.r.ballot.number, iJ y24.r.ballot.replica, iJ y24.r.cmd.kind, iJ y24.r.cmd.txn.client, iJ y24.r.cmd.txn.number, iJ y24.r.cmd.stp.time, iJ y24.r.cmd.stp.client, iJ y24.r.cmd.shards, .slice y24.p.A y24.r.cmd.reads.length y24.p.n, .slice y24.p.B y24.r.cmd.writes.length y24.p.m, .bool y24.r.cmd.commit, iJ y24.r.seq, iJ y24.r.deps.d0, iJ y24.r.deps.d1, iJ y24.r.deps.d2, iJ y24.r.deps.d3, iJ y24.r.deps.d4, iJ y24.r.deps.d5, iJ y24.r.deps.d6, .bool y24.r.kept]]) (cap := #[]) (all := #[.agg #[iJ y24.src, iJ y24.r.inst.replica, iJ y24.r.inst.slot, iJ y24.r.status, iJ y24.r.promise.number, iJ y24.r.promise.replica, iJ y24.r.ballot.number, iJ y24.r.ballot.replica, iJ y24.r.cmd.kind, iJ y24.r.cmd.txn.client, iJ y24.r.cmd.txn.number, iJ y24.r.cmd.stp.time, iJ y24.r.cmd.stp.client, iJ y24.r.cmd.shards, .slice y24.p.A y24.r.cmd.reads.length y24.p.n, .slice y24.p.B y24.r.cmd.writes.length y24.p.m, .bool y24.r.cmd.commit, iJ y24.r.seq, iJ y24.r.deps.d0, iJ y24.r.deps.d1, iJ y24.r.deps.d2, iJ y24.r.deps.d3, iJ y24.r.deps.d4, iJ y24.r.deps.d5, iJ y24.r.deps.d6, .bool y24.r.kept]]) fn_30 rfl rfl rfl rfl (args1 rfl) (by simp) (fun _ x' => C_quick _ y24) (fun c76 => ?_) (fun c76 => ?_)
  ·refine qv (.bool true) (fun _ x' => x_move rfl rfl) ?_
   refine qv (iJ (j35 : Int)) (fun _ x' => x_move rfl e21) ?_
   refine qv (.bool false) (fun _ x' => yb (x_lss rfl rfl rfl) (decide_eq_false (by omega))) ?_
   refine qv (.bool false) (fun _ x' => x_move rfl rfl) ?_
   refine qv (.pointer (some (⟨w67.heap.size, 1, none⟩))) (fun _ x' => x_fieldAddr fld_63_1 rfl rfl rfl) ?_
   refine qv (.pointer (some (⟨w67.heap.size, 6, none⟩))) (fun _ x' => x_fieldAddr fld_40_3 rfl rfl rfl) ?_
   refine qv (.agg #[iJ y24.r.ballot.number, iJ y24.r.ballot.replica]) (fun _ x' => x_load rfl rfl ((b74.ext x').agg (vs := [iJ y24.r.ballot.number, iJ y24.r.ballot.replica]) agg_28_2 rfl)) ?_
   refine qv (.slice A l.length c) (fun _ x' => x_move rfl e15) ?_
   refine qv (iJ (j35 : Int)) (fun _ x' => x_move rfl e21) ?_
   refine qv (.pointer (some (ad59.add (j35 * 26)))) (fun _ x' => x_indexAddr sl_44 rfl rfl eA61 rfl (by omega) (by omega) rfl) ?_
   refine qv (.pointer (some ((ad59.add (j35 * 26)).add 1))) (fun _ x' => x_fieldAddr fld_63_1 rfl rfl rfl) ?_
   refine qv (.pointer (some (((ad59.add (j35 * 26)).add 1).add 5))) (fun _ x' => x_fieldAddr fld_40_3 rfl rfl rfl) ?_
   refine qv (.agg #[iJ b36.r.ballot.number, iJ b36.r.ballot.replica]) (fun _ x' => x_load rfl rfl ((hE63.ext (((((((x3.trans x6).trans x8).trans x14).trans x68).trans x71).stored ((((x3.trans x6).trans x8).trans x14).trans x68).size s75).trans x')).agg (vs := [iJ b36.r.ballot.number, iJ b36.r.ballot.replica]) agg_28_2 6 rfl rfl)) ?_
   refine q_call (vs := #[.agg #[iJ y24.r.ballot.number, iJ y24.r.ballot.replica], .agg #[iJ b36.r.ballot.number, iJ b36.r.ballot.replica]]) fn_47 rfl rfl rfl (args2 rfl rfl) (v := iJ (cmpBal y24.r.ballot b36.r.ballot)) (fun _ x' => C_cmpBal _ y24.r.ballot b36.r.ballot) ?_
   refine q_bool (b := decide (cmpBal y24.r.ballot b36.r.ballot > 0)) rfl rfl (fun _ x' => x_gtr rfl rfl rfl) (fun c77 => ?_) (fun c77 => ?_)
   ·refine qv (.bool true) (fun _ x' => x_pick_f rfl rfl rfl) ?_
    refine qv (.bool true) (fun _ x' => x_pick_t rfl rfl rfl) ?_
    refine q_nil (fun w78 x79 => t_norm (c_true rfl (c_quiet (qv (iJ (k10 : Int)) (fun _ x' => x_move rfl rfl) ?_))))
    refine qv (iJ (k10 : Int)) (fun _ x' => x_assign rfl rfl) ?_
    refine q_nil (fun w80 x81 => b_norm (t_norm (c_quiet (qv (iJ ((k10 : Int) + 1)) (fun _ x' => x_add rfl e22 rfl (wrap_of (by omega) (by omega))) ?_))))
    refine qv (iJ ((k10 : Int) + 1)) (fun _ x' => x_move rfl rfl) ?_
    exact q_nil (fun w82 x83 => t_norm (⟨_, rfl, ⟨k10 + 1, (k10 : Int), by omega, best_above hp34 hx25 c76 (of_decide_eq_true c77), e15, e16, e17, e18, e19, e20, rfl, rfl, ((((((x14.trans x68).trans x71).stored (x14.trans x68).size s75).trans x79).trans x81).trans x83)⟩, meas_up e22 hl23⟩))
   refine qv (.bool false) (fun _ x' => x_pick_f rfl rfl rfl) ?_
   refine qv (.bool false) (fun _ x' => x_pick_t rfl rfl rfl) ?_
   refine q_nil (fun w84 x85 => t_norm (c_false rfl (c_skip (b_norm (t_norm (c_quiet (qv (iJ ((k10 : Int) + 1)) (fun _ x' => x_add rfl e22 rfl (wrap_of (by omega) (by omega))) ?_)))))))
   refine qv (iJ ((k10 : Int) + 1)) (fun _ x' => x_move rfl rfl) ?_
   exact q_nil (fun w86 x87 => t_norm (⟨_, rfl, ⟨k10 + 1, (j35 : Int), by omega, best_below hp34 hj37 hx25 (of_decide_eq_false c77), e15, e16, e17, e18, e19, e20, e21, rfl, (((((x14.trans x68).trans x71).stored (x14.trans x68).size s75).trans x85).trans x87)⟩, meas_up e22 hl23⟩))
  refine qv (.bool false) (fun _ x' => x_move rfl rfl) ?_
  refine qk rfl rfl (qk rfl rfl (qk rfl rfl (qk rfl rfl (qk rfl rfl (qk rfl rfl (qk rfl rfl (qk rfl rfl (qk rfl rfl (qk rfl rfl (qk rfl rfl (qk rfl rfl (qk rfl rfl (qk rfl rfl (qk rfl rfl (qv (.bool false) (fun _ x' => x_pick_f rfl rfl rfl) ?_)))))))))))))))
  refine q_nil (fun w88 x89 => t_norm (c_false rfl (c_skip (b_norm (t_norm (c_quiet (qv (iJ ((k10 : Int) + 1)) (fun _ x' => x_add rfl e22 rfl (wrap_of (by omega) (by omega))) ?_)))))))
  refine qv (iJ ((k10 : Int) + 1)) (fun _ x' => x_move rfl rfl) ?_
  exact q_nil (fun w90 x91 => t_norm (⟨_, rfl, ⟨k10 + 1, (j35 : Int), by omega, best_skip (best_some hp34 hj37) hx25 c76, e15, e16, e17, e18, e19, e20, e21, rfl, (((((x14.trans x68).trans x71).stored (x14.trans x68).size s75).trans x89).trans x91)⟩, meas_up e22 hl23⟩))
 rcases hi12 with ⟨hbi, hp92⟩ | ⟨j93, b94, hbi, hj95, hp92⟩
 ·subst hbi
  refine c_seq (c_quiet (qv (.bool false) (fun _ x' => yb (x_lss rfl e22 e20) (decide_eq_false (by omega))) ?_))
  refine q_nil (fun w96 x97 => t_norm (c_seq (c_false rfl (c_exit (t_exit (t_exit (b_exit (t_norm (c_seq (c_seq (c_quiet (qv (iJ (-1)) (fun _ x' => x_move rfl e21) ?_))))))))))))
  refine qv (.bool true) (fun _ x' => yb (x_lss rfl rfl rfl) rfl) ?_
  refine q_nil (fun w98 x99 => t_norm (c_true rfl (c_seq (c_plain (pv (.agg #[iJ 0, iJ 0, iJ 0, iJ 0, iJ 0, iJ 0, iJ 0, iJ 0, iJ 0, iJ 0, iJ 0, iJ 0, iJ 0, .slice none 0 0, .slice none 0 0, .bool false, iJ 0, iJ 0, iJ 0, iJ 0, iJ 0, iJ 0, iJ 0, iJ 0, .bool false]) (x_build0 zero_40 bld_40 rfl) ?_)))))
  refine p_store (v := .agg #[iJ 0, iJ 0, iJ 0, iJ 0, iJ 0, iJ 0, iJ 0, iJ 0, iJ 0, iJ 0, iJ 0, iJ 0, iJ 0, .slice none 0 0, .slice none 0 0, .bool false, iJ 0, iJ 0, iJ 0, iJ 0, iJ 0, iJ 0, iJ 0, iJ 0, .bool false]) (vs := [iJ 0, iJ 0, iJ 0, iJ 0, iJ 0, iJ 0, iJ 0, iJ 0, iJ 0, iJ 0, iJ 0, iJ 0, iJ 0, .slice none 0 0, .slice none 0 0, .bool false, iJ 0, iJ 0, iJ 0, iJ 0, iJ 0, iJ 0, iJ 0, iJ 0, .bool false]) (cs' := [iJ 0, iJ 0, iJ 0, iJ 0, iJ 0, iJ 0, iJ 0, iJ 0, iJ 0, iJ 0, iJ 0, iJ 0, iJ 0, .slice none 0 0, .slice none 0 0, .bool false, iJ 0, iJ 0, iJ 0, iJ 0, iJ 0, iJ 0, iJ 0, iJ 0, .bool false]) rfl rfl rfl e17 rfl rfl (((((b2.ext x6).ext x8).ext x14).ext x97).ext x99) size_40 rfl rfl rfl (fun w100 b101 s102 => ?_)
  refine pv (.bool false) (x_assign rfl rfl) ?_
  exact p_nil (t_norm (c_ret (t_ret (c_doneC2 rfl e17 rfl (b101.agg (vs := [iJ 0, iJ 0, iJ 0, iJ 0, iJ 0, iJ 0, iJ 0, iJ 0, iJ 0, iJ 0, iJ 0, iJ 0, iJ 0, .slice none 0 0, .slice none 0 0, .bool false, iJ 0, iJ 0, iJ 0, iJ 0, iJ 0, iJ 0, iJ 0, iJ 0, .bool false]) agg_40_25 rfl) ⟨((((((x3.trans x6).trans x8).trans x14).trans x97).trans x99).stored (Nat.le_refl _) s102), .inl ⟨best_end hp92 hl23, rfl⟩⟩))))
 subst hbi
 have hjl103 := lt_of hj95
 obtain ⟨ad104, cs105, eA106, hK107, hE108⟩ := hV.lies j93 b94 hj95
 have hK107' : cs105 = [iJ b94.src, iJ b94.r.inst.replica, iJ b94.r.inst.slot, iJ b94.r.status, iJ b94.r.promise.number, iJ b94.r.promise.replica, iJ b94.r.ballot.number, iJ b94.r.ballot.replica, iJ b94.r.cmd.kind, iJ b94.r.cmd.txn.client, iJ b94.r.cmd.txn.number, iJ b94.r.cmd.stp.time, iJ b94.r.cmd.stp.client, iJ b94.r.cmd.shards, .slice b94.p.A b94.r.cmd.reads.length b94.p.n, .slice b94.p.B b94.r.cmd.writes.length b94.p.m, .bool b94.r.cmd.commit, iJ b94.r.seq, iJ b94.r.deps.d0, iJ b94.r.deps.d1, iJ b94.r.deps.d2, iJ b94.r.deps.d3, iJ b94.r.deps.d4, iJ b94.r.deps.d5, iJ b94.r.deps.d6, .bool b94.r.kept] := hK107
 subst hK107'
 have ha109 := hV.at_.out _ (at_of hj95)
 have hs110 := hV.slim _ (at_of hj95)
 refine c_seq (c_quiet (qv (.bool false) (fun _ x' => yb (x_lss rfl e22 e20) (decide_eq_false (by omega))) ?_))
 refine q_nil (fun w112 x113 => t_norm (c_seq (c_false rfl (c_exit (t_exit (t_exit (b_exit (t_norm (c_seq (c_seq (c_quiet (qv (iJ (j93 : Int)) (fun _ x' => x_move rfl e21) ?_))))))))))))
 refine qv (.bool false) (fun _ x' => yb (x_lss rfl rfl rfl) (decide_eq_false (by omega))) ?_
 refine q_nil (fun w114 x115 => t_norm (c_false rfl (c_skip (t_norm (c_seq (c_plain (pv (.slice A l.length c) (x_move rfl e15) ?_)))))))
 refine pv (iJ (j93 : Int)) (x_move rfl e21) ?_
 refine pv (.pointer (some (ad104.add (j93 * 26)))) (x_indexAddr sl_44 rfl rfl eA106 rfl (by omega) (by omega) rfl) ?_
 refine pv (.pointer (some ((ad104.add (j93 * 26)).add 1))) (x_fieldAddr fld_63_1 rfl rfl rfl) ?_
 refine pv (.agg #[iJ b94.r.inst.replica, iJ b94.r.inst.slot, iJ b94.r.status, iJ b94.r.promise.number, iJ b94.r.promise.replica, iJ b94.r.ballot.number, iJ b94.r.ballot.replica, iJ b94.r.cmd.kind, iJ b94.r.cmd.txn.client, iJ b94.r.cmd.txn.number, iJ b94.r.cmd.stp.time, iJ b94.r.cmd.stp.client, iJ b94.r.cmd.shards, .slice b94.p.A b94.r.cmd.reads.length b94.p.n, .slice b94.p.B b94.r.cmd.writes.length b94.p.m, .bool b94.r.cmd.commit, iJ b94.r.seq, iJ b94.r.deps.d0, iJ b94.r.deps.d1, iJ b94.r.deps.d2, iJ b94.r.deps.d3, iJ b94.r.deps.d4, iJ b94.r.deps.d5, iJ b94.r.deps.d6, .bool b94.r.kept]) (x_load rfl rfl (((((((hE108.ext x3).ext x6).ext x8).ext x14).ext x113).ext x115).agg (vs := [iJ b94.r.inst.replica, iJ b94.r.inst.slot, iJ b94.r.status, iJ b94.r.promise.number, iJ b94.r.promise.replica, iJ b94.r.ballot.number, iJ b94.r.ballot.replica, iJ b94.r.cmd.kind, iJ b94.r.cmd.txn.client, iJ b94.r.cmd.txn.number, iJ b94.r.cmd.stp.time, iJ b94.r.cmd.stp.client, iJ b94.r.cmd.shards, .slice b94.p.A b94.r.cmd.reads.length b94.p.n, .slice b94.p.B b94.r.cmd.writes.length b94.p.m, .bool b94.r.cmd.commit, iJ b94.r.seq, iJ b94.r.deps.d0, iJ b94.r.deps.d1, iJ b94.r.deps.d2, iJ b94.r.deps.d3, iJ b94.r.deps.d4, iJ b94.r.deps.d5, iJ b94.r.deps.d6, .bool b94.r.kept]) agg_40_25 1 rfl rfl)) ?_
 refine p_store (v := .agg #[iJ b94.r.inst.replica, iJ b94.r.inst.slot, iJ b94.r.status, iJ b94.r.promise.number, iJ b94.r.promise.replica, iJ b94.r.ballot.number, iJ b94.r.ballot.replica, iJ b94.r.cmd.kind, iJ b94.r.cmd.txn.client, iJ b94.r.cmd.txn.number, iJ b94.r.cmd.stp.time, iJ b94.r.cmd.stp.client, iJ b94.r.cmd.shards, .slice b94.p.A b94.r.cmd.reads.length b94.p.n, .slice b94.p.B b94.r.cmd.writes.length b94.p.m, .bool b94.r.cmd.commit, iJ b94.r.seq, iJ b94.r.deps.d0, iJ b94.r.deps.d1, iJ b94.r.deps.d2, iJ b94.r.deps.d3, iJ b94.r.deps.d4, iJ b94.r.deps.d5, iJ b94.r.deps.d6, .bool b94.r.kept]) (vs := [iJ b94.r.inst.replica, iJ b94.r.inst.slot, iJ b94.r.status, iJ b94.r.promise.number, iJ b94.r.promise.replica, iJ b94.r.ballot.number, iJ b94.r.ballot.replica, iJ b94.r.cmd.kind, iJ b94.r.cmd.txn.client, iJ b94.r.cmd.txn.number, iJ b94.r.cmd.stp.time, iJ b94.r.cmd.stp.client, iJ b94.r.cmd.shards, .slice b94.p.A b94.r.cmd.reads.length b94.p.n, .slice b94.p.B b94.r.cmd.writes.length b94.p.m, .bool b94.r.cmd.commit, iJ b94.r.seq, iJ b94.r.deps.d0, iJ b94.r.deps.d1, iJ b94.r.deps.d2, iJ b94.r.deps.d3, iJ b94.r.deps.d4, iJ b94.r.deps.d5, iJ b94.r.deps.d6, .bool b94.r.kept]) (cs' := [iJ b94.r.inst.replica, iJ b94.r.inst.slot, iJ b94.r.status, iJ b94.r.promise.number, iJ b94.r.promise.replica, iJ b94.r.ballot.number, iJ b94.r.ballot.replica, iJ b94.r.cmd.kind, iJ b94.r.cmd.txn.client, iJ b94.r.cmd.txn.number, iJ b94.r.cmd.stp.time, iJ b94.r.cmd.stp.client, iJ b94.r.cmd.shards, .slice b94.p.A b94.r.cmd.reads.length b94.p.n, .slice b94.p.B b94.r.cmd.writes.length b94.p.m, .bool b94.r.cmd.commit, iJ b94.r.seq, iJ b94.r.deps.d0, iJ b94.r.deps.d1, iJ b94.r.deps.d2, iJ b94.r.deps.d3, iJ b94.r.deps.d4, iJ b94.r.deps.d5, iJ b94.r.deps.d6, .bool b94.r.kept]) rfl rfl rfl e17 rfl rfl (((((b2.ext x6).ext x8).ext x14).ext x113).ext x115) size_40 rfl rfl rfl (fun w116 b117 s118 => ?_)
 refine pv (.bool true) (x_assign rfl rfl) ?_
 exact p_nil (t_norm (c_ret (c_doneC2 rfl e17 rfl (b117.agg (vs := [iJ b94.r.inst.replica, iJ b94.r.inst.slot, iJ b94.r.status, iJ b94.r.promise.number, iJ b94.r.promise.replica, iJ b94.r.ballot.number, iJ b94.r.ballot.replica, iJ b94.r.cmd.kind, iJ b94.r.cmd.txn.client, iJ b94.r.cmd.txn.number, iJ b94.r.cmd.stp.time, iJ b94.r.cmd.stp.client, iJ b94.r.cmd.shards, .slice b94.p.A b94.r.cmd.reads.length b94.p.n, .slice b94.p.B b94.r.cmd.writes.length b94.p.m, .bool b94.r.cmd.commit, iJ b94.r.seq, iJ b94.r.deps.d0, iJ b94.r.deps.d1, iJ b94.r.deps.d2, iJ b94.r.deps.d3, iJ b94.r.deps.d4, iJ b94.r.deps.d5, iJ b94.r.deps.d6, .bool b94.r.kept]) agg_40_25 rfl) ⟨((((((x3.trans x6).trans x8).trans x14).trans x113).trans x115).stored (Nat.le_refl _) s118), .inr ⟨b94, best_end hp92 hl23, rfl⟩⟩)))
theorem C_of (w : World) (k : Int) :
    Calls Try.prog 26 #[.int .i64 k] w (fun e w' => ∃ b : Nat, e = .returned (.func (.func 27) #[] #[.pointer (some ⟨b, 0, none⟩)]) ∧ Box w' b 3 [.int .i64 k] ∧ Ext w w' ∧ w.heap.size ≤ b) := by
 refine c_enter (n := 4) Try.func26 rfl rfl rfl ?_
 refine c_seq (c_plain (p_box1 rfl rfl rfl rfl rfl (fun w1 b2 x3 z4 => ?_)))
 refine pv (.nilFunc) (x_assign rfl rfl) ?_
 refine p_nil (t_norm (c_seq (c_quiet (qv (.func (.func 27) #[] #[pJ w.heap.size]) (fun _ x' => x_makeFunc rfl (args1 rfl)) ?_))))
 refine qv (.func (.func 27) #[] #[pJ w.heap.size]) (fun _ x' => x_assign rfl rfl) ?_
 exact q_nil (fun w5 x6 => t_norm (c_ret (c_done rfl rfl ⟨_, rfl, (b2.ext x6), (x3.trans x6), Nat.le_refl _⟩)))
set_option maxHeartbeats 1000000 in
theorem D_best (w : World) (k : Int) (A : Option Addr) (c : Nat) (l : List Vt) (hV : Vts w A l) :
    Calls Try.prog 34 #[.slice A l.length c, .int .i64 k] w (fun e w' => Ext w w' ∧ ((pickV (ofS k) l = none ∧ e = .returned (.int .i64 (-1))) ∨ (∃ (j : Nat) (b : Vt), l[j]? = some b ∧ pickV (ofS k) l = some b ∧ e = .returned (.int .i64 (j : Int))))) := by
 have hlen0 := hV.len
 refine c_enter (n := 40) Try.func34 rfl rfl rfl ?_
 refine c_seq (c_quiet (qv (iJ 0) (fun _ x' => x_assign rfl rfl) ?_))
 refine q_nil (fun w1 x2 => t_norm (c_seq (c_quiet (qv (iJ (-1)) (fun _ x' => x_assign rfl rfl) ?_))))
 refine q_nil (fun w3 x4 => t_norm (c_seq (c_seq (c_quiet (qv (iJ 0) (fun _ x' => x_assign rfl rfl) ?_)))))
 refine q_nil (fun w5 x6 => t_norm (c_block (c_loop (fun ρ w11 => ∃ k8 : Nat, ∃ bi7 : Int, k8 ≤ l.length ∧ Best (ofS k) l k8 bi7 ∧ ρ 0 = .slice A l.length c ∧ ρ 1 = iJ k ∧ ρ 4 = iJ 0 ∧ ρ 5 = iJ bi7 ∧ ρ 6 = iJ (k8 : Int) ∧ Ext w5 w11) (fun ρ _ => l.length - (intOf (ρ 6)).toNat) ⟨0, (-1), Nat.zero_le _, best_none rfl, rfl, rfl, rfl, rfl, rfl, Ext.refl _⟩ ?_)))
 rintro ρ w11 ⟨k8, bi7, hk9, hi10, e13, e14, e15, e16, e17, x12⟩
 by_cases hl18 : k8 < l.length
 ·obtain ⟨y19, hx20⟩ := some_of (l := l) (k := k8) (by omega)
  obtain ⟨ad21, cs22, eA23, hK24, hE25⟩ := hV.lies k8 y19 hx20
  have hK24' : cs22 = [iJ y19.src, iJ y19.r.inst.replica, iJ y19.r.inst.slot, iJ y19.r.status, iJ y19.r.promise.number, iJ y19.r.promise.replica, iJ y19.r.ballot.number, iJ y19.r.ballot.replica, iJ y19.r.cmd.kind, iJ y19.r.cmd.txn.client, iJ y19.r.cmd.txn.number, iJ y19.r.cmd.stp.time, iJ y19.r.cmd.stp.client, iJ y19.r.cmd.shards, .slice y19.p.A y19.r.cmd.reads.length y19.p.n, .slice y19.p.B y19.r.cmd.writes.length y19.p.m, .bool y19.r.cmd.commit, iJ y19.r.seq, iJ y19.r.deps.d0, iJ y19.r.deps.d1, iJ y19.r.deps.d2, iJ y19.r.deps.d3, iJ y19.r.deps.d4, iJ y19.r.deps.d5, iJ y19.r.deps.d6, .bool y19.r.kept] := hK24
  subst hK24'
  have ha26 := hV.at_.out _ (at_of hx20)
  have hs27 := hV.slim _ (at_of hx20)
  rcases hi10 with ⟨hbi, hp29⟩ | ⟨j30, b31, hbi, hj32, hp29⟩
  ·subst hbi
   refine c_seq (c_seq (c_quiet (qv (iJ (k8 : Int)) (fun _ x' => x_move rfl e17) ?_)))
   refine qv (.slice A l.length c) (fun _ x' => x_move rfl e13) ?_
   refine qv (iJ (l.length : Int)) (fun _ x' => x_len_slice sl_24 rfl rfl) ?_
   refine qv (.bool true) (fun _ x' => yb (x_lss rfl rfl rfl) (decide_eq_true (by omega))) ?_
   refine q_nil (fun w33 x34 => t_norm (c_true rfl (c_skip (t_norm (c_seq (c_block (c_seq (c_seq (c_quiet (qv (.slice A l.length c) (fun _ x' => x_move rfl e13) ?_))))))))))
   refine qv (iJ (k8 : Int)) (fun _ x' => x_move rfl e17) ?_
   refine qv (.pointer (some (ad21.add (k8 * 26)))) (fun _ x' => x_indexAddr sl_24 rfl rfl eA23 rfl (by omega) (by omega) rfl) ?_
   refine qv (.pointer (some ((ad21.add (k8 * 26)).add 1))) (fun _ x' => x_fieldAddr fld_56_1 rfl rfl rfl) ?_
   refine qv (.pointer (some (((ad21.add (k8 * 26)).add 1).add 2))) (fun _ x' => x_fieldAddr fld_40_1 rfl rfl rfl) ?_
   refine qv (iJ y19.r.status) (fun _ x' => x_load rfl rfl (((((((hE25.ext x2).ext x4).ext x6).ext x12).ext x34).ext x').one one_3 3 rfl rfl)) ?_
   refine qv (iJ k) (fun _ x' => x_move rfl e14) ?_
   refine q_bool (b := decide (y19.r.status ≠ k)) rfl rfl (fun _ x' => x_neq rfl rfl rfl) (fun c35 => ?_) (fun c35 => ?_)
   ·refine q_nil (fun w36 x37 => t_norm (c_true rfl (c_exit (t_exit (b_exit (t_norm (c_quiet (qv (iJ (k8 : Int)) (fun _ x' => x_move rfl e17) ?_))))))))
    refine qv (iJ ((k8 : Int) + 1)) (fun _ x' => x_add rfl rfl rfl (wrap_of (by omega) (by omega))) ?_
    refine qv (iJ ((k8 : Int) + 1)) (fun _ x' => x_assign rfl rfl) ?_
    exact q_nil (fun w38 x39 => t_norm (⟨_, rfl, ⟨k8 + 1, (-1), by omega, best_skip (best_none hp29) hx20 (by have q := of_decide_eq_true c35; simp [ofS, q]), e13, e14, e15, e16, rfl, (((x12.trans x34).trans x37).trans x39)⟩, meas_up e17 hl18⟩))
   refine q_nil (fun w40 x41 => t_norm (c_false rfl (c_skip (t_norm (c_seq (c_draw mixed (by kernel_rfl) (qv (iJ (-1)) (fun _ x' => x_move rfl e16) ?_)))))))
   refine qv (.bool true) (fun _ x' => yb (x_lss rfl rfl rfl) rfl) ?_
   refine qv (.bool true) (fun _ x' => x_move rfl rfl) ?_
   refine qk rfl rfl (qk rfl rfl (qk rfl rfl (qk rfl rfl (qk rfl rfl (qk rfl rfl (qk rfl rfl (qk rfl rfl (qk rfl rfl (qk rfl rfl (qk rfl rfl (qk rfl rfl (qk rfl rfl (qv (.bool true) (fun _ x' => x_pick_t rfl rfl rfl) ?_)))))))))))))
   refine q_nil (fun w42 x43 => t_norm (c_true rfl (c_quiet (qv (iJ (k8 : Int)) (fun _ x' => x_move rfl e17) ?_))))
   refine qv (iJ (k8 : Int)) (fun _ x' => x_assign rfl rfl) ?_
   refine q_nil (fun w44 x45 => b_norm (t_norm (c_quiet (qv (iJ (k8 : Int)) (fun _ x' => x_move rfl e17) ?_))))
   refine qv (iJ ((k8 : Int) + 1)) (fun _ x' => x_add rfl rfl rfl (wrap_of (by omega) (by omega))) ?_
   refine qv (iJ ((k8 : Int) + 1)) (fun _ x' => x_assign rfl rfl) ?_
   exact q_nil (fun w46 x47 => t_norm (⟨_, rfl, ⟨k8 + 1, (k8 : Int), by omega, best_first hp29 hx20 (by have q := of_decide_eq_false c35; simp only [Decidable.not_not] at q; simp [ofS, q]), e13, e14, e15, rfl, rfl, (((((x12.trans x34).trans x41).trans x43).trans x45).trans x47)⟩, meas_up e17 hl18⟩))
  subst hbi
  have hjl48 := lt_of hj32
  obtain ⟨ad49, cs50, eA51, hK52, hE53⟩ := hV.lies j30 b31 hj32
  have hK52' : cs50 = [iJ b31.src, iJ b31.r.inst.replica, iJ b31.r.inst.slot, iJ b31.r.status, iJ b31.r.promise.number, iJ b31.r.promise.replica, iJ b31.r.ballot.number, iJ b31.r.ballot.replica, iJ b31.r.cmd.kind, iJ b31.r.cmd.txn.client, iJ b31.r.cmd.txn.number, iJ b31.r.cmd.stp.time, iJ b31.r.cmd.stp.client, iJ b31.r.cmd.shards, .slice b31.p.A b31.r.cmd.reads.length b31.p.n, .slice b31.p.B b31.r.cmd.writes.length b31.p.m, .bool b31.r.cmd.commit, iJ b31.r.seq, iJ b31.r.deps.d0, iJ b31.r.deps.d1, iJ b31.r.deps.d2, iJ b31.r.deps.d3, iJ b31.r.deps.d4, iJ b31.r.deps.d5, iJ b31.r.deps.d6, .bool b31.r.kept] := hK52
  subst hK52'
  have ha54 := hV.at_.out _ (at_of hj32)
  have hs55 := hV.slim _ (at_of hj32)
  refine c_seq (c_seq (c_quiet (qv (iJ (k8 : Int)) (fun _ x' => x_move rfl e17) ?_)))
  refine qv (.slice A l.length c) (fun _ x' => x_move rfl e13) ?_
  refine qv (iJ (l.length : Int)) (fun _ x' => x_len_slice sl_24 rfl rfl) ?_
  refine qv (.bool true) (fun _ x' => yb (x_lss rfl rfl rfl) (decide_eq_true (by omega))) ?_
  refine q_nil (fun w57 x58 => t_norm (c_true rfl (c_skip (t_norm (c_seq (c_block (c_seq (c_seq (c_quiet (qv (.slice A l.length c) (fun _ x' => x_move rfl e13) ?_))))))))))
  refine qv (iJ (k8 : Int)) (fun _ x' => x_move rfl e17) ?_
  refine qv (.pointer (some (ad21.add (k8 * 26)))) (fun _ x' => x_indexAddr sl_24 rfl rfl eA23 rfl (by omega) (by omega) rfl) ?_
  refine qv (.pointer (some ((ad21.add (k8 * 26)).add 1))) (fun _ x' => x_fieldAddr fld_56_1 rfl rfl rfl) ?_
  refine qv (.pointer (some (((ad21.add (k8 * 26)).add 1).add 2))) (fun _ x' => x_fieldAddr fld_40_1 rfl rfl rfl) ?_
  refine qv (iJ y19.r.status) (fun _ x' => x_load rfl rfl (((((((hE25.ext x2).ext x4).ext x6).ext x12).ext x58).ext x').one one_3 3 rfl rfl)) ?_
  refine qv (iJ k) (fun _ x' => x_move rfl e14) ?_
  refine q_bool (b := decide (y19.r.status ≠ k)) rfl rfl (fun _ x' => x_neq rfl rfl rfl) (fun c59 => ?_) (fun c59 => ?_)
  ·refine q_nil (fun w60 x61 => t_norm (c_true rfl (c_exit (t_exit (b_exit (t_norm (c_quiet (qv (iJ (k8 : Int)) (fun _ x' => x_move rfl e17) ?_))))))))
   refine qv (iJ ((k8 : Int) + 1)) (fun _ x' => x_add rfl rfl rfl (wrap_of (by omega) (by omega))) ?_
   refine qv (iJ ((k8 : Int) + 1)) (fun _ x' => x_assign rfl rfl) ?_
   exact q_nil (fun w62 x63 => t_norm (⟨_, rfl, ⟨k8 + 1, (j30 : Int), by omega, best_skip (best_some hp29 hj32) hx20 (by have q := of_decide_eq_true c59; simp [ofS, q]), e13, e14, e15, e16, rfl, (((x12.trans x58).trans x61).trans x63)⟩, meas_up e17 hl18⟩))
  refine q_nil (fun w64 x65 => t_norm (c_false rfl (c_skip (t_norm (c_seq (c_draw mixed (by kernel_rfl) (qv (iJ (j30 : Int)) (fun _ x' => x_move rfl e16) ?_)))))))
  refine qv (.bool false) (fun _ x' => yb (x_lss rfl rfl rfl) (decide_eq_false (by omega))) ?_
  refine qv (.bool false) (fun _ x' => x_move rfl rfl) ?_
  refine qv (.slice A l.length c) (fun _ x' => x_move rfl e13) ?_
  refine qv (iJ (j30 : Int)) (fun _ x' => x_move rfl e16) ?_
  refine qv (.pointer (some (ad49.add (j30 * 26)))) (fun _ x' => x_indexAddr sl_24 rfl rfl eA51 rfl (by omega) (by omega) rfl) ?_
  refine qv (.pointer (some ((ad49.add (j30 * 26)).add 1))) (fun _ x' => x_fieldAddr fld_56_1 rfl rfl rfl) ?_
  refine qv (.pointer (some (((ad49.add (j30 * 26)).add 1).add 5))) (fun _ x' => x_fieldAddr fld_40_3 rfl rfl rfl) ?_
  refine qv (.agg #[iJ b31.r.ballot.number, iJ b31.r.ballot.replica]) (fun _ x' => x_load rfl rfl ((((((((hE53.ext x2).ext x4).ext x6).ext x12).ext x58).ext x65).ext x').agg (vs := [iJ b31.r.ballot.number, iJ b31.r.ballot.replica]) agg_28_2 6 rfl rfl)) ?_
  refine qv (.slice A l.length c) (fun _ x' => x_move rfl e13) ?_
  refine qv (iJ (k8 : Int)) (fun _ x' => x_move rfl e17) ?_
  refine qv (.pointer (some (ad21.add (k8 * 26)))) (fun _ x' => x_indexAddr sl_24 rfl rfl eA23 rfl (by omega) (by omega) rfl) ?_
  refine qv (.pointer (some ((ad21.add (k8 * 26)).add 1))) (fun _ x' => x_fieldAddr fld_56_1 rfl rfl rfl) ?_
  refine qv (.pointer (some (((ad21.add (k8 * 26)).add 1).add 5))) (fun _ x' => x_fieldAddr fld_40_3 rfl rfl rfl) ?_
  refine qv (.agg #[iJ y19.r.ballot.number, iJ y19.r.ballot.replica]) (fun _ x' => x_load rfl rfl ((((((((hE25.ext x2).ext x4).ext x6).ext x12).ext x58).ext x65).ext x').agg (vs := [iJ y19.r.ballot.number, iJ y19.r.ballot.replica]) agg_28_2 6 rfl rfl)) ?_
  refine q_callb (b := decide (cmpBal b31.r.ballot y19.r.ballot < 0)) (vs := #[.agg #[iJ b31.r.ballot.number, iJ b31.r.ballot.replica], .agg #[iJ y19.r.ballot.number, iJ y19.r.ballot.replica]]) fn_22 rfl rfl rfl (args2 rfl rfl) (fun _ x' => D_lower _ b31.r.ballot y19.r.ballot) (fun c66 => ?_) (fun c66 => ?_)
  ·refine qv (.bool true) (fun _ x' => x_pick_f rfl rfl rfl) ?_
   refine q_nil (fun w67 x68 => t_norm (c_true rfl (c_quiet (qv (iJ (k8 : Int)) (fun _ x' => x_move rfl e17) ?_))))
   refine qv (iJ (k8 : Int)) (fun _ x' => x_assign rfl rfl) ?_
   refine q_nil (fun w69 x70 => b_norm (t_norm (c_quiet (qv (iJ (k8 : Int)) (fun _ x' => x_move rfl e17) ?_))))
   refine qv (iJ ((k8 : Int) + 1)) (fun _ x' => x_add rfl rfl rfl (wrap_of (by omega) (by omega))) ?_
   refine qv (iJ ((k8 : Int) + 1)) (fun _ x' => x_assign rfl rfl) ?_
   exact q_nil (fun w71 x72 => t_norm (⟨_, rfl, ⟨k8 + 1, (k8 : Int), by omega, best_above hp29 hx20 (by have q := of_decide_eq_false c59; simp only [Decidable.not_not] at q; simp [ofS, q]) (by have q := of_decide_eq_true c66; have q2 := cmpBal_swap y19.r.ballot b31.r.ballot; omega), e13, e14, e15, rfl, rfl, (((((x12.trans x58).trans x65).trans x68).trans x70).trans x72)⟩, meas_up e17 hl18⟩))
  refine qv (.bool false) (fun _ x' => x_pick_f rfl rfl rfl) ?_
  refine q_nil (fun w73 x74 => t_norm (c_false rfl (c_skip (b_norm (t_norm (c_quiet (qv (iJ (k8 : Int)) (fun _ x' => x_move rfl e17) ?_)))))))
  refine qv (iJ ((k8 : Int) + 1)) (fun _ x' => x_add rfl rfl rfl (wrap_of (by omega) (by omega))) ?_
  refine qv (iJ ((k8 : Int) + 1)) (fun _ x' => x_assign rfl rfl) ?_
  exact q_nil (fun w75 x76 => t_norm (⟨_, rfl, ⟨k8 + 1, (j30 : Int), by omega, best_below hp29 hj32 hx20 (by have q := of_decide_eq_false c66; have q2 := cmpBal_swap y19.r.ballot b31.r.ballot; omega), e13, e14, e15, e16, rfl, ((((x12.trans x58).trans x65).trans x74).trans x76)⟩, meas_up e17 hl18⟩))
 rcases hi10 with ⟨hbi, hp77⟩ | ⟨j78, b79, hbi, hj80, hp77⟩
 ·subst hbi
  refine c_seq (c_seq (c_quiet (qv (iJ (k8 : Int)) (fun _ x' => x_move rfl e17) ?_)))
  refine qv (.slice A l.length c) (fun _ x' => x_move rfl e13) ?_
  refine qv (iJ (l.length : Int)) (fun _ x' => x_len_slice sl_24 rfl rfl) ?_
  refine qv (.bool false) (fun _ x' => yb (x_lss rfl rfl rfl) (decide_eq_false (by omega))) ?_
  refine q_nil (fun w81 x82 => t_norm (c_false rfl (c_exit (t_exit (t_exit (b_exit (t_norm (c_seq (c_quiet (qv (iJ (-1)) (fun _ x' => x_move rfl e16) ?_))))))))))
  refine qv (iJ (-1)) (fun _ x' => x_assign rfl rfl) ?_
  refine q_nil (fun w83 x84 => t_norm (c_ret ?_))
  have hp86 := best_end hp77 hl18
  exact c_done rfl rfl ⟨(((((x2.trans x4).trans x6).trans x12).trans x82).trans x84), .inl ⟨hp86, rfl⟩⟩
 subst hbi
 have hjl87 := lt_of hj80
 obtain ⟨ad88, cs89, eA90, hK91, hE92⟩ := hV.lies j78 b79 hj80
 have hK91' : cs89 = [iJ b79.src, iJ b79.r.inst.replica, iJ b79.r.inst.slot, iJ b79.r.status, iJ b79.r.promise.number, iJ b79.r.promise.replica, iJ b79.r.ballot.number, iJ b79.r.ballot.replica, iJ b79.r.cmd.kind, iJ b79.r.cmd.txn.client, iJ b79.r.cmd.txn.number, iJ b79.r.cmd.stp.time, iJ b79.r.cmd.stp.client, iJ b79.r.cmd.shards, .slice b79.p.A b79.r.cmd.reads.length b79.p.n, .slice b79.p.B b79.r.cmd.writes.length b79.p.m, .bool b79.r.cmd.commit, iJ b79.r.seq, iJ b79.r.deps.d0, iJ b79.r.deps.d1, iJ b79.r.deps.d2, iJ b79.r.deps.d3, iJ b79.r.deps.d4, iJ b79.r.deps.d5, iJ b79.r.deps.d6, .bool b79.r.kept] := hK91
 subst hK91'
 have ha93 := hV.at_.out _ (at_of hj80)
 have hs94 := hV.slim _ (at_of hj80)
 refine c_seq (c_seq (c_quiet (qv (iJ (k8 : Int)) (fun _ x' => x_move rfl e17) ?_)))
 refine qv (.slice A l.length c) (fun _ x' => x_move rfl e13) ?_
 refine qv (iJ (l.length : Int)) (fun _ x' => x_len_slice sl_24 rfl rfl) ?_
 refine qv (.bool false) (fun _ x' => yb (x_lss rfl rfl rfl) (decide_eq_false (by omega))) ?_
 refine q_nil (fun w96 x97 => t_norm (c_false rfl (c_exit (t_exit (t_exit (b_exit (t_norm (c_seq (c_quiet (qv (iJ (j78 : Int)) (fun _ x' => x_move rfl e16) ?_))))))))))
 refine qv (iJ (j78 : Int)) (fun _ x' => x_assign rfl rfl) ?_
 refine q_nil (fun w98 x99 => t_norm (c_ret ?_))
 have hp101 := best_end hp77 hl18
 exact c_done rfl rfl ⟨(((((x2.trans x4).trans x6).trans x12).trans x97).trans x99), .inr ⟨j78, b79, hj80, hp101, rfl⟩⟩
end Go.Proofs.Ytgamfmkefipngaa
