/- A walk through the code of layers below, or of layer 13. -/
import Derived.Test.YtgamfmkefipngaaRfa
import Derived.Test.YtgamfmkefipngaaDrs
import Derived.Test.YtgamfmkefipngaaPan
import Derived.Test.YtgamfmkefipngaaB3
namespace Go.Proofs.Ytgamfmkefipngaa
open Go.RowKit Go.Eng
set_option linter.unusedVariables false
set_option linter.unusedSimpArgs false
theorem C_fast (w : World) (f : Int) (i : Inst) (A : Option Addr) (c : Nat) (l : List Vt) (hV : Vts w A l) :
    Calls Try.prog 14 #[.int .i64 f, vInst i, .slice A l.length c] w (Ret w (.bool (fastR f i (counted l)))) := by
 have hlen0 := hV.len
 have hlen1 := counted_len l
 refine c_enter (n := 42) Try.func14 rfl rfl rfl ?_
 refine c_seq (c_plain (p_box rfl rfl rfl rfl (fun w1 b2 x3 z4 => ?_)))
 refine pv (.bool false) (x_assign rfl rfl) ?_
 refine p_nil (t_norm (c_seq (c_plain (pv (.slice A l.length c) (x_move rfl rfl) ?_))))
 refine p_call (vs := #[.slice A l.length c]) fn_24 rfl rfl rfl (args1 rfl) ?_
 refine (C_counted _ A c l (hV.ext x3)).mono ?_
 rintro e w5 ⟨A6, c7, bm8, rfl, hV9, hm10, x11⟩
 refine ⟨_, rfl, ?_⟩
 refine pv (.tuple #[.slice A6 ((counted l).length) c7, .map (some bm8)]) (x_move rfl rfl) ?_
 refine pv (.slice A6 ((counted l).length) c7) (x_extract rfl rfl rfl) ?_
 refine pv (.map (some bm8)) (x_extract rfl rfl rfl) ?_
 refine pv (.slice A6 ((counted l).length) c7) (x_assign rfl rfl) ?_
 refine pv (.map (some bm8)) (x_assign rfl rfl) ?_
 refine p_nil (t_norm (c_seq (c_seq (c_quiet (qv (iJ f) (fun _ x' => x_move rfl rfl) ?_)))))
 refine qv (vInst i) (fun _ x' => x_load rfl rfl (((b2.ext x11).ext x').agg (vs := [iJ i.replica, iJ i.slot]) agg_23_2 rfl)) ?_
 refine qv (.slice A6 ((counted l).length) c7) (fun _ x' => x_move rfl rfl) ?_
 refine q_call (vs := #[iJ f, vInst i, .slice A6 ((counted l).length) c7]) fn_25 rfl rfl rfl (args3 rfl rfl rfl) (v := iJ (why f i (counted l))) (fun _ x' => C_may _ f i A6 c7 (counted l) (hV9.ext x')) ?_
 refine q_bool (b := decide (why f i (counted l) ≠ 0)) rfl rfl (fun _ x' => x_neq rfl rfl rfl) (fun c12 => ?_) (fun c12 => ?_)
 ·refine qv (.bool true) (fun _ x' => x_move rfl rfl) ?_
  refine qk rfl rfl (qk rfl rfl (qk rfl rfl (qk rfl rfl (qk rfl rfl (qv (.bool true) (fun _ x' => x_pick_t rfl rfl rfl) ?_)))))
  refine q_nil (fun w13 x14 => t_norm (c_true rfl (c_seq (c_quiet (qv (.bool false) (fun _ x' => x_assign rfl rfl) ?_)))))
  exact q_nil (fun w15 x16 => t_norm (c_ret (t_ret (c_done rfl rfl (Ret.b ((fast_err (of_decide_eq_true c12)).symm) (((x3.trans x11).trans x14).trans x16))))))
 refine qv (.bool false) (fun _ x' => x_move rfl rfl) ?_
 refine qv (.map (some bm8)) (fun _ x' => x_move rfl rfl) ?_
 refine qv (pJ w.heap.size) (fun _ x' => x_fieldAddr fld_23_0 rfl rfl rfl) ?_
 refine qv (iJ i.replica) (fun _ x' => x_load rfl rfl (((b2.ext x11).ext x').one one_3 rfl)) ?_
 refine qv (iJ (cnt l i.replica)) (fun _ x' => x_lookupI map_64 rfl rfl rfl (why_wf (by have q := of_decide_eq_false c12; simpa using q)) (hm10.ext x')) ?_
 refine q_bool (b := decide (cnt l i.replica > 0)) rfl rfl (fun _ x' => x_gtr rfl rfl rfl) (fun c17 => ?_) (fun c17 => ?_)
 ·refine qv (.bool true) (fun _ x' => x_pick_f rfl rfl rfl) ?_
  refine q_nil (fun w18 x19 => t_norm (c_true rfl (c_seq (c_quiet (qv (.bool false) (fun _ x' => x_assign rfl rfl) ?_)))))
  exact q_nil (fun w20 x21 => t_norm (c_ret (t_ret (c_done rfl rfl (Ret.b ((fast_own (by rw [counted_any, cnt_any]; exact c17)).symm) (((x3.trans x11).trans x19).trans x21))))))
 refine qv (.bool false) (fun _ x' => x_pick_f rfl rfl rfl) ?_
 refine q_nil (fun w22 x23 => t_norm (c_false rfl (c_skip (t_norm (c_seq (c_quiet (qv (iJ 0) (fun _ x' => x_assign rfl rfl) ?_)))))))
 refine q_nil (fun w24 x25 => t_norm (c_seq (c_seq (c_quiet (qv (.slice A6 ((counted l).length) c7) (fun _ x' => x_move rfl rfl) ?_)))))
 refine qv (iJ ((counted l).length : Int)) (fun _ x' => x_len_slice sl_44 rfl rfl) ?_
 refine qv (iJ 0) (fun _ x' => x_move rfl rfl) ?_
 refine q_nil (fun w26 x27 => t_norm (c_block (c_loop (fun ρ w31 => ∃ k28 : Nat, k28 ≤ (counted l).length ∧ True ∧ ρ 0 = iJ f ∧ ρ 6 = .bool false ∧ ρ 28 = .slice A6 ((counted l).length) c7 ∧ ρ 29 = iJ ((counted l).length : Int) ∧ ρ 8 = iJ ((((counted l).take k28).countP quick : Nat) : Int) ∧ ρ 30 = iJ (k28 : Int) ∧ Ext w26 w31) (fun ρ _ => (counted l).length - (intOf (ρ 30)).toNat) ⟨0, Nat.zero_le _, trivial, rfl, rfl, rfl, rfl, rfl, rfl, Ext.refl _⟩ ?_)))
 rintro ρ w31 ⟨k28, hk29, hi30, e33, e34, e35, e36, e37, e38, x32⟩
 by_cases hl39 : k28 < (counted l).length
 ·obtain ⟨y40, hx41⟩ := some_of (l := (counted l)) (k := k28) (by omega)
  obtain ⟨ad42, cs43, eA44, hK45, hE46⟩ := hV9.lies k28 y40 hx41
  have hK45' : cs43 = [iJ y40.src, iJ y40.r.inst.replica, iJ y40.r.inst.slot, iJ y40.r.status, iJ y40.r.promise.number, iJ y40.r.promise.replica, iJ y40.r.ballot.number, iJ y40.r.ballot.replica, iJ y40.r.cmd.kind, iJ y40.r.cmd.txn.client, iJ y40.r.cmd.txn.number, iJ y40.r.cmd.stp.time, iJ y40.r.cmd.stp.client, iJ y40.r.cmd.shards, .slice y40.p.A y40.r.cmd.reads.length y40.p.n, .slice y40.p.B y40.r.cmd.writes.length y40.p.m, .bool y40.r.cmd.commit, iJ y40.r.seq, iJ y40.r.deps.d0, iJ y40.r.deps.d1, iJ y40.r.deps.d2, iJ y40.r.deps.d3, iJ y40.r.deps.d4, iJ y40.r.deps.d5, iJ y40.r.deps.d6, .bool y40.r.kept] := hK45
  subst hK45'
  have ha47 := hV9.at_.out _ (at_of hx41)
  have hs48 := hV9.slim _ (at_of hx41)
  have hcp := cp_bound (counted l) k28
  refine c_seq (c_quiet (qv (.bool true) (fun _ x' => yb (x_lss rfl e38 e36) (decide_eq_true (by omega))) ?_))
  refine q_nil (fun w50 x51 => t_norm (c_seq (c_true rfl (c_skip (t_norm (c_seq (c_block (c_seq (c_plain (pv (.pointer (some (ad42.add (k28 * 26)))) (x_indexAddr sl_44 rfl e35 eA44 e38 (by omega) (by omega) rfl) ?_))))))))))
  refine pv (vVt y40) (x_load rfl rfl ((((((hE46.ext x23).ext x25).ext x27).ext x32).ext x51).agg (vs := [iJ y40.src, iJ y40.r.inst.replica, iJ y40.r.inst.slot, iJ y40.r.status, iJ y40.r.promise.number, iJ y40.r.promise.replica, iJ y40.r.ballot.number, iJ y40.r.ballot.replica, iJ y40.r.cmd.kind, iJ y40.r.cmd.txn.client, iJ y40.r.cmd.txn.number, iJ y40.r.cmd.stp.time, iJ y40.r.cmd.stp.client, iJ y40.r.cmd.shards, .slice y40.p.A y40.r.cmd.reads.length y40.p.n, .slice y40.p.B y40.r.cmd.writes.length y40.p.m, .bool y40.r.cmd.commit, iJ y40.r.seq, iJ y40.r.deps.d0, iJ y40.r.deps.d1, iJ y40.r.deps.d2, iJ y40.r.deps.d3, iJ y40.r.deps.d4, iJ y40.r.deps.d5, iJ y40.r.deps.d6, .bool y40.r.kept]) agg_63_26 0 rfl rfl)) ?_
  refine p_var (v := vVt y40) (vs := [iJ y40.src, iJ y40.r.inst.replica, iJ y40.r.inst.slot, iJ y40.r.status, iJ y40.r.promise.number, iJ y40.r.promise.replica, iJ y40.r.ballot.number, iJ y40.r.ballot.replica, iJ y40.r.cmd.kind, iJ y40.r.cmd.txn.client, iJ y40.r.cmd.txn.number, iJ y40.r.cmd.stp.time, iJ y40.r.cmd.stp.client, iJ y40.r.cmd.shards, .slice y40.p.A y40.r.cmd.reads.length y40.p.n, .slice y40.p.B y40.r.cmd.writes.length y40.p.m, .bool y40.r.cmd.commit, iJ y40.r.seq, iJ y40.r.deps.d0, iJ y40.r.deps.d1, iJ y40.r.deps.d2, iJ y40.r.deps.d3, iJ y40.r.deps.d4, iJ y40.r.deps.d5, iJ y40.r.deps.d6, .bool y40.r.kept]) rfl rfl rfl zero_63 rfl rfl rfl rfl rfl rfl rfl size_63 rfl (fun w52 b53 x54 z55 => ?_)
  refine p_nil (t_norm (c_seq (c_quiet (qv (vVt y40) (fun _ x' => x_load rfl rfl ((b53.ext x').agg (vs := [iJ y40.src, iJ y40.r.inst.replica, iJ y40.r.inst.slot, iJ y40.r.status, iJ y40.r.promise.number, iJ y40.r.promise.replica, iJ y40.r.ballot.number, iJ y40.r.ballot.replica, iJ y40.r.cmd.kind, iJ y40.r.cmd.txn.client, iJ y40.r.cmd.txn.number, iJ y40.r.cmd.stp.time, iJ y40.r.cmd.stp.client, iJ y40.r.cmd.shards, .slice y40.p.A y40.r.cmd.reads.length y40.p.n, .slice y40.p.B y40.r.cmd.writes.length y40.p.m, .bool y40.r.cmd.commit, iJ y40.r.seq, iJ y40.r.deps.d0, iJ y40.r.deps.d1, iJ y40.r.deps.d2, iJ y40.r.deps.d3, iJ y40.r.deps.d4, iJ y40.r.deps.d5, iJ y40.r.deps.d6, .bool y40.r.kept]) agg_63_26 rfl)) ?_))))
  refine q_callb (b := quick y40) (vs := #[vVt y40]) fn_30 rfl rfl rfl (args1 rfl) (fun _ x' => C_quick _ y40) (fun c56 => ?_) (fun c56 => ?_)
  ·refine q_nil (fun w57 x58 => t_norm (c_true rfl (c_quiet (qv (iJ ((((counted l).take k28).countP quick : Nat) : Int)) (fun _ x' => x_move rfl e37) ?_))))
   refine qv (iJ (((((counted l).take k28).countP quick : Nat) : Int) + 1)) (fun _ x' => x_add rfl rfl rfl (wrap_of (by omega) (by omega))) ?_
   refine qv (iJ (((((counted l).take k28).countP quick : Nat) : Int) + 1)) (fun _ x' => x_assign rfl rfl) ?_
   refine q_nil (fun w59 x60 => b_norm (t_norm (c_quiet (qv (iJ ((k28 : Int) + 1)) (fun _ x' => x_add rfl e38 rfl (wrap_of (by omega) (by omega))) ?_))))
   refine qv (iJ ((k28 : Int) + 1)) (fun _ x' => x_move rfl rfl) ?_
   exact q_nil (fun w61 x62 => t_norm (⟨_, rfl, ⟨k28 + 1, by omega, trivial, e33, e34, e35, e36, (Eq.trans (show _ = Value.int .i64 (((((counted l).take k28).countP quick : Nat) : Int) + 1) from rfl) (show Value.int .i64 (((((counted l).take k28).countP quick : Nat) : Int) + 1) = Value.int .i64 ((((counted l).take (k28 + 1)).countP quick : Nat) : Int) from by rw [take_of hx41, List.countP_append]; simp [c56])), rfl, (((((x32.trans x51).trans x54).trans x58).trans x60).trans x62)⟩, meas_up e38 hl39⟩))
  refine q_nil (fun w63 x64 => t_norm (c_false rfl (c_skip (b_norm (t_norm (c_quiet (qv (iJ ((k28 : Int) + 1)) (fun _ x' => x_add rfl e38 rfl (wrap_of (by omega) (by omega))) ?_)))))))
  refine qv (iJ ((k28 : Int) + 1)) (fun _ x' => x_move rfl rfl) ?_
  exact q_nil (fun w65 x66 => t_norm (⟨_, rfl, ⟨k28 + 1, by omega, trivial, e33, e34, e35, e36, (Eq.trans (show _ = Value.int .i64 ((((counted l).take k28).countP quick : Nat) : Int) from e37) (show Value.int .i64 (((((counted l).take k28).countP quick : Nat) : Int)) = Value.int .i64 ((((counted l).take (k28 + 1)).countP quick : Nat) : Int) from by rw [take_of hx41, List.countP_append]; simp [c56])), rfl, ((((x32.trans x51).trans x54).trans x64).trans x66)⟩, meas_up e38 hl39⟩))
 refine c_seq (c_quiet (qv (.bool false) (fun _ x' => yb (x_lss rfl e38 e36) (decide_eq_false (by omega))) ?_))
 refine q_nil (fun w67 x68 => t_norm (c_seq (c_false rfl (c_exit (t_exit (t_exit (b_exit (t_norm (c_seq (c_quiet (qv (iJ ((((counted l).take k28).countP quick : Nat) : Int)) (fun _ x' => x_move rfl e37) ?_)))))))))))
 refine qv (iJ f) (fun _ x' => x_move rfl e33) ?_
 refine q_bool (b := decide (((((counted l).take k28).countP quick : Nat) : Int) ≥ f)) rfl rfl (fun _ x' => x_geq rfl rfl rfl) (fun c69 => ?_) (fun c69 => ?_)
 ·refine qv (.bool true) (fun _ x' => x_assign rfl rfl) ?_
  exact q_nil (fun w70 x71 => t_norm (c_ret (c_done rfl rfl (Ret.b ((fast_end (by have q := of_decide_eq_false c12; simpa using q) (by rw [counted_any, cnt_any]; exact c17) (by rw [← take_end (l := counted l) hl39]; exact c69)).symm) (((((((x3.trans x11).trans x23).trans x25).trans x27).trans x32).trans x68).trans x71)))))
 refine qv (.bool false) (fun _ x' => x_assign rfl rfl) ?_
 exact q_nil (fun w72 x73 => t_norm (c_ret (c_done rfl rfl (Ret.b ((fast_end (by have q := of_decide_eq_false c12; simpa using q) (by rw [counted_any, cnt_any]; exact c17) (by rw [← take_end (l := counted l) hl39]; exact c69)).symm) (((((((x3.trans x11).trans x23).trans x25).trans x27).trans x32).trans x68).trans x73)))))
end Go.Proofs.Ytgamfmkefipngaa
