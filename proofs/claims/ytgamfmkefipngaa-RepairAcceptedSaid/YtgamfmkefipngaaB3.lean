/- A walk through the code of layers below, or of layer 13. -/
import Derived.Test.YtgamfmkefipngaaRfa
import Derived.Test.YtgamfmkefipngaaDrs
import Derived.Test.YtgamfmkefipngaaPan
import Derived.Test.YtgamfmkefipngaaB2
namespace Go.Proofs.Ytgamfmkefipngaa
open Go.RowKit Go.Eng
set_option linter.unusedVariables false
set_option linter.unusedSimpArgs false
theorem C_may (w : World) (f : Int) (i : Inst) (A : Option Addr) (c : Nat) (l : List Vt) (hV : Vts w A l) :
    Calls Try.prog 25 #[.int .i64 f, vInst i, .slice A l.length c] w (Ret w (.int .i64 (why f i l))) := by
 have hlen0 := hV.len
 refine c_enter (n := 55) Try.func25 rfl rfl rfl ?_
 refine c_seq (c_plain (p_box rfl rfl rfl rfl (fun w1 b2 x3 z4 => ?_)))
 refine pv (iJ 0) (x_assign rfl rfl) ?_
 refine p_nil (t_norm (c_seq (c_quiet (qv (iJ f) (fun _ x' => x_move rfl rfl) ?_))))
 refine q_call (vs := #[iJ f]) fn_42 rfl rfl rfl (args1 rfl) (v := iJ (sizeF f)) (fun _ x' => C_size _ f) ?_
 refine qv (iJ (sizeF f)) (fun _ x' => x_assign rfl rfl) ?_
 refine q_nil (fun w5 x6 => t_norm (c_seq (c_seq (c_quiet (qv (vInst i) (fun _ x' => x_load rfl rfl (((b2.ext x6).ext x').agg (vs := [iJ i.replica, iJ i.slot]) agg_23_2 rfl)) ?_)))))
 refine q_callb (b := rightInst i) (vs := #[vInst i]) fn_43 rfl rfl rfl (args1 rfl) (fun _ x' => C_rightInst _ i) (fun c7 => ?_) (fun c7 => ?_)
 ·refine qv (.bool false) (fun _ x' => x_not (b := true) rfl rfl) ?_
  refine qv (.bool false) (fun _ x' => x_move rfl rfl) ?_
  refine qv (pJ w.heap.size) (fun _ x' => x_fieldAddr fld_23_0 rfl rfl rfl) ?_
  refine qv (iJ i.replica) (fun _ x' => x_load rfl rfl (((b2.ext x6).ext x').one one_3 rfl)) ?_
  refine qv (iJ (sizeF f)) (fun _ x' => x_move rfl rfl) ?_
  refine q_bool (b := decide (i.replica ≥ sizeF f)) rfl rfl (fun _ x' => x_geq rfl rfl rfl) (fun c8 => ?_) (fun c8 => ?_)
  ·refine qv (.bool true) (fun _ x' => x_pick_f rfl rfl rfl) ?_
   refine q_nil (fun w9 x10 => t_norm (c_true rfl (c_seq (c_quiet (qv (iJ 1) (fun _ x' => x_assign rfl rfl) ?_)))))
   exact q_nil (fun w11 x12 => t_norm (c_ret (t_ret (c_done rfl rfl (Ret.i ((why_arg (.inr (of_decide_eq_true c8))).symm) (((x3.trans x6).trans x10).trans x12))))))
  refine qv (.bool false) (fun _ x' => x_pick_f rfl rfl rfl) ?_
  refine q_nil (fun w13 x14 => t_norm (c_false rfl (c_skip (t_norm (c_seq (c_seq (c_quiet (qv (.slice A l.length c) (fun _ x' => x_move rfl rfl) ?_))))))))
  refine qv (iJ (l.length : Int)) (fun _ x' => x_len_slice sl_44 rfl rfl) ?_
  refine qv (iJ 0) (fun _ x' => x_move rfl rfl) ?_
  refine q_nil (fun w15 x16 => t_norm (c_block (c_loop (fun ρ w20 => ∃ k17 : Nat, k17 ≤ l.length ∧ (l.take k17).any (badVote f i) = false ∧ ρ 0 = iJ f ∧ ρ 2 = .slice A l.length c ∧ ρ 4 = pJ w.heap.size ∧ ρ 7 = iJ (sizeF f) ∧ ρ 21 = .slice A l.length c ∧ ρ 22 = iJ (l.length : Int) ∧ ρ 23 = iJ (k17 : Int) ∧ Ext w15 w20) (fun ρ _ => l.length - (intOf (ρ 23)).toNat) ⟨0, Nat.zero_le _, rfl, rfl, rfl, rfl, rfl, rfl, rfl, rfl, Ext.refl _⟩ ?_)))
  rintro ρ w20 ⟨k17, hk18, hi19, e22, e23, e24, e25, e26, e27, e28, x21⟩
  by_cases hl29 : k17 < l.length
  ·obtain ⟨y30, hx31⟩ := some_of (l := l) (k := k17) (by omega)
   obtain ⟨ad32, cs33, eA34, hK35, hE36⟩ := hV.lies k17 y30 hx31
   have hK35' : cs33 = [iJ y30.src, iJ y30.r.inst.replica, iJ y30.r.inst.slot, iJ y30.r.status, iJ y30.r.promise.number, iJ y30.r.promise.replica, iJ y30.r.ballot.number, iJ y30.r.ballot.replica, iJ y30.r.cmd.kind, iJ y30.r.cmd.txn.client, iJ y30.r.cmd.txn.number, iJ y30.r.cmd.stp.time, iJ y30.r.cmd.stp.client, iJ y30.r.cmd.shards, .slice y30.p.A y30.r.cmd.reads.length y30.p.n, .slice y30.p.B y30.r.cmd.writes.length y30.p.m, .bool y30.r.cmd.commit, iJ y30.r.seq, iJ y30.r.deps.d0, iJ y30.r.deps.d1, iJ y30.r.deps.d2, iJ y30.r.deps.d3, iJ y30.r.deps.d4, iJ y30.r.deps.d5, iJ y30.r.deps.d6, .bool y30.r.kept] := hK35
   subst hK35'
   have ha37 := hV.at_.out _ (at_of hx31)
   have hs38 := hV.slim _ (at_of hx31)
   refine c_seq (c_quiet (qv (.bool true) (fun _ x' => yb (x_lss rfl e28 e27) (decide_eq_true (by omega))) ?_))
   refine q_nil (fun w40 x41 => t_norm (c_seq (c_true rfl (c_skip (t_norm (c_seq (c_block (c_seq (c_plain (pv (.pointer (some (ad32.add (k17 * 26)))) (x_indexAddr sl_44 rfl e26 eA34 e28 (by omega) (by omega) rfl) ?_))))))))))
   refine pv (vVt y30) (x_load rfl rfl (((((((hE36.ext x3).ext x6).ext x14).ext x16).ext x21).ext x41).agg (vs := [iJ y30.src, iJ y30.r.inst.replica, iJ y30.r.inst.slot, iJ y30.r.status, iJ y30.r.promise.number, iJ y30.r.promise.replica, iJ y30.r.ballot.number, iJ y30.r.ballot.replica, iJ y30.r.cmd.kind, iJ y30.r.cmd.txn.client, iJ y30.r.cmd.txn.number, iJ y30.r.cmd.stp.time, iJ y30.r.cmd.stp.client, iJ y30.r.cmd.shards, .slice y30.p.A y30.r.cmd.reads.length y30.p.n, .slice y30.p.B y30.r.cmd.writes.length y30.p.m, .bool y30.r.cmd.commit, iJ y30.r.seq, iJ y30.r.deps.d0, iJ y30.r.deps.d1, iJ y30.r.deps.d2, iJ y30.r.deps.d3, iJ y30.r.deps.d4, iJ y30.r.deps.d5, iJ y30.r.deps.d6, .bool y30.r.kept]) agg_63_26 0 rfl rfl)) ?_
   refine p_var (v := vVt y30) (vs := [iJ y30.src, iJ y30.r.inst.replica, iJ y30.r.inst.slot, iJ y30.r.status, iJ y30.r.promise.number, iJ y30.r.promise.replica, iJ y30.r.ballot.number, iJ y30.r.ballot.replica, iJ y30.r.cmd.kind, iJ y30.r.cmd.txn.client, iJ y30.r.cmd.txn.number, iJ y30.r.cmd.stp.time, iJ y30.r.cmd.stp.client, iJ y30.r.cmd.shards, .slice y30.p.A y30.r.cmd.reads.length y30.p.n, .slice y30.p.B y30.r.cmd.writes.length y30.p.m, .bool y30.r.cmd.commit, iJ y30.r.seq, iJ y30.r.deps.d0, iJ y30.r.deps.d1, iJ y30.r.deps.d2, iJ y30.r.deps.d3, iJ y30.r.deps.d4, iJ y30.r.deps.d5, iJ y30.r.deps.d6, .bool y30.r.kept]) rfl rfl rfl zero_63 rfl rfl rfl rfl rfl rfl rfl size_63 rfl (fun w42 b43 x44 z45 => ?_)
   refine p_nil (t_norm (c_seq (c_quiet (qv (pJ w40.heap.size) (fun _ x' => x_fieldAddr fld_63_0 rfl rfl rfl) ?_))))
   refine qv (iJ y30.src) (fun _ x' => x_load rfl rfl ((b43.ext x').one one_3 rfl)) ?_
   refine q_bool (b := decide (y30.src < 0)) rfl rfl (fun _ x' => x_lss rfl rfl rfl) (fun c46 => ?_) (fun c46 => ?_)
   ·refine qv (.bool true) (fun _ x' => x_move rfl rfl) ?_
    refine qk rfl rfl (qk rfl rfl (qk rfl rfl (qk rfl rfl (qv (.bool true) (fun _ x' => x_pick_t rfl rfl rfl) ?_))))
    refine qv (.bool true) (fun _ x' => x_move rfl rfl) ?_
    refine qk rfl rfl (qk rfl rfl (qk rfl rfl (qk rfl rfl (qk rfl rfl (qv (.bool true) (fun _ x' => x_pick_t rfl rfl rfl) ?_)))))
    refine qv (.bool true) (fun _ x' => x_move rfl rfl) ?_
    refine qk rfl rfl (qk rfl rfl (qk rfl rfl (qk rfl rfl (qv (.bool true) (fun _ x' => x_pick_t rfl rfl rfl) ?_))))
    refine q_nil (fun w47 x48 => t_norm (c_true rfl (c_seq (c_quiet (qv (iJ 1) (fun _ x' => x_assign rfl rfl) ?_)))))
    exact q_nil (fun w49 x50 => t_norm (c_ret (b_ret (t_ret (t_ret (b_ret (t_ret (c_done rfl rfl (Ret.i ((why_bad (any_hit hx31 (by simp_all [badVote]))).symm) ((((((((x3.trans x6).trans x14).trans x16).trans x21).trans x41).trans x44).trans x48).trans x50))))))))))
   refine qv (.bool false) (fun _ x' => x_move rfl rfl) ?_
   refine qv (pJ w40.heap.size) (fun _ x' => x_fieldAddr fld_63_0 rfl rfl rfl) ?_
   refine qv (iJ y30.src) (fun _ x' => x_load rfl rfl ((b43.ext x').one one_3 rfl)) ?_
   refine qv (iJ (sizeF f)) (fun _ x' => x_move rfl e25) ?_
   refine q_bool (b := decide (y30.src ≥ sizeF f)) rfl rfl (fun _ x' => x_geq rfl rfl rfl) (fun c51 => ?_) (fun c51 => ?_)
   ·refine qv (.bool true) (fun _ x' => x_pick_f rfl rfl rfl) ?_
    refine qv (.bool true) (fun _ x' => x_move rfl rfl) ?_
    refine qk rfl rfl (qk rfl rfl (qk rfl rfl (qk rfl rfl (qk rfl rfl (qv (.bool true) (fun _ x' => x_pick_t rfl rfl rfl) ?_)))))
    refine qv (.bool true) (fun _ x' => x_move rfl rfl) ?_
    refine qk rfl rfl (qk rfl rfl (qk rfl rfl (qk rfl rfl (qv (.bool true) (fun _ x' => x_pick_t rfl rfl rfl) ?_))))
    refine q_nil (fun w52 x53 => t_norm (c_true rfl (c_seq (c_quiet (qv (iJ 1) (fun _ x' => x_assign rfl rfl) ?_)))))
    exact q_nil (fun w54 x55 => t_norm (c_ret (b_ret (t_ret (t_ret (b_ret (t_ret (c_done rfl rfl (Ret.i ((why_bad (any_hit hx31 (by simp_all [badVote]))).symm) ((((((((x3.trans x6).trans x14).trans x16).trans x21).trans x41).trans x44).trans x53).trans x55))))))))))
   refine qv (.bool false) (fun _ x' => x_pick_f rfl rfl rfl) ?_
   refine qv (.bool false) (fun _ x' => x_move rfl rfl) ?_
   refine qv (.pointer (some (⟨w40.heap.size, 1, none⟩))) (fun _ x' => x_fieldAddr fld_63_1 rfl rfl rfl) ?_
   refine qv (.pointer (some (⟨w40.heap.size, 1, none⟩))) (fun _ x' => x_fieldAddr fld_40_0 rfl rfl rfl) ?_
   refine qv (.agg #[iJ y30.r.inst.replica, iJ y30.r.inst.slot]) (fun _ x' => x_load rfl rfl ((b43.ext x').agg (vs := [iJ y30.r.inst.replica, iJ y30.r.inst.slot]) agg_23_2 rfl)) ?_
   refine qv (vInst i) (fun _ x' => x_load rfl e24 ((((((((b2.ext x6).ext x14).ext x16).ext x21).ext x41).ext x44).ext x').agg (vs := [iJ i.replica, iJ i.slot]) agg_23_2 rfl)) ?_
   refine q_bool (b := !decide (y30.r.inst = i)) rfl rfl (fun _ x' => x_neInst ints2_23 rfl rfl rfl) (fun c56 => ?_) (fun c56 => ?_)
   ·refine qv (.bool true) (fun _ x' => x_pick_f rfl rfl rfl) ?_
    refine qv (.bool true) (fun _ x' => x_move rfl rfl) ?_
    refine qk rfl rfl (qk rfl rfl (qk rfl rfl (qk rfl rfl (qv (.bool true) (fun _ x' => x_pick_t rfl rfl rfl) ?_))))
    refine q_nil (fun w57 x58 => t_norm (c_true rfl (c_seq (c_quiet (qv (iJ 1) (fun _ x' => x_assign rfl rfl) ?_)))))
    exact q_nil (fun w59 x60 => t_norm (c_ret (b_ret (t_ret (t_ret (b_ret (t_ret (c_done rfl rfl (Ret.i ((why_bad (any_hit hx31 (by simp_all [badVote]))).symm) ((((((((x3.trans x6).trans x14).trans x16).trans x21).trans x41).trans x44).trans x58).trans x60))))))))))
   refine qv (.bool false) (fun _ x' => x_pick_f rfl rfl rfl) ?_
   refine qv (.bool false) (fun _ x' => x_move rfl rfl) ?_
   refine qv (.pointer (some (⟨w40.heap.size, 1, none⟩))) (fun _ x' => x_fieldAddr fld_63_1 rfl rfl rfl) ?_
   refine qv (.agg #[iJ y30.r.inst.replica, iJ y30.r.inst.slot, iJ y30.r.status, iJ y30.r.promise.number, iJ y30.r.promise.replica, iJ y30.r.ballot.number, iJ y30.r.ballot.replica, iJ y30.r.cmd.kind, iJ y30.r.cmd.txn.client, iJ y30.r.cmd.txn.number, iJ y30.r.cmd.stp.time, iJ y30.r.cmd.stp.client, iJ y30.r.cmd.shards, .slice y30.p.A y30.r.cmd.reads.length y30.p.n, .slice y30.p.B y30.r.cmd.writes.length y30.p.m, .bool y30.r.cmd.commit, iJ y30.r.seq, iJ y30.r.deps.d0, iJ y30.r.deps.d1, iJ y30.r.deps.d2, iJ y30.r.deps.d3, iJ y30.r.deps.d4, iJ y30.r.deps.d5, iJ y30.r.deps.d6, .bool y30.r.kept]) (fun _ x' => x_load rfl rfl ((b43.ext x').agg (vs := [iJ y30.r.inst.replica, iJ y30.r.inst.slot, iJ y30.r.status, iJ y30.r.promise.number, iJ y30.r.promise.replica, iJ y30.r.ballot.number, iJ y30.r.ballot.replica, iJ y30.r.cmd.kind, iJ y30.r.cmd.txn.client, iJ y30.r.cmd.txn.number, iJ y30.r.cmd.stp.time, iJ y30.r.cmd.stp.client, iJ y30.r.cmd.shards, .slice y30.p.A y30.r.cmd.reads.length y30.p.n, .slice y30.p.B y30.r.cmd.writes.length y30.p.m, .bool y30.r.cmd.commit, iJ y30.r.seq, iJ y30.r.deps.d0, iJ y30.r.deps.d1, iJ y30.r.deps.d2, iJ y30.r.deps.d3, iJ y30.r.deps.d4, iJ y30.r.deps.d5, iJ y30.r.deps.d6, .bool y30.r.kept]) agg_40_25 rfl)) ?_
   refine q_callb (b := rightRec y30.r) (vs := #[.agg #[iJ y30.r.inst.replica, iJ y30.r.inst.slot, iJ y30.r.status, iJ y30.r.promise.number, iJ y30.r.promise.replica, iJ y30.r.ballot.number, iJ y30.r.ballot.replica, iJ y30.r.cmd.kind, iJ y30.r.cmd.txn.client, iJ y30.r.cmd.txn.number, iJ y30.r.cmd.stp.time, iJ y30.r.cmd.stp.client, iJ y30.r.cmd.shards, .slice y30.p.A y30.r.cmd.reads.length y30.p.n, .slice y30.p.B y30.r.cmd.writes.length y30.p.m, .bool y30.r.cmd.commit, iJ y30.r.seq, iJ y30.r.deps.d0, iJ y30.r.deps.d1, iJ y30.r.deps.d2, iJ y30.r.deps.d3, iJ y30.r.deps.d4, iJ y30.r.deps.d5, iJ y30.r.deps.d6, .bool y30.r.kept]]) fn_44 rfl rfl rfl (args1 rfl) (fun _ x' => C_rightRec _ y30.r y30.p ((((((((ha37.ext x3).ext x6).ext x14).ext x16).ext x21).ext x41).ext x44).ext x') hs38) (fun c61 => ?_) (fun c61 => ?_)
   ·refine qv (.bool false) (fun _ x' => x_not (b := true) rfl rfl) ?_
    refine qv (.bool false) (fun _ x' => x_pick_f rfl rfl rfl) ?_
    refine q_nil (fun w62 x63 => t_norm (c_false rfl (c_skip (b_norm (t_norm (c_quiet (qv (iJ ((k17 : Int) + 1)) (fun _ x' => x_add rfl e28 rfl (wrap_of (by omega) (by omega))) ?_)))))))
    refine qv (iJ ((k17 : Int) + 1)) (fun _ x' => x_move rfl rfl) ?_
    exact q_nil (fun w64 x65 => t_norm (⟨_, rfl, ⟨k17 + 1, by omega, any_step hi19 hx31 (by simp_all [badVote]), e22, e23, e24, e25, e26, e27, rfl, ((((x21.trans x41).trans x44).trans x63).trans x65)⟩, meas_up e28 hl29⟩))
   refine qv (.bool true) (fun _ x' => x_not (b := false) rfl rfl) ?_
   refine qv (.bool true) (fun _ x' => x_pick_f rfl rfl rfl) ?_
   refine q_nil (fun w66 x67 => t_norm (c_true rfl (c_seq (c_quiet (qv (iJ 1) (fun _ x' => x_assign rfl rfl) ?_)))))
   exact q_nil (fun w68 x69 => t_norm (c_ret (b_ret (t_ret (t_ret (b_ret (t_ret (c_done rfl rfl (Ret.i ((why_bad (any_hit hx31 (by simp_all [badVote]))).symm) ((((((((x3.trans x6).trans x14).trans x16).trans x21).trans x41).trans x44).trans x67).trans x69))))))))))
  refine c_seq (c_quiet (qv (.bool false) (fun _ x' => yb (x_lss rfl e28 e27) (decide_eq_false (by omega))) ?_))
  refine q_nil (fun w70 x71 => t_norm (c_seq (c_false rfl (c_exit (t_exit (t_exit (b_exit (t_norm (c_seq (c_seq (c_quiet (qv (.slice A l.length c) (fun _ x' => x_move rfl e23) ?_))))))))))))
  refine qv (iJ (l.length : Int)) (fun _ x' => x_len_slice sl_44 rfl rfl) ?_
  refine qv (iJ f) (fun _ x' => x_move rfl e22) ?_
  refine q_call (vs := #[iJ f]) fn_45 rfl rfl rfl (args1 rfl) (v := iJ (slowF f)) (fun _ x' => C_slow _ f) ?_
  refine q_bool (b := decide ((l.length : Int) < slowF f)) rfl rfl (fun _ x' => x_lss rfl rfl rfl) (fun c72 => ?_) (fun c72 => ?_)
  ·refine q_nil (fun w73 x74 => t_norm (c_true rfl (c_seq (c_quiet (qv (iJ 13) (fun _ x' => x_assign rfl rfl) ?_)))))
   exact q_nil (fun w75 x76 => t_norm (c_ret (t_ret (c_done rfl rfl (Ret.i (by have hs0 : i.replica < sizeF f := (by have q := of_decide_eq_false c8; omega); have hs := size_slow c7 (by have q := of_decide_eq_false c8; omega); have ha := any_end hi19 hl29; have hq := of_decide_eq_true c72; (try simp only [hs.1] at hq); rw [why_end c7 hs0 ha, if_pos (by omega)]) (((((((x3.trans x6).trans x14).trans x16).trans x21).trans x71).trans x74).trans x76))))))
  refine q_nil (fun w77 x78 => t_norm (c_false rfl (c_skip (t_norm (c_seq (c_quiet (qv (iJ 0) (fun _ x' => x_assign rfl rfl) ?_)))))))
  exact q_nil (fun w79 x80 => t_norm (c_ret (c_done rfl rfl (Ret.i (by have hs0 : i.replica < sizeF f := (by have q := of_decide_eq_false c8; omega); have hs := size_slow c7 (by have q := of_decide_eq_false c8; omega); have ha := any_end hi19 hl29; have hq := of_decide_eq_false c72; (try simp only [hs.1] at hq); rw [why_end c7 hs0 ha, if_neg (by omega)]) (((((((x3.trans x6).trans x14).trans x16).trans x21).trans x71).trans x78).trans x80)))))
 refine qv (.bool true) (fun _ x' => x_not (b := false) rfl rfl) ?_
 refine qv (.bool true) (fun _ x' => x_move rfl rfl) ?_
 refine qk rfl rfl (qk rfl rfl (qk rfl rfl (qk rfl rfl (qv (.bool true) (fun _ x' => x_pick_t rfl rfl rfl) ?_))))
 refine q_nil (fun w81 x82 => t_norm (c_true rfl (c_seq (c_quiet (qv (iJ 1) (fun _ x' => x_assign rfl rfl) ?_)))))
 exact q_nil (fun w83 x84 => t_norm (c_ret (t_ret (c_done rfl rfl (Ret.i ((why_arg (.inl c7)).symm) (((x3.trans x6).trans x82).trans x84))))))
end Go.Proofs.Ytgamfmkefipngaa
