/- A walk through the code of layers below, or of layer 13. -/
import Derived.Test.YtgamfmkefipngaaRep
import Derived.Test.YtgamfmkefipngaaDrs
import Derived.Test.YtgamfmkefipngaaPan
import Derived.Test.YtgamfmkefipngaaB2
namespace Go.Proofs.Ytgamfmkefipngaa
open Go.RowKit Go.Eng
set_option linter.unusedVariables false
set_option linter.unusedSimpArgs false
theorem C_may (w : World) (f : Int) (i : Inst) (A : Option Addr) (c : Nat) (l : List Vt) (hV : Vts w A l) :
    Calls Try.prog 25 #[.int .i64 f, vInst i, .slice A l.length c] w (Ret w (.int .i64 (why f i l))) := by
 have hlen0 := hV.len
 refine c_enter (n := 55) Try.func25 rfl rfl rfl ?_
 refine c_seq (c_plain (p_box rfl rfl rfl rfl (fun w1 b2 x3 z4 => ?_)))
 refine pv (iJ 0) (x_assign rfl rfl) ?_
 refine p_nil (t_norm (c_seq (c_quiet (qv (iJ f) (fun _ x' => x_move rfl rfl) ?_))))
 refine q_call (vs := #[iJ f]) fn_42 rfl rfl rfl (args1 rfl) (v := iJ (sizeF f)) (fun _ x' => C_size _ f) ?_
 refine qv (iJ (sizeF f)) (fun _ x' => x_assign rfl rfl) ?_
 refine q_nil (fun w5 x6 => t_norm (c_seq (c_seq (c_quiet (qv (vInst i) (fun _ x' => x_load rfl rfl (((b2.ext x6).ext x').agg (vs := [iJ i.replica, iJ i.slot]) agg_23_2 rfl)) ?_)))))
 refine q_callb (b := rightInst i) (vs := #[vInst i]) fn_43 rfl rfl rfl (args1 rfl) (fun _ x' => C_rightInst _ i) (fun c7 => ?_) (fun c7 => ?_)
 ·refine qv (.bool false) (fun _ x' => x_not (b := true) rfl rfl) ?_
  refine qv (.bool false) (fun _ x' => x_move rfl rfl) ?_
  refine qv (pJ w.heap.size) (fun _ x' => x_fieldAddr fld_23_0 rfl rfl rfl) ?_
  refine qv (iJ i.replica) (fun _ x' => x_load rfl rfl (((b2.ext x6).ext x').one one_3 rfl)) ?_
  refine qv (iJ (sizeF f)) (fun _ x' => x_move rfl rfl) ?_
  refine q_bool (b := decide (i.replica ≥ sizeF f)) rfl rfl (fun _ x' => x_geq rfl rfl rfl) (fun c8 => ?_) (fun c8 => ?_)
  ·refine qv (.bool true) (fun _ x' => x_pick_f rfl rfl rfl) ?_
   refine q_nil (fun w9 x10 => t_norm (c_true rfl (c_seq (c_quiet (qv (iJ 1) (fun _ x' => x_assign rfl rfl) ?_)))))
   exact q_nil (fun w11 x12 => t_norm (c_ret (t_ret (c_done rfl rfl (Ret.i ((why_arg (.inr (of_decide_eq_true c8))).symm) (((x3.trans x6).trans x10).trans x12))))))
  refine qv (.bool false) (fun _ x' => x_pick_f rfl rfl rfl) ?_
  refine q_nil (fun w13 x14 => t_norm (c_false rfl (c_skip (t_norm (c_seq (c_seq (c_quiet (qv (.slice A l.length c) (fun _ x' => x_move rfl rfl) ?_))))))))
  refine qv (iJ (l.length : Int)) (fun _ x' => x_len_slice sl_44 rfl rfl) ?_
  refine qv (iJ 0) (fun _ x' => x_move rfl rfl) ?_
  refine q_nil (fun w15 x16 => t_norm (c_block (c_loop (fun ρ w20 => ∃ k17 : Nat, k17 ≤ l.length ∧ (l.take k17).any (badVote f i) = false ∧ ρ 0 = iJ f ∧ ρ 2 = .slice A l.length c ∧ ρ 4 = pJ w.heap.size ∧ ρ 7 = iJ (sizeF f) ∧ ρ 21 = .slice A l.length c ∧ ρ 22 = iJ (l.length : Int) ∧ ρ 23 = iJ (k17 : Int) ∧ Ext w15 w20) (fun ρ _ => l.length - (intOf (ρ 23)).toNat) ⟨0, Nat.zero_le _, rfl, rfl, rfl, rfl, rfl, rfl, rfl, rfl, Ext.refl _⟩ ?_)))
  rintro ρ w20 ⟨k17, hk18, hi19, e22, e23, e24, e25, e26, e27, e28, x21⟩
  by_cases hl29 : k17 < l.length
  ·obtain ⟨y30, hx31⟩ := some_of (l := l) (k := k17) (by omega)
   obtain ⟨ad32, cs33, eA34, hK35, hE36⟩ := hV.lies k17 y30 hx31
   have hK35' : cs33 = [iJ y30.src, iJ y30.r.inst.replica, iJ y30.r.inst.slot, iJ y30.r.status, iJ y30.r.promise.number, iJ y30.r.promise.replica, iJ y30.r.ballot.number, iJ y30.r.ballot.replica, iJ y30.r.cmd.kind, iJ y30.r.cmd.txn.client, iJ y30.r.cmd.txn.number, iJ y30.r.cmd.stp.time, iJ y30.r.cmd.stp.client, iJ y30.r.cmd.shards, .slice y30.p.A y30.r.cmd.reads.length y30.p.n, .slice y30.p.B y30.r.cmd.writes.length y30.p.m, .bool y30.r.cmd.commit, iJ y30.r.seq, iJ y30.r.deps.d0, iJ y30.r.deps.d1, iJ y30.r.deps.d2, iJ y30.r.deps.d3, iJ y30.r.deps.d4, iJ y30.r.deps.d5, iJ y30.r.deps.d6, .bool y30.r.kept] := hK35
   subst hK35'
   have ha37 := hV.at_.out _ (at_of hx31)
   have hs38 := hV.slim _ (at_of hx31)
   refine c_seq (c_quiet (qv (.bool true) (fun _ x' => yb (x_lss rfl e28 e27) (decide_eq_true (by omega))) ?_))
   refine q_nil (fun w40 x41 => t_norm (c_seq (c_true rfl (c_skip (t_norm (c_seq (c_block (c_seq (c_plain (pv (.pointer (some (ad32.add (k17 * 26)))) (x_indexAddr sl_44 rfl e26 eA34 e28 (by omega) (by omega) rfl) ?_))))))))))
   refine pv (vVt y30) (x_load rfl rfl (((((((hE36.ext x3).ext x6).ext x14).ext x16).ext x21).ext x41).agg (vs := [iJ y30.src, iJ y30.r.inst.replica, iJ y30.r.inst.slot, iJ y30.r.status, iJ y30.r.promise.number, iJ y30.r.promise.replica, iJ y30.r.ballot.number, iJ y30.r.ballot.replica, iJ y30.r.cmd.kind, iJ y30.r.cmd.txn.client, iJ y30.r.cmd.txn.number, iJ y30.r.cmd.stp.time, iJ y30.r.cmd.stp.client, iJ y30.r.cmd.shards, .slice y30.p.A y30.r.cmd.reads.length y30.p.n, .slice y30.p.B y30.r.cmd.writes.length y30.p.m, .bool y30.r.cmd.commit, iJ y30.r.seq, iJ y30.r.deps.d0, iJ y30.r.deps.d1, iJ y30.r.deps.d2, iJ y30.r.deps.d3, iJ y30.r.deps.d4, iJ y30.r.deps.d5, iJ y30.r.deps.d6, .bool y30.r.kept]) agg_63_26 0 rfl rfl)) ?_
   refine p_var (v := vVt y30) (vs := [iJ y30.src, iJ y30.r.inst.replica, iJ y30.r.inst.slot, iJ y30.r.status, iJ y30.r.promise.number, iJ y30.r.promise.replica, iJ y30.r.ballot.number, iJ y30.r.ballot.replica, iJ y30.r.cmd.kind, iJ y30.r.cmd.txn.client, iJ y30.r.cmd.txn.number, iJ y30.r.cmd.stp.time, iJ y30.r.cmd.stp.client, iJ y30.r.cmd.shards, .slice y30.p.A y30.r.cmd.reads.length y30.p.n, .slice y30.p.B y30.r.cmd.writes.length y30.p.m, .bool y30.r.cmd.commit, iJ y30.r.seq, iJ y30.r.deps.d0, iJ y30.r.deps.d1, iJ y30.r.deps.d2, iJ y30.r.deps.d3, iJ y30.r.deps.d4, iJ y30.r.deps.d5, iJ y30.r.deps.d6, .bool y30.r.kept]) rfl rfl rfl zero_63 rfl rfl rfl rfl rfl rfl rfl size_63 rfl (fun w42 b43 x44 z45 => ?_)
   refine p_nil (t_norm (c_seq (c_quiet (qv (pJ w40.heap.size) (fun _ x' => x_fieldAddr fld_63_0 rfl rfl rfl) ?_))))
   refine qv (iJ y30.src) (fun _ x' => x_load rfl rfl ((b43.ext x').one one_3 rfl)) ?_
   refine q_bool (b := decide (y30.src < 0)) rfl rfl (fun _ x' => x_lss rfl rfl rfl) (fun c46 => ?_) (fun c46 => ?_)
   ·refine qv (.bool true) (fun _ x' => x_move rfl rfl) ?_
    refine qk rfl rfl (qk rfl rfl (qk rfl rfl (qk rfl rfl (qv (.bool true) (fun _ x' => x_pick_t rfl rfl rfl) ?_))))
    refine qv (.bool true) (fun _ x' => x_move rfl rfl) ?_
    refine qk rfl rfl (qk rfl rfl (qk rfl rfl (qk rfl rfl (qk rfl rfl (qv (.bool true) (fun _ x' => x_pick_t rfl rfl rfl) ?_)))))
    refine qv (.bool true) (fun _ x' => x_move rfl rfl) ?_
    refine qk rfl rfl (qk rfl rfl (qk rfl rfl (qk rfl rfl (qv (.bool true) (fun _ x' => x_pick_t rfl rfl rfl) ?_))))
    refine q_nil (fun w47 x48 => t_norm (c_true rfl (c_seq (c_quiet (qv (iJ 1) (fun _ x' => x_assign rfl rfl) ?_)))))
    exact q_nil (fun w49 x50 => t_norm (c_ret (b_ret (t_ret (t_ret (b_ret (t_ret (c_done rfl rfl (Ret.i ((why_bad (any_hit hx31 (by simp_all [badVote]))).symm) ((((((((x3.trans x6).trans x14).trans x16).trans x21).trans x41).trans x44).trans x48).trans x50))))))))))
   refine qv (.bool false) (fun _ x' => x_move rfl rfl) ?_
   refine qv (pJ w40.heap.size) (fun _ x' => x_fieldAddr fld_63_0 rfl rfl rfl) ?_
   refine qv (iJ y30.src) (fun _ x' => x_load rfl rfl ((b43.ext x').one one_3 rfl)) ?_
   refine qv (iJ (sizeF f)) (fun _ x' => x_move rfl e25) ?_
   refine q_bool (b := decide (y30.src ≥ sizeF f)) rfl rfl (fun _ x' => x_geq rfl rfl rfl) (fun c51 => ?_) (fun c51 => ?_)
   ·refine qv (.bool true) (fun _ x' => x_pick_f rfl rfl rfl) ?_
    refine qv (.bool true) (fun _ x' => x_move rfl rfl) ?_
    refine qk rfl rfl (qk rfl rfl (qk rfl rfl (qk rfl rfl (qk rfl rfl (qv (.bool true) (fun _ x' => x_pick_t rfl rfl rfl) ?_)))))
    refine qv (.bool true) (fun _ x' => x_move rfl rfl) ?_
    refine qk rfl rfl (qk rfl rfl (qk rfl rfl (qk rfl rfl (qv (.bool true) (fun _ x' => x_pick_t rfl rfl rfl) ?_))))
    refine q_nil (fun w52 x53 => t_norm (c_true rfl (c_seq (c_quiet (qv (iJ 1) (fun _ x' => x_assign rfl rfl) ?_)))))
    exact q_nil (fun w54 x55 => t_norm (c_ret (b_ret (t_ret (t_ret (b_ret (t_ret (c_done rfl rfl (Ret.i ((why_bad (any_hit hx31 (by simp_all [badVote]))).symm) ((((((((x3.trans x6).trans x14).trans x16).trans x21).trans x41).trans x44).trans x53).trans x55))))))))))
   refine qv (.bool false) (fun _ x' => x_pick_f rfl rfl rfl) ?_
   refine qv (.bool false) (fun _ x' => x_move rfl rfl) ?_
   refine qv (.pointer (some (⟨w40.heap.size, 1, none⟩))) (fun _ x' => x_fieldAddr fld_63_1 rfl rfl rfl) ?_
   refine qv (.pointer (some (⟨w40.heap.size, 1, none⟩))) (fun _ x' => x_fieldAddr fld_40_0 rfl rfl rfl) ?_
   refine qv (.agg #[iJ y30.r.inst.replica, iJ y30.r.inst.slot]) (fun _ x' => x_load rfl rfl ((b43.ext x').agg (vs := [iJ y30.r.inst.replica, iJ y30.r.inst.slot]) agg_23_2 rfl)) ?_
   refine qv (vInst i) (fun _ x' => x_load rfl e24 ((((((((b2.ext x6).ext x14).ext x16).ext x21).ext x41).ext x44).ext x').agg (vs := [iJ i.replica, iJ i.slot]) agg_23_2 rfl)) ?_
   refine q_bool (b := !decide (y30.r.inst = i)) rfl rfl (fun _ x' => x_neInst ints2_23 rfl rfl rfl) (fun c56 => ?_) (fun c56 => ?_)
   ·refine qv (.bool true) (fun _ x' => x_pick_f rfl rfl rfl) ?_
    refine qv (.bool true) (fun _ x' => x_move rfl rfl) ?_
    refine qk rfl rfl (qk rfl rfl (qk rfl rfl (qk rfl rfl (qv (.bool true) (fun _ x' => x_pick_t rfl rfl rfl) ?_))))
    refine q_nil (fun w57 x58 => t_norm (c_true rfl (c_seq (c_quiet (qv (iJ 1) (fun _ x' => x_assign rfl rfl) ?_)))))
    exact q_nil (fun w59 x60 => t_norm (c_ret (b_ret (t_ret (t_ret (b_ret (t_ret (c_done rfl rfl (Ret.i ((why_bad (any_hit hx31 (by simp_all [badVote]))).symm) ((((((((x3.trans x6).trans x14).trans x16).trans x21).trans x41).trans x44).trans x58).trans x60))))))))))
   refine qv (.bool false) (fun _ x' => x_pick_f rfl rfl rfl) ?_
   refine qv (.bool false) (fun _ x' => x_move rfl rfl) ?_
   refine qv (.pointer (some (⟨w40.heap.size, 1, none⟩))) (fun _ x' => x_fieldAddr fld_63_1 rfl rfl rfl) ?_
   refine qv (.agg #[iJ y30.r.inst.replica, iJ y30.r.inst.slot, iJ y30.r.status, iJ y30.r.promise.number, iJ y30.r.promise.replica, iJ y30.r.ballot.number, iJ y30.r.ballot.replica, iJ y30.r.cmd.kind, iJ y30.r.cmd.txn.client, iJ y30.r.cmd.txn.number, iJ y30.r.cmd.stp.time, iJ y30.r.cmd.stp.client, iJ y30.r.cmd.shards, .slice y30.p.A y30.r.cmd.reads.length y30.p.n, .slice y30.p.B y30.r.cmd.writes.length y30.p.m, .bool y30.r.cmd.commit, iJ y30.r.seq, iJ y30.r.deps.d0, iJ y30.r.deps.d1, iJ y30.r.deps.d2, iJ y30.r.deps.d3, iJ y30.r.deps.d4, iJ y30.r.deps.d5, iJ y30.r.deps.d6, .bool y30.r.kept]) (fun _ x' => x_load rfl rfl ((b43.ext x').agg (vs := [iJ y30.r.inst.replica, iJ y30.r.inst.slot, iJ y30.r.status, iJ y30.r.promise.number, iJ y30.r.promise.replica, iJ y30.r.ballot.number, iJ y30.r.ballot.replica, iJ y30.r.cmd.kind, iJ y30.r.cmd.txn.client, iJ y30.r.cmd.txn.number, iJ y30.r.cmd.stp.time, iJ y30.r.cmd.stp.client, iJ y30.r.cmd.shards, .slice y30.p.A y30.r.cmd.reads.length y30.p.n, .slice y30.p.B y30.r.cmd.writes.length y30.p.m, .bool y30.r.cmd.commit, iJ y30.r.seq, iJ y30.r.deps.d0, iJ y30.r.deps.d1, iJ y30.r.deps.d2, iJ y30.r.deps.d3, iJ y30.r.deps.d4, iJ y30.r.deps.d5, iJ y30.r.deps.d6, .bool y30.r.kept]) agg_40_25 rfl)) ?_
   refine q_callb (b := rightRec y30.r) (vs := #[.agg #[iJ y30.r.inst.replica, iJ y30.r.inst.slot, iJ y30.r.status, iJ y30.r.promise.number, iJ y30.r.promise.replica, iJ y30.r.ballot.number, iJ y30.r.ballot.replica, iJ y30.r.cmd.kind, iJ y30.r.cmd.txn.client, iJ y30.r.cmd.txn.number, iJ y30.r.cmd.stp.time, iJ y30.r.cmd.stp.client, iJ y30.r.cmd.shards, .slice y30.p.A y30.r.cmd.reads.length y30.p.n, .slice y30.p.B y30.r.cmd.writes.length y30.p.m, .bool y30.r.cmd.commit, iJ y30.r.seq, iJ y30.r.deps.d0, iJ y30.r.deps.d1, iJ y30.r.deps.d2, iJ y30.r.deps.d3, iJ y30.r.deps.d4, iJ y30.r.deps.d5, iJ y30.r.deps.d6, .bool y30.r.kept]]) fn_44 rfl rfl rfl (args1 rfl) (fun _ x' => C_rightRec _ y30.r y30.p ((((((((ha37.ext x3).ext x6).ext x14).ext x16).ext x21).ext x41).ext x44).ext x') hs38) (fun c61 => ?_) (fun c61 => ?_)
   ·refine qv (.bool false) (fun _ x' => x_not (b := true) rfl rfl) ?_
    refine qv (.bool false) (fun _ x' => x_pick_f rfl rfl rfl) ?_
    refine q_nil (fun w62 x63 => t_norm (c_false rfl (c_skip (b_norm (t_norm (c_quiet (qv (iJ ((k17 : Int) + 1)) (fun _ x' => x_add rfl e28 rfl (wrap_of (by omega) (by omega))) ?_)))))))
    refine qv (iJ ((k17 : Int) + 1)) (fun _ x' => x_move rfl rfl) ?_
    exact q_nil (fun w64 x65 => t_norm (⟨_, rfl, ⟨k17 + 1, by omega, any_step hi19 hx31 (by simp_all [badVote]), e22, e23, e24, e25, e26, e27, rfl, ((((x21.trans x41).trans x44).trans x63).trans x65)⟩, meas_up e28 hl29⟩))
   refine qv (.bool true) (fun _ x' => x_not (b := false) rfl rfl) ?_
   refine qv (.bool true) (fun _ x' => x_pick_f rfl rfl rfl) ?_
   refine q_nil (fun w66 x67 => t_norm (c_true rfl (c_seq (c_quiet (qv (iJ 1) (fun _ x' => x_assign rfl rfl) ?_)))))
   exact q_nil (fun w68 x69 => t_norm (c_ret (b_ret (t_ret (t_ret (b_ret (t_ret (c_done rfl rfl (Ret.i ((why_bad (any_hit hx31 (by simp_all [badVote]))).symm) ((((((((x3.trans x6).trans x14).trans x16).trans x21).trans x41).trans x44).trans x67).trans x69))))))))))
  refine c_seq (c_quiet (qv (.bool false) (fun _ x' => yb (x_lss rfl e28 e27) (decide_eq_false (by omega))) ?_))
  refine q_nil (fun w70 x71 => t_norm (c_seq (c_false rfl (c_exit (t_exit (t_exit (b_exit (t_norm (c_seq (c_seq (c_quiet (qv (.slice A l.length c) (fun _ x' => x_move rfl e23) ?_))))))))))))
  refine qv (iJ (l.length : Int)) (fun _ x' => x_len_slice sl_44 rfl rfl) ?_
  refine qv (iJ f) (fun _ x' => x_move rfl e22) ?_
  refine q_call (vs := #[iJ f]) fn_45 rfl rfl rfl (args1 rfl) (v := iJ (slowF f)) (fun _ x' => C_slow _ f) ?_
  refine q_bool (b := decide ((l.length : Int) < slowF f)) rfl rfl (fun _ x' => x_lss rfl rfl rfl) (fun c72 => ?_) (fun c72 => ?_)
  ·refine q_nil (fun w73 x74 => t_norm (c_true rfl (c_seq (c_quiet (qv (iJ 13) (fun _ x' => x_assign rfl rfl) ?_)))))
   exact q_nil (fun w75 x76 => t_norm (c_ret (t_ret (c_done rfl rfl (Ret.i (by have hs0 : i.replica < sizeF f := (by have q := of_decide_eq_false c8; omega); have hs := size_slow c7 (by have q := of_decide_eq_false c8; omega); have ha := any_end hi19 hl29; have hq := of_decide_eq_true c72; (try simp only [hs.1] at hq); rw [why_end c7 hs0 ha, if_pos (by omega)]) (((((((x3.trans x6).trans x14).trans x16).trans x21).trans x71).trans x74).trans x76))))))
  refine q_nil (fun w77 x78 => t_norm (c_false rfl (c_skip (t_norm (c_seq (c_quiet (qv (iJ 0) (fun _ x' => x_assign rfl rfl) ?_)))))))
  exact q_nil (fun w79 x80 => t_norm (c_ret (c_done rfl rfl (Ret.i (by have hs0 : i.replica < sizeF f := (by have q := of_decide_eq_false c8; omega); have hs := size_slow c7 (by have q := of_decide_eq_false c8; omega); have ha := any_end hi19 hl29; have hq := of_decide_eq_false c72; (try simp only [hs.1] at hq); rw [why_end c7 hs0 ha, if_neg (by omega)]) (((((((x3.trans x6).trans x14).trans x16).trans x21).trans x71).trans x78).trans x80)))))
 refine qv (.bool true) (fun _ x' => x_not (b := false) rfl rfl) ?_
 refine qv (.bool true) (fun _ x' => x_move rfl rfl) ?_
 refine qk rfl rfl (qk rfl rfl (qk rfl rfl (qk rfl rfl (qv (.bool true) (fun _ x' => x_pick_t rfl rfl rfl) ?_))))
 refine q_nil (fun w81 x82 => t_norm (c_true rfl (c_seq (c_quiet (qv (iJ 1) (fun _ x' => x_assign rfl rfl) ?_)))))
 exact q_nil (fun w83 x84 => t_norm (c_ret (t_ret (c_done rfl rfl (Ret.i ((why_arg (.inl c7)).symm) (((x3.trans x6).trans x82).trans x84))))))
theorem D_why (w : World) (f : Int) (i : Inst) (A : Option Addr) (c : Nat) (l : List Vt) (hV : Vts w A l) :
    Calls Try.prog 32 #[.int .i64 f, vInst i, .slice A l.length c] w (Ret w (.int .i64 (why f i (counted l)))) := by
 have hlen0 := hV.len
 have hlen1 := counted_len l
 refine c_enter (n := 72) Try.func32 rfl rfl rfl ?_
 refine c_seq (c_plain (p_box rfl rfl rfl rfl (fun w1 b2 x3 z4 => ?_)))
 refine pv (iJ 0) (x_assign rfl rfl) ?_
 refine p_nil (t_norm (c_seq (c_plain (pv (.slice A l.length c) (x_move rfl rfl) ?_))))
 refine p_call (vs := #[.slice A l.length c]) fn_23 rfl rfl rfl (args1 rfl) ?_
 refine (D_counted _ A c l (hV.ext x3)).mono ?_
 rintro e w5 ⟨A6, c7, rfl, hV8, x9⟩
 refine ⟨_, rfl, ?_⟩
 refine pv (.slice A6 ((counted l).length) c7) (x_assign rfl rfl) ?_
 refine p_nil (t_norm (c_seq (c_quiet (qv (iJ f) (fun _ x' => x_move rfl rfl) ?_))))
 refine q_call (vs := #[iJ f]) fn_16 rfl rfl rfl (args1 rfl) (v := iJ (sizeF f)) (fun _ x' => D_size _ f) ?_
 refine qv (iJ (sizeF f)) (fun _ x' => x_assign rfl rfl) ?_
 refine q_nil (fun w10 x11 => t_norm (c_seq (c_seq (c_quiet (qv (iJ (sizeF f)) (fun _ x' => x_move rfl rfl) ?_)))))
 refine q_bool (b := decide (sizeF f = 0)) rfl rfl (fun _ x' => x_eql rfl rfl rfl) (fun c12 => ?_) (fun c12 => ?_)
 ·refine qv (.bool true) (fun _ x' => x_move rfl rfl) ?_
  refine qk rfl rfl (qk rfl rfl (qk rfl rfl (qv (.bool true) (fun _ x' => x_pick_t rfl rfl rfl) ?_)))
  refine qv (.bool true) (fun _ x' => x_move rfl rfl) ?_
  refine qk rfl rfl (qk rfl rfl (qk rfl rfl (qk rfl rfl (qv (.bool true) (fun _ x' => x_pick_t rfl rfl rfl) ?_))))
  refine q_nil (fun w13 x14 => t_norm (c_true rfl (c_seq (c_quiet (qv (iJ 1) (fun _ x' => x_assign rfl rfl) ?_)))))
  exact q_nil (fun w15 x16 => t_norm (c_ret (t_ret (c_done rfl rfl (Ret.i ((why_arg (by cases hri : rightInst i with | false => exact .inl rfl | true => have := inst_low hri; have hz := of_decide_eq_true c12; exact .inr (by omega))).symm) ((((x3.trans x9).trans x11).trans x14).trans x16))))))
 have hsz := size_low (of_decide_eq_false c12)
 refine qv (.bool false) (fun _ x' => x_move rfl rfl) ?_
 refine qv (vInst i) (fun _ x' => x_load rfl rfl ((((b2.ext x9).ext x11).ext x').agg (vs := [iJ i.replica, iJ i.slot]) agg_23_2 rfl)) ?_
 refine q_callb (b := rightInst i) (vs := #[vInst i]) fn_18 rfl rfl rfl (args1 rfl) (fun _ x' => D_rightInst _ i) (fun c17 => ?_) (fun c17 => ?_)
 ·refine qv (.bool false) (fun _ x' => x_not (b := true) rfl rfl) ?_
  refine qv (.bool false) (fun _ x' => x_pick_f rfl rfl rfl) ?_
  refine qv (.bool false) (fun _ x' => x_move rfl rfl) ?_
  refine qv (pJ w.heap.size) (fun _ x' => x_fieldAddr fld_23_0 rfl rfl rfl) ?_
  refine qv (iJ i.replica) (fun _ x' => x_load rfl rfl ((((b2.ext x9).ext x11).ext x').one one_3 rfl)) ?_
  refine qv (iJ (sizeF f)) (fun _ x' => x_move rfl rfl) ?_
  refine q_bool (b := decide (i.replica ≥ sizeF f)) rfl rfl (fun _ x' => x_geq rfl rfl rfl) (fun c18 => ?_) (fun c18 => ?_)
  ·refine qv (.bool true) (fun _ x' => x_pick_f rfl rfl rfl) ?_
   refine q_nil (fun w19 x20 => t_norm (c_true rfl (c_seq (c_quiet (qv (iJ 1) (fun _ x' => x_assign rfl rfl) ?_)))))
   exact q_nil (fun w21 x22 => t_norm (c_ret (t_ret (c_done rfl rfl (Ret.i ((why_arg (.inr (of_decide_eq_true c18))).symm) ((((x3.trans x9).trans x11).trans x20).trans x22))))))
  refine qv (.bool false) (fun _ x' => x_pick_f rfl rfl rfl) ?_
  refine q_nil (fun w23 x24 => t_norm (c_false rfl (c_skip (t_norm (c_seq (c_seq (c_quiet (qv (iJ 0) (fun _ x' => x_assign rfl rfl) ?_))))))))
  refine q_nil (fun w25 x26 => t_norm (c_block (c_loop (fun ρ w30 => ∃ k27 : Nat, k27 ≤ (counted l).length ∧ ((counted l).take k27).any (badVote f i) = false ∧ ρ 0 = iJ f ∧ ρ 4 = pJ w.heap.size ∧ ρ 7 = .slice A6 ((counted l).length) c7 ∧ ρ 8 = iJ (sizeF f) ∧ ρ 9 = iJ (k27 : Int) ∧ Ext w25 w30) (fun ρ _ => (counted l).length - (intOf (ρ 9)).toNat) ⟨0, Nat.zero_le _, rfl, rfl, rfl, rfl, rfl, rfl, Ext.refl _⟩ ?_)))
  rintro ρ w30 ⟨k27, hk28, hi29, e32, e33, e34, e35, e36, x31⟩
  by_cases hl37 : k27 < (counted l).length
  ·obtain ⟨y38, hx39⟩ := some_of (l := (counted l)) (k := k27) (by omega)
   obtain ⟨ad40, cs41, eA42, hK43, hE44⟩ := hV8.lies k27 y38 hx39
   have hK43' : cs41 = [iJ y38.src, iJ y38.r.inst.replica, iJ y38.r.inst.slot, iJ y38.r.status, iJ y38.r.promise.number, iJ y38.r.promise.replica, iJ y38.r.ballot.number, iJ y38.r.ballot.replica, iJ y38.r.cmd.kind, iJ y38.r.cmd.txn.client, iJ y38.r.cmd.txn.number, iJ y38.r.cmd.stp.time, iJ y38.r.cmd.stp.client, iJ y38.r.cmd.shards, .slice y38.p.A y38.r.cmd.reads.length y38.p.n, .slice y38.p.B y38.r.cmd.writes.length y38.p.m, .bool y38.r.cmd.commit, iJ y38.r.seq, iJ y38.r.deps.d0, iJ y38.r.deps.d1, iJ y38.r.deps.d2, iJ y38.r.deps.d3, iJ y38.r.deps.d4, iJ y38.r.deps.d5, iJ y38.r.deps.d6, .bool y38.r.kept] := hK43
   subst hK43'
   have ha45 := hV8.at_.out _ (at_of hx39)
   have hs46 := hV8.slim _ (at_of hx39)
   refine c_seq (c_seq (c_quiet (qv (iJ (k27 : Int)) (fun _ x' => x_move rfl e36) ?_)))
   refine qv (.slice A6 ((counted l).length) c7) (fun _ x' => x_move rfl e34) ?_
   refine qv (iJ ((counted l).length : Int)) (fun _ x' => x_len_slice sl_24 rfl rfl) ?_
   refine qv (.bool true) (fun _ x' => yb (x_lss rfl rfl rfl) (decide_eq_true (by omega))) ?_
   refine q_nil (fun w48 x49 => t_norm (c_true rfl (c_skip (t_norm (c_seq (c_block (c_seq (c_draw mixed (by kernel_rfl) (qv (.slice A6 ((counted l).length) c7) (fun _ x' => x_move rfl e34) ?_)))))))))
   refine qv (iJ (k27 : Int)) (fun _ x' => x_move rfl e36) ?_
   refine qv (.pointer (some (ad40.add (k27 * 26)))) (fun _ x' => x_indexAddr sl_24 rfl rfl eA42 rfl (by omega) (by omega) rfl) ?_
   refine qv (.pointer (some (ad40.add (k27 * 26)))) (fun _ x' => x_fieldAddr fld_56_0 rfl rfl rfl) ?_
   refine qv (iJ y38.src) (fun _ x' => x_load rfl rfl (((((((hE44.ext x11).ext x24).ext x26).ext x31).ext x49).ext x').one one_3 0 rfl rfl)) ?_
   refine q_bool (b := decide (y38.src < 0)) rfl rfl (fun _ x' => x_lss rfl rfl rfl) (fun c50 => ?_) (fun c50 => ?_)
   ·refine qv (.bool true) (fun _ x' => x_move rfl rfl) ?_
    refine qk rfl rfl (qk rfl rfl (qk rfl rfl (qk rfl rfl (qk rfl rfl (qk rfl rfl (qk rfl rfl (qv (.bool true) (fun _ x' => x_pick_t rfl rfl rfl) ?_)))))))
    refine qv (.bool true) (fun _ x' => x_move rfl rfl) ?_
    refine qk rfl rfl (qk rfl rfl (qk rfl rfl (qk rfl rfl (qk rfl rfl (qk rfl rfl (qk rfl rfl (qk rfl rfl (qv (.bool true) (fun _ x' => x_pick_t rfl rfl rfl) ?_))))))))
    refine qv (.bool true) (fun _ x' => x_move rfl rfl) ?_
    refine qk rfl rfl (qk rfl rfl (qk rfl rfl (qk rfl rfl (qk rfl rfl (qk rfl rfl (qk rfl rfl (qv (.bool true) (fun _ x' => x_pick_t rfl rfl rfl) ?_)))))))
    refine q_nil (fun w51 x52 => t_norm (c_true rfl (c_seq (c_quiet (qv (iJ 1) (fun _ x' => x_assign rfl rfl) ?_)))))
    exact q_nil (fun w53 x54 => t_norm (c_ret (b_ret (t_ret (t_ret (b_ret (t_ret (c_done rfl rfl (Ret.i ((why_bad (any_hit hx39 (by simp_all [badVote]))).symm) ((((((((x3.trans x9).trans x11).trans x24).trans x26).trans x31).trans x49).trans x52).trans x54))))))))))
   refine qv (.bool false) (fun _ x' => x_move rfl rfl) ?_
   refine qv (.slice A6 ((counted l).length) c7) (fun _ x' => x_move rfl e34) ?_
   refine qv (iJ (k27 : Int)) (fun _ x' => x_move rfl e36) ?_
   refine qv (.pointer (some (ad40.add (k27 * 26)))) (fun _ x' => x_indexAddr sl_24 rfl rfl eA42 rfl (by omega) (by omega) rfl) ?_
   refine qv (.pointer (some (ad40.add (k27 * 26)))) (fun _ x' => x_fieldAddr fld_56_0 rfl rfl rfl) ?_
   refine qv (iJ y38.src) (fun _ x' => x_load rfl rfl (((((((hE44.ext x11).ext x24).ext x26).ext x31).ext x49).ext x').one one_3 0 rfl rfl)) ?_
   refine qv (iJ (sizeF f)) (fun _ x' => x_move rfl e35) ?_
   refine q_bool (b := decide (y38.src ≥ sizeF f)) rfl rfl (fun _ x' => x_geq rfl rfl rfl) (fun c55 => ?_) (fun c55 => ?_)
   ·refine qv (.bool true) (fun _ x' => x_pick_f rfl rfl rfl) ?_
    refine qv (.bool true) (fun _ x' => x_move rfl rfl) ?_
    refine qk rfl rfl (qk rfl rfl (qk rfl rfl (qk rfl rfl (qk rfl rfl (qk rfl rfl (qk rfl rfl (qk rfl rfl (qv (.bool true) (fun _ x' => x_pick_t rfl rfl rfl) ?_))))))))
    refine qv (.bool true) (fun _ x' => x_move rfl rfl) ?_
    refine qk rfl rfl (qk rfl rfl (qk rfl rfl (qk rfl rfl (qk rfl rfl (qk rfl rfl (qk rfl rfl (qv (.bool true) (fun _ x' => x_pick_t rfl rfl rfl) ?_)))))))
    refine q_nil (fun w56 x57 => t_norm (c_true rfl (c_seq (c_quiet (qv (iJ 1) (fun _ x' => x_assign rfl rfl) ?_)))))
    exact q_nil (fun w58 x59 => t_norm (c_ret (b_ret (t_ret (t_ret (b_ret (t_ret (c_done rfl rfl (Ret.i ((why_bad (any_hit hx39 (by simp_all [badVote]))).symm) ((((((((x3.trans x9).trans x11).trans x24).trans x26).trans x31).trans x49).trans x57).trans x59))))))))))
   refine qv (.bool false) (fun _ x' => x_pick_f rfl rfl rfl) ?_
   refine qv (.bool false) (fun _ x' => x_move rfl rfl) ?_
   refine qv (.slice A6 ((counted l).length) c7) (fun _ x' => x_move rfl e34) ?_
   refine qv (iJ (k27 : Int)) (fun _ x' => x_move rfl e36) ?_
   refine qv (.pointer (some (ad40.add (k27 * 26)))) (fun _ x' => x_indexAddr sl_24 rfl rfl eA42 rfl (by omega) (by omega) rfl) ?_
   refine qv (.pointer (some ((ad40.add (k27 * 26)).add 1))) (fun _ x' => x_fieldAddr fld_56_1 rfl rfl rfl) ?_
   refine qv (.pointer (some ((ad40.add (k27 * 26)).add 1))) (fun _ x' => x_fieldAddr fld_40_0 rfl rfl rfl) ?_
   refine qv (.agg #[iJ y38.r.inst.replica, iJ y38.r.inst.slot]) (fun _ x' => x_load rfl rfl (((((((hE44.ext x11).ext x24).ext x26).ext x31).ext x49).ext x').agg (vs := [iJ y38.r.inst.replica, iJ y38.r.inst.slot]) agg_23_2 1 rfl rfl)) ?_
   refine qv (vInst i) (fun _ x' => x_load rfl e33 ((((((((b2.ext x9).ext x11).ext x24).ext x26).ext x31).ext x49).ext x').agg (vs := [iJ i.replica, iJ i.slot]) agg_23_2 rfl)) ?_
   refine q_bool (b := !decide (y38.r.inst = i)) rfl rfl (fun _ x' => x_neInst ints2_23 rfl rfl rfl) (fun c60 => ?_) (fun c60 => ?_)
   ·refine qv (.bool true) (fun _ x' => x_pick_f rfl rfl rfl) ?_
    refine qv (.bool true) (fun _ x' => x_move rfl rfl) ?_
    refine qk rfl rfl (qk rfl rfl (qk rfl rfl (qk rfl rfl (qk rfl rfl (qk rfl rfl (qk rfl rfl (qv (.bool true) (fun _ x' => x_pick_t rfl rfl rfl) ?_)))))))
    refine q_nil (fun w61 x62 => t_norm (c_true rfl (c_seq (c_quiet (qv (iJ 1) (fun _ x' => x_assign rfl rfl) ?_)))))
    exact q_nil (fun w63 x64 => t_norm (c_ret (b_ret (t_ret (t_ret (b_ret (t_ret (c_done rfl rfl (Ret.i ((why_bad (any_hit hx39 (by simp_all [badVote]))).symm) ((((((((x3.trans x9).trans x11).trans x24).trans x26).trans x31).trans x49).trans x62).trans x64))))))))))
   refine qv (.bool false) (fun _ x' => x_pick_f rfl rfl rfl) ?_
   refine qv (.bool false) (fun _ x' => x_move rfl rfl) ?_
   refine qv (.slice A6 ((counted l).length) c7) (fun _ x' => x_move rfl e34) ?_
   refine qv (iJ (k27 : Int)) (fun _ x' => x_move rfl e36) ?_
   refine qv (.pointer (some (ad40.add (k27 * 26)))) (fun _ x' => x_indexAddr sl_24 rfl rfl eA42 rfl (by omega) (by omega) rfl) ?_
   refine qv (.pointer (some ((ad40.add (k27 * 26)).add 1))) (fun _ x' => x_fieldAddr fld_56_1 rfl rfl rfl) ?_
   refine qv (.agg #[iJ y38.r.inst.replica, iJ y38.r.inst.slot, iJ y38.r.status, iJ y38.r.promise.number, iJ y38.r.promise.replica, iJ y38.r.ballot.number, iJ y38.r.ballot.replica, iJ y38.r.cmd.kind, iJ y38.r.cmd.txn.client, iJ y38.r.cmd.txn.number, iJ y38.r.cmd.stp.time, iJ y38.r.cmd.stp.client, iJ y38.r.cmd.shards, .slice y38.p.A y38.r.cmd.reads.length y38.p.n, .slice y38.p.B y38.r.cmd.writes.length y38.p.m, .bool y38.r.cmd.commit, iJ y38.r.seq, iJ y38.r.deps.d0, iJ y38.r.deps.d1, iJ y38.r.deps.d2, iJ y38.r.deps.d3, iJ y38.r.deps.d4, iJ y38.r.deps.d5, iJ y38.r.deps.d6, .bool y38.r.kept]) (fun _ x' => x_load rfl rfl (((((((hE44.ext x11).ext x24).ext x26).ext x31).ext x49).ext x').agg (vs := [iJ y38.r.inst.replica, iJ y38.r.inst.slot, iJ y38.r.status, iJ y38.r.promise.number, iJ y38.r.promise.replica, iJ y38.r.ballot.number, iJ y38.r.ballot.replica, iJ y38.r.cmd.kind, iJ y38.r.cmd.txn.client, iJ y38.r.cmd.txn.number, iJ y38.r.cmd.stp.time, iJ y38.r.cmd.stp.client, iJ y38.r.cmd.shards, .slice y38.p.A y38.r.cmd.reads.length y38.p.n, .slice y38.p.B y38.r.cmd.writes.length y38.p.m, .bool y38.r.cmd.commit, iJ y38.r.seq, iJ y38.r.deps.d0, iJ y38.r.deps.d1, iJ y38.r.deps.d2, iJ y38.r.deps.d3, iJ y38.r.deps.d4, iJ y38.r.deps.d5, iJ y38.r.deps.d6, .bool y38.r.kept]) agg_40_25 1 rfl rfl)) ?_
   refine q_callb (b := rightRec y38.r) (vs := #[.agg #[iJ y38.r.inst.replica, iJ y38.r.inst.slot, iJ y38.r.status, iJ y38.r.promise.number, iJ y38.r.promise.replica, iJ y38.r.ballot.number, iJ y38.r.ballot.replica, iJ y38.r.cmd.kind, iJ y38.r.cmd.txn.client, iJ y38.r.cmd.txn.number, iJ y38.r.cmd.stp.time, iJ y38.r.cmd.stp.client, iJ y38.r.cmd.shards, .slice y38.p.A y38.r.cmd.reads.length y38.p.n, .slice y38.p.B y38.r.cmd.writes.length y38.p.m, .bool y38.r.cmd.commit, iJ y38.r.seq, iJ y38.r.deps.d0, iJ y38.r.deps.d1, iJ y38.r.deps.d2, iJ y38.r.deps.d3, iJ y38.r.deps.d4, iJ y38.r.deps.d5, iJ y38.r.deps.d6, .bool y38.r.kept]]) fn_19 rfl rfl rfl (args1 rfl) (fun _ x' => D_rightRec _ y38.r y38.p ((((((ha45.ext x11).ext x24).ext x26).ext x31).ext x49).ext x') hs46) (fun c65 => ?_) (fun c65 => ?_)
   ·refine qv (.bool false) (fun _ x' => x_not (b := true) rfl rfl) ?_
    refine qv (.bool false) (fun _ x' => x_pick_f rfl rfl rfl) ?_
    refine q_nil (fun w66 x67 => t_norm (c_false rfl (c_skip (b_norm (t_norm (c_quiet (qv (iJ (k27 : Int)) (fun _ x' => x_move rfl e36) ?_)))))))
    refine qv (iJ ((k27 : Int) + 1)) (fun _ x' => x_add rfl rfl rfl (wrap_of (by omega) (by omega))) ?_
    refine qv (iJ ((k27 : Int) + 1)) (fun _ x' => x_assign rfl rfl) ?_
    exact q_nil (fun w68 x69 => t_norm (⟨_, rfl, ⟨k27 + 1, by omega, any_step hi29 hx39 (by simp_all [badVote]), e32, e33, e34, e35, rfl, (((x31.trans x49).trans x67).trans x69)⟩, meas_up e36 hl37⟩))
   refine qv (.bool true) (fun _ x' => x_not (b := false) rfl rfl) ?_
   refine qv (.bool true) (fun _ x' => x_pick_f rfl rfl rfl) ?_
   refine q_nil (fun w70 x71 => t_norm (c_true rfl (c_seq (c_quiet (qv (iJ 1) (fun _ x' => x_assign rfl rfl) ?_)))))
   exact q_nil (fun w72 x73 => t_norm (c_ret (b_ret (t_ret (t_ret (b_ret (t_ret (c_done rfl rfl (Ret.i ((why_bad (any_hit hx39 (by simp_all [badVote]))).symm) ((((((((x3.trans x9).trans x11).trans x24).trans x26).trans x31).trans x49).trans x71).trans x73))))))))))
  refine c_seq (c_seq (c_quiet (qv (iJ (k27 : Int)) (fun _ x' => x_move rfl e36) ?_)))
  refine qv (.slice A6 ((counted l).length) c7) (fun _ x' => x_move rfl e34) ?_
  refine qv (iJ ((counted l).length : Int)) (fun _ x' => x_len_slice sl_24 rfl rfl) ?_
  refine qv (.bool false) (fun _ x' => yb (x_lss rfl rfl rfl) (decide_eq_false (by omega))) ?_
  refine q_nil (fun w74 x75 => t_norm (c_false rfl (c_exit (t_exit (t_exit (b_exit (t_norm (c_seq (c_seq (c_quiet (qv (.slice A6 ((counted l).length) c7) (fun _ x' => x_move rfl e34) ?_)))))))))))
  refine qv (iJ ((counted l).length : Int)) (fun _ x' => x_len_slice sl_24 rfl rfl) ?_
  refine qv (iJ f) (fun _ x' => x_move rfl e32) ?_
  refine qv (iJ (f + 1)) (fun _ x' => x_add rfl rfl rfl (wrap_of (by omega) (by omega))) ?_
  refine q_bool (b := decide (((counted l).length : Int) < f + 1)) rfl rfl (fun _ x' => x_lss rfl rfl rfl) (fun c76 => ?_) (fun c76 => ?_)
  ·refine q_nil (fun w77 x78 => t_norm (c_true rfl (c_seq (c_quiet (qv (iJ 13) (fun _ x' => x_assign rfl rfl) ?_)))))
   exact q_nil (fun w79 x80 => t_norm (c_ret (t_ret (c_done rfl rfl (Ret.i (by have hs0 : i.replica < sizeF f := (by have q := of_decide_eq_false c18; omega); have hs := size_slow c17 (by have q := of_decide_eq_false c18; omega); have ha := any_end hi29 hl37; have hq := of_decide_eq_true c76; (try simp only [hs.1] at hq); rw [why_end c17 hs0 ha, if_pos (by omega)]) ((((((((x3.trans x9).trans x11).trans x24).trans x26).trans x31).trans x75).trans x78).trans x80))))))
  refine q_nil (fun w81 x82 => t_norm (c_false rfl (c_skip (t_norm (c_seq (c_quiet (qv (iJ 0) (fun _ x' => x_assign rfl rfl) ?_)))))))
  exact q_nil (fun w83 x84 => t_norm (c_ret (c_done rfl rfl (Ret.i (by have hs0 : i.replica < sizeF f := (by have q := of_decide_eq_false c18; omega); have hs := size_slow c17 (by have q := of_decide_eq_false c18; omega); have ha := any_end hi29 hl37; have hq := of_decide_eq_false c76; (try simp only [hs.1] at hq); rw [why_end c17 hs0 ha, if_neg (by omega)]) ((((((((x3.trans x9).trans x11).trans x24).trans x26).trans x31).trans x75).trans x82).trans x84)))))
 refine qv (.bool true) (fun _ x' => x_not (b := false) rfl rfl) ?_
 refine qv (.bool true) (fun _ x' => x_pick_f rfl rfl rfl) ?_
 refine qv (.bool true) (fun _ x' => x_move rfl rfl) ?_
 refine qk rfl rfl (qk rfl rfl (qk rfl rfl (qk rfl rfl (qv (.bool true) (fun _ x' => x_pick_t rfl rfl rfl) ?_))))
 refine q_nil (fun w85 x86 => t_norm (c_true rfl (c_seq (c_quiet (qv (iJ 1) (fun _ x' => x_assign rfl rfl) ?_)))))
 exact q_nil (fun w87 x88 => t_norm (c_ret (t_ret (c_done rfl rfl (Ret.i ((why_arg (.inl c17)).symm) ((((x3.trans x9).trans x11).trans x86).trans x88))))))
end Go.Proofs.Ytgamfmkefipngaa
