/- A walk through the code of layers below, or of layer 10. -/
import Derived.Test.YtadeigpphklmfaaDos
import Derived.Test.YtadeigpphklmfaaDrs
import Derived.Test.YtadeigpphklmfaaPan
import Derived.Test.YtadeigpphklmfaaB3
namespace Go.Proofs.Ytadeigpphklmfaa
open Go.RowKit Go.Eng
set_option linter.unusedVariables false
set_option linter.unusedSimpArgs false
theorem C_fewD (w : World) (A : Option Addr) (c : Nat) (l : List Dz) (hR : D0 w A l) :
    Calls Try.prog 16 #[.slice A l.length c] w (Ret w (.bool (fewD l))) := by
 have hlen0 := hR.len
 refine c_enter (n := 22) Try.func16 rfl rfl rfl ?_
 refine c_seq (c_quiet (qv (.bool false) (fun _ x' => x_assign rfl rfl) ?_))
 refine q_nil (fun w1 x2 => t_norm (c_seq (c_seq (c_quiet (qv (.slice A l.length c) (fun _ x' => x_move rfl rfl) ?_)))))
 refine qv (iJ (l.length : Int)) (fun _ x' => x_len_slice sl_55 rfl rfl) ?_
 refine qv (iJ 0) (fun _ x' => x_move rfl rfl) ?_
 refine q_nil (fun w3 x4 => t_norm (c_block (c_loop (fun ρ w8 => ∃ k5 : Nat, k5 ≤ l.length ∧ (l.take k5).all (fun z => fewOne z.m.r.cmd) = true ∧ ρ 0 = .slice A l.length c ∧ ρ 5 = .slice A l.length c ∧ ρ 6 = iJ (l.length : Int) ∧ ρ 7 = iJ (k5 : Int) ∧ Ext w3 w8) (fun ρ _ => l.length - (intOf (ρ 7)).toNat) ⟨0, Nat.zero_le _, rfl, rfl, rfl, rfl, rfl, Ext.refl _⟩ ?_)))
 rintro ρ w8 ⟨k5, hk6, hi7, e10, e11, e12, e13, x9⟩
 by_cases hl14 : k5 < l.length
 ·obtain ⟨y15, hx16⟩ := some_of (l := l) (k := k5) (by omega)
  obtain ⟨ad17, cs18, eA19, hK20, hE21⟩ := hR.lies k5 y15 hx16
  have hK20' : cs18 = [iJ y15.verb, iJ y15.k, iJ y15.m.kind, iJ y15.m.src, iJ y15.m.dst, iJ y15.m.ballot.number, iJ y15.m.ballot.replica, iJ y15.m.r.inst.replica, iJ y15.m.r.inst.slot, iJ y15.m.r.status, iJ y15.m.r.promise.number, iJ y15.m.r.promise.replica, iJ y15.m.r.ballot.number, iJ y15.m.r.ballot.replica, iJ y15.m.r.cmd.kind, iJ y15.m.r.cmd.txn.client, iJ y15.m.r.cmd.txn.number, iJ y15.m.r.cmd.stp.time, iJ y15.m.r.cmd.stp.client, iJ y15.m.r.cmd.shards, .slice y15.p.A y15.m.r.cmd.reads.length y15.p.n, .slice y15.p.B y15.m.r.cmd.writes.length y15.p.m, .bool y15.m.r.cmd.commit, iJ y15.m.r.seq, iJ y15.m.r.deps.d0, iJ y15.m.r.deps.d1, iJ y15.m.r.deps.d2, iJ y15.m.r.deps.d3, iJ y15.m.r.deps.d4, iJ y15.m.r.deps.d5, iJ y15.m.r.deps.d6, .bool y15.m.r.kept] := hK20
  subst hK20'
  have ha22 := hR.at_.out _ (at_of hx16)
  refine c_seq (c_quiet (qv (.bool true) (fun _ x' => yb (x_lss rfl e13 e12) (decide_eq_true (by omega))) ?_))
  refine q_nil (fun w24 x25 => t_norm (c_seq (c_true rfl (c_skip (t_norm (c_seq (c_block (c_seq (c_plain (pv (.pointer (some (ad17.add (k5 * 32)))) (x_indexAddr sl_55 rfl e11 eA19 e13 (by omega) (by omega) rfl) ?_))))))))))
  refine pv (vDz y15) (x_load rfl rfl (((((hE21.ext x2).ext x4).ext x9).ext x25).agg (vs := [iJ y15.verb, iJ y15.k, iJ y15.m.kind, iJ y15.m.src, iJ y15.m.dst, iJ y15.m.ballot.number, iJ y15.m.ballot.replica, iJ y15.m.r.inst.replica, iJ y15.m.r.inst.slot, iJ y15.m.r.status, iJ y15.m.r.promise.number, iJ y15.m.r.promise.replica, iJ y15.m.r.ballot.number, iJ y15.m.r.ballot.replica, iJ y15.m.r.cmd.kind, iJ y15.m.r.cmd.txn.client, iJ y15.m.r.cmd.txn.number, iJ y15.m.r.cmd.stp.time, iJ y15.m.r.cmd.stp.client, iJ y15.m.r.cmd.shards, .slice y15.p.A y15.m.r.cmd.reads.length y15.p.n, .slice y15.p.B y15.m.r.cmd.writes.length y15.p.m, .bool y15.m.r.cmd.commit, iJ y15.m.r.seq, iJ y15.m.r.deps.d0, iJ y15.m.r.deps.d1, iJ y15.m.r.deps.d2, iJ y15.m.r.deps.d3, iJ y15.m.r.deps.d4, iJ y15.m.r.deps.d5, iJ y15.m.r.deps.d6, .bool y15.m.r.kept]) agg_54_32 0 rfl rfl)) ?_
  refine p_var (v := vDz y15) (vs := [iJ y15.verb, iJ y15.k, iJ y15.m.kind, iJ y15.m.src, iJ y15.m.dst, iJ y15.m.ballot.number, iJ y15.m.ballot.replica, iJ y15.m.r.inst.replica, iJ y15.m.r.inst.slot, iJ y15.m.r.status, iJ y15.m.r.promise.number, iJ y15.m.r.promise.replica, iJ y15.m.r.ballot.number, iJ y15.m.r.ballot.replica, iJ y15.m.r.cmd.kind, iJ y15.m.r.cmd.txn.client, iJ y15.m.r.cmd.txn.number, iJ y15.m.r.cmd.stp.time, iJ y15.m.r.cmd.stp.client, iJ y15.m.r.cmd.shards, .slice y15.p.A y15.m.r.cmd.reads.length y15.p.n, .slice y15.p.B y15.m.r.cmd.writes.length y15.p.m, .bool y15.m.r.cmd.commit, iJ y15.m.r.seq, iJ y15.m.r.deps.d0, iJ y15.m.r.deps.d1, iJ y15.m.r.deps.d2, iJ y15.m.r.deps.d3, iJ y15.m.r.deps.d4, iJ y15.m.r.deps.d5, iJ y15.m.r.deps.d6, .bool y15.m.r.kept]) rfl rfl rfl zero_54 rfl rfl rfl rfl rfl rfl rfl size_54 rfl (fun w26 b27 x28 z29 => ?_)
  refine p_nil (t_norm (c_seq (c_plain (pv (.pointer (some (⟨w24.heap.size, 2, none⟩))) (x_fieldAddr fld_54_2 rfl rfl rfl) ?_))))
  refine pv (.pointer (some (⟨w24.heap.size, 7, none⟩))) (x_fieldAddr fld_43_4 rfl rfl rfl) ?_
  refine pv (.pointer (some (⟨w24.heap.size, 14, none⟩))) (x_fieldAddr fld_41_4 rfl rfl rfl) ?_
  refine pv (.agg #[iJ y15.m.r.cmd.kind, iJ y15.m.r.cmd.txn.client, iJ y15.m.r.cmd.txn.number, iJ y15.m.r.cmd.stp.time, iJ y15.m.r.cmd.stp.client, iJ y15.m.r.cmd.shards, .slice y15.p.A y15.m.r.cmd.reads.length y15.p.n, .slice y15.p.B y15.m.r.cmd.writes.length y15.p.m, .bool y15.m.r.cmd.commit]) (x_load rfl rfl (b27.agg (vs := [iJ y15.m.r.cmd.kind, iJ y15.m.r.cmd.txn.client, iJ y15.m.r.cmd.txn.number, iJ y15.m.r.cmd.stp.time, iJ y15.m.r.cmd.stp.client, iJ y15.m.r.cmd.shards, .slice y15.p.A y15.m.r.cmd.reads.length y15.p.n, .slice y15.p.B y15.m.r.cmd.writes.length y15.p.m, .bool y15.m.r.cmd.commit]) agg_37_9 rfl)) ?_
  refine p_buildSlice (cs := [iJ y15.m.r.cmd.kind, iJ y15.m.r.cmd.txn.client, iJ y15.m.r.cmd.txn.number, iJ y15.m.r.cmd.stp.time, iJ y15.m.r.cmd.stp.client, iJ y15.m.r.cmd.shards, .slice y15.p.A y15.m.r.cmd.reads.length y15.p.n, .slice y15.p.B y15.m.r.cmd.writes.length y15.p.m, .bool y15.m.r.cmd.commit]) el_76 rfl rfl rfl (parts1 rfl) (by decide) (by decide) (fill_ok [.agg #[iJ y15.m.r.cmd.kind, iJ y15.m.r.cmd.txn.client, iJ y15.m.r.cmd.txn.number, iJ y15.m.r.cmd.stp.time, iJ y15.m.r.cmd.stp.client, iJ y15.m.r.cmd.shards, .slice y15.p.A y15.m.r.cmd.reads.length y15.p.n, .slice y15.p.B y15.m.r.cmd.writes.length y15.p.m, .bool y15.m.r.cmd.commit]] [iJ y15.m.r.cmd.kind, iJ y15.m.r.cmd.txn.client, iJ y15.m.r.cmd.txn.number, iJ y15.m.r.cmd.stp.time, iJ y15.m.r.cmd.stp.client, iJ y15.m.r.cmd.shards, .slice y15.p.A y15.m.r.cmd.reads.length y15.p.n, .slice y15.p.B y15.m.r.cmd.writes.length y15.p.m, .bool y15.m.r.cmd.commit] rfl rfl) (fun w30 b31 x32 z33 => ?_)
  refine p_call (vs := #[.slice (some ⟨w26.heap.size, 0, none⟩) 1 1]) fn_11 rfl rfl rfl (args1 rfl) ?_
  refine (C_few _ _ _ [(y15.m.r.cmd, y15.p)] (lies_box (f := fCmd) b31 rfl (fun _ => rfl) (by simp only [List.mem_cons, List.not_mem_nil, or_false]; rintro z (rfl) <;> first | exact ⟨rfl, ((((((ha22.ext x2).ext x4).ext x9).ext x25).ext x28).ext x32)⟩)) (by simp)).mono ?_
  rintro e w34 ⟨rfl, x35⟩
  refine ⟨_, rfl, ?_⟩
  cases c36 : few [(y15.m.r.cmd, y15.p)]
  case false =>
   refine pv (.bool true) (x_not (b := false) rfl rfl) ?_
   refine p_nil (t_norm (c_true rfl (c_seq (c_quiet (qv (.bool false) (fun _ x' => x_assign rfl rfl) ?_)))))
   exact q_nil (fun w37 x38 => t_norm (c_ret (b_ret (t_ret (t_ret (b_ret (t_ret (c_done rfl rfl (Ret.b ((fewD_no hx16 c36).symm) (((((((x2.trans x4).trans x9).trans x25).trans x28).trans x32).trans x35).trans x38))))))))))
  refine pv (.bool false) (x_not (b := true) rfl rfl) ?_
  refine p_nil (t_norm (c_false rfl (c_skip (b_norm (t_norm (c_quiet (qv (iJ ((k5 : Int) + 1)) (fun _ x' => x_add rfl e13 rfl (wrap_of (by omega) (by omega))) ?_)))))))
  refine qv (iJ ((k5 : Int) + 1)) (fun _ x' => x_move rfl rfl) ?_
  exact q_nil (fun w39 x40 => t_norm (⟨_, rfl, ⟨k5 + 1, by omega, all_step (p := fun z : Dz => fewOne z.m.r.cmd) hi7 hx16 (by simpa [few] using c36), e10, e11, e12, rfl, (((((x9.trans x25).trans x28).trans x32).trans x35).trans x40)⟩, meas_up e13 hl14⟩))
 refine c_seq (c_quiet (qv (.bool false) (fun _ x' => yb (x_lss rfl e13 e12) (decide_eq_false (by omega))) ?_))
 refine q_nil (fun w41 x42 => t_norm (c_seq (c_false rfl (c_exit (t_exit (t_exit (b_exit (t_norm (c_seq (c_quiet (qv (.slice A l.length c) (fun _ x' => x_move rfl e10) ?_)))))))))))
 refine qv (iJ (l.length : Int)) (fun _ x' => x_len_slice sl_55 rfl rfl) ?_
 refine q_bool (b := decide ((l.length : Int) ≤ 40)) rfl rfl (fun _ x' => x_leq rfl rfl rfl) (fun c43 => ?_) (fun c43 => ?_)
 ·refine qv (.bool true) (fun _ x' => x_assign rfl rfl) ?_
  exact q_nil (fun w44 x45 => t_norm (c_ret (c_done rfl rfl (Ret.b (by rw [fewD_end hi7 hl14]; simp at *; omega) ((((x2.trans x4).trans x9).trans x42).trans x45)))))
 refine qv (.bool false) (fun _ x' => x_assign rfl rfl) ?_
 exact q_nil (fun w46 x47 => t_norm (c_ret (c_done rfl rfl (Ret.b (by rw [fewD_end hi7 hl14]; simp at *; omega) ((((x2.trans x4).trans x9).trans x42).trans x47)))))
theorem C_some (w : World) (a b : Int) :
    Calls Try.prog 26 #[.int .i64 a, .int .i64 b] w (Ret w (.agg #[.int .i64 6, .int .i64 a, .int .i64 b, .int .i64 0, .int .i64 0, .int .i64 0, .int .i64 1, .int .i64 0, .int .i64 0, .int .i64 0, .int .i64 0, .int .i64 0, .int .i64 0, .int .i64 0, .int .i64 0, .int .i64 0, .int .i64 0, .int .i64 0, .slice none 0 0, .slice none 0 0, .bool false, .int .i64 0, .int .i64 0, .int .i64 0, .int .i64 0, .int .i64 0, .int .i64 0, .int .i64 0, .int .i64 0, .bool false])) := by
 refine c_enter (n := 10) Try.func26 rfl rfl rfl ?_
 refine c_seq (c_plain (p_alloc (cs := [iJ 0, iJ 0, iJ 0, iJ 0, iJ 0, iJ 0, iJ 0, iJ 0, iJ 0, iJ 0, iJ 0, iJ 0, iJ 0, iJ 0, iJ 0, iJ 0, iJ 0, iJ 0, .slice none 0 0, .slice none 0 0, .bool false, iJ 0, iJ 0, iJ 0, iJ 0, iJ 0, iJ 0, iJ 0, iJ 0, .bool false]) rfl rfl rfl zero_43 rfl (fun w1 b2 x3 z4 => ?_)))
 refine p_nil (t_norm (c_seq (c_plain (pv (iJ a) (x_move rfl rfl) ?_))))
 refine pv (iJ b) (x_move rfl rfl) ?_
 refine pv (.agg #[iJ 0, iJ 1]) (x_build (z := [iJ 0, iJ 0]) (r := [iJ 0, iJ 1]) zero_29 pl_29 rfl (partsI1 rfl) (fill_cons (vs := [iJ 1]) (cs' := [iJ 0, iJ 1]) rfl rfl rfl rfl rfl (fill_nil))) ?_
 refine pv (.agg #[iJ 0, iJ 1, iJ 0, iJ 0, iJ 0, iJ 0, iJ 0, iJ 0, iJ 0, iJ 0, iJ 0, iJ 0, iJ 0, .slice none 0 0, .slice none 0 0, .bool false, iJ 0, iJ 0, iJ 0, iJ 0, iJ 0, iJ 0, iJ 0, iJ 0, .bool false]) (x_build (z := [iJ 0, iJ 0, iJ 0, iJ 0, iJ 0, iJ 0, iJ 0, iJ 0, iJ 0, iJ 0, iJ 0, iJ 0, iJ 0, .slice none 0 0, .slice none 0 0, .bool false, iJ 0, iJ 0, iJ 0, iJ 0, iJ 0, iJ 0, iJ 0, iJ 0, .bool false]) (r := [iJ 0, iJ 1, iJ 0, iJ 0, iJ 0, iJ 0, iJ 0, iJ 0, iJ 0, iJ 0, iJ 0, iJ 0, iJ 0, .slice none 0 0, .slice none 0 0, .bool false, iJ 0, iJ 0, iJ 0, iJ 0, iJ 0, iJ 0, iJ 0, iJ 0, .bool false]) zero_41 pl_41 rfl (partsI1 rfl) (fill_cons (vs := [iJ 0, iJ 1]) (cs' := [iJ 0, iJ 1, iJ 0, iJ 0, iJ 0, iJ 0, iJ 0, iJ 0, iJ 0, iJ 0, iJ 0, iJ 0, iJ 0, .slice none 0 0, .slice none 0 0, .bool false, iJ 0, iJ 0, iJ 0, iJ 0, iJ 0, iJ 0, iJ 0, iJ 0, .bool false]) rfl rfl rfl rfl rfl (fill_nil))) ?_
 refine pv (.agg #[iJ 6, iJ a, iJ b, iJ 0, iJ 0, iJ 0, iJ 1, iJ 0, iJ 0, iJ 0, iJ 0, iJ 0, iJ 0, iJ 0, iJ 0, iJ 0, iJ 0, iJ 0, .slice none 0 0, .slice none 0 0, .bool false, iJ 0, iJ 0, iJ 0, iJ 0, iJ 0, iJ 0, iJ 0, iJ 0, .bool false]) (x_build (z := [iJ 0, iJ 0, iJ 0, iJ 0, iJ 0, iJ 0, iJ 0, iJ 0, iJ 0, iJ 0, iJ 0, iJ 0, iJ 0, iJ 0, iJ 0, iJ 0, iJ 0, iJ 0, .slice none 0 0, .slice none 0 0, .bool false, iJ 0, iJ 0, iJ 0, iJ 0, iJ 0, iJ 0, iJ 0, iJ 0, .bool false]) (r := [iJ 6, iJ a, iJ b, iJ 0, iJ 0, iJ 0, iJ 1, iJ 0, iJ 0, iJ 0, iJ 0, iJ 0, iJ 0, iJ 0, iJ 0, iJ 0, iJ 0, iJ 0, .slice none 0 0, .slice none 0 0, .bool false, iJ 0, iJ 0, iJ 0, iJ 0, iJ 0, iJ 0, iJ 0, iJ 0, .bool false]) zero_43 pl_43 rfl (partsI4 rfl rfl rfl rfl) (fill_cons (vs := [iJ 6]) (cs' := [iJ 6, iJ 0, iJ 0, iJ 0, iJ 0, iJ 0, iJ 0, iJ 0, iJ 0, iJ 0, iJ 0, iJ 0, iJ 0, iJ 0, iJ 0, iJ 0, iJ 0, iJ 0, .slice none 0 0, .slice none 0 0, .bool false, iJ 0, iJ 0, iJ 0, iJ 0, iJ 0, iJ 0, iJ 0, iJ 0, .bool false]) rfl rfl rfl rfl rfl (fill_cons (vs := [iJ a]) (cs' := [iJ 6, iJ a, iJ 0, iJ 0, iJ 0, iJ 0, iJ 0, iJ 0, iJ 0, iJ 0, iJ 0, iJ 0, iJ 0, iJ 0, iJ 0, iJ 0, iJ 0, iJ 0, .slice none 0 0, .slice none 0 0, .bool false, iJ 0, iJ 0, iJ 0, iJ 0, iJ 0, iJ 0, iJ 0, iJ 0, .bool false]) rfl rfl rfl rfl rfl (fill_cons (vs := [iJ b]) (cs' := [iJ 6, iJ a, iJ b, iJ 0, iJ 0, iJ 0, iJ 0, iJ 0, iJ 0, iJ 0, iJ 0, iJ 0, iJ 0, iJ 0, iJ 0, iJ 0, iJ 0, iJ 0, .slice none 0 0, .slice none 0 0, .bool false, iJ 0, iJ 0, iJ 0, iJ 0, iJ 0, iJ 0, iJ 0, iJ 0, .bool false]) rfl rfl rfl rfl rfl (fill_cons (vs := [iJ 0, iJ 1, iJ 0, iJ 0, iJ 0, iJ 0, iJ 0, iJ 0, iJ 0, iJ 0, iJ 0, iJ 0, iJ 0, .slice none 0 0, .slice none 0 0, .bool false, iJ 0, iJ 0, iJ 0, iJ 0, iJ 0, iJ 0, iJ 0, iJ 0, .bool false]) (cs' := [iJ 6, iJ a, iJ b, iJ 0, iJ 0, iJ 0, iJ 1, iJ 0, iJ 0, iJ 0, iJ 0, iJ 0, iJ 0, iJ 0, iJ 0, iJ 0, iJ 0, iJ 0, .slice none 0 0, .slice none 0 0, .bool false, iJ 0, iJ 0, iJ 0, iJ 0, iJ 0, iJ 0, iJ 0, iJ 0, .bool false]) rfl rfl rfl rfl rfl (fill_nil)))))) ?_
 refine p_store (v := .agg #[iJ 6, iJ a, iJ b, iJ 0, iJ 0, iJ 0, iJ 1, iJ 0, iJ 0, iJ 0, iJ 0, iJ 0, iJ 0, iJ 0, iJ 0, iJ 0, iJ 0, iJ 0, .slice none 0 0, .slice none 0 0, .bool false, iJ 0, iJ 0, iJ 0, iJ 0, iJ 0, iJ 0, iJ 0, iJ 0, .bool false]) (vs := [iJ 6, iJ a, iJ b, iJ 0, iJ 0, iJ 0, iJ 1, iJ 0, iJ 0, iJ 0, iJ 0, iJ 0, iJ 0, iJ 0, iJ 0, iJ 0, iJ 0, iJ 0, .slice none 0 0, .slice none 0 0, .bool false, iJ 0, iJ 0, iJ 0, iJ 0, iJ 0, iJ 0, iJ 0, iJ 0, .bool false]) (cs' := [iJ 6, iJ a, iJ b, iJ 0, iJ 0, iJ 0, iJ 1, iJ 0, iJ 0, iJ 0, iJ 0, iJ 0, iJ 0, iJ 0, iJ 0, iJ 0, iJ 0, iJ 0, .slice none 0 0, .slice none 0 0, .bool false, iJ 0, iJ 0, iJ 0, iJ 0, iJ 0, iJ 0, iJ 0, iJ 0, .bool false]) rfl rfl rfl rfl rfl rfl b2 size_43 rfl rfl rfl (fun w5 b6 s7 => ?_)
 exact p_nil (t_norm (c_ret (c_doneC rfl rfl (b6.agg (vs := [iJ 6, iJ a, iJ b, iJ 0, iJ 0, iJ 0, iJ 1, iJ 0, iJ 0, iJ 0, iJ 0, iJ 0, iJ 0, iJ 0, iJ 0, iJ 0, iJ 0, iJ 0, .slice none 0 0, .slice none 0 0, .bool false, iJ 0, iJ 0, iJ 0, iJ 0, iJ 0, iJ 0, iJ 0, iJ 0, .bool false]) agg_43_30 rfl) ⟨rfl, (x3.stored (Nat.le_refl _) s7)⟩)))
theorem C_awake (w : World) :
    Calls Try.prog 10 #[] w (Ret w (.bool true)) := by
 refine c_enter (n := 52) Try.func10 rfl rfl rfl ?_
 refine c_seq (c_quiet (qv (.bool false) (fun _ x' => x_assign rfl rfl) ?_))
 refine q_nil (fun w1 x2 => t_norm (c_seq (c_plain (p_call (vs := #[iJ 2]) fn_9 rfl rfl rfl (args1 rfl) ?_))))
 refine (C_new _ 2).mono ?_
 rintro e w3 ⟨x4, ⟨hr5, _⟩ | ⟨hr5, g6, rfl, hg7, hN8⟩⟩
 ·omega
 refine ⟨_, rfl, ?_⟩
 have hN8l := hN8.box.lt
 have hg7b := Nat.le_trans x2.size hg7
 refine pv (pJ g6) (x_assign rfl rfl) ?_
 refine p_nil (t_norm (c_seq (c_plain (pv (pJ g6) (x_move rfl rfl) ?_))))
 refine p_call (vs := #[iJ 0, iJ 1]) fn_26 rfl rfl rfl (args2 rfl rfl) ?_
 refine (C_some _ 0 1).mono ?_
 rintro e w9 ⟨rfl, x10⟩
 refine ⟨_, rfl, ?_⟩
 refine p_call (vs := #[pJ g6, .agg #[iJ 6, iJ 0, iJ 1, iJ 0, iJ 0, iJ 0, iJ 1, iJ 0, iJ 0, iJ 0, iJ 0, iJ 0, iJ 0, iJ 0, iJ 0, iJ 0, iJ 0, iJ 0, .slice none 0 0, .slice none 0 0, .bool false, iJ 0, iJ 0, iJ 0, iJ 0, iJ 0, iJ 0, iJ 0, iJ 0, .bool false]]) fn_12 rfl rfl rfl (args2 rfl rfl) ?_
 refine (C_send _ g6 (newP 2) none 0 ([] : List (Msg × Ptr)) (hN8.ext x10) ⟨by decide, by decide, by decide, by decide, by decide, by decide⟩ (⟨6, 0, 1, (⟨0, 0⟩ : Bal), (⟨(⟨0, 1⟩ : Inst), 0, (⟨0, 0⟩ : Bal), (⟨0, 0⟩ : Bal), (⟨0, (⟨0, 0⟩ : Txn), (⟨0, 0⟩ : Stp), 0, [], [], false⟩ : Cmd), 0, (⟨0, 0, 0, 0, 0, 0, 0⟩ : Dep), false⟩ : Rec)⟩ : Msg) (⟨none, 0, none, 0⟩ : Ptr) (CmdAt.nil _ rfl rfl) (slim_nil rfl rfl)).mono ?_
 rw [aw_1]
 rintro e w11 ⟨A14, c15, zs16, rfl, hN13, o12, hN13k⟩
 refine ⟨_, rfl, ?_⟩
 refine pv (pJ g6) (x_move rfl rfl) ?_
 refine p_call (vs := #[iJ 1, iJ 0]) fn_26 rfl rfl rfl (args2 rfl rfl) ?_
 refine (C_some _ 1 0).mono ?_
 rintro e w17 ⟨rfl, x18⟩
 refine ⟨_, rfl, ?_⟩
 refine p_call (vs := #[pJ g6, .agg #[iJ 6, iJ 1, iJ 0, iJ 0, iJ 0, iJ 0, iJ 1, iJ 0, iJ 0, iJ 0, iJ 0, iJ 0, iJ 0, iJ 0, iJ 0, iJ 0, iJ 0, iJ 0, .slice none 0 0, .slice none 0 0, .bool false, iJ 0, iJ 0, iJ 0, iJ 0, iJ 0, iJ 0, iJ 0, iJ 0, .bool false]]) fn_12 rfl rfl rfl (args2 rfl rfl) ?_
 refine (C_send _ g6 aw1 A14 c15 zs16 (hN13.ext x18) ⟨by decide, by decide, by decide, by decide, by decide, by decide⟩ (⟨6, 1, 0, (⟨0, 0⟩ : Bal), (⟨(⟨0, 1⟩ : Inst), 0, (⟨0, 0⟩ : Bal), (⟨0, 0⟩ : Bal), (⟨0, (⟨0, 0⟩ : Txn), (⟨0, 0⟩ : Stp), 0, [], [], false⟩ : Cmd), 0, (⟨0, 0, 0, 0, 0, 0, 0⟩ : Dep), false⟩ : Rec)⟩ : Msg) (⟨none, 0, none, 0⟩ : Ptr) (CmdAt.nil _ rfl rfl) (slim_nil rfl rfl)).mono ?_
 rw [aw_2]
 rintro e w19 ⟨A22, c23, zs24, rfl, hN21, o20, hN21k⟩
 refine ⟨_, rfl, ?_⟩
 refine pv (pJ g6) (x_move rfl rfl) ?_
 refine p_call (vs := #[iJ 2, iJ 0]) fn_26 rfl rfl rfl (args2 rfl rfl) ?_
 refine (C_some _ 2 0).mono ?_
 rintro e w25 ⟨rfl, x26⟩
 refine ⟨_, rfl, ?_⟩
 refine p_call (vs := #[pJ g6, .agg #[iJ 6, iJ 2, iJ 0, iJ 0, iJ 0, iJ 0, iJ 1, iJ 0, iJ 0, iJ 0, iJ 0, iJ 0, iJ 0, iJ 0, iJ 0, iJ 0, iJ 0, iJ 0, .slice none 0 0, .slice none 0 0, .bool false, iJ 0, iJ 0, iJ 0, iJ 0, iJ 0, iJ 0, iJ 0, iJ 0, .bool false]]) fn_12 rfl rfl rfl (args2 rfl rfl) ?_
 refine (C_send _ g6 aw2 A22 c23 zs24 (hN21.ext x26) ⟨by decide, by decide, by decide, by decide, by decide, by decide⟩ (⟨6, 2, 0, (⟨0, 0⟩ : Bal), (⟨(⟨0, 1⟩ : Inst), 0, (⟨0, 0⟩ : Bal), (⟨0, 0⟩ : Bal), (⟨0, (⟨0, 0⟩ : Txn), (⟨0, 0⟩ : Stp), 0, [], [], false⟩ : Cmd), 0, (⟨0, 0, 0, 0, 0, 0, 0⟩ : Dep), false⟩ : Rec)⟩ : Msg) (⟨none, 0, none, 0⟩ : Ptr) (CmdAt.nil _ rfl rfl) (slim_nil rfl rfl)).mono ?_
 rw [aw_3]
 rintro e w27 ⟨A30, c31, zs32, rfl, hN29, o28, hN29k⟩
 refine ⟨_, rfl, ?_⟩
 refine pv (iJ 0) (x_assign rfl rfl) ?_
 refine pv (iJ 0) (x_assign rfl rfl) ?_
 refine pv (iJ 7) (x_assign rfl rfl) ?_
 refine p_nil (t_norm (c_seq (c_plain (pv (pJ g6) (x_move rfl rfl) ?_))))
 refine p_call (vs := #[pJ g6, iJ 0]) fn_13 rfl rfl rfl (args2 rfl rfl) ?_
 refine (C_take _ g6 aw3 A30 c31 zs32 hN29 ⟨by decide, by decide, by decide, by decide, by decide, by decide⟩ 0).mono ?_
 rw [aw_4]
 rintro e w33 ⟨A40, c41, zs42, p34, rfl, hc35, hN39, o36, hN39k, fa37, fb38⟩
 refine ⟨_, rfl, ?_⟩
 refine pv (.tuple #[.agg #[iJ 6, iJ 0, iJ 1, iJ 0, iJ 0, iJ 0, iJ 1, iJ 0, iJ 0, iJ 0, iJ 0, iJ 0, iJ 0, iJ 0, iJ 0, iJ 0, iJ 0, iJ 0, .slice p34.A 0 p34.n, .slice p34.B 0 p34.m, .bool false, iJ 0, iJ 0, iJ 0, iJ 0, iJ 0, iJ 0, iJ 0, iJ 0, .bool false], iJ 0]) (x_move rfl rfl) ?_
 refine pv (.agg #[iJ 6, iJ 0, iJ 1, iJ 0, iJ 0, iJ 0, iJ 1, iJ 0, iJ 0, iJ 0, iJ 0, iJ 0, iJ 0, iJ 0, iJ 0, iJ 0, iJ 0, iJ 0, .slice p34.A 0 p34.n, .slice p34.B 0 p34.m, .bool false, iJ 0, iJ 0, iJ 0, iJ 0, iJ 0, iJ 0, iJ 0, iJ 0, .bool false]) (x_extract rfl rfl rfl) ?_
 refine pv (iJ 0) (x_extract rfl rfl rfl) ?_
 refine p_var (v := .agg #[iJ 6, iJ 0, iJ 1, iJ 0, iJ 0, iJ 0, iJ 1, iJ 0, iJ 0, iJ 0, iJ 0, iJ 0, iJ 0, iJ 0, iJ 0, iJ 0, iJ 0, iJ 0, .slice p34.A 0 p34.n, .slice p34.B 0 p34.m, .bool false, iJ 0, iJ 0, iJ 0, iJ 0, iJ 0, iJ 0, iJ 0, iJ 0, .bool false]) (vs := [iJ 6, iJ 0, iJ 1, iJ 0, iJ 0, iJ 0, iJ 1, iJ 0, iJ 0, iJ 0, iJ 0, iJ 0, iJ 0, iJ 0, iJ 0, iJ 0, iJ 0, iJ 0, .slice p34.A 0 p34.n, .slice p34.B 0 p34.m, .bool false, iJ 0, iJ 0, iJ 0, iJ 0, iJ 0, iJ 0, iJ 0, iJ 0, .bool false]) rfl rfl rfl zero_43 rfl rfl rfl rfl rfl rfl rfl size_43 rfl (fun w43 b44 x45 z46 => ?_)
 refine pv (iJ 0) (x_assign rfl rfl) ?_
 refine p_nil (t_norm (c_seq (c_quiet (qv (iJ 0) (fun _ x' => x_move rfl rfl) ?_))))
 refine qv (.bool true) (fun _ x' => yb (x_eql rfl rfl rfl) rfl) ?_
 refine qv (.bool true) (fun _ x' => x_move rfl rfl) ?_
 refine qv (iJ 0) (fun _ x' => x_move rfl rfl) ?_
 refine qv (.bool true) (fun _ x' => yb (x_eql rfl rfl rfl) rfl) ?_
 refine qv (.bool true) (fun _ x' => x_pick_t rfl rfl rfl) ?_
 refine qv (.bool true) (fun _ x' => x_move rfl rfl) ?_
 refine qv (iJ 7) (fun _ x' => x_move rfl rfl) ?_
 refine qv (.bool true) (fun _ x' => yb (x_eql rfl rfl rfl) rfl) ?_
 refine qv (.bool true) (fun _ x' => x_pick_t rfl rfl rfl) ?_
 refine qv (.bool true) (fun _ x' => x_move rfl rfl) ?_
 refine qv (iJ 0) (fun _ x' => x_move rfl rfl) ?_
 refine qv (.bool true) (fun _ x' => yb (x_eql rfl rfl rfl) rfl) ?_
 refine qv (.bool true) (fun _ x' => x_pick_t rfl rfl rfl) ?_
 refine qv (.bool true) (fun _ x' => x_move rfl rfl) ?_
 refine qv (.pointer (some (⟨w33.heap.size, 2, none⟩))) (fun _ x' => x_fieldAddr fld_43_2 rfl rfl rfl) ?_
 refine qv (iJ 1) (fun _ x' => x_load rfl rfl ((b44.ext x').one one_3 rfl)) ?_
 refine qv (.bool true) (fun _ x' => yb (x_eql rfl rfl rfl) rfl) ?_
 refine qv (.bool true) (fun _ x' => x_pick_t rfl rfl rfl) ?_
 refine qv (.bool true) (fun _ x' => x_move rfl rfl) ?_
 refine qv (pJ g6) (fun _ x' => x_move rfl rfl) ?_
 refine q_call (vs := #[pJ g6]) fn_15 rfl rfl rfl (args1 rfl) (v := iJ 1) (fun _ x' => C_len _ g6 aw4 A40 c41 zs42 ((hN39.ext x45).ext x')) ?_
 refine qv (.bool true) (fun _ x' => yb (x_eql rfl rfl rfl) rfl) ?_
 refine qv (.bool true) (fun _ x' => x_pick_t rfl rfl rfl) ?_
 refine qv (.bool true) (fun _ x' => x_move rfl rfl) ?_
 refine qv (pJ g6) (fun _ x' => x_move rfl rfl) ?_
 refine q_call (vs := #[pJ g6]) fn_22 rfl rfl rfl (args1 rfl) (v := .agg #[iJ 3, iJ 1, iJ 1]) (fun _ x' => C_tally _ g6 aw4 A40 c41 zs42 ((hN39.ext x45).ext x')) ?_
 refine qv (.agg #[iJ 3, iJ 1, iJ 1]) (fun _ x' => x_build (z := [iJ 0, iJ 0, iJ 0]) (r := [iJ 3, iJ 1, iJ 1]) zero_66 pl_66 rfl (partsI3 rfl rfl rfl) (fill_cons (vs := [iJ 3]) (cs' := [iJ 3, iJ 0, iJ 0]) rfl rfl rfl rfl rfl (fill_cons (vs := [iJ 1]) (cs' := [iJ 3, iJ 1, iJ 0]) rfl rfl rfl rfl rfl (fill_cons (vs := [iJ 1]) (cs' := [iJ 3, iJ 1, iJ 1]) rfl rfl rfl rfl rfl (fill_nil))))) ?_
 refine qv (.bool true) (fun _ x' => yb (x_eqCn (a := (⟨3, 1, 1⟩ : Cn)) (b := (⟨3, 1, 1⟩ : Cn)) ints3_66 rfl rfl rfl) (by simp)) ?_
 refine qv (.bool true) (fun _ x' => x_pick_t rfl rfl rfl) ?_
 refine qv (.bool true) (fun _ x' => x_assign rfl rfl) ?_
 exact q_nil (fun w47 x48 => t_norm (c_ret (c_done rfl rfl (Ret.b (rfl) (((((((((Below.refl _ _).trans (((x2.trans x4).trans x10).mono (Nat.le_refl _))).trans (below_off o12 (Nat.le_trans (Nat.le_trans x2.size x4.size) x10.size) hg7b)).trans (x18.mono (Nat.le_trans (Nat.le_trans (Nat.le_trans x2.size x4.size) x10.size) o12.size))).trans (below_off o20 (Nat.le_trans (Nat.le_trans (Nat.le_trans (Nat.le_trans x2.size x4.size) x10.size) o12.size) x18.size) hg7b)).trans (x26.mono (Nat.le_trans (Nat.le_trans (Nat.le_trans (Nat.le_trans (Nat.le_trans x2.size x4.size) x10.size) o12.size) x18.size) o20.size))).trans (below_off o28 (Nat.le_trans (Nat.le_trans (Nat.le_trans (Nat.le_trans (Nat.le_trans (Nat.le_trans x2.size x4.size) x10.size) o12.size) x18.size) o20.size) x26.size) hg7b)).trans (below_off o36 (Nat.le_trans (Nat.le_trans (Nat.le_trans (Nat.le_trans (Nat.le_trans (Nat.le_trans (Nat.le_trans x2.size x4.size) x10.size) o12.size) x18.size) o20.size) x26.size) o28.size) hg7b)).trans ((x45.trans x48).mono (Nat.le_trans (Nat.le_trans (Nat.le_trans (Nat.le_trans (Nat.le_trans (Nat.le_trans (Nat.le_trans (Nat.le_trans x2.size x4.size) x10.size) o12.size) x18.size) o20.size) x26.size) o28.size) o36.size)))))))
end Go.Proofs.Ytadeigpphklmfaa
