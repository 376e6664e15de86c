/- A walk through the code of layers below, or of layer 10. -/
import Derived.Test.YtadeigpphklmfaaDos
import Derived.Test.YtadeigpphklmfaaDrs
import Derived.Test.YtadeigpphklmfaaPan
import Derived.Test.YtadeigpphklmfaaB10
namespace Go.Proofs.Ytadeigpphklmfaa
open Go.RowKit Go.Eng
set_option linter.unusedVariables false
set_option linter.unusedSimpArgs false
set_option maxHeartbeats 2000000 in
theorem C_NetFinds (w : World) (room : Int) (A : Option Addr) (c : Nat) (l : List Dz) (hR : D0 w A l) (a b : Int) :
    Calls Try.prog 7 #[.int .i64 room, .slice A l.length c, .int .i64 a, .int .i64 b] w (Ret w (.bool true)) := by
 have hlen0 := hR.len
 refine c_enter (n := 81) Try.func7 rfl rfl rfl ?_
 refine c_seq (c_quiet (qv (.bool false) (fun _ x' => x_assign rfl rfl) ?_))
 refine q_nil (fun w1 x2 => t_norm (c_seq (c_plain (pv (iJ room) (x_move rfl rfl) ?_))))
 refine p_call (vs := #[iJ room]) fn_9 rfl rfl rfl (args1 rfl) ?_
 refine (C_new _ room).mono ?_
 rintro e w3 ⟨x4, ⟨hr5, rfl⟩ | ⟨hr5, g6, rfl, hg7, hN8⟩⟩
 ·refine ⟨_, rfl, ?_⟩
  refine pv (.pointer none) (x_assign rfl rfl) ?_
  refine p_nil (t_norm (c_seq (c_seq (c_quiet (qv (.pointer none) (fun _ x' => x_move rfl rfl) ?_)))))
  refine qv (.bool true) (fun _ x' => x_peqN ptr_23 rfl rfl rfl) ?_
  refine qv (.bool true) (fun _ x' => x_move rfl rfl) ?_
  refine qk rfl rfl (qk rfl rfl (qk rfl rfl (qv (.bool true) (fun _ x' => x_pick_t rfl rfl rfl) ?_)))
  refine q_nil (fun w9 x10 => t_norm (c_true rfl (c_seq (c_quiet (q_call (vs := #[]) fn_10 rfl rfl rfl (args0) (v := .bool true) (fun _ x' => C_awake _) ?_)))))
  refine qv (.bool true) (fun _ x' => x_assign rfl rfl) ?_
  exact q_nil (fun w11 x12 => t_norm (c_ret (t_ret (c_done rfl rfl (Ret.b (rfl) (((x2.trans x4).trans x10).trans x12))))))
 refine ⟨_, rfl, ?_⟩
 have hN8l := hN8.box.lt
 have hg7b := Nat.le_trans x2.size hg7
 refine pv (pJ g6) (x_assign rfl rfl) ?_
 refine p_nil (t_norm (c_seq (c_seq (c_quiet (qv (pJ g6) (fun _ x' => x_move rfl rfl) ?_)))))
 refine qv (.bool false) (fun _ x' => x_peqS ptr_23 rfl rfl rfl) ?_
 refine qv (.bool false) (fun _ x' => x_move rfl rfl) ?_
 refine qv (.slice A l.length c) (fun _ x' => x_move rfl rfl) ?_
 refine q_callb (b := fewD l) (vs := #[.slice A l.length c]) fn_16 rfl rfl rfl (args1 rfl) (fun _ x' => C_fewD _ A c l (((hR.ext x2).ext x4).ext x')) (fun c13 => ?_) (fun c13 => ?_)
 ·have hfew := c13
  have hl40 := fewD_len hfew
  refine qv (.bool false) (fun _ x' => x_not (b := true) rfl rfl) ?_
  refine qv (.bool false) (fun _ x' => x_pick_f rfl rfl rfl) ?_
  refine q_nil (fun w14 x15 => t_norm (c_false rfl (c_skip (t_norm (c_seq (c_plain (pv (iJ room) (x_move rfl rfl) ?_)))))))
  refine p_call (vs := #[iJ room]) fn_19 rfl rfl rfl (args1 rfl) ?_
  refine (D_new _ room).mono ?_
  rw [decide_eq_true hr5]
  rintro e w16 ⟨rfl, x17⟩
  refine ⟨_, rfl, ?_⟩
  have hL18 := ref_new hr5.1 hr5.2 w16
  refine pv (.tuple #[.agg #[iJ ((newP room).room), .slice none (([] : List (Msg × Ptr)).length) 0, iJ ((newP room).sent), iJ ((newP room).came), iJ ((newP room).lost)], .bool true]) (x_move rfl rfl) ?_
  refine pv (.agg #[iJ ((newP room).room), .slice none (([] : List (Msg × Ptr)).length) 0, iJ ((newP room).sent), iJ ((newP room).came), iJ ((newP room).lost)]) (x_extract rfl rfl rfl) ?_
  refine pv (.bool true) (x_extract rfl rfl rfl) ?_
  refine p_var (v := .agg #[iJ ((newP room).room), .slice none (([] : List (Msg × Ptr)).length) 0, iJ ((newP room).sent), iJ ((newP room).came), iJ ((newP room).lost)]) (vs := [iJ ((newP room).room), .slice none (([] : List (Msg × Ptr)).length) 0, iJ ((newP room).sent), iJ ((newP room).came), iJ ((newP room).lost)]) rfl rfl rfl zero_59 rfl rfl rfl rfl rfl rfl rfl size_59 rfl (fun w19 b20 x21 z22 => ?_)
  refine pv (.bool true) (x_assign rfl rfl) ?_
  refine p_nil (t_norm (c_seq (c_seq (c_quiet (qv (.slice A l.length c) (fun _ x' => x_move rfl rfl) ?_)))))
  refine qv (iJ (l.length : Int)) (fun _ x' => x_len_slice sl_55 rfl rfl) ?_
  refine qv (iJ 0) (fun _ x' => x_move rfl rfl) ?_
  refine q_nil (fun w23 x24 => t_norm (c_block (c_loop (fun ρ w42 => ∃ k32 : Nat, ∃ s25 : PN, ∃ A26 : Option Addr, ∃ c27 : Nat, ∃ zs28 : List (Msg × Ptr), ∃ A229 : Option Addr, ∃ c230 : Nat, ∃ ys31 : List (Msg × Ptr), k32 ≤ l.length ∧ NetIn 74 w42 g6 s25 A26 c27 zs28 ∧ RefIn w42 s25 A229 c230 ys31 ∧ (∀ ad, A229 = some ad → ad.block ≠ g6) ∧ (∀ ad, A229 = some ad → ad.block ≠ w16.heap.size) ∧ Sub l ys31 ∧ Gd room s25 k32 ∧ RowsOff (w16.heap.size) A26 zs28 ∧ Box w42 (w16.heap.size) 59 [iJ s25.room, .slice A229 ys31.length c230, iJ s25.sent, iJ s25.came, iJ s25.lost] ∧ ρ 2 = iJ a ∧ ρ 3 = iJ b ∧ ρ 8 = .bool false ∧ ρ 9 = pJ g6 ∧ ρ 10 = pJ w16.heap.size ∧ ρ 31 = .slice A l.length c ∧ ρ 32 = iJ (l.length : Int) ∧ ρ 33 = iJ (k32 : Int) ∧ Below w.heap.size w23 w42) (fun ρ _ => l.length - (intOf (ρ 33)).toNat) ⟨0, (newP room), none, 0, ([] : List (Msg × Ptr)), none, 0, [], Nat.zero_le _, (hN8.ext (((x15.trans x17).trans x21).trans x24)), ((hL18.ext x21).ext x24), (fun ad e => (by cases e)), (fun ad e => (by cases e)), Sub.nil _, Gd.new _, ⟨(fun ad e => (by cases e)), fun z hz => (by cases hz)⟩, (b20.ext x24), rfl, rfl, rfl, rfl, rfl, rfl, rfl, rfl, Below.refl _ _⟩ ?_)))
  rintro ρ w42 ⟨k32, s25, A26, c27, zs28, A229, c230, ys31, hk33, hi34, hi35, hi36, hi37, hi38, hi39, hi40, hi41, e44, e45, e46, e47, e48, e49, e50, e51, x43⟩
  have hnb : g6 ≠ w16.heap.size := by have hz := (Nat.le_trans x15.size x17.size); omega
  have hry := hi35.room
  have hry2 := hi35.r2
  by_cases hl52 : k32 < l.length
  ·obtain ⟨y53, hx54⟩ := some_of (l := l) (k := k32) (by omega)
   obtain ⟨ad55, cs56, eA57, hK58, hE59⟩ := hR.lies k32 y53 hx54
   have hK58' : cs56 = [iJ y53.verb, iJ y53.k, iJ y53.m.kind, iJ y53.m.src, iJ y53.m.dst, iJ y53.m.ballot.number, iJ y53.m.ballot.replica, iJ y53.m.r.inst.replica, iJ y53.m.r.inst.slot, iJ y53.m.r.status, iJ y53.m.r.promise.number, iJ y53.m.r.promise.replica, iJ y53.m.r.ballot.number, iJ y53.m.r.ballot.replica, iJ y53.m.r.cmd.kind, iJ y53.m.r.cmd.txn.client, iJ y53.m.r.cmd.txn.number, iJ y53.m.r.cmd.stp.time, iJ y53.m.r.cmd.stp.client, iJ y53.m.r.cmd.shards, .slice y53.p.A y53.m.r.cmd.reads.length y53.p.n, .slice y53.p.B y53.m.r.cmd.writes.length y53.p.m, .bool y53.m.r.cmd.commit, iJ y53.m.r.seq, iJ y53.m.r.deps.d0, iJ y53.m.r.deps.d1, iJ y53.m.r.deps.d2, iJ y53.m.r.deps.d3, iJ y53.m.r.deps.d4, iJ y53.m.r.deps.d5, iJ y53.m.r.deps.d6, .bool y53.m.r.kept] := hK58
   subst hK58'
   have ha60 := hR.at_.out _ (at_of hx54)
   have hfo := fewD_at hfew hx54
   have hfs := few_slim hfo
   have hfv := few_shorts hfo
   refine c_seq (c_quiet (qv (.bool true) (fun _ x' => yb (x_lss rfl e51 e50) (decide_eq_true (by omega))) ?_))
   refine q_nil (fun w62 x63 => t_norm (c_seq (c_true rfl (c_skip (t_norm (c_seq (c_block (c_seq (c_plain (pv (.pointer (some (ad55.add (k32 * 32)))) (x_indexAddr sl_55 rfl e49 eA57 e51 (by omega) (by omega) rfl) ?_))))))))))
   refine pv (vDz y53) (x_load rfl rfl ((hE59.ext (((((((x2.trans x4).trans x15).trans x17).trans x21).trans x24).below (Nat.le_refl _) x43).trans x63)).agg (vs := [iJ y53.verb, iJ y53.k, iJ y53.m.kind, iJ y53.m.src, iJ y53.m.dst, iJ y53.m.ballot.number, iJ y53.m.ballot.replica, iJ y53.m.r.inst.replica, iJ y53.m.r.inst.slot, iJ y53.m.r.status, iJ y53.m.r.promise.number, iJ y53.m.r.promise.replica, iJ y53.m.r.ballot.number, iJ y53.m.r.ballot.replica, iJ y53.m.r.cmd.kind, iJ y53.m.r.cmd.txn.client, iJ y53.m.r.cmd.txn.number, iJ y53.m.r.cmd.stp.time, iJ y53.m.r.cmd.stp.client, iJ y53.m.r.cmd.shards, .slice y53.p.A y53.m.r.cmd.reads.length y53.p.n, .slice y53.p.B y53.m.r.cmd.writes.length y53.p.m, .bool y53.m.r.cmd.commit, iJ y53.m.r.seq, iJ y53.m.r.deps.d0, iJ y53.m.r.deps.d1, iJ y53.m.r.deps.d2, iJ y53.m.r.deps.d3, iJ y53.m.r.deps.d4, iJ y53.m.r.deps.d5, iJ y53.m.r.deps.d6, .bool y53.m.r.kept]) agg_54_32 0 rfl rfl)) ?_
   refine p_var (v := vDz y53) (vs := [iJ y53.verb, iJ y53.k, iJ y53.m.kind, iJ y53.m.src, iJ y53.m.dst, iJ y53.m.ballot.number, iJ y53.m.ballot.replica, iJ y53.m.r.inst.replica, iJ y53.m.r.inst.slot, iJ y53.m.r.status, iJ y53.m.r.promise.number, iJ y53.m.r.promise.replica, iJ y53.m.r.ballot.number, iJ y53.m.r.ballot.replica, iJ y53.m.r.cmd.kind, iJ y53.m.r.cmd.txn.client, iJ y53.m.r.cmd.txn.number, iJ y53.m.r.cmd.stp.time, iJ y53.m.r.cmd.stp.client, iJ y53.m.r.cmd.shards, .slice y53.p.A y53.m.r.cmd.reads.length y53.p.n, .slice y53.p.B y53.m.r.cmd.writes.length y53.p.m, .bool y53.m.r.cmd.commit, iJ y53.m.r.seq, iJ y53.m.r.deps.d0, iJ y53.m.r.deps.d1, iJ y53.m.r.deps.d2, iJ y53.m.r.deps.d3, iJ y53.m.r.deps.d4, iJ y53.m.r.deps.d5, iJ y53.m.r.deps.d6, .bool y53.m.r.kept]) rfl rfl rfl zero_54 rfl rfl rfl rfl rfl rfl rfl size_54 rfl (fun w64 b65 x66 z67 => ?_)
   refine p_nil (t_norm (c_plain (pv (pJ g6) (x_move rfl e47) ?_)))
   refine pv (.agg #[iJ s25.room, .slice A229 ys31.length c230, iJ s25.sent, iJ s25.came, iJ s25.lost]) (x_load rfl e48 (((hi41.ext x63).ext x66).agg (vs := [iJ s25.room, .slice A229 ys31.length c230, iJ s25.sent, iJ s25.came, iJ s25.lost]) agg_59_5 rfl)) ?_
   refine pv (vDz y53) (x_load rfl rfl (b65.agg (vs := [iJ y53.verb, iJ y53.k, iJ y53.m.kind, iJ y53.m.src, iJ y53.m.dst, iJ y53.m.ballot.number, iJ y53.m.ballot.replica, iJ y53.m.r.inst.replica, iJ y53.m.r.inst.slot, iJ y53.m.r.status, iJ y53.m.r.promise.number, iJ y53.m.r.promise.replica, iJ y53.m.r.ballot.number, iJ y53.m.r.ballot.replica, iJ y53.m.r.cmd.kind, iJ y53.m.r.cmd.txn.client, iJ y53.m.r.cmd.txn.number, iJ y53.m.r.cmd.stp.time, iJ y53.m.r.cmd.stp.client, iJ y53.m.r.cmd.shards, .slice y53.p.A y53.m.r.cmd.reads.length y53.p.n, .slice y53.p.B y53.m.r.cmd.writes.length y53.p.m, .bool y53.m.r.cmd.commit, iJ y53.m.r.seq, iJ y53.m.r.deps.d0, iJ y53.m.r.deps.d1, iJ y53.m.r.deps.d2, iJ y53.m.r.deps.d3, iJ y53.m.r.deps.d4, iJ y53.m.r.deps.d5, iJ y53.m.r.deps.d6, .bool y53.m.r.kept]) agg_54_32 rfl)) ?_
   refine p_call (vs := #[pJ g6, .agg #[iJ s25.room, .slice A229 ys31.length c230, iJ s25.sent, iJ s25.came, iJ s25.lost], vDz y53]) fn_20 rfl rfl rfl (args3 rfl rfl rfl) ?_
   refine (C_does _ g6 s25 A26 c27 zs28 (hi34.ext (x63.trans x66)) A229 c230 ys31 ((hi35.ext x63).ext x66) hi36 (fun w1 o => hi38.mall hR.at_ ((((((((x2.trans x4).trans x15).trans x17).trans x21).trans x24).below (Nat.le_refl _) x43).trans x63).trans x66) hg7b o) (hi39.tame (by omega)) hi39.right y53 (fun w1 o => DAll.off hR.at_ hx54 ((((((((x2.trans x4).trans x15).trans x17).trans x21).trans x24).below (Nat.le_refl _) x43).trans x63).trans x66) hg7b o) hfs hfv).mono ?_
   rintro e w68 ⟨A69, c70, zs71, A72, c73, ys74, rfl, hN75, hL76, o77, kq78, ap79, fr80, sb81⟩
   refine ⟨_, rfl, ?_⟩
   have hbl86 := ((hi41.ext x63).ext x66).lt
   have gd82 := hi39.step (d := y53)
   have sub83 := hi38.step hx54 sb81
   have row84 := kq78 w16.heap.size hbl86 hi40
   have off685 : ∀ ad, A72 = some ad → ad.block ≠ w16.heap.size := fun ad e => (fr80 ad e).elim (hi37 ad) (fun q => by omega)
   refine pv (.tuple #[.agg #[iJ ((doP s25 y53).room), .slice A72 ys74.length c73, iJ ((doP s25 y53).sent), iJ ((doP s25 y53).came), iJ ((doP s25 y53).lost)], .bool true]) (x_move rfl rfl) ?_
   refine pv (.agg #[iJ ((doP s25 y53).room), .slice A72 ys74.length c73, iJ ((doP s25 y53).sent), iJ ((doP s25 y53).came), iJ ((doP s25 y53).lost)]) (x_extract rfl rfl rfl) ?_
   refine pv (.bool true) (x_extract rfl rfl rfl) ?_
   refine p_store (v := .agg #[iJ ((doP s25 y53).room), .slice A72 ys74.length c73, iJ ((doP s25 y53).sent), iJ ((doP s25 y53).came), iJ ((doP s25 y53).lost)]) (vs := [iJ ((doP s25 y53).room), .slice A72 ys74.length c73, iJ ((doP s25 y53).sent), iJ ((doP s25 y53).came), iJ ((doP s25 y53).lost)]) (cs' := [iJ ((doP s25 y53).room), .slice A72 ys74.length c73, iJ ((doP s25 y53).sent), iJ ((doP s25 y53).came), iJ ((doP s25 y53).lost)]) rfl rfl rfl e48 rfl rfl (((hi41.ext x63).ext x66).off ((hi34.box.ext x63).ext x66) o77 (by decide)) size_59 rfl rfl rfl (fun w87 b88 s89 => ?_)
   have b90 := hN75.box.far s89 (by have hz := (Nat.le_trans x15.size x17.size); omega)
   have b91 := (b65.off ((hi34.box.ext x63).ext x66) o77 (by decide)).far s89 (by have hz := (Nat.le_trans (Nat.le_trans x24.size x43.size) x63.size); omega)
   have hN92 := NetIn.other hN75 s89 hnb row84
   have hL93 := RefIn.other hL76 s89 off685
   refine p_nil (b_norm (t_norm (c_quiet (qv (iJ ((k32 : Int) + 1)) (fun _ x' => x_add rfl e51 rfl (wrap_of (by omega) (by omega))) ?_))))
   refine qv (iJ ((k32 : Int) + 1)) (fun _ x' => x_move rfl rfl) ?_
   exact q_nil (fun w94 x95 => t_norm (⟨_, rfl, ⟨k32 + 1, (doP s25 y53), A69, c70, zs71, A72, c73, ys74, by omega, (hN92.ext x95), (hL93.ext x95), ap79, off685, sub83, gd82, row84, (b88.ext x95), e44, e45, e46, e47, e48, e49, e50, rfl, ((((((Below.refl _ _).trans x43).trans ((x63.trans x66).mono (Nat.le_trans (Nat.le_trans (Nat.le_trans (Nat.le_trans (Nat.le_trans (Nat.le_trans x2.size x4.size) x15.size) x17.size) x21.size) x24.size) x43.size))).trans (below_off o77 (Nat.le_trans (Nat.le_trans (Nat.le_trans (Nat.le_trans (Nat.le_trans (Nat.le_trans (Nat.le_trans (Nat.le_trans x2.size x4.size) x15.size) x17.size) x21.size) x24.size) x43.size) x63.size) x66.size) hg7b)).trans (Kept.stored (Nat.le_trans (Nat.le_trans (Nat.le_trans x2.size x4.size) x15.size) x17.size) s89 (((hi41.ext x63).ext x66).off ((hi34.box.ext x63).ext x66) o77 (by decide))).below).trans (x95.mono (Nat.le_trans (Nat.le_trans (Nat.le_trans (Nat.le_trans (Nat.le_trans (Nat.le_trans (Nat.le_trans (Nat.le_trans (Nat.le_trans (Nat.le_trans x2.size x4.size) x15.size) x17.size) x21.size) x24.size) x43.size) x63.size) x66.size) o77.size) (Nat.le_of_eq s89.size.symm))))⟩, meas_up e51 hl52⟩))
  refine c_seq (c_quiet (qv (.bool false) (fun _ x' => yb (x_lss rfl e51 e50) (decide_eq_false (by omega))) ?_))
  refine q_nil (fun w96 x97 => t_norm (c_seq (c_false rfl (c_exit (t_exit (t_exit (b_exit (t_norm (c_seq (c_quiet (qv (iJ (-1)) (fun _ x' => x_assign rfl rfl) ?_)))))))))))
  refine q_nil (fun w98 x99 => t_norm (c_seq (c_seq (c_quiet (qv (.pointer (some (⟨w16.heap.size, 1, none⟩))) (fun _ x' => x_fieldAddr fld_59_1 rfl e48 rfl) ?_)))))
  refine qv (.slice A229 ys31.length c230) (fun _ x' => x_load rfl rfl ((((hi41.ext x97).ext x99).ext x').one one_22 rfl)) ?_
  refine qv (iJ (ys31.length : Int)) (fun _ x' => x_len_slice sl_22 rfl rfl) ?_
  refine qv (iJ ((ys31.length : Int) - 1)) (fun _ x' => x_sub rfl rfl rfl (wrap_of (by omega) (by omega))) ?_
  refine qv (iJ ((ys31.length : Int) - 1)) (fun _ x' => x_assign rfl rfl) ?_
  refine q_nil (fun w100 x101 => t_norm (c_block (c_loop (fun ρ w102 => ∃ k : Nat, k ≤ ys31.length ∧ ρ 2 = iJ a ∧ ρ 3 = iJ b ∧ ρ 8 = .bool false ∧ ρ 9 = pJ g6 ∧ ρ 10 = pJ w16.heap.size ∧ ρ 14 = iJ (fi (fromTo a b) s25.l k) ∧ ρ 15 = iJ ((k : Int) - 1) ∧ Ext w100 w102) (fun ρ _ => (intOf (ρ 15) + 1).toNat) ⟨ys31.length, Nat.le_refl _, e44, e45, e46, e47, e48, (Eq.trans (show _ = Value.int .i64 (-1) from rfl) (congrArg (Value.int .i64) (fi_end (by rw [(((hi35.ext x97).ext x99).ext x101).len]; omega)).symm)), rfl, Ext.refl _⟩ ?_)))
  rintro ρ w102 ⟨k, hk, e104, e105, e106, e107, e108, e109, e110, x103⟩
  by_cases hp : 0 < k
  ·obtain ⟨j, rfl⟩ : ∃ j, k = j + 1 := ⟨k - 1, by omega⟩
   have e15' : ρ 15 = iJ (j : Int) := e110.trans (congrArg (Value.int .i64) (by omega))
   obtain ⟨y111, hx112⟩ := some_of (l := ys31) (k := j) (by omega)
   obtain ⟨ad113, cs114, eA115, hK116, hE117⟩ := hi35.lies j y111 hx112
   have hK116' : cs114 = [iJ y111.1.kind, iJ y111.1.src, iJ y111.1.dst, iJ y111.1.ballot.number, iJ y111.1.ballot.replica, iJ y111.1.r.inst.replica, iJ y111.1.r.inst.slot, iJ y111.1.r.status, iJ y111.1.r.promise.number, iJ y111.1.r.promise.replica, iJ y111.1.r.ballot.number, iJ y111.1.r.ballot.replica, iJ y111.1.r.cmd.kind, iJ y111.1.r.cmd.txn.client, iJ y111.1.r.cmd.txn.number, iJ y111.1.r.cmd.stp.time, iJ y111.1.r.cmd.stp.client, iJ y111.1.r.cmd.shards, .slice y111.2.A y111.1.r.cmd.reads.length y111.2.n, .slice y111.2.B y111.1.r.cmd.writes.length y111.2.m, .bool y111.1.r.cmd.commit, iJ y111.1.r.seq, iJ y111.1.r.deps.d0, iJ y111.1.r.deps.d1, iJ y111.1.r.deps.d2, iJ y111.1.r.deps.d3, iJ y111.1.r.deps.d4, iJ y111.1.r.deps.d5, iJ y111.1.r.deps.d6, .bool y111.1.r.kept] := hK116
   subst hK116'
   have hs118 := hi35.slim _ (at_of hx112)
   refine c_seq (c_seq (c_quiet (qv (iJ (j : Int)) (fun _ x' => x_move rfl e15') ?_)))
   refine qv (.bool true) (fun _ x' => yb (x_geq rfl rfl rfl) (decide_eq_true (by omega))) ?_
   refine q_nil (fun w120 x121 => t_norm (c_true rfl (c_skip (t_norm (c_seq (c_block (c_seq (c_quiet (qv (.pointer (some (⟨w16.heap.size, 1, none⟩))) (fun _ x' => x_fieldAddr fld_59_1 rfl e108 rfl) ?_)))))))))
   refine qv (.slice A229 ys31.length c230) (fun _ x' => x_load rfl rfl (((((((hi41.ext x97).ext x99).ext x101).ext x103).ext x121).ext x').one one_22 rfl)) ?_
   refine qv (iJ (j : Int)) (fun _ x' => x_move rfl e15') ?_
   refine qv (.pointer (some (ad113.add (j * 30)))) (fun _ x' => x_indexAddr sl_22 rfl rfl eA115 rfl (by omega) (by omega) rfl) ?_
   refine qv (.pointer (some ((ad113.add (j * 30)).add 1))) (fun _ x' => x_fieldAddr fld_43_1 rfl rfl rfl) ?_
   refine qv (iJ y111.1.src) (fun _ x' => x_load rfl rfl (((((((hE117.ext x97).ext x99).ext x101).ext x103).ext x121).ext x').one one_3 1 rfl rfl)) ?_
   refine qv (iJ a) (fun _ x' => x_move rfl e104) ?_
   refine q_bool (b := decide (y111.1.src = a)) rfl rfl (fun _ x' => x_eql rfl rfl rfl) (fun c122 => ?_) (fun c122 => ?_)
   ·refine qv (.bool true) (fun _ x' => x_move rfl rfl) ?_
    refine qv (.pointer (some (⟨w16.heap.size, 1, none⟩))) (fun _ x' => x_fieldAddr fld_59_1 rfl e108 rfl) ?_
    refine qv (.slice A229 ys31.length c230) (fun _ x' => x_load rfl rfl (((((((hi41.ext x97).ext x99).ext x101).ext x103).ext x121).ext x').one one_22 rfl)) ?_
    refine qv (iJ (j : Int)) (fun _ x' => x_move rfl e15') ?_
    refine qv (.pointer (some (ad113.add (j * 30)))) (fun _ x' => x_indexAddr sl_22 rfl rfl eA115 rfl (by omega) (by omega) rfl) ?_
    refine qv (.pointer (some ((ad113.add (j * 30)).add 2))) (fun _ x' => x_fieldAddr fld_43_2 rfl rfl rfl) ?_
    refine qv (iJ y111.1.dst) (fun _ x' => x_load rfl rfl (((((((hE117.ext x97).ext x99).ext x101).ext x103).ext x121).ext x').one one_3 2 rfl rfl)) ?_
    refine qv (iJ b) (fun _ x' => x_move rfl e105) ?_
    refine q_bool (b := decide (y111.1.dst = b)) rfl rfl (fun _ x' => x_eql rfl rfl rfl) (fun c123 => ?_) (fun c123 => ?_)
    ·refine qv (.bool true) (fun _ x' => x_pick_t rfl rfl rfl) ?_
     refine q_nil (fun w124 x125 => t_norm (c_true rfl (c_quiet (qv (iJ (j : Int)) (fun _ x' => x_move rfl e15') ?_))))
     refine qv (iJ (j : Int)) (fun _ x' => x_assign rfl rfl) ?_
     refine q_nil (fun w126 x127 => b_norm (t_norm (c_quiet (qv (iJ (j : Int)) (fun _ x' => x_move rfl e15') ?_))))
     refine qv (iJ ((j : Int) - 1)) (fun _ x' => x_sub rfl rfl rfl (wrap_of (by omega) (by omega))) ?_
     refine qv (iJ ((j : Int) - 1)) (fun _ x' => x_assign rfl rfl) ?_
     exact q_nil (fun w128 x129 => t_norm (⟨_, rfl, ⟨j, by omega, e104, e105, e106, e107, e108, (Eq.trans (show _ = Value.int .i64 (j : Int) from rfl) (congrArg (Value.int .i64) (fi_hit (at_map ((((((((hi35.ext x97).ext x99).ext x101).ext x103).ext x121).ext x125).ext x127).ext x129).map hx112) (by simp only [fromTo, Bool.and_eq_true]; exact ⟨c122, c123⟩)).symm)), rfl, ((((x103.trans x121).trans x125).trans x127).trans x129)⟩, meas_down e15'⟩))
    refine qv (.bool false) (fun _ x' => x_pick_t rfl rfl rfl) ?_
    refine q_nil (fun w130 x131 => t_norm (c_false rfl (c_skip (b_norm (t_norm (c_quiet (qv (iJ (j : Int)) (fun _ x' => x_move rfl e15') ?_)))))))
    refine qv (iJ ((j : Int) - 1)) (fun _ x' => x_sub rfl rfl rfl (wrap_of (by omega) (by omega))) ?_
    refine qv (iJ ((j : Int) - 1)) (fun _ x' => x_assign rfl rfl) ?_
    exact q_nil (fun w132 x133 => t_norm (⟨_, rfl, ⟨j, by omega, e104, e105, e106, e107, e108, (Eq.trans (show _ = Value.int .i64 (fi (fromTo a b) s25.l (j + 1)) from e109) (congrArg (Value.int .i64) (fi_miss (at_map (((((((hi35.ext x97).ext x99).ext x101).ext x103).ext x121).ext x131).ext x133).map hx112) (by simp only [fromTo, c122, c123]; rfl)).symm)), rfl, (((x103.trans x121).trans x131).trans x133)⟩, meas_down e15'⟩))
   refine qv (.bool false) (fun _ x' => x_move rfl rfl) ?_
   refine qk rfl rfl (qk rfl rfl (qk rfl rfl (qk rfl rfl (qk rfl rfl (qk rfl rfl (qk rfl rfl (qk rfl rfl (qv (.bool false) (fun _ x' => x_pick_f rfl rfl rfl) ?_))))))))
   refine q_nil (fun w134 x135 => t_norm (c_false rfl (c_skip (b_norm (t_norm (c_quiet (qv (iJ (j : Int)) (fun _ x' => x_move rfl e15') ?_)))))))
   refine qv (iJ ((j : Int) - 1)) (fun _ x' => x_sub rfl rfl rfl (wrap_of (by omega) (by omega))) ?_
   refine qv (iJ ((j : Int) - 1)) (fun _ x' => x_assign rfl rfl) ?_
   exact q_nil (fun w136 x137 => t_norm (⟨_, rfl, ⟨j, by omega, e104, e105, e106, e107, e108, (Eq.trans (show _ = Value.int .i64 (fi (fromTo a b) s25.l (j + 1)) from e109) (congrArg (Value.int .i64) (fi_miss (at_map (((((((hi35.ext x97).ext x99).ext x101).ext x103).ext x121).ext x135).ext x137).map hx112) (by simp only [fromTo, c122]; rfl)).symm)), rfl, (((x103.trans x121).trans x135).trans x137)⟩, meas_down e15'⟩))
  obtain rfl : k = 0 := by omega
  have e15' : ρ 15 = iJ (-1) := e110
  refine c_seq (c_seq (c_quiet (qv (iJ (-1)) (fun _ x' => x_move rfl e15') ?_)))
  refine qv (.bool false) (fun _ x' => yb (x_geq rfl rfl rfl) rfl) ?_
  refine q_nil (fun w138 x139 => t_norm (c_false rfl (c_exit (t_exit (t_exit (b_exit (t_norm (c_seq (c_quiet (qv (pJ g6) (fun _ x' => x_move rfl e107) ?_))))))))))
  refine qv (iJ a) (fun _ x' => x_move rfl e104) ?_
  refine qv (iJ b) (fun _ x' => x_move rfl e105) ?_
  refine q_call (vs := #[pJ g6, iJ a, iJ b]) fn_23 rfl rfl rfl (args3 rfl rfl rfl) (v := iJ (fi (fromTo a b) s25.l 0)) (fun _ x' => C_find _ g6 s25 A26 c27 zs28 ((hi34.ext ((((x97.trans x99).trans x101).trans x103).trans x139)).ext x') a b) ?_
  refine qv (iJ (fi (fromTo a b) s25.l 0)) (fun _ x' => x_move rfl e109) ?_
  refine qv (.bool true) (fun _ x' => yb (x_eql rfl rfl rfl) (by simp)) ?_
  refine qv (.bool true) (fun _ x' => x_move rfl rfl) ?_
  refine q_call (vs := #[]) fn_10 rfl rfl rfl (args0) (v := .bool true) (fun _ x' => C_awake _) ?_
  refine qv (.bool true) (fun _ x' => x_pick_t rfl rfl rfl) ?_
  refine qv (.bool true) (fun _ x' => x_assign rfl rfl) ?_
  exact q_nil (fun w140 x141 => t_norm (c_ret (c_done rfl rfl (Ret.b (rfl) ((((((((((((x2.trans x4).trans x15).trans x17).trans x21).trans x24).below (Nat.le_refl _) x43).trans x97).trans x99).trans x101).trans x103).trans x139).trans x141)))))
 refine qv (.bool true) (fun _ x' => x_not (b := false) rfl rfl) ?_
 refine qv (.bool true) (fun _ x' => x_pick_f rfl rfl rfl) ?_
 refine q_nil (fun w142 x143 => t_norm (c_true rfl (c_seq (c_quiet (q_call (vs := #[]) fn_10 rfl rfl rfl (args0) (v := .bool true) (fun _ x' => C_awake _) ?_)))))
 refine qv (.bool true) (fun _ x' => x_assign rfl rfl) ?_
 exact q_nil (fun w144 x145 => t_norm (c_ret (t_ret (c_done rfl rfl (Ret.b (rfl) (((x2.trans x4).trans x143).trans x145))))))
end Go.Proofs.Ytadeigpphklmfaa
