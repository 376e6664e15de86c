/- A walk through the code of layers below, or of layer 10. -/
import Derived.Test.YtadeigpphklmfaaDos
import Derived.Test.YtadeigpphklmfaaDrs
import Derived.Test.YtadeigpphklmfaaPan
import Derived.Test.YtadeigpphklmfaaB10
namespace Go.Proofs.Ytadeigpphklmfaa
open Go.RowKit Go.Eng
set_option linter.unusedVariables false
set_option linter.unusedSimpArgs false
set_option maxHeartbeats 2000000 in
theorem C_NetPlays (w : World) (room : Int) (A : Option Addr) (c : Nat) (l : List Dz) (hR : D0 w A l) :
    Calls Try.prog 5 #[.int .i64 room, .slice A l.length c] w (Ret w (.bool true)) := by
 have hlen0 := hR.len
 refine c_enter (n := 62) Try.func5 rfl rfl rfl ?_
 refine c_seq (c_quiet (qv (.bool false) (fun _ x' => x_assign rfl rfl) ?_))
 refine q_nil (fun w1 x2 => t_norm (c_seq (c_seq (c_quiet (qv (.slice A l.length c) (fun _ x' => x_move rfl rfl) ?_)))))
 refine q_callb (b := fewD l) (vs := #[.slice A l.length c]) fn_16 rfl rfl rfl (args1 rfl) (fun _ x' => C_fewD _ A c l ((hR.ext x2).ext x')) (fun c3 => ?_) (fun c3 => ?_)
 ·have hfew := c3
  have hl40 := fewD_len hfew
  refine qv (.bool false) (fun _ x' => x_not (b := true) rfl rfl) ?_
  refine q_nil (fun w4 x5 => t_norm (c_false rfl (c_skip (t_norm (c_seq (c_plain (pv (iJ room) (x_move rfl rfl) ?_)))))))
  refine p_call (vs := #[iJ room]) fn_9 rfl rfl rfl (args1 rfl) ?_
  refine (C_new _ room).mono ?_
  rintro e w6 ⟨x7, ⟨hr8, rfl⟩ | ⟨hr8, g9, rfl, hg10, hN11⟩⟩
  ·refine ⟨_, rfl, ?_⟩
   refine pv (.pointer none) (x_assign rfl rfl) ?_
   refine p_nil (t_norm (c_seq (c_plain (pv (iJ room) (x_move rfl rfl) ?_))))
   refine p_call (vs := #[iJ room]) fn_19 rfl rfl rfl (args1 rfl) ?_
   refine (D_new _ room).mono ?_
   rw [decide_eq_false (by omega)]
   rintro e w12 ⟨rfl, x13⟩
   refine ⟨_, rfl, ?_⟩
   refine pv (.tuple #[.agg #[iJ ((newP room).room), .slice none (([] : List (Msg × Ptr)).length) 0, iJ ((newP room).sent), iJ ((newP room).came), iJ ((newP room).lost)], .bool false]) (x_move rfl rfl) ?_
   refine pv (.agg #[iJ ((newP room).room), .slice none (([] : List (Msg × Ptr)).length) 0, iJ ((newP room).sent), iJ ((newP room).came), iJ ((newP room).lost)]) (x_extract rfl rfl rfl) ?_
   refine pv (.bool false) (x_extract rfl rfl rfl) ?_
   refine p_var (v := .agg #[iJ ((newP room).room), .slice none (([] : List (Msg × Ptr)).length) 0, iJ ((newP room).sent), iJ ((newP room).came), iJ ((newP room).lost)]) (vs := [iJ ((newP room).room), .slice none (([] : List (Msg × Ptr)).length) 0, iJ ((newP room).sent), iJ ((newP room).came), iJ ((newP room).lost)]) rfl rfl rfl zero_59 rfl rfl rfl rfl rfl rfl rfl size_59 rfl (fun w15 b16 x17 z18 => ?_)
   refine pv (.bool false) (x_assign rfl rfl) ?_
   refine p_nil (t_norm (c_seq (c_seq (c_quiet (qv (.bool false) (fun _ x' => x_move rfl rfl) ?_)))))
   refine qv (.bool true) (fun _ x' => x_not (b := false) rfl rfl) ?_
   refine qv (.bool true) (fun _ x' => x_move rfl rfl) ?_
   refine qk rfl rfl (qk rfl rfl (qv (.bool true) (fun _ x' => x_pick_t rfl rfl rfl) ?_))
   refine q_nil (fun w19 x20 => t_norm (c_true rfl (c_seq (c_quiet (qv (.bool false) (fun _ x' => x_move rfl rfl) ?_)))))
   refine qv (.bool true) (fun _ x' => x_not (b := false) rfl rfl) ?_
   refine qv (.bool true) (fun _ x' => x_move rfl rfl) ?_
   refine qv (.pointer none) (fun _ x' => x_move rfl rfl) ?_
   refine qv (.bool true) (fun _ x' => x_peqN ptr_23 rfl rfl rfl) ?_
   refine qv (.bool true) (fun _ x' => x_pick_t rfl rfl rfl) ?_
   refine qv (.bool true) (fun _ x' => x_move rfl rfl) ?_
   refine q_call (vs := #[]) fn_10 rfl rfl rfl (args0) (v := .bool true) (fun _ x' => C_awake _) ?_
   refine qv (.bool true) (fun _ x' => x_pick_t rfl rfl rfl) ?_
   refine qv (.bool true) (fun _ x' => x_assign rfl rfl) ?_
   exact q_nil (fun w21 x22 => t_norm (c_ret (t_ret (c_done rfl rfl (Ret.b (rfl) ((((((x2.trans x5).trans x7).trans x13).trans x17).trans x20).trans x22))))))
  refine ⟨_, rfl, ?_⟩
  have hN11l := hN11.box.lt
  have hg10b := Nat.le_trans (Nat.le_trans x2.size x5.size) hg10
  refine pv (pJ g9) (x_assign rfl rfl) ?_
  refine p_nil (t_norm (c_seq (c_plain (pv (iJ room) (x_move rfl rfl) ?_))))
  refine p_call (vs := #[iJ room]) fn_19 rfl rfl rfl (args1 rfl) ?_
  refine (D_new _ room).mono ?_
  rw [decide_eq_true hr8]
  rintro e w23 ⟨rfl, x24⟩
  refine ⟨_, rfl, ?_⟩
  have hL25 := ref_new hr8.1 hr8.2 w23
  refine pv (.tuple #[.agg #[iJ ((newP room).room), .slice none (([] : List (Msg × Ptr)).length) 0, iJ ((newP room).sent), iJ ((newP room).came), iJ ((newP room).lost)], .bool true]) (x_move rfl rfl) ?_
  refine pv (.agg #[iJ ((newP room).room), .slice none (([] : List (Msg × Ptr)).length) 0, iJ ((newP room).sent), iJ ((newP room).came), iJ ((newP room).lost)]) (x_extract rfl rfl rfl) ?_
  refine pv (.bool true) (x_extract rfl rfl rfl) ?_
  refine p_var (v := .agg #[iJ ((newP room).room), .slice none (([] : List (Msg × Ptr)).length) 0, iJ ((newP room).sent), iJ ((newP room).came), iJ ((newP room).lost)]) (vs := [iJ ((newP room).room), .slice none (([] : List (Msg × Ptr)).length) 0, iJ ((newP room).sent), iJ ((newP room).came), iJ ((newP room).lost)]) rfl rfl rfl zero_59 rfl rfl rfl rfl rfl rfl rfl size_59 rfl (fun w26 b27 x28 z29 => ?_)
  refine pv (.bool true) (x_assign rfl rfl) ?_
  refine p_nil (t_norm (c_seq (c_seq (c_quiet (qv (.bool true) (fun _ x' => x_move rfl rfl) ?_)))))
  refine qv (.bool false) (fun _ x' => x_not (b := true) rfl rfl) ?_
  refine qv (.bool false) (fun _ x' => x_move rfl rfl) ?_
  refine qv (pJ g9) (fun _ x' => x_move rfl rfl) ?_
  refine qv (.bool false) (fun _ x' => x_peqS ptr_23 rfl rfl rfl) ?_
  refine qv (.bool false) (fun _ x' => x_pick_f rfl rfl rfl) ?_
  refine q_nil (fun w30 x31 => t_norm (c_false rfl (c_skip (t_norm (c_seq (c_seq (c_quiet (qv (.slice A l.length c) (fun _ x' => x_move rfl rfl) ?_))))))))
  refine qv (iJ (l.length : Int)) (fun _ x' => x_len_slice sl_55 rfl rfl) ?_
  refine qv (iJ 0) (fun _ x' => x_move rfl rfl) ?_
  refine q_nil (fun w32 x33 => t_norm (c_block (c_loop (fun ρ w51 => ∃ k41 : Nat, ∃ s34 : PN, ∃ A35 : Option Addr, ∃ c36 : Nat, ∃ zs37 : List (Msg × Ptr), ∃ A238 : Option Addr, ∃ c239 : Nat, ∃ ys40 : List (Msg × Ptr), k41 ≤ l.length ∧ NetIn 74 w51 g9 s34 A35 c36 zs37 ∧ RefIn w51 s34 A238 c239 ys40 ∧ (∀ ad, A238 = some ad → ad.block ≠ g9) ∧ (∀ ad, A238 = some ad → ad.block ≠ w23.heap.size) ∧ Sub l ys40 ∧ Gd room s34 k41 ∧ RowsOff (w23.heap.size) A35 zs37 ∧ Box w51 (w23.heap.size) 59 [iJ s34.room, .slice A238 ys40.length c239, iJ s34.sent, iJ s34.came, iJ s34.lost] ∧ ρ 5 = pJ g9 ∧ ρ 6 = pJ w23.heap.size ∧ ρ 38 = .slice A l.length c ∧ ρ 39 = iJ (l.length : Int) ∧ ρ 40 = iJ (k41 : Int) ∧ Below w.heap.size w32 w51) (fun ρ _ => l.length - (intOf (ρ 40)).toNat) ⟨0, (newP room), none, 0, ([] : List (Msg × Ptr)), none, 0, [], Nat.zero_le _, (hN11.ext (((x24.trans x28).trans x31).trans x33)), (((hL25.ext x28).ext x31).ext x33), (fun ad e => (by cases e)), (fun ad e => (by cases e)), Sub.nil _, Gd.new _, ⟨(fun ad e => (by cases e)), fun z hz => (by cases hz)⟩, ((b27.ext x31).ext x33), rfl, rfl, rfl, rfl, rfl, Below.refl _ _⟩ ?_)))
  rintro ρ w51 ⟨k41, s34, A35, c36, zs37, A238, c239, ys40, hk42, hi43, hi44, hi45, hi46, hi47, hi48, hi49, hi50, e53, e54, e55, e56, e57, x52⟩
  have hnb : g9 ≠ w23.heap.size := by have hz := x24.size; omega
  have hry := hi44.room
  have hry2 := hi44.r2
  by_cases hl58 : k41 < l.length
  ·obtain ⟨y59, hx60⟩ := some_of (l := l) (k := k41) (by omega)
   obtain ⟨ad61, cs62, eA63, hK64, hE65⟩ := hR.lies k41 y59 hx60
   have hK64' : cs62 = [iJ y59.verb, iJ y59.k, iJ y59.m.kind, iJ y59.m.src, iJ y59.m.dst, iJ y59.m.ballot.number, iJ y59.m.ballot.replica, iJ y59.m.r.inst.replica, iJ y59.m.r.inst.slot, iJ y59.m.r.status, iJ y59.m.r.promise.number, iJ y59.m.r.promise.replica, iJ y59.m.r.ballot.number, iJ y59.m.r.ballot.replica, iJ y59.m.r.cmd.kind, iJ y59.m.r.cmd.txn.client, iJ y59.m.r.cmd.txn.number, iJ y59.m.r.cmd.stp.time, iJ y59.m.r.cmd.stp.client, iJ y59.m.r.cmd.shards, .slice y59.p.A y59.m.r.cmd.reads.length y59.p.n, .slice y59.p.B y59.m.r.cmd.writes.length y59.p.m, .bool y59.m.r.cmd.commit, iJ y59.m.r.seq, iJ y59.m.r.deps.d0, iJ y59.m.r.deps.d1, iJ y59.m.r.deps.d2, iJ y59.m.r.deps.d3, iJ y59.m.r.deps.d4, iJ y59.m.r.deps.d5, iJ y59.m.r.deps.d6, .bool y59.m.r.kept] := hK64
   subst hK64'
   have ha66 := hR.at_.out _ (at_of hx60)
   have hfo := fewD_at hfew hx60
   have hfs := few_slim hfo
   have hfv := few_shorts hfo
   refine c_seq (c_quiet (qv (.bool true) (fun _ x' => yb (x_lss rfl e57 e56) (decide_eq_true (by omega))) ?_))
   refine q_nil (fun w68 x69 => t_norm (c_seq (c_true rfl (c_skip (t_norm (c_seq (c_block (c_seq (c_plain (pv (.pointer (some (ad61.add (k41 * 32)))) (x_indexAddr sl_55 rfl e55 eA63 e57 (by omega) (by omega) rfl) ?_))))))))))
   refine pv (vDz y59) (x_load rfl rfl ((hE65.ext ((((((((x2.trans x5).trans x7).trans x24).trans x28).trans x31).trans x33).below (Nat.le_refl _) x52).trans x69)).agg (vs := [iJ y59.verb, iJ y59.k, iJ y59.m.kind, iJ y59.m.src, iJ y59.m.dst, iJ y59.m.ballot.number, iJ y59.m.ballot.replica, iJ y59.m.r.inst.replica, iJ y59.m.r.inst.slot, iJ y59.m.r.status, iJ y59.m.r.promise.number, iJ y59.m.r.promise.replica, iJ y59.m.r.ballot.number, iJ y59.m.r.ballot.replica, iJ y59.m.r.cmd.kind, iJ y59.m.r.cmd.txn.client, iJ y59.m.r.cmd.txn.number, iJ y59.m.r.cmd.stp.time, iJ y59.m.r.cmd.stp.client, iJ y59.m.r.cmd.shards, .slice y59.p.A y59.m.r.cmd.reads.length y59.p.n, .slice y59.p.B y59.m.r.cmd.writes.length y59.p.m, .bool y59.m.r.cmd.commit, iJ y59.m.r.seq, iJ y59.m.r.deps.d0, iJ y59.m.r.deps.d1, iJ y59.m.r.deps.d2, iJ y59.m.r.deps.d3, iJ y59.m.r.deps.d4, iJ y59.m.r.deps.d5, iJ y59.m.r.deps.d6, .bool y59.m.r.kept]) agg_54_32 0 rfl rfl)) ?_
   refine p_var (v := vDz y59) (vs := [iJ y59.verb, iJ y59.k, iJ y59.m.kind, iJ y59.m.src, iJ y59.m.dst, iJ y59.m.ballot.number, iJ y59.m.ballot.replica, iJ y59.m.r.inst.replica, iJ y59.m.r.inst.slot, iJ y59.m.r.status, iJ y59.m.r.promise.number, iJ y59.m.r.promise.replica, iJ y59.m.r.ballot.number, iJ y59.m.r.ballot.replica, iJ y59.m.r.cmd.kind, iJ y59.m.r.cmd.txn.client, iJ y59.m.r.cmd.txn.number, iJ y59.m.r.cmd.stp.time, iJ y59.m.r.cmd.stp.client, iJ y59.m.r.cmd.shards, .slice y59.p.A y59.m.r.cmd.reads.length y59.p.n, .slice y59.p.B y59.m.r.cmd.writes.length y59.p.m, .bool y59.m.r.cmd.commit, iJ y59.m.r.seq, iJ y59.m.r.deps.d0, iJ y59.m.r.deps.d1, iJ y59.m.r.deps.d2, iJ y59.m.r.deps.d3, iJ y59.m.r.deps.d4, iJ y59.m.r.deps.d5, iJ y59.m.r.deps.d6, .bool y59.m.r.kept]) rfl rfl rfl zero_54 rfl rfl rfl rfl rfl rfl rfl size_54 rfl (fun w70 b71 x72 z73 => ?_)
   refine p_nil (t_norm (c_seq (c_plain (pv (pJ g9) (x_move rfl e53) ?_))))
   refine pv (.agg #[iJ s34.room, .slice A238 ys40.length c239, iJ s34.sent, iJ s34.came, iJ s34.lost]) (x_load rfl e54 (((hi50.ext x69).ext x72).agg (vs := [iJ s34.room, .slice A238 ys40.length c239, iJ s34.sent, iJ s34.came, iJ s34.lost]) agg_59_5 rfl)) ?_
   refine pv (vDz y59) (x_load rfl rfl (b71.agg (vs := [iJ y59.verb, iJ y59.k, iJ y59.m.kind, iJ y59.m.src, iJ y59.m.dst, iJ y59.m.ballot.number, iJ y59.m.ballot.replica, iJ y59.m.r.inst.replica, iJ y59.m.r.inst.slot, iJ y59.m.r.status, iJ y59.m.r.promise.number, iJ y59.m.r.promise.replica, iJ y59.m.r.ballot.number, iJ y59.m.r.ballot.replica, iJ y59.m.r.cmd.kind, iJ y59.m.r.cmd.txn.client, iJ y59.m.r.cmd.txn.number, iJ y59.m.r.cmd.stp.time, iJ y59.m.r.cmd.stp.client, iJ y59.m.r.cmd.shards, .slice y59.p.A y59.m.r.cmd.reads.length y59.p.n, .slice y59.p.B y59.m.r.cmd.writes.length y59.p.m, .bool y59.m.r.cmd.commit, iJ y59.m.r.seq, iJ y59.m.r.deps.d0, iJ y59.m.r.deps.d1, iJ y59.m.r.deps.d2, iJ y59.m.r.deps.d3, iJ y59.m.r.deps.d4, iJ y59.m.r.deps.d5, iJ y59.m.r.deps.d6, .bool y59.m.r.kept]) agg_54_32 rfl)) ?_
   refine p_call (vs := #[pJ g9, .agg #[iJ s34.room, .slice A238 ys40.length c239, iJ s34.sent, iJ s34.came, iJ s34.lost], vDz y59]) fn_20 rfl rfl rfl (args3 rfl rfl rfl) ?_
   refine (C_does _ g9 s34 A35 c36 zs37 (hi43.ext (x69.trans x72)) A238 c239 ys40 ((hi44.ext x69).ext x72) hi45 (fun w1 o => hi47.mall hR.at_ (((((((((x2.trans x5).trans x7).trans x24).trans x28).trans x31).trans x33).below (Nat.le_refl _) x52).trans x69).trans x72) hg10b o) (hi48.tame (by omega)) hi48.right y59 (fun w1 o => DAll.off hR.at_ hx60 (((((((((x2.trans x5).trans x7).trans x24).trans x28).trans x31).trans x33).below (Nat.le_refl _) x52).trans x69).trans x72) hg10b o) hfs hfv).mono ?_
   rintro e w74 ⟨A75, c76, zs77, A78, c79, ys80, rfl, hN81, hL82, o83, kq84, ap85, fr86, sb87⟩
   refine ⟨_, rfl, ?_⟩
   have hbl92 := ((hi50.ext x69).ext x72).lt
   have gd88 := hi48.step (d := y59)
   have sub89 := hi47.step hx60 sb87
   have row90 := kq84 w23.heap.size hbl92 hi49
   have off691 : ∀ ad, A78 = some ad → ad.block ≠ w23.heap.size := fun ad e => (fr86 ad e).elim (hi46 ad) (fun q => by omega)
   refine pv (.tuple #[.agg #[iJ ((doP s34 y59).room), .slice A78 ys80.length c79, iJ ((doP s34 y59).sent), iJ ((doP s34 y59).came), iJ ((doP s34 y59).lost)], .bool true]) (x_move rfl rfl) ?_
   refine pv (.agg #[iJ ((doP s34 y59).room), .slice A78 ys80.length c79, iJ ((doP s34 y59).sent), iJ ((doP s34 y59).came), iJ ((doP s34 y59).lost)]) (x_extract rfl rfl rfl) ?_
   refine pv (.bool true) (x_extract rfl rfl rfl) ?_
   refine p_var (v := .agg #[iJ ((doP s34 y59).room), .slice A78 ys80.length c79, iJ ((doP s34 y59).sent), iJ ((doP s34 y59).came), iJ ((doP s34 y59).lost)]) (vs := [iJ ((doP s34 y59).room), .slice A78 ys80.length c79, iJ ((doP s34 y59).sent), iJ ((doP s34 y59).came), iJ ((doP s34 y59).lost)]) rfl rfl rfl zero_59 rfl rfl rfl rfl rfl rfl rfl size_59 rfl (fun w93 b94 x95 z96 => ?_)
   refine pv (.bool true) (x_assign rfl rfl) ?_
   refine p_nil (t_norm (c_seq (c_plain (pv (.agg #[iJ ((doP s34 y59).room), .slice A78 ys80.length c79, iJ ((doP s34 y59).sent), iJ ((doP s34 y59).came), iJ ((doP s34 y59).lost)]) (x_load rfl rfl (b94.agg (vs := [iJ ((doP s34 y59).room), .slice A78 ys80.length c79, iJ ((doP s34 y59).sent), iJ ((doP s34 y59).came), iJ ((doP s34 y59).lost)]) agg_59_5 rfl)) ?_))))
   refine p_store (v := .agg #[iJ ((doP s34 y59).room), .slice A78 ys80.length c79, iJ ((doP s34 y59).sent), iJ ((doP s34 y59).came), iJ ((doP s34 y59).lost)]) (vs := [iJ ((doP s34 y59).room), .slice A78 ys80.length c79, iJ ((doP s34 y59).sent), iJ ((doP s34 y59).came), iJ ((doP s34 y59).lost)]) (cs' := [iJ ((doP s34 y59).room), .slice A78 ys80.length c79, iJ ((doP s34 y59).sent), iJ ((doP s34 y59).came), iJ ((doP s34 y59).lost)]) rfl rfl rfl e54 rfl rfl ((((hi50.ext x69).ext x72).off ((hi43.box.ext x69).ext x72) o83 (by decide)).ext x95) size_59 rfl rfl rfl (fun w97 b98 s99 => ?_)
   have b100 := (hN81.box.ext x95).far s99 (by have hz := x24.size; omega)
   have b101 := ((b71.off ((hi43.box.ext x69).ext x72) o83 (by decide)).ext x95).far s99 (by have hz := (Nat.le_trans (Nat.le_trans (Nat.le_trans x31.size x33.size) x52.size) x69.size); omega)
   have b102 := b94.far s99 (by have hz := (Nat.le_trans (Nat.le_trans (Nat.le_trans (Nat.le_trans (Nat.le_trans x31.size x33.size) x52.size) x69.size) x72.size) o83.size); omega)
   have hN103 := NetIn.other (hN81.ext x95) s99 hnb row90
   have hL104 := RefIn.other (hL82.ext x95) s99 off691
   refine p_nil (t_norm (c_seq (c_quiet (qv (.bool true) (fun _ x' => x_move rfl rfl) ?_))))
   refine qv (.bool false) (fun _ x' => x_not (b := true) rfl rfl) ?_
   refine qv (.bool false) (fun _ x' => x_move rfl rfl) ?_
   refine qv (pJ g9) (fun _ x' => x_move rfl e53) ?_
   refine qv (.agg #[iJ ((doP s34 y59).room), .slice A78 ys80.length c79, iJ ((doP s34 y59).sent), iJ ((doP s34 y59).came), iJ ((doP s34 y59).lost)]) (fun _ x' => x_load rfl e54 ((b98.ext x').agg (vs := [iJ ((doP s34 y59).room), .slice A78 ys80.length c79, iJ ((doP s34 y59).sent), iJ ((doP s34 y59).came), iJ ((doP s34 y59).lost)]) agg_59_5 rfl)) ?_
   refine q_call (vs := #[pJ g9, .agg #[iJ ((doP s34 y59).room), .slice A78 ys80.length c79, iJ ((doP s34 y59).sent), iJ ((doP s34 y59).came), iJ ((doP s34 y59).lost)]]) fn_21 rfl rfl rfl (args2 rfl rfl) (v := .bool true) (fun _ x' => C_isNet _ g9 (doP s34 y59) A75 c76 zs77 (hN103.ext x') A78 c79 ys80 (hL104.ext x') (sub89.mall hR.at_ (Ext.trans (((((((Below.refl _ _).trans (((((((x2.trans x5).trans x7).trans x24).trans x28).trans x31).trans x33).mono (Nat.le_refl _))).trans x52).trans ((x69.trans x72).mono (Nat.le_trans (Nat.le_trans (Nat.le_trans (Nat.le_trans (Nat.le_trans (Nat.le_trans (Nat.le_trans x2.size x5.size) x7.size) x24.size) x28.size) x31.size) x33.size) x52.size))).trans (below_off o83 (Nat.le_trans (Nat.le_trans (Nat.le_trans (Nat.le_trans (Nat.le_trans (Nat.le_trans (Nat.le_trans (Nat.le_trans (Nat.le_trans x2.size x5.size) x7.size) x24.size) x28.size) x31.size) x33.size) x52.size) x69.size) x72.size) hg10b)).trans (x95.mono (Nat.le_trans (Nat.le_trans (Nat.le_trans (Nat.le_trans (Nat.le_trans (Nat.le_trans (Nat.le_trans (Nat.le_trans (Nat.le_trans (Nat.le_trans x2.size x5.size) x7.size) x24.size) x28.size) x31.size) x33.size) x52.size) x69.size) x72.size) o83.size))).trans (Kept.stored (Nat.le_trans (Nat.le_trans (Nat.le_trans x2.size x5.size) x7.size) x24.size) s99 ((((hi50.ext x69).ext x72).off ((hi43.box.ext x69).ext x72) o83 (by decide)).ext x95)).below) x') hg10b (Off.of (Ext.refl _) _))) ?_
   refine qv (.bool false) (fun _ x' => x_not (b := true) rfl rfl) ?_
   refine qv (.bool false) (fun _ x' => x_pick_f rfl rfl rfl) ?_
   refine q_nil (fun w105 x106 => t_norm (c_false rfl (c_skip (b_norm (t_norm (c_quiet (qv (iJ ((k41 : Int) + 1)) (fun _ x' => x_add rfl e57 rfl (wrap_of (by omega) (by omega))) ?_)))))))
   refine qv (iJ ((k41 : Int) + 1)) (fun _ x' => x_move rfl rfl) ?_
   exact q_nil (fun w107 x108 => t_norm (⟨_, rfl, ⟨k41 + 1, (doP s34 y59), A75, c76, zs77, A78, c79, ys80, by omega, (hN103.ext (x106.trans x108)), ((hL104.ext x106).ext x108), ap85, off691, sub89, gd88, row90, ((b98.ext x106).ext x108), e53, e54, e55, e56, rfl, (((((((Below.refl _ _).trans x52).trans ((x69.trans x72).mono (Nat.le_trans (Nat.le_trans (Nat.le_trans (Nat.le_trans (Nat.le_trans (Nat.le_trans (Nat.le_trans x2.size x5.size) x7.size) x24.size) x28.size) x31.size) x33.size) x52.size))).trans (below_off o83 (Nat.le_trans (Nat.le_trans (Nat.le_trans (Nat.le_trans (Nat.le_trans (Nat.le_trans (Nat.le_trans (Nat.le_trans (Nat.le_trans x2.size x5.size) x7.size) x24.size) x28.size) x31.size) x33.size) x52.size) x69.size) x72.size) hg10b)).trans (x95.mono (Nat.le_trans (Nat.le_trans (Nat.le_trans (Nat.le_trans (Nat.le_trans (Nat.le_trans (Nat.le_trans (Nat.le_trans (Nat.le_trans (Nat.le_trans x2.size x5.size) x7.size) x24.size) x28.size) x31.size) x33.size) x52.size) x69.size) x72.size) o83.size))).trans (Kept.stored (Nat.le_trans (Nat.le_trans (Nat.le_trans x2.size x5.size) x7.size) x24.size) s99 ((((hi50.ext x69).ext x72).off ((hi43.box.ext x69).ext x72) o83 (by decide)).ext x95)).below).trans ((x106.trans x108).mono (Nat.le_trans (Nat.le_trans (Nat.le_trans (Nat.le_trans (Nat.le_trans (Nat.le_trans (Nat.le_trans (Nat.le_trans (Nat.le_trans (Nat.le_trans (Nat.le_trans (Nat.le_trans x2.size x5.size) x7.size) x24.size) x28.size) x31.size) x33.size) x52.size) x69.size) x72.size) o83.size) x95.size) (Nat.le_of_eq s99.size.symm))))⟩, meas_up e57 hl58⟩))
  refine c_seq (c_quiet (qv (.bool false) (fun _ x' => yb (x_lss rfl e57 e56) (decide_eq_false (by omega))) ?_))
  refine q_nil (fun w109 x110 => t_norm (c_seq (c_false rfl (c_exit (t_exit (t_exit (b_exit (t_norm (c_seq (c_quiet (q_call (vs := #[]) fn_10 rfl rfl rfl (args0) (v := .bool true) (fun _ x' => C_awake _) ?_)))))))))))
  refine qv (.bool true) (fun _ x' => x_assign rfl rfl) ?_
  exact q_nil (fun w111 x112 => t_norm (c_ret (c_done rfl rfl (Ret.b (rfl) (((((((((x2.trans x5).trans x7).trans x24).trans x28).trans x31).trans x33).below (Nat.le_refl _) x52).trans x110).trans x112)))))
 refine qv (.bool true) (fun _ x' => x_not (b := false) rfl rfl) ?_
 refine q_nil (fun w113 x114 => t_norm (c_true rfl (c_seq (c_quiet (q_call (vs := #[]) fn_10 rfl rfl rfl (args0) (v := .bool true) (fun _ x' => C_awake _) ?_)))))
 refine qv (.bool true) (fun _ x' => x_assign rfl rfl) ?_
 exact q_nil (fun w115 x116 => t_norm (c_ret (t_ret (c_done rfl rfl (Ret.b (rfl) ((x2.trans x114).trans x116))))))
end Go.Proofs.Ytadeigpphklmfaa
