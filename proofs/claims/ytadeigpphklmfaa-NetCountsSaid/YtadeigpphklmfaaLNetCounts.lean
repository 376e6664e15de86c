/- A walk through the code of layers below, or of layer 10. -/
import Derived.Test.YtadeigpphklmfaaDos
import Derived.Test.YtadeigpphklmfaaDrs
import Derived.Test.YtadeigpphklmfaaPan
import Derived.Test.YtadeigpphklmfaaB10
namespace Go.Proofs.Ytadeigpphklmfaa
open Go.RowKit Go.Eng
set_option linter.unusedVariables false
set_option linter.unusedSimpArgs false
set_option maxHeartbeats 2000000 in
theorem C_NetCounts (w : World) (room : Int) (A : Option Addr) (c : Nat) (l : List Dz) (hR : D0 w A l) :
    Calls Try.prog 6 #[.int .i64 room, .slice A l.length c] w (Ret w (.bool true)) := by
 have hlen0 := hR.len
 refine c_enter (n := 60) Try.func6 rfl rfl rfl ?_
 refine c_seq (c_quiet (qv (.bool false) (fun _ x' => x_assign rfl rfl) ?_))
 refine q_nil (fun w1 x2 => t_norm (c_seq (c_plain (pv (iJ room) (x_move rfl rfl) ?_))))
 refine p_call (vs := #[iJ room]) fn_9 rfl rfl rfl (args1 rfl) ?_
 refine (C_new _ room).mono ?_
 rintro e w3 ⟨x4, ⟨hr5, rfl⟩ | ⟨hr5, g6, rfl, hg7, hN8⟩⟩
 ·refine ⟨_, rfl, ?_⟩
  refine pv (.pointer none) (x_assign rfl rfl) ?_
  refine p_nil (t_norm (c_seq (c_seq (c_quiet (qv (.pointer none) (fun _ x' => x_move rfl rfl) ?_)))))
  refine qv (.bool true) (fun _ x' => x_peqN ptr_23 rfl rfl rfl) ?_
  refine qv (.bool true) (fun _ x' => x_move rfl rfl) ?_
  refine qk rfl rfl (qk rfl rfl (qk rfl rfl (qv (.bool true) (fun _ x' => x_pick_t rfl rfl rfl) ?_)))
  refine q_nil (fun w9 x10 => t_norm (c_true rfl (c_seq (c_quiet (q_call (vs := #[]) fn_10 rfl rfl rfl (args0) (v := .bool true) (fun _ x' => C_awake _) ?_)))))
  refine qv (.bool true) (fun _ x' => x_assign rfl rfl) ?_
  exact q_nil (fun w11 x12 => t_norm (c_ret (t_ret (c_done rfl rfl (Ret.b (rfl) (((x2.trans x4).trans x10).trans x12))))))
 refine ⟨_, rfl, ?_⟩
 have hN8l := hN8.box.lt
 have hg7b := Nat.le_trans x2.size hg7
 refine pv (pJ g6) (x_assign rfl rfl) ?_
 refine p_nil (t_norm (c_seq (c_seq (c_quiet (qv (pJ g6) (fun _ x' => x_move rfl rfl) ?_)))))
 refine qv (.bool false) (fun _ x' => x_peqS ptr_23 rfl rfl rfl) ?_
 refine qv (.bool false) (fun _ x' => x_move rfl rfl) ?_
 refine qv (.slice A l.length c) (fun _ x' => x_move rfl rfl) ?_
 refine q_callb (b := fewD l) (vs := #[.slice A l.length c]) fn_16 rfl rfl rfl (args1 rfl) (fun _ x' => C_fewD _ A c l (((hR.ext x2).ext x4).ext x')) (fun c13 => ?_) (fun c13 => ?_)
 ·have hfew := c13
  have hl40 := fewD_len hfew
  refine qv (.bool false) (fun _ x' => x_not (b := true) rfl rfl) ?_
  refine qv (.bool false) (fun _ x' => x_pick_f rfl rfl rfl) ?_
  refine q_nil (fun w14 x15 => t_norm (c_false rfl (c_skip (t_norm (c_seq (c_plain (pv (iJ room) (x_move rfl rfl) ?_)))))))
  refine p_call (vs := #[iJ room]) fn_19 rfl rfl rfl (args1 rfl) ?_
  refine (D_new _ room).mono ?_
  rw [decide_eq_true hr5]
  rintro e w16 ⟨rfl, x17⟩
  refine ⟨_, rfl, ?_⟩
  have hL18 := ref_new hr5.1 hr5.2 w16
  refine pv (.tuple #[.agg #[iJ ((newP room).room), .slice none (([] : List (Msg × Ptr)).length) 0, iJ ((newP room).sent), iJ ((newP room).came), iJ ((newP room).lost)], .bool true]) (x_move rfl rfl) ?_
  refine pv (.agg #[iJ ((newP room).room), .slice none (([] : List (Msg × Ptr)).length) 0, iJ ((newP room).sent), iJ ((newP room).came), iJ ((newP room).lost)]) (x_extract rfl rfl rfl) ?_
  refine pv (.bool true) (x_extract rfl rfl rfl) ?_
  refine p_var (v := .agg #[iJ ((newP room).room), .slice none (([] : List (Msg × Ptr)).length) 0, iJ ((newP room).sent), iJ ((newP room).came), iJ ((newP room).lost)]) (vs := [iJ ((newP room).room), .slice none (([] : List (Msg × Ptr)).length) 0, iJ ((newP room).sent), iJ ((newP room).came), iJ ((newP room).lost)]) rfl rfl rfl zero_59 rfl rfl rfl rfl rfl rfl rfl size_59 rfl (fun w19 b20 x21 z22 => ?_)
  refine pv (.bool true) (x_assign rfl rfl) ?_
  refine p_nil (t_norm (c_seq (c_seq (c_quiet (qv (.slice A l.length c) (fun _ x' => x_move rfl rfl) ?_)))))
  refine qv (iJ (l.length : Int)) (fun _ x' => x_len_slice sl_55 rfl rfl) ?_
  refine qv (iJ 0) (fun _ x' => x_move rfl rfl) ?_
  refine q_nil (fun w23 x24 => t_norm (c_block (c_loop (fun ρ w42 => ∃ k32 : Nat, ∃ s25 : PN, ∃ A26 : Option Addr, ∃ c27 : Nat, ∃ zs28 : List (Msg × Ptr), ∃ A229 : Option Addr, ∃ c230 : Nat, ∃ ys31 : List (Msg × Ptr), k32 ≤ l.length ∧ NetIn 74 w42 g6 s25 A26 c27 zs28 ∧ RefIn w42 s25 A229 c230 ys31 ∧ (∀ ad, A229 = some ad → ad.block ≠ g6) ∧ (∀ ad, A229 = some ad → ad.block ≠ w16.heap.size) ∧ Sub l ys31 ∧ Gd room s25 k32 ∧ RowsOff (w16.heap.size) A26 zs28 ∧ Box w42 (w16.heap.size) 59 [iJ s25.room, .slice A229 ys31.length c230, iJ s25.sent, iJ s25.came, iJ s25.lost] ∧ ρ 0 = iJ room ∧ ρ 5 = pJ g6 ∧ ρ 6 = pJ w16.heap.size ∧ ρ 26 = .slice A l.length c ∧ ρ 27 = iJ (l.length : Int) ∧ ρ 28 = iJ (k32 : Int) ∧ Below w.heap.size w23 w42) (fun ρ _ => l.length - (intOf (ρ 28)).toNat) ⟨0, (newP room), none, 0, ([] : List (Msg × Ptr)), none, 0, [], Nat.zero_le _, (hN8.ext (((x15.trans x17).trans x21).trans x24)), ((hL18.ext x21).ext x24), (fun ad e => (by cases e)), (fun ad e => (by cases e)), Sub.nil _, Gd.new _, ⟨(fun ad e => (by cases e)), fun z hz => (by cases hz)⟩, (b20.ext x24), rfl, rfl, rfl, rfl, rfl, rfl, Below.refl _ _⟩ ?_)))
  rintro ρ w42 ⟨k32, s25, A26, c27, zs28, A229, c230, ys31, hk33, hi34, hi35, hi36, hi37, hi38, hi39, hi40, hi41, e44, e45, e46, e47, e48, e49, x43⟩
  have hnb : g6 ≠ w16.heap.size := by have hz := (Nat.le_trans x15.size x17.size); omega
  have hry := hi35.room
  have hry2 := hi35.r2
  by_cases hl50 : k32 < l.length
  ·obtain ⟨y51, hx52⟩ := some_of (l := l) (k := k32) (by omega)
   obtain ⟨ad53, cs54, eA55, hK56, hE57⟩ := hR.lies k32 y51 hx52
   have hK56' : cs54 = [iJ y51.verb, iJ y51.k, iJ y51.m.kind, iJ y51.m.src, iJ y51.m.dst, iJ y51.m.ballot.number, iJ y51.m.ballot.replica, iJ y51.m.r.inst.replica, iJ y51.m.r.inst.slot, iJ y51.m.r.status, iJ y51.m.r.promise.number, iJ y51.m.r.promise.replica, iJ y51.m.r.ballot.number, iJ y51.m.r.ballot.replica, iJ y51.m.r.cmd.kind, iJ y51.m.r.cmd.txn.client, iJ y51.m.r.cmd.txn.number, iJ y51.m.r.cmd.stp.time, iJ y51.m.r.cmd.stp.client, iJ y51.m.r.cmd.shards, .slice y51.p.A y51.m.r.cmd.reads.length y51.p.n, .slice y51.p.B y51.m.r.cmd.writes.length y51.p.m, .bool y51.m.r.cmd.commit, iJ y51.m.r.seq, iJ y51.m.r.deps.d0, iJ y51.m.r.deps.d1, iJ y51.m.r.deps.d2, iJ y51.m.r.deps.d3, iJ y51.m.r.deps.d4, iJ y51.m.r.deps.d5, iJ y51.m.r.deps.d6, .bool y51.m.r.kept] := hK56
   subst hK56'
   have ha58 := hR.at_.out _ (at_of hx52)
   have hfo := fewD_at hfew hx52
   have hfs := few_slim hfo
   have hfv := few_shorts hfo
   refine c_seq (c_quiet (qv (.bool true) (fun _ x' => yb (x_lss rfl e49 e48) (decide_eq_true (by omega))) ?_))
   refine q_nil (fun w60 x61 => t_norm (c_seq (c_true rfl (c_skip (t_norm (c_seq (c_block (c_seq (c_plain (pv (.pointer (some (ad53.add (k32 * 32)))) (x_indexAddr sl_55 rfl e47 eA55 e49 (by omega) (by omega) rfl) ?_))))))))))
   refine pv (vDz y51) (x_load rfl rfl ((hE57.ext (((((((x2.trans x4).trans x15).trans x17).trans x21).trans x24).below (Nat.le_refl _) x43).trans x61)).agg (vs := [iJ y51.verb, iJ y51.k, iJ y51.m.kind, iJ y51.m.src, iJ y51.m.dst, iJ y51.m.ballot.number, iJ y51.m.ballot.replica, iJ y51.m.r.inst.replica, iJ y51.m.r.inst.slot, iJ y51.m.r.status, iJ y51.m.r.promise.number, iJ y51.m.r.promise.replica, iJ y51.m.r.ballot.number, iJ y51.m.r.ballot.replica, iJ y51.m.r.cmd.kind, iJ y51.m.r.cmd.txn.client, iJ y51.m.r.cmd.txn.number, iJ y51.m.r.cmd.stp.time, iJ y51.m.r.cmd.stp.client, iJ y51.m.r.cmd.shards, .slice y51.p.A y51.m.r.cmd.reads.length y51.p.n, .slice y51.p.B y51.m.r.cmd.writes.length y51.p.m, .bool y51.m.r.cmd.commit, iJ y51.m.r.seq, iJ y51.m.r.deps.d0, iJ y51.m.r.deps.d1, iJ y51.m.r.deps.d2, iJ y51.m.r.deps.d3, iJ y51.m.r.deps.d4, iJ y51.m.r.deps.d5, iJ y51.m.r.deps.d6, .bool y51.m.r.kept]) agg_54_32 0 rfl rfl)) ?_
   refine p_var (v := vDz y51) (vs := [iJ y51.verb, iJ y51.k, iJ y51.m.kind, iJ y51.m.src, iJ y51.m.dst, iJ y51.m.ballot.number, iJ y51.m.ballot.replica, iJ y51.m.r.inst.replica, iJ y51.m.r.inst.slot, iJ y51.m.r.status, iJ y51.m.r.promise.number, iJ y51.m.r.promise.replica, iJ y51.m.r.ballot.number, iJ y51.m.r.ballot.replica, iJ y51.m.r.cmd.kind, iJ y51.m.r.cmd.txn.client, iJ y51.m.r.cmd.txn.number, iJ y51.m.r.cmd.stp.time, iJ y51.m.r.cmd.stp.client, iJ y51.m.r.cmd.shards, .slice y51.p.A y51.m.r.cmd.reads.length y51.p.n, .slice y51.p.B y51.m.r.cmd.writes.length y51.p.m, .bool y51.m.r.cmd.commit, iJ y51.m.r.seq, iJ y51.m.r.deps.d0, iJ y51.m.r.deps.d1, iJ y51.m.r.deps.d2, iJ y51.m.r.deps.d3, iJ y51.m.r.deps.d4, iJ y51.m.r.deps.d5, iJ y51.m.r.deps.d6, .bool y51.m.r.kept]) rfl rfl rfl zero_54 rfl rfl rfl rfl rfl rfl rfl size_54 rfl (fun w62 b63 x64 z65 => ?_)
   refine p_nil (t_norm (c_seq (c_plain (pv (pJ g6) (x_move rfl e45) ?_))))
   refine pv (.agg #[iJ s25.room, .slice A229 ys31.length c230, iJ s25.sent, iJ s25.came, iJ s25.lost]) (x_load rfl e46 (((hi41.ext x61).ext x64).agg (vs := [iJ s25.room, .slice A229 ys31.length c230, iJ s25.sent, iJ s25.came, iJ s25.lost]) agg_59_5 rfl)) ?_
   refine pv (vDz y51) (x_load rfl rfl (b63.agg (vs := [iJ y51.verb, iJ y51.k, iJ y51.m.kind, iJ y51.m.src, iJ y51.m.dst, iJ y51.m.ballot.number, iJ y51.m.ballot.replica, iJ y51.m.r.inst.replica, iJ y51.m.r.inst.slot, iJ y51.m.r.status, iJ y51.m.r.promise.number, iJ y51.m.r.promise.replica, iJ y51.m.r.ballot.number, iJ y51.m.r.ballot.replica, iJ y51.m.r.cmd.kind, iJ y51.m.r.cmd.txn.client, iJ y51.m.r.cmd.txn.number, iJ y51.m.r.cmd.stp.time, iJ y51.m.r.cmd.stp.client, iJ y51.m.r.cmd.shards, .slice y51.p.A y51.m.r.cmd.reads.length y51.p.n, .slice y51.p.B y51.m.r.cmd.writes.length y51.p.m, .bool y51.m.r.cmd.commit, iJ y51.m.r.seq, iJ y51.m.r.deps.d0, iJ y51.m.r.deps.d1, iJ y51.m.r.deps.d2, iJ y51.m.r.deps.d3, iJ y51.m.r.deps.d4, iJ y51.m.r.deps.d5, iJ y51.m.r.deps.d6, .bool y51.m.r.kept]) agg_54_32 rfl)) ?_
   refine p_call (vs := #[pJ g6, .agg #[iJ s25.room, .slice A229 ys31.length c230, iJ s25.sent, iJ s25.came, iJ s25.lost], vDz y51]) fn_20 rfl rfl rfl (args3 rfl rfl rfl) ?_
   refine (C_does _ g6 s25 A26 c27 zs28 (hi34.ext (x61.trans x64)) A229 c230 ys31 ((hi35.ext x61).ext x64) hi36 (fun w1 o => hi38.mall hR.at_ ((((((((x2.trans x4).trans x15).trans x17).trans x21).trans x24).below (Nat.le_refl _) x43).trans x61).trans x64) hg7b o) (hi39.tame (by omega)) hi39.right y51 (fun w1 o => DAll.off hR.at_ hx52 ((((((((x2.trans x4).trans x15).trans x17).trans x21).trans x24).below (Nat.le_refl _) x43).trans x61).trans x64) hg7b o) hfs hfv).mono ?_
   rintro e w66 ⟨A67, c68, zs69, A70, c71, ys72, rfl, hN73, hL74, o75, kq76, ap77, fr78, sb79⟩
   refine ⟨_, rfl, ?_⟩
   have hbl84 := ((hi41.ext x61).ext x64).lt
   have gd80 := hi39.step (d := y51)
   have sub81 := hi38.step hx52 sb79
   have row82 := kq76 w16.heap.size hbl84 hi40
   have off683 : ∀ ad, A70 = some ad → ad.block ≠ w16.heap.size := fun ad e => (fr78 ad e).elim (hi37 ad) (fun q => by omega)
   have hq0 := gd80.c0
   have hq1 := gd80.c1
   have hq2 := gd80.l0
   have hq3 := gd80.l1
   have hq4 := gd80.cons
   have hq5 := gd80.room
   have hp0 := hN73.room
   have hp1 := hN73.len
   have hp2 := hN73.r2
   refine pv (.tuple #[.agg #[iJ ((doP s25 y51).room), .slice A70 ys72.length c71, iJ ((doP s25 y51).sent), iJ ((doP s25 y51).came), iJ ((doP s25 y51).lost)], .bool true]) (x_move rfl rfl) ?_
   refine pv (.agg #[iJ ((doP s25 y51).room), .slice A70 ys72.length c71, iJ ((doP s25 y51).sent), iJ ((doP s25 y51).came), iJ ((doP s25 y51).lost)]) (x_extract rfl rfl rfl) ?_
   refine pv (.bool true) (x_extract rfl rfl rfl) ?_
   refine p_store (v := .agg #[iJ ((doP s25 y51).room), .slice A70 ys72.length c71, iJ ((doP s25 y51).sent), iJ ((doP s25 y51).came), iJ ((doP s25 y51).lost)]) (vs := [iJ ((doP s25 y51).room), .slice A70 ys72.length c71, iJ ((doP s25 y51).sent), iJ ((doP s25 y51).came), iJ ((doP s25 y51).lost)]) (cs' := [iJ ((doP s25 y51).room), .slice A70 ys72.length c71, iJ ((doP s25 y51).sent), iJ ((doP s25 y51).came), iJ ((doP s25 y51).lost)]) rfl rfl rfl e46 rfl rfl (((hi41.ext x61).ext x64).off ((hi34.box.ext x61).ext x64) o75 (by decide)) size_59 rfl rfl rfl (fun w85 b86 s87 => ?_)
   have b88 := hN73.box.far s87 (by have hz := (Nat.le_trans x15.size x17.size); omega)
   have b89 := (b63.off ((hi34.box.ext x61).ext x64) o75 (by decide)).far s87 (by have hz := (Nat.le_trans (Nat.le_trans x24.size x43.size) x61.size); omega)
   have hN90 := NetIn.other hN73 s87 hnb row82
   have hL91 := RefIn.other hL74 s87 off683
   refine p_nil (t_norm (c_seq (c_plain (pv (pJ g6) (x_move rfl e45) ?_))))
   refine p_call (vs := #[pJ g6]) fn_22 rfl rfl rfl (args1 rfl) ?_
   refine (C_tally _ g6 (doP s25 y51) A67 c68 zs69 hN90).mono ?_
   rintro e w92 ⟨rfl, x93⟩
   refine ⟨_, rfl, ?_⟩
   refine p_var (v := .agg #[iJ ((doP s25 y51).sent), iJ ((doP s25 y51).came), iJ ((doP s25 y51).lost)]) (vs := [iJ ((doP s25 y51).sent), iJ ((doP s25 y51).came), iJ ((doP s25 y51).lost)]) rfl rfl rfl zero_66 rfl rfl rfl rfl rfl rfl rfl size_66 rfl (fun w94 b95 x96 z97 => ?_)
   refine p_nil (t_norm (c_seq (c_draw mixed (by kernel_rfl) (qv (pJ w92.heap.size) (fun _ x' => x_fieldAddr fld_66_0 rfl rfl rfl) ?_))))
   refine qv (iJ ((doP s25 y51).sent)) (fun _ x' => x_load rfl rfl ((b95.ext x').one one_3 rfl)) ?_
   refine qv (.pointer (some (⟨w92.heap.size, 1, none⟩))) (fun _ x' => x_fieldAddr fld_66_1 rfl rfl rfl) ?_
   refine qv (iJ ((doP s25 y51).came)) (fun _ x' => x_load rfl rfl ((b95.ext x').one one_3 rfl)) ?_
   refine qv (.pointer (some (⟨w92.heap.size, 2, none⟩))) (fun _ x' => x_fieldAddr fld_66_2 rfl rfl rfl) ?_
   refine qv (iJ ((doP s25 y51).lost)) (fun _ x' => x_load rfl rfl ((b95.ext x').one one_3 rfl)) ?_
   refine qv (iJ (((doP s25 y51).came) + ((doP s25 y51).lost))) (fun _ x' => x_add rfl rfl rfl (wrap_of (by omega) (by omega))) ?_
   refine qv (pJ g6) (fun _ x' => x_move rfl e45) ?_
   refine q_call (vs := #[pJ g6]) fn_15 rfl rfl rfl (args1 rfl) (v := iJ ((doP s25 y51).l.length : Int)) (fun _ x' => C_len _ g6 (doP s25 y51) A67 c68 zs69 ((hN90.ext (x93.trans x96)).ext x')) ?_
   refine qv (iJ ((((doP s25 y51).came) + ((doP s25 y51).lost)) + ((doP s25 y51).l.length : Int))) (fun _ x' => x_add rfl rfl rfl (wrap_of (by omega) (by omega))) ?_
   refine q_bool (b := decide ((doP s25 y51).sent ≠ (((doP s25 y51).came) + ((doP s25 y51).lost)) + ((doP s25 y51).l.length : Int))) rfl rfl (fun _ x' => x_neq rfl rfl rfl) (fun c98 => ?_) (fun c98 => ?_)
   ·
    exfalso
    have hqq := of_decide_eq_true c98
    omega
   refine qv (.bool false) (fun _ x' => x_move rfl rfl) ?_
   refine qv (pJ g6) (fun _ x' => x_move rfl e45) ?_
   refine q_call (vs := #[pJ g6]) fn_15 rfl rfl rfl (args1 rfl) (v := iJ ((doP s25 y51).l.length : Int)) (fun _ x' => C_len _ g6 (doP s25 y51) A67 c68 zs69 ((hN90.ext (x93.trans x96)).ext x')) ?_
   refine qv (iJ room) (fun _ x' => x_move rfl e44) ?_
   refine q_bool (b := decide (((doP s25 y51).l.length : Int) > room)) rfl rfl (fun _ x' => x_gtr rfl rfl rfl) (fun c99 => ?_) (fun c99 => ?_)
   ·
    exfalso
    have hqq := of_decide_eq_true c99
    omega
   refine qv (.bool false) (fun _ x' => x_pick_f rfl rfl rfl) ?_
   refine q_nil (fun w100 x101 => t_norm (c_false rfl (c_skip (b_norm (t_norm (c_quiet (qv (iJ ((k32 : Int) + 1)) (fun _ x' => x_add rfl e49 rfl (wrap_of (by omega) (by omega))) ?_)))))))
   refine qv (iJ ((k32 : Int) + 1)) (fun _ x' => x_move rfl rfl) ?_
   exact q_nil (fun w102 x103 => t_norm (⟨_, rfl, ⟨k32 + 1, (doP s25 y51), A67, c68, zs69, A70, c71, ys72, by omega, (hN90.ext (((x93.trans x96).trans x101).trans x103)), ((((hL91.ext x93).ext x96).ext x101).ext x103), ap77, off683, sub81, gd80, row82, ((((b86.ext x93).ext x96).ext x101).ext x103), e44, e45, e46, e47, e48, rfl, ((((((Below.refl _ _).trans x43).trans ((x61.trans x64).mono (Nat.le_trans (Nat.le_trans (Nat.le_trans (Nat.le_trans (Nat.le_trans (Nat.le_trans x2.size x4.size) x15.size) x17.size) x21.size) x24.size) x43.size))).trans (below_off o75 (Nat.le_trans (Nat.le_trans (Nat.le_trans (Nat.le_trans (Nat.le_trans (Nat.le_trans (Nat.le_trans (Nat.le_trans x2.size x4.size) x15.size) x17.size) x21.size) x24.size) x43.size) x61.size) x64.size) hg7b)).trans (Kept.stored (Nat.le_trans (Nat.le_trans (Nat.le_trans x2.size x4.size) x15.size) x17.size) s87 (((hi41.ext x61).ext x64).off ((hi34.box.ext x61).ext x64) o75 (by decide))).below).trans ((((x93.trans x96).trans x101).trans x103).mono (Nat.le_trans (Nat.le_trans (Nat.le_trans (Nat.le_trans (Nat.le_trans (Nat.le_trans (Nat.le_trans (Nat.le_trans (Nat.le_trans (Nat.le_trans x2.size x4.size) x15.size) x17.size) x21.size) x24.size) x43.size) x61.size) x64.size) o75.size) (Nat.le_of_eq s87.size.symm))))⟩, meas_up e49 hl50⟩))
  refine c_seq (c_quiet (qv (.bool false) (fun _ x' => yb (x_lss rfl e49 e48) (decide_eq_false (by omega))) ?_))
  refine q_nil (fun w104 x105 => t_norm (c_seq (c_false rfl (c_exit (t_exit (t_exit (b_exit (t_norm (c_seq (c_quiet (q_call (vs := #[]) fn_10 rfl rfl rfl (args0) (v := .bool true) (fun _ x' => C_awake _) ?_)))))))))))
  refine qv (.bool true) (fun _ x' => x_assign rfl rfl) ?_
  exact q_nil (fun w106 x107 => t_norm (c_ret (c_done rfl rfl (Ret.b (rfl) ((((((((x2.trans x4).trans x15).trans x17).trans x21).trans x24).below (Nat.le_refl _) x43).trans x105).trans x107)))))
 refine qv (.bool true) (fun _ x' => x_not (b := false) rfl rfl) ?_
 refine qv (.bool true) (fun _ x' => x_pick_f rfl rfl rfl) ?_
 refine q_nil (fun w108 x109 => t_norm (c_true rfl (c_seq (c_quiet (q_call (vs := #[]) fn_10 rfl rfl rfl (args0) (v := .bool true) (fun _ x' => C_awake _) ?_)))))
 refine qv (.bool true) (fun _ x' => x_assign rfl rfl) ?_
 exact q_nil (fun w110 x111 => t_norm (c_ret (t_ret (c_done rfl rfl (Ret.b (rfl) (((x2.trans x4).trans x109).trans x111))))))
end Go.Proofs.Ytadeigpphklmfaa
