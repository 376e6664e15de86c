/- A walk through the code of layers below, or of layer 13. -/
import Derived.Test.YtgamfmkefipngaaRfa
import Derived.Test.YtgamfmkefipngaaDrs
import Derived.Test.YtgamfmkefipngaaPan
import Derived.Test.YtgamfmkefipngaaB1
namespace Go.Proofs.Ytgamfmkefipngaa
open Go.RowKit Go.Eng
set_option linter.unusedVariables false
set_option linter.unusedSimpArgs false
theorem C_counted (w : World) (A : Option Addr) (c : Nat) (l : List Vt) (hV : Vts w A l) :
    Calls Try.prog 24 #[.slice A l.length c] w (fun e w' => ∃ A' c' b, e = .returned (.tuple #[.slice A' (counted l).length c', .map (some b)]) ∧ Vts w' A' (counted l) ∧ MapI Try.prog w' 3 3 b 1000 (cnt l) ∧ Ext w w') := by
 have hlen0 := hV.len
 refine c_enter (n := 32) Try.func24 rfl rfl rfl ?_
 refine c_seq (c_quiet (qv (.slice none 0 0) (fun _ x' => x_assign rfl rfl) ?_))
 refine qv (.map none) (fun _ x' => x_assign rfl rfl) ?_
 refine q_nil (fun w1 x2 => t_norm (c_seq (c_quiet (qv (.slice none 0 0) (fun _ x' => x_assign rfl rfl) ?_))))
 refine q_nil (fun w3 x4 => t_norm (c_seq (c_plain (p_makeMapI (P := Try.prog) (k := 3) (e := 3) rfl rfl rfl (fun w5 hm6 x7 z8 => ?_)))))
 refine pv (.map (some w3.heap.size)) (x_assign rfl rfl) ?_
 refine p_nil (t_norm (c_seq (c_seq (c_quiet (qv (.slice A l.length c) (fun _ x' => x_move rfl rfl) ?_)))))
 refine qv (iJ (l.length : Int)) (fun _ x' => x_len_slice sl_44 rfl rfl) ?_
 refine qv (iJ 0) (fun _ x' => x_move rfl rfl) ?_
 refine q_nil (fun w9 x10 => t_norm (c_block (c_loop (fun ρ w17 => ∃ k11 : Nat, ∃ A14 : Option Addr, ∃ c15 : Nat, k11 ≤ l.length ∧ MapI Try.prog w17 3 3 w3.heap.size k11 (cnt (l.take k11)) ∧ Own fVt 26 w17 w.heap.size 63 A14 c15 (counted (l.take k11)) ∧ ρ 2 = .slice none 0 0 ∧ ρ 3 = .map none ∧ ρ 5 = .map (some w3.heap.size) ∧ ρ 9 = .slice A l.length c ∧ ρ 10 = iJ (l.length : Int) ∧ ρ 4 = .slice A14 ((counted (l.take k11)).length) c15 ∧ ρ 11 = iJ (k11 : Int) ∧ Below w.heap.size w9 w17) (fun ρ _ => l.length - (intOf (ρ 11)).toNat) ⟨0, none, 0, Nat.zero_le _, ((hm6.ext x10).congr (fun _ => rfl) (Nat.le_refl _)), (by rw [(show counted (l.take 0) = ([] : List Vt) from rfl)]; exact (Own.nil _ _ _ _ _)), rfl, rfl, rfl, rfl, rfl, (by rw [(show counted (l.take 0) = ([] : List Vt) from rfl)]; exact rfl), rfl, Below.refl _ _⟩ ?_)))
 rintro ρ w17 ⟨k11, A14, c15, hk12, hi13, ho16, e19, e20, e21, e22, e23, e24, e25, x18⟩
 by_cases hl26 : k11 < l.length
 ·obtain ⟨y27, hx28⟩ := some_of (l := l) (k := k11) (by omega)
  obtain ⟨ad29, cs30, eA31, hK32, hE33⟩ := hV.lies k11 y27 hx28
  have hK32' : cs30 = [iJ y27.src, iJ y27.r.inst.replica, iJ y27.r.inst.slot, iJ y27.r.status, iJ y27.r.promise.number, iJ y27.r.promise.replica, iJ y27.r.ballot.number, iJ y27.r.ballot.replica, iJ y27.r.cmd.kind, iJ y27.r.cmd.txn.client, iJ y27.r.cmd.txn.number, iJ y27.r.cmd.stp.time, iJ y27.r.cmd.stp.client, iJ y27.r.cmd.shards, .slice y27.p.A y27.r.cmd.reads.length y27.p.n, .slice y27.p.B y27.r.cmd.writes.length y27.p.m, .bool y27.r.cmd.commit, iJ y27.r.seq, iJ y27.r.deps.d0, iJ y27.r.deps.d1, iJ y27.r.deps.d2, iJ y27.r.deps.d3, iJ y27.r.deps.d4, iJ y27.r.deps.d5, iJ y27.r.deps.d6, .bool y27.r.kept] := hK32
  subst hK32'
  have ha34 := hV.at_.out _ (at_of hx28)
  have hs35 := hV.slim _ (at_of hx28)
  have hlen := hV.len
  have hcb := cnt_bound l k11 y27.src
  have hct := counted_take l k11
  refine c_seq (c_quiet (qv (.bool true) (fun _ x' => yb (x_lss rfl e25 e23) (decide_eq_true (by omega))) ?_))
  refine q_nil (fun w37 x38 => t_norm (c_seq (c_true rfl (c_skip (t_norm (c_seq (c_block (c_seq (c_plain (pv (.pointer (some (ad29.add (k11 * 26)))) (x_indexAddr sl_44 rfl e22 eA31 e25 (by omega) (by omega) rfl) ?_))))))))))
  refine pv (vVt y27) (x_load rfl rfl ((hE33.ext (((((x2.trans x4).trans x7).trans x10).below (Nat.le_refl _) x18).trans x38)).agg (vs := [iJ y27.src, iJ y27.r.inst.replica, iJ y27.r.inst.slot, iJ y27.r.status, iJ y27.r.promise.number, iJ y27.r.promise.replica, iJ y27.r.ballot.number, iJ y27.r.ballot.replica, iJ y27.r.cmd.kind, iJ y27.r.cmd.txn.client, iJ y27.r.cmd.txn.number, iJ y27.r.cmd.stp.time, iJ y27.r.cmd.stp.client, iJ y27.r.cmd.shards, .slice y27.p.A y27.r.cmd.reads.length y27.p.n, .slice y27.p.B y27.r.cmd.writes.length y27.p.m, .bool y27.r.cmd.commit, iJ y27.r.seq, iJ y27.r.deps.d0, iJ y27.r.deps.d1, iJ y27.r.deps.d2, iJ y27.r.deps.d3, iJ y27.r.deps.d4, iJ y27.r.deps.d5, iJ y27.r.deps.d6, .bool y27.r.kept]) agg_63_26 0 rfl rfl)) ?_
  refine p_var (v := vVt y27) (vs := [iJ y27.src, iJ y27.r.inst.replica, iJ y27.r.inst.slot, iJ y27.r.status, iJ y27.r.promise.number, iJ y27.r.promise.replica, iJ y27.r.ballot.number, iJ y27.r.ballot.replica, iJ y27.r.cmd.kind, iJ y27.r.cmd.txn.client, iJ y27.r.cmd.txn.number, iJ y27.r.cmd.stp.time, iJ y27.r.cmd.stp.client, iJ y27.r.cmd.shards, .slice y27.p.A y27.r.cmd.reads.length y27.p.n, .slice y27.p.B y27.r.cmd.writes.length y27.p.m, .bool y27.r.cmd.commit, iJ y27.r.seq, iJ y27.r.deps.d0, iJ y27.r.deps.d1, iJ y27.r.deps.d2, iJ y27.r.deps.d3, iJ y27.r.deps.d4, iJ y27.r.deps.d5, iJ y27.r.deps.d6, .bool y27.r.kept]) rfl rfl rfl zero_63 rfl rfl rfl rfl rfl rfl rfl size_63 rfl (fun w39 b40 x41 z42 => ?_)
  refine p_nil (t_norm (c_seq (c_plain (pv (.map (some w3.heap.size)) (x_move rfl e21) ?_))))
  refine pv (pJ w37.heap.size) (x_fieldAddr fld_63_0 rfl rfl rfl) ?_
  refine pv (iJ y27.src) (x_load rfl rfl (b40.one one_3 rfl)) ?_
  refine pv (iJ (cnt (l.take k11) y27.src)) (x_lookupI map_64 rfl rfl rfl (hV.wf _ (at_of hx28)) ((hi13.ext x38).ext x41)) ?_
  refine pv (iJ ((cnt (l.take k11) y27.src) + 1)) (x_add rfl rfl rfl (wrap_of (by omega) (by omega))) ?_
  refine p_mapUpdateI map_64 rfl rfl rfl rfl rfl rfl (hV.wf _ (at_of hx28)) (wf_of (by omega) (by omega)) (by omega) ((hi13.ext x38).ext x41) (fun w43 hm44 hg45 => ?_)
  have hb46 := below_map hg45 (x2.trans x4).size ((((((x2.trans x4).trans x7).trans x10).below (Nat.le_refl _) x18).trans x38).trans x41).size
  have hm47 := MapI.congr (f' := cnt (l.take (k11 + 1))) hm44 (cnt_step hx28) (Nat.le_refl _)
  refine p_nil (t_norm (c_seq (c_quiet (qv (.map (some w3.heap.size)) (fun _ x' => x_move rfl e21) ?_))))
  refine qv (pJ w37.heap.size) (fun _ x' => x_fieldAddr fld_63_0 rfl rfl rfl) ?_
  refine qv (iJ y27.src) (fun _ x' => x_load rfl rfl (((b40.map ((hi13.ext x38).ext x41) hg45).ext x').one one_3 rfl)) ?_
  refine qv (iJ (cnt (l.take (k11 + 1)) y27.src)) (fun _ x' => x_lookupI map_64 rfl rfl rfl (hV.wf _ (at_of hx28)) (hm47.ext x')) ?_
  refine q_bool (b := decide (cnt (l.take (k11 + 1)) y27.src = 1)) rfl rfl (fun _ x' => x_eql rfl rfl rfl) (fun c48 => ?_) (fun c48 => ?_)
  ·refine q_nil (fun w49 x50 => t_norm (c_true rfl (c_plain (pv (.slice A14 ((counted (l.take k11)).length) c15) (x_move rfl e24) ?_))))
   refine pv (vVt y27) (x_load rfl rfl (((b40.map ((hi13.ext x38).ext x41) hg45).ext x50).agg (vs := [iJ y27.src, iJ y27.r.inst.replica, iJ y27.r.inst.slot, iJ y27.r.status, iJ y27.r.promise.number, iJ y27.r.promise.replica, iJ y27.r.ballot.number, iJ y27.r.ballot.replica, iJ y27.r.cmd.kind, iJ y27.r.cmd.txn.client, iJ y27.r.cmd.txn.number, iJ y27.r.cmd.stp.time, iJ y27.r.cmd.stp.client, iJ y27.r.cmd.shards, .slice y27.p.A y27.r.cmd.reads.length y27.p.n, .slice y27.p.B y27.r.cmd.writes.length y27.p.m, .bool y27.r.cmd.commit, iJ y27.r.seq, iJ y27.r.deps.d0, iJ y27.r.deps.d1, iJ y27.r.deps.d2, iJ y27.r.deps.d3, iJ y27.r.deps.d4, iJ y27.r.deps.d5, iJ y27.r.deps.d6, .bool y27.r.kept]) agg_63_26 rfl)) ?_
   refine p_buildSlice (cs := [iJ y27.src, iJ y27.r.inst.replica, iJ y27.r.inst.slot, iJ y27.r.status, iJ y27.r.promise.number, iJ y27.r.promise.replica, iJ y27.r.ballot.number, iJ y27.r.ballot.replica, iJ y27.r.cmd.kind, iJ y27.r.cmd.txn.client, iJ y27.r.cmd.txn.number, iJ y27.r.cmd.stp.time, iJ y27.r.cmd.stp.client, iJ y27.r.cmd.shards, .slice y27.p.A y27.r.cmd.reads.length y27.p.n, .slice y27.p.B y27.r.cmd.writes.length y27.p.m, .bool y27.r.cmd.commit, iJ y27.r.seq, iJ y27.r.deps.d0, iJ y27.r.deps.d1, iJ y27.r.deps.d2, iJ y27.r.deps.d3, iJ y27.r.deps.d4, iJ y27.r.deps.d5, iJ y27.r.deps.d6, .bool y27.r.kept]) el_44 rfl rfl rfl (parts1 rfl) (by decide) (by decide) (fill_ok [vVt y27] [iJ y27.src, iJ y27.r.inst.replica, iJ y27.r.inst.slot, iJ y27.r.status, iJ y27.r.promise.number, iJ y27.r.promise.replica, iJ y27.r.ballot.number, iJ y27.r.ballot.replica, iJ y27.r.cmd.kind, iJ y27.r.cmd.txn.client, iJ y27.r.cmd.txn.number, iJ y27.r.cmd.stp.time, iJ y27.r.cmd.stp.client, iJ y27.r.cmd.shards, .slice y27.p.A y27.r.cmd.reads.length y27.p.n, .slice y27.p.B y27.r.cmd.writes.length y27.p.m, .bool y27.r.cmd.commit, iJ y27.r.seq, iJ y27.r.deps.d0, iJ y27.r.deps.d1, iJ y27.r.deps.d2, iJ y27.r.deps.d3, iJ y27.r.deps.d4, iJ y27.r.deps.d5, iJ y27.r.deps.d6, .bool y27.r.kept] rfl rfl) (fun w51 b52 x53 z54 => ?_)
   refine p_appendO (f := fVt) (B := w.heap.size) (xs := (counted (l.take k11))) (z := y27) (cells := [iJ y27.src, iJ y27.r.inst.replica, iJ y27.r.inst.slot, iJ y27.r.status, iJ y27.r.promise.number, iJ y27.r.promise.replica, iJ y27.r.ballot.number, iJ y27.r.ballot.replica, iJ y27.r.cmd.kind, iJ y27.r.cmd.txn.client, iJ y27.r.cmd.txn.number, iJ y27.r.cmd.stp.time, iJ y27.r.cmd.stp.client, iJ y27.r.cmd.shards, .slice y27.p.A y27.r.cmd.reads.length y27.p.n, .slice y27.p.B y27.r.cmd.writes.length y27.p.m, .bool y27.r.cmd.commit, iJ y27.r.seq, iJ y27.r.deps.d0, iJ y27.r.deps.d1, iJ y27.r.deps.d2, iJ y27.r.deps.d3, iJ y27.r.deps.d4, iJ y27.r.deps.d5, iJ y27.r.deps.d6, .bool y27.r.kept]) el_44 rfl rfl rfl rfl (((((ho16.ext x38).ext x41).map ((hi13.ext x38).ext x41) hg45).ext x50).ext x53) rfl b52 rfl rfl rfl (by omega) (by omega) (((((((((x2.trans x4).trans x7).trans x10).below (Nat.le_refl _) x18).trans x38).trans x41).below (Nat.le_refl _) hb46).trans x50).trans x53).size (fun A58 c59 w55 ho56 kp57 => ?_)
   refine pv (.slice A58 (List.length (α := Vt) ((counted (l.take k11)) ++ [y27])) c59) (x_assign rfl rfl) ?_
   refine p_nil (b_norm (t_norm (c_quiet (qv (iJ ((k11 : Int) + 1)) (fun _ x' => x_add rfl e25 rfl (wrap_of (by omega) (by omega))) ?_))))
   refine qv (iJ ((k11 : Int) + 1)) (fun _ x' => x_move rfl rfl) ?_
   exact q_nil (fun w60 x61 => t_norm (⟨_, rfl, ⟨k11 + 1, A58, c59, by omega, ((((hm47.ext x50).ext x53).kept kp57).ext x61), (by rw [(show counted (l.take (k11 + 1)) = ((counted (l.take k11)) ++ [y27]) from counted_add hx28 (cnt_one hx28 c48))]; exact (ho56.ext x61)), e19, e20, e21, e22, e23, (by rw [(show counted (l.take (k11 + 1)) = ((counted (l.take k11)) ++ [y27]) from counted_add hx28 (cnt_one hx28 c48))]; exact rfl), rfl, (((((((Below.refl _ _).trans x18).trans ((x38.trans x41).mono (Nat.le_trans (Nat.le_trans (Nat.le_trans (Nat.le_trans x2.size x4.size) x7.size) x10.size) x18.size))).trans hb46).trans ((x50.trans x53).mono (Nat.le_trans (Nat.le_trans (Nat.le_trans (Nat.le_trans (Nat.le_trans (Nat.le_trans (Nat.le_trans x2.size x4.size) x7.size) x10.size) x18.size) x38.size) x41.size) hb46.size))).trans kp57.below).trans (x61.mono (Nat.le_trans (Nat.le_trans (Nat.le_trans (Nat.le_trans (Nat.le_trans (Nat.le_trans (Nat.le_trans (Nat.le_trans (Nat.le_trans (Nat.le_trans x2.size x4.size) x7.size) x10.size) x18.size) x38.size) x41.size) hb46.size) x50.size) x53.size) kp57.below.size)))⟩, meas_up e25 hl26⟩))
  refine q_nil (fun w62 x63 => t_norm (c_false rfl (c_skip (b_norm (t_norm (c_quiet (qv (iJ ((k11 : Int) + 1)) (fun _ x' => x_add rfl e25 rfl (wrap_of (by omega) (by omega))) ?_)))))))
  refine qv (iJ ((k11 : Int) + 1)) (fun _ x' => x_move rfl rfl) ?_
  exact q_nil (fun w64 x65 => t_norm (⟨_, rfl, ⟨k11 + 1, A14, c15, by omega, ((hm47.ext x63).ext x65), (by rw [(show counted (l.take (k11 + 1)) = (counted (l.take k11)) from counted_old hx28 (cnt_more hx28 c48))]; exact (((((ho16.ext x38).ext x41).map ((hi13.ext x38).ext x41) hg45).ext x63).ext x65)), e19, e20, e21, e22, e23, (by rw [(show counted (l.take (k11 + 1)) = (counted (l.take k11)) from counted_old hx28 (cnt_more hx28 c48))]; exact e24), rfl, (((((Below.refl _ _).trans x18).trans ((x38.trans x41).mono (Nat.le_trans (Nat.le_trans (Nat.le_trans (Nat.le_trans x2.size x4.size) x7.size) x10.size) x18.size))).trans hb46).trans ((x63.trans x65).mono (Nat.le_trans (Nat.le_trans (Nat.le_trans (Nat.le_trans (Nat.le_trans (Nat.le_trans (Nat.le_trans x2.size x4.size) x7.size) x10.size) x18.size) x38.size) x41.size) hb46.size)))⟩, meas_up e25 hl26⟩))
 refine c_seq (c_quiet (qv (.bool false) (fun _ x' => yb (x_lss rfl e25 e23) (decide_eq_false (by omega))) ?_))
 refine q_nil (fun w66 x67 => t_norm (c_seq (c_false rfl (c_exit (t_exit (t_exit (b_exit (t_norm (c_seq (c_quiet (qv (.slice A14 ((counted (l.take k11)).length) c15) (fun _ x' => x_move rfl e24) ?_)))))))))))
 refine qv (.map (some w3.heap.size)) (fun _ x' => x_move rfl e21) ?_
 refine qv (.slice A14 ((counted (l.take k11)).length) c15) (fun _ x' => x_assign rfl rfl) ?_
 refine qv (.map (some w3.heap.size)) (fun _ x' => x_assign rfl rfl) ?_
 refine q_nil (fun w68 x69 => t_norm (c_ret ?_))
 have ek72 : l.take k11 = l := List.take_of_length_le (by omega)
 have ho70 := ((ho16.ext x67).ext x69)
 have hm71 := ((hi13.ext x67).ext x69)
 have hlen73 := hV.len
 rw [ek72] at ho70 hm71
 exact c_done2 rfl ((show ev _ _ _ = .slice A14 (counted (l.take k11)).length c15 from rfl).trans (by rw [ek72])) rfl ⟨A14, c15, _, rfl, hV.sub ((((Below.refl _ _).trans ((((x2.trans x4).trans x7).trans x10).mono (Nat.le_refl _))).trans x18).trans ((x67.trans x69).mono (Nat.le_trans (Nat.le_trans (Nat.le_trans (Nat.le_trans x2.size x4.size) x7.size) x10.size) x18.size))) (ho70.lies (d := kVt) (fun _ => rfl) (fun _ _ => rfl)) (fun _ h => counted_mem h) (counted_len l), hm71.congr (fun _ => rfl) (by omega), ((((Below.refl _ _).trans ((((x2.trans x4).trans x7).trans x10).mono (Nat.le_refl _))).trans x18).trans ((x67.trans x69).mono (Nat.le_trans (Nat.le_trans (Nat.le_trans (Nat.le_trans x2.size x4.size) x7.size) x10.size) x18.size)))⟩
end Go.Proofs.Ytgamfmkefipngaa
