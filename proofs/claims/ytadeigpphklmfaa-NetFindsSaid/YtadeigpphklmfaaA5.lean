/- A walk through the code of layers below, or of layer 10. -/
import Derived.Test.YtadeigpphklmfaaDos
import Derived.Test.YtadeigpphklmfaaDrs
import Derived.Test.YtadeigpphklmfaaPan
import Derived.Test.YtadeigpphklmfaaA4
namespace Go.Proofs.Ytadeigpphklmfaa
open Go.RowKit Go.Eng
set_option linter.unusedVariables false
set_option linter.unusedSimpArgs false
theorem C_read (w : World) (a : Cmd) (pa : Ptr) (ha : CmdAt w a pa) (hs : Slim a) :
    Calls Try.prog 69 #[vCmd a pa] w (fun e w' => ∃ A n c, e = .returned (.slice A n c) ∧ n = (a.reads.map (·.key)).length ∧ Lies kStr w' A (a.reads.map (·.key)) ∧ n ≤ c ∧ c ≤ 9223372036854775807 ∧ Ext w w') := by
 have hs1 := hs.1
 have hs2 := hs.2
 refine c_enter (n := 20) Try.func69 rfl rfl rfl ?_
 refine c_seq (c_plain (p_box rfl rfl rfl rfl (fun w1 b2 x3 z4 => ?_)))
 refine pv (.slice none 0 0) (x_assign rfl rfl) ?_
 refine p_nil (t_norm (c_seq (c_quiet (qv (.slice none 0 0) (fun _ x' => x_assign rfl rfl) ?_))))
 refine q_nil (fun w5 x6 => t_norm (c_seq (c_seq (c_quiet (qv (.pointer (some (⟨w.heap.size, 6, none⟩))) (fun _ x' => x_fieldAddr fld_37_4 rfl rfl rfl) ?_)))))
 refine qv (.slice pa.A a.reads.length pa.n) (fun _ x' => x_load rfl rfl (((b2.ext x6).ext x').one one_34 rfl)) ?_
 refine qv (iJ (a.reads.length : Int)) (fun _ x' => x_len_slice sl_34 rfl rfl) ?_
 refine qv (iJ 0) (fun _ x' => x_move rfl rfl) ?_
 refine q_nil (fun w7 x8 => t_norm (c_block (c_loop (fun ρ w16 => ∃ k9 : Nat, ∃ A11 : Option Addr, ∃ c12 : Nat, k9 ≤ a.reads.length ∧ World.ownsRow w16 w7.heap.size 9 1 (.slice A11 k9 c12) k9 (((a.reads.map (·.key)).take k9).flatMap fStr) ∧ k9 ≤ c12 ∧ c12 ≤ 9223372036854775807 ∧ ρ 2 = .slice none 0 0 ∧ ρ 7 = .slice pa.A a.reads.length pa.n ∧ ρ 8 = iJ (a.reads.length : Int) ∧ ρ 3 = .slice A11 k9 c12 ∧ ρ 9 = iJ (k9 : Int) ∧ Ext w7 w16) (fun ρ _ => a.reads.length - (intOf (ρ 9)).toNat) ⟨0, none, 0, Nat.zero_le _, own_nil _ _ _ _, Nat.le_refl _, Nat.zero_le _, rfl, rfl, rfl, rfl, rfl, Ext.refl _⟩ ?_)))
 rintro ρ w16 ⟨k9, A11, c12, hk10, ho13, h14, h15, e18, e19, e20, e21, e22, x17⟩
 by_cases hl23 : k9 < a.reads.length
 ·obtain ⟨y24, hx25⟩ := some_of (l := a.reads) (k := k9) (by omega)
  obtain ⟨ad26, cs27, eA28, hK29, hE30⟩ := ha.reads k9 y24 hx25
  have hK29' : cs27 = [.string y24.key, iJ y24.ver.time, iJ y24.ver.client] := hK29
  subst hK29'
  refine c_seq (c_quiet (qv (.bool true) (fun _ x' => yb (x_lss rfl e22 e20) (decide_eq_true (by omega))) ?_))
  refine q_nil (fun w32 x33 => t_norm (c_seq (c_true rfl (c_skip (t_norm (c_seq (c_block (c_seq (c_plain (pv (.pointer (some (ad26.add (k9 * 3)))) (x_indexAddr sl_34 rfl e19 eA28 e22 (by omega) (by omega) rfl) ?_))))))))))
  refine pv (vRd y24) (x_load rfl rfl ((((((hE30.ext x3).ext x6).ext x8).ext x17).ext x33).agg (vs := [.string y24.key, iJ y24.ver.time, iJ y24.ver.client]) agg_78_3 0 rfl rfl)) ?_
  refine p_var (v := vRd y24) (vs := [.string y24.key, iJ y24.ver.time, iJ y24.ver.client]) rfl rfl rfl zero_78 rfl rfl rfl rfl rfl rfl rfl size_78 rfl (fun w34 b35 x36 z37 => ?_)
  refine p_nil (t_norm (c_plain (pv (.slice A11 k9 c12) (x_move rfl e21) ?_)))
  refine pv (pJ w32.heap.size) (x_fieldAddr fld_78_0 rfl rfl rfl) ?_
  refine pv (.string y24.key) (x_load rfl rfl (b35.one one_9 rfl)) ?_
  refine p_buildSlice (cs := [.string y24.key]) el_104 rfl rfl rfl (parts1 rfl) (by decide) (by decide) (fill_ok [.string y24.key] [.string y24.key] rfl rfl) (fun w38 b39 x40 z41 => ?_)
  refine p_appendK (B := w7.heap.size) (k := k9) (m := 1) (cs := (((a.reads.map (·.key)).take k9).flatMap fStr)) (news := [.string y24.key]) (ad := ⟨w34.heap.size, 0, none⟩) el_104 rfl rfl rfl rfl (own_ext ho13 ((x33.trans x36).trans x40)) rfl rfl b39.put rfl (by omega) (by omega) (((x17.trans x33).trans x36).trans x40).size (fun A45 c46 w42 o43 kp44 h47 h48 => ?_)
  refine pv (.slice A45 (k9 + 1) c46) (x_assign rfl rfl) ?_
  refine p_nil (b_norm (t_norm (c_quiet (qv (iJ ((k9 : Int) + 1)) (fun _ x' => x_add rfl e22 rfl (wrap_of (by omega) (by omega))) ?_))))
  refine qv (iJ ((k9 : Int) + 1)) (fun _ x' => x_move rfl rfl) ?_
  exact q_nil (fun w49 x50 => t_norm (⟨_, rfl, ⟨k9 + 1, A45, c46, by omega, (by rw [← flat_step (map_of (g := fun z => z.key) hx25)]; exact (own_ext o43 x50)), h47, h48, e18, e19, e20, rfl, rfl, (((((x17.trans x33).trans x36).trans x40).below (Nat.le_refl _) kp44.below).trans x50)⟩, meas_up e22 hl23⟩))
 have hr51 := own_lies (d := kStr) (xs := a.reads.map (·.key)) (by rw [show (a.reads.map (·.key)) = (a.reads.map (·.key)).take k9 from by rw [List.take_of_length_le (by simp; omega)]]; exact ho13) (by simp; omega) (fun _ => rfl) (fun _ => rfl)
 have he52 : k9 = (a.reads.map (·.key)).length := by simp; omega
 refine c_seq (c_quiet (qv (.bool false) (fun _ x' => yb (x_lss rfl e22 e20) (decide_eq_false (by omega))) ?_))
 refine q_nil (fun w53 x54 => t_norm (c_seq (c_false rfl (c_exit (t_exit (t_exit (b_exit (t_norm (c_seq (c_quiet (qv (.slice A11 k9 c12) (fun _ x' => x_move rfl e21) ?_)))))))))))
 refine qv (.slice A11 k9 c12) (fun _ x' => x_assign rfl rfl) ?_
 exact q_nil (fun w55 x56 => t_norm (c_ret (c_done rfl rfl ⟨_, _, _, rfl, he52, ((hr51.ext x54).ext x56), h14, h15, (((((x3.trans x6).trans x8).trans x17).trans x54).trans x56)⟩)))
theorem C_written (w : World) (a : Cmd) (pa : Ptr) (ha : CmdAt w a pa) (hs : Slim a) :
    Calls Try.prog 70 #[vCmd a pa] w (fun e w' => ∃ A n c, e = .returned (.slice A n c) ∧ n = (a.writes.map (·.key)).length ∧ Lies kStr w' A (a.writes.map (·.key)) ∧ n ≤ c ∧ c ≤ 9223372036854775807 ∧ Ext w w') := by
 have hs1 := hs.1
 have hs2 := hs.2
 refine c_enter (n := 20) Try.func70 rfl rfl rfl ?_
 refine c_seq (c_plain (p_box rfl rfl rfl rfl (fun w1 b2 x3 z4 => ?_)))
 refine pv (.slice none 0 0) (x_assign rfl rfl) ?_
 refine p_nil (t_norm (c_seq (c_quiet (qv (.slice none 0 0) (fun _ x' => x_assign rfl rfl) ?_))))
 refine q_nil (fun w5 x6 => t_norm (c_seq (c_seq (c_quiet (qv (.pointer (some (⟨w.heap.size, 7, none⟩))) (fun _ x' => x_fieldAddr fld_37_5 rfl rfl rfl) ?_)))))
 refine qv (.slice pa.B a.writes.length pa.m) (fun _ x' => x_load rfl rfl (((b2.ext x6).ext x').one one_35 rfl)) ?_
 refine qv (iJ (a.writes.length : Int)) (fun _ x' => x_len_slice sl_35 rfl rfl) ?_
 refine qv (iJ 0) (fun _ x' => x_move rfl rfl) ?_
 refine q_nil (fun w7 x8 => t_norm (c_block (c_loop (fun ρ w16 => ∃ k9 : Nat, ∃ A11 : Option Addr, ∃ c12 : Nat, k9 ≤ a.writes.length ∧ World.ownsRow w16 w7.heap.size 9 1 (.slice A11 k9 c12) k9 (((a.writes.map (·.key)).take k9).flatMap fStr) ∧ k9 ≤ c12 ∧ c12 ≤ 9223372036854775807 ∧ ρ 2 = .slice none 0 0 ∧ ρ 7 = .slice pa.B a.writes.length pa.m ∧ ρ 8 = iJ (a.writes.length : Int) ∧ ρ 3 = .slice A11 k9 c12 ∧ ρ 9 = iJ (k9 : Int) ∧ Ext w7 w16) (fun ρ _ => a.writes.length - (intOf (ρ 9)).toNat) ⟨0, none, 0, Nat.zero_le _, own_nil _ _ _ _, Nat.le_refl _, Nat.zero_le _, rfl, rfl, rfl, rfl, rfl, Ext.refl _⟩ ?_)))
 rintro ρ w16 ⟨k9, A11, c12, hk10, ho13, h14, h15, e18, e19, e20, e21, e22, x17⟩
 by_cases hl23 : k9 < a.writes.length
 ·obtain ⟨y24, hx25⟩ := some_of (l := a.writes) (k := k9) (by omega)
  obtain ⟨ad26, cs27, eA28, hK29, hE30⟩ := ha.writes k9 y24 hx25
  have hK29' : cs27 = [.string y24.key, .string y24.val] := hK29
  subst hK29'
  refine c_seq (c_quiet (qv (.bool true) (fun _ x' => yb (x_lss rfl e22 e20) (decide_eq_true (by omega))) ?_))
  refine q_nil (fun w32 x33 => t_norm (c_seq (c_true rfl (c_skip (t_norm (c_seq (c_block (c_seq (c_plain (pv (.pointer (some (ad26.add (k9 * 2)))) (x_indexAddr sl_35 rfl e19 eA28 e22 (by omega) (by omega) rfl) ?_))))))))))
  refine pv (vWr y24) (x_load rfl rfl ((((((hE30.ext x3).ext x6).ext x8).ext x17).ext x33).agg (vs := [.string y24.key, .string y24.val]) agg_80_2 0 rfl rfl)) ?_
  refine p_var (v := vWr y24) (vs := [.string y24.key, .string y24.val]) rfl rfl rfl zero_80 rfl rfl rfl rfl rfl rfl rfl size_80 rfl (fun w34 b35 x36 z37 => ?_)
  refine p_nil (t_norm (c_plain (pv (.slice A11 k9 c12) (x_move rfl e21) ?_)))
  refine pv (pJ w32.heap.size) (x_fieldAddr fld_80_0 rfl rfl rfl) ?_
  refine pv (.string y24.key) (x_load rfl rfl (b35.one one_9 rfl)) ?_
  refine p_buildSlice (cs := [.string y24.key]) el_104 rfl rfl rfl (parts1 rfl) (by decide) (by decide) (fill_ok [.string y24.key] [.string y24.key] rfl rfl) (fun w38 b39 x40 z41 => ?_)
  refine p_appendK (B := w7.heap.size) (k := k9) (m := 1) (cs := (((a.writes.map (·.key)).take k9).flatMap fStr)) (news := [.string y24.key]) (ad := ⟨w34.heap.size, 0, none⟩) el_104 rfl rfl rfl rfl (own_ext ho13 ((x33.trans x36).trans x40)) rfl rfl b39.put rfl (by omega) (by omega) (((x17.trans x33).trans x36).trans x40).size (fun A45 c46 w42 o43 kp44 h47 h48 => ?_)
  refine pv (.slice A45 (k9 + 1) c46) (x_assign rfl rfl) ?_
  refine p_nil (b_norm (t_norm (c_quiet (qv (iJ ((k9 : Int) + 1)) (fun _ x' => x_add rfl e22 rfl (wrap_of (by omega) (by omega))) ?_))))
  refine qv (iJ ((k9 : Int) + 1)) (fun _ x' => x_move rfl rfl) ?_
  exact q_nil (fun w49 x50 => t_norm (⟨_, rfl, ⟨k9 + 1, A45, c46, by omega, (by rw [← flat_step (map_of (g := fun z => z.key) hx25)]; exact (own_ext o43 x50)), h47, h48, e18, e19, e20, rfl, rfl, (((((x17.trans x33).trans x36).trans x40).below (Nat.le_refl _) kp44.below).trans x50)⟩, meas_up e22 hl23⟩))
 have hr51 := own_lies (d := kStr) (xs := a.writes.map (·.key)) (by rw [show (a.writes.map (·.key)) = (a.writes.map (·.key)).take k9 from by rw [List.take_of_length_le (by simp; omega)]]; exact ho13) (by simp; omega) (fun _ => rfl) (fun _ => rfl)
 have he52 : k9 = (a.writes.map (·.key)).length := by simp; omega
 refine c_seq (c_quiet (qv (.bool false) (fun _ x' => yb (x_lss rfl e22 e20) (decide_eq_false (by omega))) ?_))
 refine q_nil (fun w53 x54 => t_norm (c_seq (c_false rfl (c_exit (t_exit (t_exit (b_exit (t_norm (c_seq (c_quiet (qv (.slice A11 k9 c12) (fun _ x' => x_move rfl e21) ?_)))))))))))
 refine qv (.slice A11 k9 c12) (fun _ x' => x_assign rfl rfl) ?_
 exact q_nil (fun w55 x56 => t_norm (c_ret (c_done rfl rfl ⟨_, _, _, rfl, he52, ((hr51.ext x54).ext x56), h14, h15, (((((x3.trans x6).trans x8).trans x17).trans x54).trans x56)⟩)))
theorem C_oldRd (w : World) (r : Rd) (c : Cmd) (p : Ptr) (gb : Nat) (hb : Box w gb 37 [.int .i64 c.kind, .int .i64 c.txn.client, .int .i64 c.txn.number, .int .i64 c.stp.time, .int .i64 c.stp.client, .int .i64 c.shards, .slice p.A c.reads.length p.n, .slice p.B c.writes.length p.m, .bool c.commit]) :
    Calls Try.prog 66 #[vRd r, .pointer (some (⟨gb, 0, none⟩))] w (Ret w (.bool (oldRd c r))) := by
 refine c_enter (n := 15) Try.func66 rfl rfl rfl ?_
 refine c_seq (c_plain (p_box rfl rfl rfl rfl (fun w1 b2 x3 z4 => ?_)))
 refine pv (.bool false) (x_assign rfl rfl) ?_
 refine p_nil (t_norm (c_seq (c_quiet (qv (.pointer (some (⟨w.heap.size, 1, none⟩))) (fun _ x' => x_fieldAddr fld_78_1 rfl rfl rfl) ?_))))
 refine qv (.agg #[iJ r.ver.time, iJ r.ver.client]) (fun _ x' => x_load rfl rfl ((b2.ext x').agg (vs := [iJ r.ver.time, iJ r.ver.client]) agg_33_2 rfl)) ?_
 refine q_callb (b := rightStp r.ver) (vs := #[.agg #[iJ r.ver.time, iJ r.ver.client]]) fn_65 rfl rfl rfl (args1 rfl) (fun _ x' => C_rightStp _ r.ver) (fun c5 => ?_) (fun c5 => ?_)
 ·refine qv (.bool true) (fun _ x' => x_move rfl rfl) ?_
  refine qv (.pointer (some (⟨w.heap.size, 1, none⟩))) (fun _ x' => x_fieldAddr fld_78_1 rfl rfl rfl) ?_
  refine qv (.agg #[iJ r.ver.time, iJ r.ver.client]) (fun _ x' => x_load rfl rfl ((b2.ext x').agg (vs := [iJ r.ver.time, iJ r.ver.client]) agg_33_2 rfl)) ?_
  refine qv (.pointer (some (⟨gb, 3, none⟩))) (fun _ x' => x_fieldAddr fld_37_2 rfl rfl rfl) ?_
  refine qv (.agg #[iJ c.stp.time, iJ c.stp.client]) (fun _ x' => x_load rfl rfl (((hb.ext x3).ext x').agg (vs := [iJ c.stp.time, iJ c.stp.client]) agg_33_2 rfl)) ?_
  refine q_call (vs := #[.agg #[iJ r.ver.time, iJ r.ver.client], .agg #[iJ c.stp.time, iJ c.stp.client]]) fn_67 rfl rfl rfl (args2 rfl rfl) (v := iJ (cmpStp r.ver c.stp)) (fun _ x' => C_cmpStp _ r.ver c.stp) ?_
  refine q_bool (b := decide (cmpStp r.ver c.stp < 0)) rfl rfl (fun _ x' => x_lss rfl rfl rfl) (fun c6 => ?_) (fun c6 => ?_)
  ·refine qv (.bool true) (fun _ x' => x_pick_t rfl rfl rfl) ?_
   refine qv (.bool true) (fun _ x' => x_assign rfl rfl) ?_
   exact q_nil (fun w7 x8 => t_norm (c_ret (c_done rfl rfl (Ret.b (by simp_all [oldRd]) (x3.trans x8)))))
  refine qv (.bool false) (fun _ x' => x_pick_t rfl rfl rfl) ?_
  refine qv (.bool false) (fun _ x' => x_assign rfl rfl) ?_
  exact q_nil (fun w9 x10 => t_norm (c_ret (c_done rfl rfl (Ret.b (by simp_all [oldRd]) (x3.trans x10)))))
 refine qv (.bool false) (fun _ x' => x_move rfl rfl) ?_
 refine qk rfl rfl (qk rfl rfl (qk rfl rfl (qk rfl rfl (qk rfl rfl (qk rfl rfl (qv (.bool false) (fun _ x' => x_pick_f rfl rfl rfl) ?_))))))
 refine qv (.bool false) (fun _ x' => x_assign rfl rfl) ?_
 exact q_nil (fun w11 x12 => t_norm (c_ret (c_done rfl rfl (Ret.b (by simp_all [oldRd]) (x3.trans x12)))))
set_option maxHeartbeats 4000000 in
theorem C_rightCmd (w : World) (a : Cmd) (pa : Ptr) (ha : CmdAt w a pa) (hs : Slim a) :
    Calls Try.prog 55 #[vCmd a pa] w (Ret w (.bool (rightCmd a))) := by
 have hs1 := hs.1
 have hs2 := hs.2
 have hst := stp_low (s := a.stp)
 refine c_enter (n := 105) Try.func55 rfl rfl rfl ?_
 refine c_seq (c_plain (p_box rfl rfl rfl rfl (fun w1 b2 x3 z4 => ?_)))
 refine pv (.bool false) (x_assign rfl rfl) ?_
 refine p_nil (t_norm (c_seq (c_seq (c_quiet (qv (pJ w.heap.size) (fun _ x' => x_fieldAddr fld_37_0 rfl rfl rfl) ?_)))))
 refine qv (iJ a.kind) (fun _ x' => x_load rfl rfl ((b2.ext x').one one_3 rfl)) ?_
 refine q_nil (fun w5 x6 => t_norm (c_block (c_seq (c_quiet (q_bool (b := decide (a.kind = 0)) rfl rfl (fun _ x' => x_eql rfl rfl rfl) (fun c7 => ?_) (fun c7 => ?_))))))
 ·refine qv (.bool true) (fun _ x' => x_assign rfl rfl) ?_
  refine q_nil (fun w8 x9 => t_norm (c_true rfl (c_seq (c_quiet (qv (vCmd a pa) (fun _ x' => x_load rfl rfl ((((b2.ext x6).ext x9).ext x').agg (vs := [iJ a.kind, iJ a.txn.client, iJ a.txn.number, iJ a.stp.time, iJ a.stp.client, iJ a.shards, .slice pa.A a.reads.length pa.n, .slice pa.B a.writes.length pa.m, .bool a.commit]) agg_37_9 rfl)) ?_)))))
  refine qv (.agg #[iJ 0, iJ 0, iJ 0, iJ 0, iJ 0, iJ 0, .slice none 0 0, .slice none 0 0, .bool false]) (fun _ x' => x_build0 zero_37 bld_37 rfl) ?_
  refine q_callb (b := decide (a = (⟨0, (⟨0, 0⟩ : Txn), (⟨0, 0⟩ : Stp), 0, [], [], false⟩ : Cmd))) (vs := #[vCmd a pa, .agg #[iJ 0, iJ 0, iJ 0, iJ 0, iJ 0, iJ 0, .slice none 0 0, .slice none 0 0, .bool false]]) fn_63 rfl rfl rfl (args2 rfl rfl) (fun _ x' => C_sameCmd _ a pa ((((ha.ext x3).ext x6).ext x9).ext x') (⟨0, (⟨0, 0⟩ : Txn), (⟨0, 0⟩ : Stp), 0, [], [], false⟩ : Cmd) (⟨none, 0, none, 0⟩ : Ptr) (CmdAt.nil _ rfl rfl)) (fun c10 => ?_) (fun c10 => ?_)
  ·refine qv (.bool true) (fun _ x' => x_assign rfl rfl) ?_
   exact q_nil (fun w11 x12 => t_norm (c_ret (b_ret (t_ret (c_done rfl rfl (Ret.b (by obtain ⟨k, x, s, n, r, w, c⟩ := a; clear ha; simp_all [rightCmd]) (((x3.trans x6).trans x9).trans x12)))))))
  refine qv (.bool false) (fun _ x' => x_assign rfl rfl) ?_
  exact q_nil (fun w13 x14 => t_norm (c_ret (b_ret (t_ret (c_done rfl rfl (Ret.b (by clear ha; simp_all [rightCmd] <;> (intro h; subst h; simp_all)) (((x3.trans x6).trans x9).trans x14)))))))
 refine qv (.bool false) (fun _ x' => x_assign rfl rfl) ?_
 refine q_nil (fun w15 x16 => t_norm (c_false rfl (c_seq (c_seq (c_quiet (q_bool (b := decide (a.kind = 1)) rfl rfl (fun _ x' => x_eql rfl rfl rfl) (fun c17 => ?_) (fun c17 => ?_)))))))
 ·refine qv (.bool true) (fun _ x' => x_assign rfl rfl) ?_
  refine q_nil (fun w18 x19 => t_norm (c_true rfl (c_skip (t_norm (c_true rfl (c_skip (b_norm (t_norm (c_seq (c_seq (c_quiet (qv (.pointer (some (⟨w.heap.size, 1, none⟩))) (fun _ x' => x_fieldAddr fld_37_1 rfl rfl rfl) ?_))))))))))))
  refine qv (.agg #[iJ a.txn.client, iJ a.txn.number]) (fun _ x' => x_load rfl rfl (((((b2.ext x6).ext x16).ext x19).ext x').agg (vs := [iJ a.txn.client, iJ a.txn.number]) agg_31_2 rfl)) ?_
  refine q_callb (b := rightTxn a.txn) (vs := #[.agg #[iJ a.txn.client, iJ a.txn.number]]) fn_64 rfl rfl rfl (args1 rfl) (fun _ x' => C_rightTxn _ a.txn) (fun c20 => ?_) (fun c20 => ?_)
  ·refine qv (.bool false) (fun _ x' => x_not (b := true) rfl rfl) ?_
   refine qv (.bool false) (fun _ x' => x_move rfl rfl) ?_
   refine qv (.pointer (some (⟨w.heap.size, 3, none⟩))) (fun _ x' => x_fieldAddr fld_37_2 rfl rfl rfl) ?_
   refine qv (.agg #[iJ a.stp.time, iJ a.stp.client]) (fun _ x' => x_load rfl rfl (((((b2.ext x6).ext x16).ext x19).ext x').agg (vs := [iJ a.stp.time, iJ a.stp.client]) agg_33_2 rfl)) ?_
   refine q_callb (b := rightStp a.stp) (vs := #[.agg #[iJ a.stp.time, iJ a.stp.client]]) fn_65 rfl rfl rfl (args1 rfl) (fun _ x' => C_rightStp _ a.stp) (fun c21 => ?_) (fun c21 => ?_)
   ·refine qv (.bool false) (fun _ x' => x_not (b := true) rfl rfl) ?_
    refine qv (.bool false) (fun _ x' => x_pick_f rfl rfl rfl) ?_
    refine qv (.bool false) (fun _ x' => x_move rfl rfl) ?_
    refine qv (.pointer (some (⟨w.heap.size, 3, none⟩))) (fun _ x' => x_fieldAddr fld_37_2 rfl rfl rfl) ?_
    refine qv (.pointer (some (⟨w.heap.size, 3, none⟩))) (fun _ x' => x_fieldAddr fld_33_0 rfl rfl rfl) ?_
    refine qv (iJ a.stp.time) (fun _ x' => x_load rfl rfl (((((b2.ext x6).ext x16).ext x19).ext x').one one_3 rfl)) ?_
    refine q_bool (b := decide (a.stp.time < 1)) rfl rfl (fun _ x' => x_lss rfl rfl rfl) (fun c22 => ?_) (fun c22 => ?_)
    ·refine qv (.bool true) (fun _ x' => x_pick_f rfl rfl rfl) ?_
     refine qv (.bool true) (fun _ x' => x_move rfl rfl) ?_
     refine qk rfl rfl (qk rfl rfl (qk rfl rfl (qk rfl rfl (qk rfl rfl (qk rfl rfl (qk rfl rfl (qv (.bool true) (fun _ x' => x_pick_t rfl rfl rfl) ?_)))))))
     refine qv (.bool true) (fun _ x' => x_move rfl rfl) ?_
     refine qk rfl rfl (qk rfl rfl (qk rfl rfl (qv (.bool true) (fun _ x' => x_pick_t rfl rfl rfl) ?_)))
     refine qv (.bool true) (fun _ x' => x_move rfl rfl) ?_
     refine qk rfl rfl (qk rfl rfl (qk rfl rfl (qv (.bool true) (fun _ x' => x_pick_t rfl rfl rfl) ?_)))
     refine qv (.bool true) (fun _ x' => x_move rfl rfl) ?_
     refine qk rfl rfl (qk rfl rfl (qk rfl rfl (qk rfl rfl (qk rfl rfl (qk rfl rfl (qk rfl rfl (qk rfl rfl (qv (.bool true) (fun _ x' => x_pick_t rfl rfl rfl) ?_))))))))
     refine qv (.bool true) (fun _ x' => x_move rfl rfl) ?_
     refine qk rfl rfl (qk rfl rfl (qk rfl rfl (qk rfl rfl (qk rfl rfl (qk rfl rfl (qk rfl rfl (qv (.bool true) (fun _ x' => x_pick_t rfl rfl rfl) ?_)))))))
     refine q_nil (fun w23 x24 => t_norm (c_true rfl (c_seq (c_quiet (qv (.bool false) (fun _ x' => x_assign rfl rfl) ?_)))))
     exact q_nil (fun w25 x26 => t_norm (c_ret (t_ret (c_done rfl rfl (Ret.b ((rightCmd_head (by simpa using c7) (by clear ha; simp only [empty_len] at *; simp_all [-List.length_eq_zero_iff] <;> first | omega | (intros; omega) | (intros; simp_all [-List.length_eq_zero_iff] <;> omega))).symm) (((((x3.trans x6).trans x16).trans x19).trans x24).trans x26))))))
    refine qv (.bool false) (fun _ x' => x_pick_f rfl rfl rfl) ?_
    refine qv (.bool false) (fun _ x' => x_move rfl rfl) ?_
    refine qv (.pointer (some (⟨w.heap.size, 3, none⟩))) (fun _ x' => x_fieldAddr fld_37_2 rfl rfl rfl) ?_
    refine qv (.pointer (some (⟨w.heap.size, 4, none⟩))) (fun _ x' => x_fieldAddr fld_33_1 rfl rfl rfl) ?_
    refine qv (iJ a.stp.client) (fun _ x' => x_load rfl rfl (((((b2.ext x6).ext x16).ext x19).ext x').one one_3 rfl)) ?_
    refine qv (.pointer (some (⟨w.heap.size, 1, none⟩))) (fun _ x' => x_fieldAddr fld_37_1 rfl rfl rfl) ?_
    refine qv (.pointer (some (⟨w.heap.size, 1, none⟩))) (fun _ x' => x_fieldAddr fld_31_0 rfl rfl rfl) ?_
    refine qv (iJ a.txn.client) (fun _ x' => x_load rfl rfl (((((b2.ext x6).ext x16).ext x19).ext x').one one_3 rfl)) ?_
    refine q_bool (b := decide (a.stp.client ≠ a.txn.client)) rfl rfl (fun _ x' => x_neq rfl rfl rfl) (fun c27 => ?_) (fun c27 => ?_)
    ·refine qv (.bool true) (fun _ x' => x_pick_f rfl rfl rfl) ?_
     refine qv (.bool true) (fun _ x' => x_move rfl rfl) ?_
     refine qk rfl rfl (qk rfl rfl (qk rfl rfl (qv (.bool true) (fun _ x' => x_pick_t rfl rfl rfl) ?_)))
     refine qv (.bool true) (fun _ x' => x_move rfl rfl) ?_
     refine qk rfl rfl (qk rfl rfl (qk rfl rfl (qv (.bool true) (fun _ x' => x_pick_t rfl rfl rfl) ?_)))
     refine qv (.bool true) (fun _ x' => x_move rfl rfl) ?_
     refine qk rfl rfl (qk rfl rfl (qk rfl rfl (qk rfl rfl (qk rfl rfl (qk rfl rfl (qk rfl rfl (qk rfl rfl (qv (.bool true) (fun _ x' => x_pick_t rfl rfl rfl) ?_))))))))
     refine qv (.bool true) (fun _ x' => x_move rfl rfl) ?_
     refine qk rfl rfl (qk rfl rfl (qk rfl rfl (qk rfl rfl (qk rfl rfl (qk rfl rfl (qk rfl rfl (qv (.bool true) (fun _ x' => x_pick_t rfl rfl rfl) ?_)))))))
     refine q_nil (fun w28 x29 => t_norm (c_true rfl (c_seq (c_quiet (qv (.bool false) (fun _ x' => x_assign rfl rfl) ?_)))))
     exact q_nil (fun w30 x31 => t_norm (c_ret (t_ret (c_done rfl rfl (Ret.b ((rightCmd_head (by simpa using c7) (by clear ha; simp only [empty_len] at *; simp_all [-List.length_eq_zero_iff] <;> first | omega | (intros; omega) | (intros; simp_all [-List.length_eq_zero_iff] <;> omega))).symm) (((((x3.trans x6).trans x16).trans x19).trans x29).trans x31))))))
    refine qv (.bool false) (fun _ x' => x_pick_f rfl rfl rfl) ?_
    refine qv (.bool false) (fun _ x' => x_move rfl rfl) ?_
    refine qv (.pointer (some (⟨w.heap.size, 5, none⟩))) (fun _ x' => x_fieldAddr fld_37_3 rfl rfl rfl) ?_
    refine qv (iJ a.shards) (fun _ x' => x_load rfl rfl (((((b2.ext x6).ext x16).ext x19).ext x').one one_3 rfl)) ?_
    refine q_bool (b := decide (a.shards < 1)) rfl rfl (fun _ x' => x_lss rfl rfl rfl) (fun c32 => ?_) (fun c32 => ?_)
    ·refine qv (.bool true) (fun _ x' => x_pick_f rfl rfl rfl) ?_
     refine qv (.bool true) (fun _ x' => x_move rfl rfl) ?_
     refine qk rfl rfl (qk rfl rfl (qk rfl rfl (qv (.bool true) (fun _ x' => x_pick_t rfl rfl rfl) ?_)))
     refine qv (.bool true) (fun _ x' => x_move rfl rfl) ?_
     refine qk rfl rfl (qk rfl rfl (qk rfl rfl (qk rfl rfl (qk rfl rfl (qk rfl rfl (qk rfl rfl (qk rfl rfl (qv (.bool true) (fun _ x' => x_pick_t rfl rfl rfl) ?_))))))))
     refine qv (.bool true) (fun _ x' => x_move rfl rfl) ?_
     refine qk rfl rfl (qk rfl rfl (qk rfl rfl (qk rfl rfl (qk rfl rfl (qk rfl rfl (qk rfl rfl (qv (.bool true) (fun _ x' => x_pick_t rfl rfl rfl) ?_)))))))
     refine q_nil (fun w33 x34 => t_norm (c_true rfl (c_seq (c_quiet (qv (.bool false) (fun _ x' => x_assign rfl rfl) ?_)))))
     exact q_nil (fun w35 x36 => t_norm (c_ret (t_ret (c_done rfl rfl (Ret.b ((rightCmd_head (by simpa using c7) (by clear ha; simp only [empty_len] at *; simp_all [-List.length_eq_zero_iff] <;> first | omega | (intros; omega) | (intros; simp_all [-List.length_eq_zero_iff] <;> omega))).symm) (((((x3.trans x6).trans x16).trans x19).trans x34).trans x36))))))
    refine qv (.bool false) (fun _ x' => x_pick_f rfl rfl rfl) ?_
    refine qv (.bool false) (fun _ x' => x_move rfl rfl) ?_
    refine qv (.pointer (some (⟨w.heap.size, 5, none⟩))) (fun _ x' => x_fieldAddr fld_37_3 rfl rfl rfl) ?_
    refine qv (iJ a.shards) (fun _ x' => x_load rfl rfl (((((b2.ext x6).ext x16).ext x19).ext x').one one_3 rfl)) ?_
    refine q_bool (b := decide (a.shards > 15)) rfl rfl (fun _ x' => x_gtr rfl rfl rfl) (fun c37 => ?_) (fun c37 => ?_)
    ·refine qv (.bool true) (fun _ x' => x_pick_f rfl rfl rfl) ?_
     refine qv (.bool true) (fun _ x' => x_move rfl rfl) ?_
     refine qk rfl rfl (qk rfl rfl (qk rfl rfl (qk rfl rfl (qk rfl rfl (qk rfl rfl (qk rfl rfl (qk rfl rfl (qv (.bool true) (fun _ x' => x_pick_t rfl rfl rfl) ?_))))))))
     refine qv (.bool true) (fun _ x' => x_move rfl rfl) ?_
     refine qk rfl rfl (qk rfl rfl (qk rfl rfl (qk rfl rfl (qk rfl rfl (qk rfl rfl (qk rfl rfl (qv (.bool true) (fun _ x' => x_pick_t rfl rfl rfl) ?_)))))))
     refine q_nil (fun w38 x39 => t_norm (c_true rfl (c_seq (c_quiet (qv (.bool false) (fun _ x' => x_assign rfl rfl) ?_)))))
     exact q_nil (fun w40 x41 => t_norm (c_ret (t_ret (c_done rfl rfl (Ret.b ((rightCmd_head (by simpa using c7) (by clear ha; simp only [empty_len] at *; simp_all [-List.length_eq_zero_iff] <;> first | omega | (intros; omega) | (intros; simp_all [-List.length_eq_zero_iff] <;> omega))).symm) (((((x3.trans x6).trans x16).trans x19).trans x39).trans x41))))))
    refine qv (.bool false) (fun _ x' => x_pick_f rfl rfl rfl) ?_
    refine qv (.bool false) (fun _ x' => x_move rfl rfl) ?_
    refine qv (.pointer (some (⟨w.heap.size, 6, none⟩))) (fun _ x' => x_fieldAddr fld_37_4 rfl rfl rfl) ?_
    refine qv (.slice pa.A a.reads.length pa.n) (fun _ x' => x_load rfl rfl (((((b2.ext x6).ext x16).ext x19).ext x').one one_34 rfl)) ?_
    refine qv (iJ (a.reads.length : Int)) (fun _ x' => x_len_slice sl_34 rfl rfl) ?_
    refine qv (.pointer (some (⟨w.heap.size, 7, none⟩))) (fun _ x' => x_fieldAddr fld_37_5 rfl rfl rfl) ?_
    refine qv (.slice pa.B a.writes.length pa.m) (fun _ x' => x_load rfl rfl (((((b2.ext x6).ext x16).ext x19).ext x').one one_35 rfl)) ?_
    refine qv (iJ (a.writes.length : Int)) (fun _ x' => x_len_slice sl_35 rfl rfl) ?_
    refine qv (iJ ((a.reads.length : Int) + (a.writes.length : Int))) (fun _ x' => x_add rfl rfl rfl (wrap_of (by omega) (by omega))) ?_
    refine q_bool (b := decide ((a.reads.length : Int) + (a.writes.length : Int) = 0)) rfl rfl (fun _ x' => x_eql rfl rfl rfl) (fun c42 => ?_) (fun c42 => ?_)
    ·refine qv (.bool true) (fun _ x' => x_pick_f rfl rfl rfl) ?_
     refine qv (.bool true) (fun _ x' => x_move rfl rfl) ?_
     refine qk rfl rfl (qk rfl rfl (qk rfl rfl (qk rfl rfl (qk rfl rfl (qk rfl rfl (qk rfl rfl (qv (.bool true) (fun _ x' => x_pick_t rfl rfl rfl) ?_)))))))
     refine q_nil (fun w43 x44 => t_norm (c_true rfl (c_seq (c_quiet (qv (.bool false) (fun _ x' => x_assign rfl rfl) ?_)))))
     exact q_nil (fun w45 x46 => t_norm (c_ret (t_ret (c_done rfl rfl (Ret.b ((rightCmd_head (by simpa using c7) (by clear ha; simp only [empty_len] at *; simp_all [-List.length_eq_zero_iff] <;> first | omega | (intros; omega) | (intros; simp_all [-List.length_eq_zero_iff] <;> omega))).symm) (((((x3.trans x6).trans x16).trans x19).trans x44).trans x46))))))
    refine qv (.bool false) (fun _ x' => x_pick_f rfl rfl rfl) ?_
    refine qv (.bool false) (fun _ x' => x_move rfl rfl) ?_
    refine qv (.pointer (some (⟨w.heap.size, 8, none⟩))) (fun _ x' => x_fieldAddr fld_37_6 rfl rfl rfl) ?_
    refine q_bool (b := a.commit) rfl rfl (fun _ x' => x_load rfl rfl (((((b2.ext x6).ext x16).ext x19).ext x').one one_4 rfl)) (fun c47 => ?_) (fun c47 => ?_)
    ·refine qv (.bool true) (fun _ x' => x_move rfl rfl) ?_
     refine qv (pJ w.heap.size) (fun _ x' => x_fieldAddr fld_37_0 rfl rfl rfl) ?_
     refine qv (iJ a.kind) (fun _ x' => x_load rfl rfl (((((b2.ext x6).ext x16).ext x19).ext x').one one_3 rfl)) ?_
     refine qv (.bool true) (fun _ x' => yb (x_eql rfl rfl rfl) c17) ?_
     refine qv (.bool true) (fun _ x' => x_pick_t rfl rfl rfl) ?_
     refine qv (.bool true) (fun _ x' => x_pick_f rfl rfl rfl) ?_
     refine q_nil (fun w48 x49 => t_norm (c_true rfl (c_seq (c_quiet (qv (.bool false) (fun _ x' => x_assign rfl rfl) ?_)))))
     exact q_nil (fun w50 x51 => t_norm (c_ret (t_ret (c_done rfl rfl (Ret.b ((rightCmd_head (by simpa using c7) (by clear ha; simp only [empty_len] at *; simp_all [-List.length_eq_zero_iff] <;> first | omega | (intros; omega) | (intros; simp_all [-List.length_eq_zero_iff] <;> omega))).symm) (((((x3.trans x6).trans x16).trans x19).trans x49).trans x51))))))
    refine qv (.bool false) (fun _ x' => x_move rfl rfl) ?_
    refine qk rfl rfl (qk rfl rfl (qk rfl rfl (qv (.bool false) (fun _ x' => x_pick_f rfl rfl rfl) ?_)))
    refine qv (.bool false) (fun _ x' => x_pick_f rfl rfl rfl) ?_
    refine q_nil (fun w52 x53 => t_norm (c_false rfl (c_skip (t_norm (c_seq (c_quiet (qv (.func (.func 66) #[] #[pJ w.heap.size]) (fun _ x' => x_makeFunc rfl (args1 rfl)) ?_)))))))
    refine qv (.func (.func 66) #[] #[pJ w.heap.size]) (fun _ x' => x_assign rfl rfl) ?_
    refine q_nil (fun w54 x55 => t_norm (c_seq (c_seq (c_quiet (qv (.pointer (some (⟨w.heap.size, 6, none⟩))) (fun _ x' => x_fieldAddr fld_37_4 rfl rfl rfl) ?_)))))
    refine qv (.slice pa.A a.reads.length pa.n) (fun _ x' => x_load rfl rfl (((((((b2.ext x6).ext x16).ext x19).ext x53).ext x55).ext x').one one_34 rfl)) ?_
    refine qv (iJ (a.reads.length : Int)) (fun _ x' => x_len_slice sl_34 rfl rfl) ?_
    refine qv (iJ 0) (fun _ x' => x_move rfl rfl) ?_
    refine q_nil (fun w56 x57 => t_norm (c_block (c_loop (fun ρ w61 => ∃ k58 : Nat, k58 ≤ a.reads.length ∧ (a.reads.take k58).all (oldRd a) = true ∧ ρ 1 = pJ w.heap.size ∧ ρ 3 = .func (.func 66) #[] #[pJ w.heap.size] ∧ ρ 74 = .slice pa.A a.reads.length pa.n ∧ ρ 75 = iJ (a.reads.length : Int) ∧ ρ 76 = iJ (k58 : Int) ∧ Ext w56 w61) (fun ρ _ => a.reads.length - (intOf (ρ 76)).toNat) ⟨0, Nat.zero_le _, rfl, rfl, rfl, rfl, rfl, rfl, Ext.refl _⟩ ?_)))
    rintro ρ w61 ⟨k58, hk59, hi60, e63, e64, e65, e66, e67, x62⟩
    by_cases hl68 : k58 < a.reads.length
    ·obtain ⟨y69, hx70⟩ := some_of (l := a.reads) (k := k58) (by omega)
     obtain ⟨ad71, cs72, eA73, hK74, hE75⟩ := ha.reads k58 y69 hx70
     have hK74' : cs72 = [.string y69.key, iJ y69.ver.time, iJ y69.ver.client] := hK74
     subst hK74'
     refine c_seq (c_quiet (qv (.bool true) (fun _ x' => yb (x_lss rfl e67 e66) (decide_eq_true (by omega))) ?_))
     refine q_nil (fun w77 x78 => t_norm (c_seq (c_true rfl (c_skip (t_norm (c_seq (c_block (c_seq (c_plain (pv (.pointer (some (ad71.add (k58 * 3)))) (x_indexAddr sl_34 rfl e65 eA73 e67 (by omega) (by omega) rfl) ?_))))))))))
     refine pv (vRd y69) (x_load rfl rfl ((((((((((hE75.ext x3).ext x6).ext x16).ext x19).ext x53).ext x55).ext x57).ext x62).ext x78).agg (vs := [.string y69.key, iJ y69.ver.time, iJ y69.ver.client]) agg_78_3 0 rfl rfl)) ?_
     refine p_var (v := vRd y69) (vs := [.string y69.key, iJ y69.ver.time, iJ y69.ver.client]) rfl rfl rfl zero_78 rfl rfl rfl rfl rfl rfl rfl size_78 rfl (fun w79 b80 x81 z82 => ?_)
     refine p_nil (t_norm (c_seq (c_quiet (qv (.func (.func 66) #[] #[pJ w.heap.size]) (fun _ x' => x_move rfl e64) ?_))))
     refine qv (vRd y69) (fun _ x' => x_load rfl rfl ((b80.ext x').agg (vs := [.string y69.key, iJ y69.ver.time, iJ y69.ver.client]) agg_78_3 rfl)) ?_
     refine q_callvb (b := oldRd a y69) (vs := #[vRd y69]) (cap := #[pJ w.heap.size]) (all := #[vRd y69, pJ w.heap.size]) fn_66 rfl rfl rfl rfl (args1 rfl) (by simp) (fun _ x' => C_oldRd _ y69 a pa _ ((((((((((b2.ext x6).ext x16).ext x19).ext x53).ext x55).ext x57).ext x62).ext x78).ext x81).ext x')) (fun c83 => ?_) (fun c83 => ?_)
     ·refine qv (.bool false) (fun _ x' => x_not (b := true) rfl rfl) ?_
      refine q_nil (fun w84 x85 => t_norm (c_false rfl (c_skip (b_norm (t_norm (c_quiet (qv (iJ ((k58 : Int) + 1)) (fun _ x' => x_add rfl e67 rfl (wrap_of (by omega) (by omega))) ?_)))))))
      refine qv (iJ ((k58 : Int) + 1)) (fun _ x' => x_move rfl rfl) ?_
      exact q_nil (fun w86 x87 => t_norm (⟨_, rfl, ⟨k58 + 1, by omega, all_step (p := oldRd a) hi60 hx70 (by simp_all [oldRd]), e63, e64, e65, e66, rfl, ((((x62.trans x78).trans x81).trans x85).trans x87)⟩, meas_up e67 hl68⟩))
     refine qv (.bool true) (fun _ x' => x_not (b := false) rfl rfl) ?_
     refine q_nil (fun w88 x89 => t_norm (c_true rfl (c_seq (c_quiet (qv (.bool false) (fun _ x' => x_assign rfl rfl) ?_)))))
     exact q_nil (fun w90 x91 => t_norm (c_ret (b_ret (t_ret (t_ret (b_ret (t_ret (c_done rfl rfl (Ret.b ((rightCmd_reads (by simpa using c7) (all_fail (p := oldRd a) hx70 c83)).symm) (((((((((((x3.trans x6).trans x16).trans x19).trans x53).trans x55).trans x57).trans x62).trans x78).trans x81).trans x89).trans x91))))))))))
    refine c_seq (c_quiet (qv (.bool false) (fun _ x' => yb (x_lss rfl e67 e66) (decide_eq_false (by omega))) ?_))
    refine q_nil (fun w92 x93 => t_norm (c_seq (c_false rfl (c_exit (t_exit (t_exit (b_exit (t_norm (c_seq (c_seq (c_quiet (qv (.pointer (some (⟨w.heap.size, 7, none⟩))) (fun _ x' => x_fieldAddr fld_37_5 rfl e63 rfl) ?_))))))))))))
    refine qv (.slice pa.B a.writes.length pa.m) (fun _ x' => x_load rfl rfl ((((((((((b2.ext x6).ext x16).ext x19).ext x53).ext x55).ext x57).ext x62).ext x93).ext x').one one_35 rfl)) ?_
    refine qv (iJ (a.writes.length : Int)) (fun _ x' => x_len_slice sl_35 rfl rfl) ?_
    refine qv (iJ 0) (fun _ x' => x_move rfl rfl) ?_
    refine q_nil (fun w94 x95 => t_norm (c_block (c_loop (fun ρ w99 => ∃ k96 : Nat, k96 ≤ a.writes.length ∧ (a.writes.take k96).all (fun x : Wr => decide (x.val.size ≤ 8)) = true ∧ ρ 1 = pJ w.heap.size ∧ ρ 86 = .slice pa.B a.writes.length pa.m ∧ ρ 87 = iJ (a.writes.length : Int) ∧ ρ 88 = iJ (k96 : Int) ∧ Ext w94 w99) (fun ρ _ => a.writes.length - (intOf (ρ 88)).toNat) ⟨0, Nat.zero_le _, rfl, e63, rfl, rfl, rfl, Ext.refl _⟩ ?_)))
    rintro ρ w99 ⟨k96, hk97, hi98, e101, e102, e103, e104, x100⟩
    by_cases hl105 : k96 < a.writes.length
    ·obtain ⟨y106, hx107⟩ := some_of (l := a.writes) (k := k96) (by omega)
     obtain ⟨ad108, cs109, eA110, hK111, hE112⟩ := ha.writes k96 y106 hx107
     have hK111' : cs109 = [.string y106.key, .string y106.val] := hK111
     subst hK111'
     refine c_seq (c_quiet (qv (.bool true) (fun _ x' => yb (x_lss rfl e104 e103) (decide_eq_true (by omega))) ?_))
     refine q_nil (fun w114 x115 => t_norm (c_seq (c_true rfl (c_skip (t_norm (c_seq (c_block (c_seq (c_plain (pv (.pointer (some (ad108.add (k96 * 2)))) (x_indexAddr sl_35 rfl e102 eA110 e104 (by omega) (by omega) rfl) ?_))))))))))
     refine pv (vWr y106) (x_load rfl rfl (((((((((((((hE112.ext x3).ext x6).ext x16).ext x19).ext x53).ext x55).ext x57).ext x62).ext x93).ext x95).ext x100).ext x115).agg (vs := [.string y106.key, .string y106.val]) agg_80_2 0 rfl rfl)) ?_
     refine p_var (v := vWr y106) (vs := [.string y106.key, .string y106.val]) rfl rfl rfl zero_80 rfl rfl rfl rfl rfl rfl rfl size_80 rfl (fun w116 b117 x118 z119 => ?_)
     refine p_nil (t_norm (c_seq (c_quiet (qv (.pointer (some (⟨w114.heap.size, 1, none⟩))) (fun _ x' => x_fieldAddr fld_80_1 rfl rfl rfl) ?_))))
     refine qv (.string y106.val) (fun _ x' => x_load rfl rfl ((b117.ext x').one one_9 rfl)) ?_
     refine qv (iJ (y106.val.size : Int)) (fun _ x' => x_len_string str_9 rfl rfl) ?_
     refine q_bool (b := decide ((y106.val.size : Int) > 8)) rfl rfl (fun _ x' => x_gtr rfl rfl rfl) (fun c120 => ?_) (fun c120 => ?_)
     ·refine q_nil (fun w121 x122 => t_norm (c_true rfl (c_seq (c_quiet (qv (.bool false) (fun _ x' => x_assign rfl rfl) ?_)))))
      exact q_nil (fun w123 x124 => t_norm (c_ret (b_ret (t_ret (t_ret (b_ret (t_ret (c_done rfl rfl (Ret.b ((rightCmd_writes (by simpa using c7) (all_fail (p := fun x : Wr => decide (x.val.size ≤ 8)) hx107 (by simp_all <;> omega))).symm) ((((((((((((((x3.trans x6).trans x16).trans x19).trans x53).trans x55).trans x57).trans x62).trans x93).trans x95).trans x100).trans x115).trans x118).trans x122).trans x124))))))))))
     refine q_nil (fun w125 x126 => t_norm (c_false rfl (c_skip (b_norm (t_norm (c_quiet (qv (iJ ((k96 : Int) + 1)) (fun _ x' => x_add rfl e104 rfl (wrap_of (by omega) (by omega))) ?_)))))))
     refine qv (iJ ((k96 : Int) + 1)) (fun _ x' => x_move rfl rfl) ?_
     exact q_nil (fun w127 x128 => t_norm (⟨_, rfl, ⟨k96 + 1, by omega, all_step (p := fun x : Wr => decide (x.val.size ≤ 8)) hi98 hx107 (by simp_all <;> omega), e101, e102, e103, rfl, ((((x100.trans x115).trans x118).trans x126).trans x128)⟩, meas_up e104 hl105⟩))
    refine c_seq (c_quiet (qv (.bool false) (fun _ x' => yb (x_lss rfl e104 e103) (decide_eq_false (by omega))) ?_))
    refine q_nil (fun w129 x130 => t_norm (c_seq (c_false rfl (c_exit (t_exit (t_exit (b_exit (t_norm (c_seq (c_plain (pv (vCmd a pa) (x_load rfl e101 ((((((((((((b2.ext x6).ext x16).ext x19).ext x53).ext x55).ext x57).ext x62).ext x93).ext x95).ext x100).ext x130).agg (vs := [iJ a.kind, iJ a.txn.client, iJ a.txn.number, iJ a.stp.time, iJ a.stp.client, iJ a.shards, .slice pa.A a.reads.length pa.n, .slice pa.B a.writes.length pa.m, .bool a.commit]) agg_37_9 rfl)) ?_)))))))))))
    refine p_call (vs := #[vCmd a pa]) fn_69 rfl rfl rfl (args1 rfl) ?_
    refine (C_read _ a pa ((((((((((((ha.ext x3).ext x6).ext x16).ext x19).ext x53).ext x55).ext x57).ext x62).ext x93).ext x95).ext x100).ext x130) hs).mono ?_
    rintro e w134 ⟨A131, n132, c133, rfl, he135, hl136, hb137, hc138, x139⟩
    refine ⟨_, rfl, ?_⟩
    refine p_call (vs := #[.slice A131 n132 c133]) fn_68 rfl rfl rfl (args1 rfl) ?_
    refine (C_rightKeys _ _ _ _ (a.reads.map (·.key)) he135 hl136 (by have h := hs; simp; unfold Slim at h; omega)).mono ?_
    rintro e w140 ⟨rfl, x141⟩
    refine ⟨_, rfl, ?_⟩
    cases c142 : rightKeys (a.reads.map (·.key))
    case false =>
     refine pv (.bool false) (x_move rfl rfl) ?_
     refine p_skip rfl rfl ?_
     refine p_skip rfl rfl ?_
     refine p_skip rfl rfl ?_
     refine pv (.bool false) (x_pick_f rfl rfl rfl) ?_
     refine pv (.bool false) (x_assign rfl rfl) ?_
     exact p_nil (t_norm (c_ret (c_done rfl rfl (Ret.b (rightCmd_end (by simpa using c7) (all_end hi60 hl68) (all_end hi98 hl105) c142 (fun h => by cases h) (fun _ => rfl) (by clear ha; simp only [empty_len] at *; simp_all [-List.length_eq_zero_iff] <;> first | omega | (intros; omega) | (intros; simp_all [-List.length_eq_zero_iff] <;> omega))) (((((((((((((x3.trans x6).trans x16).trans x19).trans x53).trans x55).trans x57).trans x62).trans x93).trans x95).trans x100).trans x130).trans x139).trans x141)))))
    refine pv (.bool true) (x_move rfl rfl) ?_
    refine pv (vCmd a pa) (x_load rfl e101 ((((((((((((((b2.ext x6).ext x16).ext x19).ext x53).ext x55).ext x57).ext x62).ext x93).ext x95).ext x100).ext x130).ext x139).ext x141).agg (vs := [iJ a.kind, iJ a.txn.client, iJ a.txn.number, iJ a.stp.time, iJ a.stp.client, iJ a.shards, .slice pa.A a.reads.length pa.n, .slice pa.B a.writes.length pa.m, .bool a.commit]) agg_37_9 rfl)) ?_
    refine p_call (vs := #[vCmd a pa]) fn_70 rfl rfl rfl (args1 rfl) ?_
    refine (C_written _ a pa ((((((((((((((ha.ext x3).ext x6).ext x16).ext x19).ext x53).ext x55).ext x57).ext x62).ext x93).ext x95).ext x100).ext x130).ext x139).ext x141) hs).mono ?_
    rintro e w146 ⟨A143, n144, c145, rfl, he147, hl148, hb149, hc150, x151⟩
    refine ⟨_, rfl, ?_⟩
    refine p_call (vs := #[.slice A143 n144 c145]) fn_68 rfl rfl rfl (args1 rfl) ?_
    refine (C_rightKeys _ _ _ _ (a.writes.map (·.key)) he147 hl148 (by have h := hs; simp; unfold Slim at h; omega)).mono ?_
    rintro e w152 ⟨rfl, x153⟩
    refine ⟨_, rfl, ?_⟩
    cases c154 : rightKeys (a.writes.map (·.key))
    case false =>
     refine pv (.bool false) (x_pick_t rfl rfl rfl) ?_
     refine pv (.bool false) (x_assign rfl rfl) ?_
     exact p_nil (t_norm (c_ret (c_done rfl rfl (Ret.b (rightCmd_end (by simpa using c7) (all_end hi60 hl68) (all_end hi98 hl105) c142 (fun _ => c154) (fun h => by cases h) (by clear ha; simp only [empty_len] at *; simp_all [-List.length_eq_zero_iff] <;> first | omega | (intros; omega) | (intros; simp_all [-List.length_eq_zero_iff] <;> omega))) (((((((((((((((x3.trans x6).trans x16).trans x19).trans x53).trans x55).trans x57).trans x62).trans x93).trans x95).trans x100).trans x130).trans x139).trans x141).trans x151).trans x153)))))
    refine pv (.bool true) (x_pick_t rfl rfl rfl) ?_
    refine pv (.bool true) (x_assign rfl rfl) ?_
    exact p_nil (t_norm (c_ret (c_done rfl rfl (Ret.b (rightCmd_end (by simpa using c7) (all_end hi60 hl68) (all_end hi98 hl105) c142 (fun _ => c154) (fun h => by cases h) (by clear ha; simp only [empty_len] at *; simp_all [-List.length_eq_zero_iff] <;> first | omega | (intros; omega) | (intros; simp_all [-List.length_eq_zero_iff] <;> omega))) (((((((((((((((x3.trans x6).trans x16).trans x19).trans x53).trans x55).trans x57).trans x62).trans x93).trans x95).trans x100).trans x130).trans x139).trans x141).trans x151).trans x153)))))
   refine qv (.bool true) (fun _ x' => x_not (b := false) rfl rfl) ?_
   refine qv (.bool true) (fun _ x' => x_pick_f rfl rfl rfl) ?_
   refine qv (.bool true) (fun _ x' => x_move rfl rfl) ?_
   refine qk rfl rfl (qk rfl rfl (qk rfl rfl (qk rfl rfl (qv (.bool true) (fun _ x' => x_pick_t rfl rfl rfl) ?_))))
   refine qv (.bool true) (fun _ x' => x_move rfl rfl) ?_
   refine qk rfl rfl (qk rfl rfl (qk rfl rfl (qk rfl rfl (qk rfl rfl (qk rfl rfl (qk rfl rfl (qv (.bool true) (fun _ x' => x_pick_t rfl rfl rfl) ?_)))))))
   refine qv (.bool true) (fun _ x' => x_move rfl rfl) ?_
   refine qk rfl rfl (qk rfl rfl (qk rfl rfl (qv (.bool true) (fun _ x' => x_pick_t rfl rfl rfl) ?_)))
   refine qv (.bool true) (fun _ x' => x_move rfl rfl) ?_
   refine qk rfl rfl (qk rfl rfl (qk rfl rfl (qv (.bool true) (fun _ x' => x_pick_t rfl rfl rfl) ?_)))
   refine qv (.bool true) (fun _ x' => x_move rfl rfl) ?_
   refine qk rfl rfl (qk rfl rfl (qk rfl rfl (qk rfl rfl (qk rfl rfl (qk rfl rfl (qk rfl rfl (qk rfl rfl (qv (.bool true) (fun _ x' => x_pick_t rfl rfl rfl) ?_))))))))
   refine qv (.bool true) (fun _ x' => x_move rfl rfl) ?_
   refine qk rfl rfl (qk rfl rfl (qk rfl rfl (qk rfl rfl (qk rfl rfl (qk rfl rfl (qk rfl rfl (qv (.bool true) (fun _ x' => x_pick_t rfl rfl rfl) ?_)))))))
   refine q_nil (fun w155 x156 => t_norm (c_true rfl (c_seq (c_quiet (qv (.bool false) (fun _ x' => x_assign rfl rfl) ?_)))))
   exact q_nil (fun w157 x158 => t_norm (c_ret (t_ret (c_done rfl rfl (Ret.b ((rightCmd_head (by simpa using c7) (by clear ha; simp only [empty_len] at *; simp_all [-List.length_eq_zero_iff] <;> first | omega | (intros; omega) | (intros; simp_all [-List.length_eq_zero_iff] <;> omega))).symm) (((((x3.trans x6).trans x16).trans x19).trans x156).trans x158))))))
  refine qv (.bool true) (fun _ x' => x_not (b := false) rfl rfl) ?_
  refine qv (.bool true) (fun _ x' => x_move rfl rfl) ?_
  refine qk rfl rfl (qk rfl rfl (qk rfl rfl (qk rfl rfl (qv (.bool true) (fun _ x' => x_pick_t rfl rfl rfl) ?_))))
  refine qv (.bool true) (fun _ x' => x_move rfl rfl) ?_
  refine qk rfl rfl (qk rfl rfl (qk rfl rfl (qk rfl rfl (qv (.bool true) (fun _ x' => x_pick_t rfl rfl rfl) ?_))))
  refine qv (.bool true) (fun _ x' => x_move rfl rfl) ?_
  refine qk rfl rfl (qk rfl rfl (qk rfl rfl (qk rfl rfl (qk rfl rfl (qk rfl rfl (qk rfl rfl (qv (.bool true) (fun _ x' => x_pick_t rfl rfl rfl) ?_)))))))
  refine qv (.bool true) (fun _ x' => x_move rfl rfl) ?_
  refine qk rfl rfl (qk rfl rfl (qk rfl rfl (qv (.bool true) (fun _ x' => x_pick_t rfl rfl rfl) ?_)))
  refine qv (.bool true) (fun _ x' => x_move rfl rfl) ?_
  refine qk rfl rfl (qk rfl rfl (qk rfl rfl (qv (.bool true) (fun _ x' => x_pick_t rfl rfl rfl) ?_)))
  refine qv (.bool true) (fun _ x' => x_move rfl rfl) ?_
  refine qk rfl rfl (qk rfl rfl (qk rfl rfl (qk rfl rfl (qk rfl rfl (qk rfl rfl (qk rfl rfl (qk rfl rfl (qv (.bool true) (fun _ x' => x_pick_t rfl rfl rfl) ?_))))))))
  refine qv (.bool true) (fun _ x' => x_move rfl rfl) ?_
  refine qk rfl rfl (qk rfl rfl (qk rfl rfl (qk rfl rfl (qk rfl rfl (qk rfl rfl (qk rfl rfl (qv (.bool true) (fun _ x' => x_pick_t rfl rfl rfl) ?_)))))))
  refine q_nil (fun w159 x160 => t_norm (c_true rfl (c_seq (c_quiet (qv (.bool false) (fun _ x' => x_assign rfl rfl) ?_)))))
  exact q_nil (fun w161 x162 => t_norm (c_ret (t_ret (c_done rfl rfl (Ret.b ((rightCmd_head (by simpa using c7) (by clear ha; simp only [empty_len] at *; simp_all [-List.length_eq_zero_iff] <;> first | omega | (intros; omega) | (intros; simp_all [-List.length_eq_zero_iff] <;> omega))).symm) (((((x3.trans x6).trans x16).trans x19).trans x160).trans x162))))))
 refine qv (.bool false) (fun _ x' => x_assign rfl rfl) ?_
 refine q_nil (fun w163 x164 => t_norm (c_false rfl (c_quiet (q_bool (b := decide (a.kind = 2)) rfl rfl (fun _ x' => x_eql rfl rfl rfl) (fun c165 => ?_) (fun c165 => ?_)))))
 ·refine qv (.bool true) (fun _ x' => x_assign rfl rfl) ?_
  refine q_nil (fun w166 x167 => t_norm (c_true rfl (c_skip (b_norm (t_norm (c_seq (c_seq (c_quiet (qv (.pointer (some (⟨w.heap.size, 1, none⟩))) (fun _ x' => x_fieldAddr fld_37_1 rfl rfl rfl) ?_)))))))))
  refine qv (.agg #[iJ a.txn.client, iJ a.txn.number]) (fun _ x' => x_load rfl rfl ((((((b2.ext x6).ext x16).ext x164).ext x167).ext x').agg (vs := [iJ a.txn.client, iJ a.txn.number]) agg_31_2 rfl)) ?_
  refine q_callb (b := rightTxn a.txn) (vs := #[.agg #[iJ a.txn.client, iJ a.txn.number]]) fn_64 rfl rfl rfl (args1 rfl) (fun _ x' => C_rightTxn _ a.txn) (fun c168 => ?_) (fun c168 => ?_)
  ·refine qv (.bool false) (fun _ x' => x_not (b := true) rfl rfl) ?_
   refine qv (.bool false) (fun _ x' => x_move rfl rfl) ?_
   refine qv (.pointer (some (⟨w.heap.size, 3, none⟩))) (fun _ x' => x_fieldAddr fld_37_2 rfl rfl rfl) ?_
   refine qv (.agg #[iJ a.stp.time, iJ a.stp.client]) (fun _ x' => x_load rfl rfl ((((((b2.ext x6).ext x16).ext x164).ext x167).ext x').agg (vs := [iJ a.stp.time, iJ a.stp.client]) agg_33_2 rfl)) ?_
   refine q_callb (b := rightStp a.stp) (vs := #[.agg #[iJ a.stp.time, iJ a.stp.client]]) fn_65 rfl rfl rfl (args1 rfl) (fun _ x' => C_rightStp _ a.stp) (fun c169 => ?_) (fun c169 => ?_)
   ·refine qv (.bool false) (fun _ x' => x_not (b := true) rfl rfl) ?_
    refine qv (.bool false) (fun _ x' => x_pick_f rfl rfl rfl) ?_
    refine qv (.bool false) (fun _ x' => x_move rfl rfl) ?_
    refine qv (.pointer (some (⟨w.heap.size, 3, none⟩))) (fun _ x' => x_fieldAddr fld_37_2 rfl rfl rfl) ?_
    refine qv (.pointer (some (⟨w.heap.size, 3, none⟩))) (fun _ x' => x_fieldAddr fld_33_0 rfl rfl rfl) ?_
    refine qv (iJ a.stp.time) (fun _ x' => x_load rfl rfl ((((((b2.ext x6).ext x16).ext x164).ext x167).ext x').one one_3 rfl)) ?_
    refine q_bool (b := decide (a.stp.time < 1)) rfl rfl (fun _ x' => x_lss rfl rfl rfl) (fun c170 => ?_) (fun c170 => ?_)
    ·refine qv (.bool true) (fun _ x' => x_pick_f rfl rfl rfl) ?_
     refine qv (.bool true) (fun _ x' => x_move rfl rfl) ?_
     refine qk rfl rfl (qk rfl rfl (qk rfl rfl (qk rfl rfl (qk rfl rfl (qk rfl rfl (qk rfl rfl (qv (.bool true) (fun _ x' => x_pick_t rfl rfl rfl) ?_)))))))
     refine qv (.bool true) (fun _ x' => x_move rfl rfl) ?_
     refine qk rfl rfl (qk rfl rfl (qk rfl rfl (qv (.bool true) (fun _ x' => x_pick_t rfl rfl rfl) ?_)))
     refine qv (.bool true) (fun _ x' => x_move rfl rfl) ?_
     refine qk rfl rfl (qk rfl rfl (qk rfl rfl (qv (.bool true) (fun _ x' => x_pick_t rfl rfl rfl) ?_)))
     refine qv (.bool true) (fun _ x' => x_move rfl rfl) ?_
     refine qk rfl rfl (qk rfl rfl (qk rfl rfl (qk rfl rfl (qk rfl rfl (qk rfl rfl (qk rfl rfl (qk rfl rfl (qv (.bool true) (fun _ x' => x_pick_t rfl rfl rfl) ?_))))))))
     refine qv (.bool true) (fun _ x' => x_move rfl rfl) ?_
     refine qk rfl rfl (qk rfl rfl (qk rfl rfl (qk rfl rfl (qk rfl rfl (qk rfl rfl (qk rfl rfl (qv (.bool true) (fun _ x' => x_pick_t rfl rfl rfl) ?_)))))))
     refine q_nil (fun w171 x172 => t_norm (c_true rfl (c_seq (c_quiet (qv (.bool false) (fun _ x' => x_assign rfl rfl) ?_)))))
     exact q_nil (fun w173 x174 => t_norm (c_ret (t_ret (c_done rfl rfl (Ret.b ((rightCmd_head (by simpa using c7) (by clear ha; simp only [empty_len] at *; simp_all [-List.length_eq_zero_iff] <;> first | omega | (intros; omega) | (intros; simp_all [-List.length_eq_zero_iff] <;> omega))).symm) ((((((x3.trans x6).trans x16).trans x164).trans x167).trans x172).trans x174))))))
    refine qv (.bool false) (fun _ x' => x_pick_f rfl rfl rfl) ?_
    refine qv (.bool false) (fun _ x' => x_move rfl rfl) ?_
    refine qv (.pointer (some (⟨w.heap.size, 3, none⟩))) (fun _ x' => x_fieldAddr fld_37_2 rfl rfl rfl) ?_
    refine qv (.pointer (some (⟨w.heap.size, 4, none⟩))) (fun _ x' => x_fieldAddr fld_33_1 rfl rfl rfl) ?_
    refine qv (iJ a.stp.client) (fun _ x' => x_load rfl rfl ((((((b2.ext x6).ext x16).ext x164).ext x167).ext x').one one_3 rfl)) ?_
    refine qv (.pointer (some (⟨w.heap.size, 1, none⟩))) (fun _ x' => x_fieldAddr fld_37_1 rfl rfl rfl) ?_
    refine qv (.pointer (some (⟨w.heap.size, 1, none⟩))) (fun _ x' => x_fieldAddr fld_31_0 rfl rfl rfl) ?_
    refine qv (iJ a.txn.client) (fun _ x' => x_load rfl rfl ((((((b2.ext x6).ext x16).ext x164).ext x167).ext x').one one_3 rfl)) ?_
    refine q_bool (b := decide (a.stp.client ≠ a.txn.client)) rfl rfl (fun _ x' => x_neq rfl rfl rfl) (fun c175 => ?_) (fun c175 => ?_)
    ·refine qv (.bool true) (fun _ x' => x_pick_f rfl rfl rfl) ?_
     refine qv (.bool true) (fun _ x' => x_move rfl rfl) ?_
     refine qk rfl rfl (qk rfl rfl (qk rfl rfl (qv (.bool true) (fun _ x' => x_pick_t rfl rfl rfl) ?_)))
     refine qv (.bool true) (fun _ x' => x_move rfl rfl) ?_
     refine qk rfl rfl (qk rfl rfl (qk rfl rfl (qv (.bool true) (fun _ x' => x_pick_t rfl rfl rfl) ?_)))
     refine qv (.bool true) (fun _ x' => x_move rfl rfl) ?_
     refine qk rfl rfl (qk rfl rfl (qk rfl rfl (qk rfl rfl (qk rfl rfl (qk rfl rfl (qk rfl rfl (qk rfl rfl (qv (.bool true) (fun _ x' => x_pick_t rfl rfl rfl) ?_))))))))
     refine qv (.bool true) (fun _ x' => x_move rfl rfl) ?_
     refine qk rfl rfl (qk rfl rfl (qk rfl rfl (qk rfl rfl (qk rfl rfl (qk rfl rfl (qk rfl rfl (qv (.bool true) (fun _ x' => x_pick_t rfl rfl rfl) ?_)))))))
     refine q_nil (fun w176 x177 => t_norm (c_true rfl (c_seq (c_quiet (qv (.bool false) (fun _ x' => x_assign rfl rfl) ?_)))))
     exact q_nil (fun w178 x179 => t_norm (c_ret (t_ret (c_done rfl rfl (Ret.b ((rightCmd_head (by simpa using c7) (by clear ha; simp only [empty_len] at *; simp_all [-List.length_eq_zero_iff] <;> first | omega | (intros; omega) | (intros; simp_all [-List.length_eq_zero_iff] <;> omega))).symm) ((((((x3.trans x6).trans x16).trans x164).trans x167).trans x177).trans x179))))))
    refine qv (.bool false) (fun _ x' => x_pick_f rfl rfl rfl) ?_
    refine qv (.bool false) (fun _ x' => x_move rfl rfl) ?_
    refine qv (.pointer (some (⟨w.heap.size, 5, none⟩))) (fun _ x' => x_fieldAddr fld_37_3 rfl rfl rfl) ?_
    refine qv (iJ a.shards) (fun _ x' => x_load rfl rfl ((((((b2.ext x6).ext x16).ext x164).ext x167).ext x').one one_3 rfl)) ?_
    refine q_bool (b := decide (a.shards < 1)) rfl rfl (fun _ x' => x_lss rfl rfl rfl) (fun c180 => ?_) (fun c180 => ?_)
    ·refine qv (.bool true) (fun _ x' => x_pick_f rfl rfl rfl) ?_
     refine qv (.bool true) (fun _ x' => x_move rfl rfl) ?_
     refine qk rfl rfl (qk rfl rfl (qk rfl rfl (qv (.bool true) (fun _ x' => x_pick_t rfl rfl rfl) ?_)))
     refine qv (.bool true) (fun _ x' => x_move rfl rfl) ?_
     refine qk rfl rfl (qk rfl rfl (qk rfl rfl (qk rfl rfl (qk rfl rfl (qk rfl rfl (qk rfl rfl (qk rfl rfl (qv (.bool true) (fun _ x' => x_pick_t rfl rfl rfl) ?_))))))))
     refine qv (.bool true) (fun _ x' => x_move rfl rfl) ?_
     refine qk rfl rfl (qk rfl rfl (qk rfl rfl (qk rfl rfl (qk rfl rfl (qk rfl rfl (qk rfl rfl (qv (.bool true) (fun _ x' => x_pick_t rfl rfl rfl) ?_)))))))
     refine q_nil (fun w181 x182 => t_norm (c_true rfl (c_seq (c_quiet (qv (.bool false) (fun _ x' => x_assign rfl rfl) ?_)))))
     exact q_nil (fun w183 x184 => t_norm (c_ret (t_ret (c_done rfl rfl (Ret.b ((rightCmd_head (by simpa using c7) (by clear ha; simp only [empty_len] at *; simp_all [-List.length_eq_zero_iff] <;> first | omega | (intros; omega) | (intros; simp_all [-List.length_eq_zero_iff] <;> omega))).symm) ((((((x3.trans x6).trans x16).trans x164).trans x167).trans x182).trans x184))))))
    refine qv (.bool false) (fun _ x' => x_pick_f rfl rfl rfl) ?_
    refine qv (.bool false) (fun _ x' => x_move rfl rfl) ?_
    refine qv (.pointer (some (⟨w.heap.size, 5, none⟩))) (fun _ x' => x_fieldAddr fld_37_3 rfl rfl rfl) ?_
    refine qv (iJ a.shards) (fun _ x' => x_load rfl rfl ((((((b2.ext x6).ext x16).ext x164).ext x167).ext x').one one_3 rfl)) ?_
    refine q_bool (b := decide (a.shards > 15)) rfl rfl (fun _ x' => x_gtr rfl rfl rfl) (fun c185 => ?_) (fun c185 => ?_)
    ·refine qv (.bool true) (fun _ x' => x_pick_f rfl rfl rfl) ?_
     refine qv (.bool true) (fun _ x' => x_move rfl rfl) ?_
     refine qk rfl rfl (qk rfl rfl (qk rfl rfl (qk rfl rfl (qk rfl rfl (qk rfl rfl (qk rfl rfl (qk rfl rfl (qv (.bool true) (fun _ x' => x_pick_t rfl rfl rfl) ?_))))))))
     refine qv (.bool true) (fun _ x' => x_move rfl rfl) ?_
     refine qk rfl rfl (qk rfl rfl (qk rfl rfl (qk rfl rfl (qk rfl rfl (qk rfl rfl (qk rfl rfl (qv (.bool true) (fun _ x' => x_pick_t rfl rfl rfl) ?_)))))))
     refine q_nil (fun w186 x187 => t_norm (c_true rfl (c_seq (c_quiet (qv (.bool false) (fun _ x' => x_assign rfl rfl) ?_)))))
     exact q_nil (fun w188 x189 => t_norm (c_ret (t_ret (c_done rfl rfl (Ret.b ((rightCmd_head (by simpa using c7) (by clear ha; simp only [empty_len] at *; simp_all [-List.length_eq_zero_iff] <;> first | omega | (intros; omega) | (intros; simp_all [-List.length_eq_zero_iff] <;> omega))).symm) ((((((x3.trans x6).trans x16).trans x164).trans x167).trans x187).trans x189))))))
    refine qv (.bool false) (fun _ x' => x_pick_f rfl rfl rfl) ?_
    refine qv (.bool false) (fun _ x' => x_move rfl rfl) ?_
    refine qv (.pointer (some (⟨w.heap.size, 6, none⟩))) (fun _ x' => x_fieldAddr fld_37_4 rfl rfl rfl) ?_
    refine qv (.slice pa.A a.reads.length pa.n) (fun _ x' => x_load rfl rfl ((((((b2.ext x6).ext x16).ext x164).ext x167).ext x').one one_34 rfl)) ?_
    refine qv (iJ (a.reads.length : Int)) (fun _ x' => x_len_slice sl_34 rfl rfl) ?_
    refine qv (.pointer (some (⟨w.heap.size, 7, none⟩))) (fun _ x' => x_fieldAddr fld_37_5 rfl rfl rfl) ?_
    refine qv (.slice pa.B a.writes.length pa.m) (fun _ x' => x_load rfl rfl ((((((b2.ext x6).ext x16).ext x164).ext x167).ext x').one one_35 rfl)) ?_
    refine qv (iJ (a.writes.length : Int)) (fun _ x' => x_len_slice sl_35 rfl rfl) ?_
    refine qv (iJ ((a.reads.length : Int) + (a.writes.length : Int))) (fun _ x' => x_add rfl rfl rfl (wrap_of (by omega) (by omega))) ?_
    refine q_bool (b := decide ((a.reads.length : Int) + (a.writes.length : Int) = 0)) rfl rfl (fun _ x' => x_eql rfl rfl rfl) (fun c190 => ?_) (fun c190 => ?_)
    ·refine qv (.bool true) (fun _ x' => x_pick_f rfl rfl rfl) ?_
     refine qv (.bool true) (fun _ x' => x_move rfl rfl) ?_
     refine qk rfl rfl (qk rfl rfl (qk rfl rfl (qk rfl rfl (qk rfl rfl (qk rfl rfl (qk rfl rfl (qv (.bool true) (fun _ x' => x_pick_t rfl rfl rfl) ?_)))))))
     refine q_nil (fun w191 x192 => t_norm (c_true rfl (c_seq (c_quiet (qv (.bool false) (fun _ x' => x_assign rfl rfl) ?_)))))
     exact q_nil (fun w193 x194 => t_norm (c_ret (t_ret (c_done rfl rfl (Ret.b ((rightCmd_head (by simpa using c7) (by clear ha; simp only [empty_len] at *; simp_all [-List.length_eq_zero_iff] <;> first | omega | (intros; omega) | (intros; simp_all [-List.length_eq_zero_iff] <;> omega))).symm) ((((((x3.trans x6).trans x16).trans x164).trans x167).trans x192).trans x194))))))
    refine qv (.bool false) (fun _ x' => x_pick_f rfl rfl rfl) ?_
    refine qv (.bool false) (fun _ x' => x_move rfl rfl) ?_
    refine qv (.pointer (some (⟨w.heap.size, 8, none⟩))) (fun _ x' => x_fieldAddr fld_37_6 rfl rfl rfl) ?_
    refine q_bool (b := a.commit) rfl rfl (fun _ x' => x_load rfl rfl ((((((b2.ext x6).ext x16).ext x164).ext x167).ext x').one one_4 rfl)) (fun c195 => ?_) (fun c195 => ?_)
    ·refine qv (.bool true) (fun _ x' => x_move rfl rfl) ?_
     refine qv (pJ w.heap.size) (fun _ x' => x_fieldAddr fld_37_0 rfl rfl rfl) ?_
     refine qv (iJ a.kind) (fun _ x' => x_load rfl rfl ((((((b2.ext x6).ext x16).ext x164).ext x167).ext x').one one_3 rfl)) ?_
     refine qv (.bool false) (fun _ x' => yb (x_eql rfl rfl rfl) c17) ?_
     refine qv (.bool false) (fun _ x' => x_pick_t rfl rfl rfl) ?_
     refine qv (.bool false) (fun _ x' => x_pick_f rfl rfl rfl) ?_
     refine q_nil (fun w196 x197 => t_norm (c_false rfl (c_skip (t_norm (c_seq (c_quiet (qv (.func (.func 66) #[] #[pJ w.heap.size]) (fun _ x' => x_makeFunc rfl (args1 rfl)) ?_)))))))
     refine qv (.func (.func 66) #[] #[pJ w.heap.size]) (fun _ x' => x_assign rfl rfl) ?_
     refine q_nil (fun w198 x199 => t_norm (c_seq (c_seq (c_quiet (qv (.pointer (some (⟨w.heap.size, 6, none⟩))) (fun _ x' => x_fieldAddr fld_37_4 rfl rfl rfl) ?_)))))
     refine qv (.slice pa.A a.reads.length pa.n) (fun _ x' => x_load rfl rfl ((((((((b2.ext x6).ext x16).ext x164).ext x167).ext x197).ext x199).ext x').one one_34 rfl)) ?_
     refine qv (iJ (a.reads.length : Int)) (fun _ x' => x_len_slice sl_34 rfl rfl) ?_
     refine qv (iJ 0) (fun _ x' => x_move rfl rfl) ?_
     refine q_nil (fun w200 x201 => t_norm (c_block (c_loop (fun ρ w205 => ∃ k202 : Nat, k202 ≤ a.reads.length ∧ (a.reads.take k202).all (oldRd a) = true ∧ ρ 1 = pJ w.heap.size ∧ ρ 3 = .func (.func 66) #[] #[pJ w.heap.size] ∧ ρ 74 = .slice pa.A a.reads.length pa.n ∧ ρ 75 = iJ (a.reads.length : Int) ∧ ρ 76 = iJ (k202 : Int) ∧ Ext w200 w205) (fun ρ _ => a.reads.length - (intOf (ρ 76)).toNat) ⟨0, Nat.zero_le _, rfl, rfl, rfl, rfl, rfl, rfl, Ext.refl _⟩ ?_)))
     rintro ρ w205 ⟨k202, hk203, hi204, e207, e208, e209, e210, e211, x206⟩
     by_cases hl212 : k202 < a.reads.length
     ·obtain ⟨y213, hx214⟩ := some_of (l := a.reads) (k := k202) (by omega)
      obtain ⟨ad215, cs216, eA217, hK218, hE219⟩ := ha.reads k202 y213 hx214
      have hK218' : cs216 = [.string y213.key, iJ y213.ver.time, iJ y213.ver.client] := hK218
      subst hK218'
      refine c_seq (c_quiet (qv (.bool true) (fun _ x' => yb (x_lss rfl e211 e210) (decide_eq_true (by omega))) ?_))
      refine q_nil (fun w221 x222 => t_norm (c_seq (c_true rfl (c_skip (t_norm (c_seq (c_block (c_seq (c_plain (pv (.pointer (some (ad215.add (k202 * 3)))) (x_indexAddr sl_34 rfl e209 eA217 e211 (by omega) (by omega) rfl) ?_))))))))))
      refine pv (vRd y213) (x_load rfl rfl (((((((((((hE219.ext x3).ext x6).ext x16).ext x164).ext x167).ext x197).ext x199).ext x201).ext x206).ext x222).agg (vs := [.string y213.key, iJ y213.ver.time, iJ y213.ver.client]) agg_78_3 0 rfl rfl)) ?_
      refine p_var (v := vRd y213) (vs := [.string y213.key, iJ y213.ver.time, iJ y213.ver.client]) rfl rfl rfl zero_78 rfl rfl rfl rfl rfl rfl rfl size_78 rfl (fun w223 b224 x225 z226 => ?_)
      refine p_nil (t_norm (c_seq (c_quiet (qv (.func (.func 66) #[] #[pJ w.heap.size]) (fun _ x' => x_move rfl e208) ?_))))
      refine qv (vRd y213) (fun _ x' => x_load rfl rfl ((b224.ext x').agg (vs := [.string y213.key, iJ y213.ver.time, iJ y213.ver.client]) agg_78_3 rfl)) ?_
      refine q_callvb (b := oldRd a y213) (vs := #[vRd y213]) (cap := #[pJ w.heap.size]) (all := #[vRd y213, pJ w.heap.size]) fn_66 rfl rfl rfl rfl (args1 rfl) (by simp) (fun _ x' => C_oldRd _ y213 a pa _ (((((((((((b2.ext x6).ext x16).ext x164).ext x167).ext x197).ext x199).ext x201).ext x206).ext x222).ext x225).ext x')) (fun c227 => ?_) (fun c227 => ?_)
      ·refine qv (.bool false) (fun _ x' => x_not (b := true) rfl rfl) ?_
       refine q_nil (fun w228 x229 => t_norm (c_false rfl (c_skip (b_norm (t_norm (c_quiet (qv (iJ ((k202 : Int) + 1)) (fun _ x' => x_add rfl e211 rfl (wrap_of (by omega) (by omega))) ?_)))))))
       refine qv (iJ ((k202 : Int) + 1)) (fun _ x' => x_move rfl rfl) ?_
       exact q_nil (fun w230 x231 => t_norm (⟨_, rfl, ⟨k202 + 1, by omega, all_step (p := oldRd a) hi204 hx214 (by simp_all [oldRd]), e207, e208, e209, e210, rfl, ((((x206.trans x222).trans x225).trans x229).trans x231)⟩, meas_up e211 hl212⟩))
      refine qv (.bool true) (fun _ x' => x_not (b := false) rfl rfl) ?_
      refine q_nil (fun w232 x233 => t_norm (c_true rfl (c_seq (c_quiet (qv (.bool false) (fun _ x' => x_assign rfl rfl) ?_)))))
      exact q_nil (fun w234 x235 => t_norm (c_ret (b_ret (t_ret (t_ret (b_ret (t_ret (c_done rfl rfl (Ret.b ((rightCmd_reads (by simpa using c7) (all_fail (p := oldRd a) hx214 c227)).symm) ((((((((((((x3.trans x6).trans x16).trans x164).trans x167).trans x197).trans x199).trans x201).trans x206).trans x222).trans x225).trans x233).trans x235))))))))))
     refine c_seq (c_quiet (qv (.bool false) (fun _ x' => yb (x_lss rfl e211 e210) (decide_eq_false (by omega))) ?_))
     refine q_nil (fun w236 x237 => t_norm (c_seq (c_false rfl (c_exit (t_exit (t_exit (b_exit (t_norm (c_seq (c_seq (c_quiet (qv (.pointer (some (⟨w.heap.size, 7, none⟩))) (fun _ x' => x_fieldAddr fld_37_5 rfl e207 rfl) ?_))))))))))))
     refine qv (.slice pa.B a.writes.length pa.m) (fun _ x' => x_load rfl rfl (((((((((((b2.ext x6).ext x16).ext x164).ext x167).ext x197).ext x199).ext x201).ext x206).ext x237).ext x').one one_35 rfl)) ?_
     refine qv (iJ (a.writes.length : Int)) (fun _ x' => x_len_slice sl_35 rfl rfl) ?_
     refine qv (iJ 0) (fun _ x' => x_move rfl rfl) ?_
     refine q_nil (fun w238 x239 => t_norm (c_block (c_loop (fun ρ w243 => ∃ k240 : Nat, k240 ≤ a.writes.length ∧ (a.writes.take k240).all (fun x : Wr => decide (x.val.size ≤ 8)) = true ∧ ρ 1 = pJ w.heap.size ∧ ρ 86 = .slice pa.B a.writes.length pa.m ∧ ρ 87 = iJ (a.writes.length : Int) ∧ ρ 88 = iJ (k240 : Int) ∧ Ext w238 w243) (fun ρ _ => a.writes.length - (intOf (ρ 88)).toNat) ⟨0, Nat.zero_le _, rfl, e207, rfl, rfl, rfl, Ext.refl _⟩ ?_)))
     rintro ρ w243 ⟨k240, hk241, hi242, e245, e246, e247, e248, x244⟩
     by_cases hl249 : k240 < a.writes.length
     ·obtain ⟨y250, hx251⟩ := some_of (l := a.writes) (k := k240) (by omega)
      obtain ⟨ad252, cs253, eA254, hK255, hE256⟩ := ha.writes k240 y250 hx251
      have hK255' : cs253 = [.string y250.key, .string y250.val] := hK255
      subst hK255'
      refine c_seq (c_quiet (qv (.bool true) (fun _ x' => yb (x_lss rfl e248 e247) (decide_eq_true (by omega))) ?_))
      refine q_nil (fun w258 x259 => t_norm (c_seq (c_true rfl (c_skip (t_norm (c_seq (c_block (c_seq (c_plain (pv (.pointer (some (ad252.add (k240 * 2)))) (x_indexAddr sl_35 rfl e246 eA254 e248 (by omega) (by omega) rfl) ?_))))))))))
      refine pv (vWr y250) (x_load rfl rfl ((((((((((((((hE256.ext x3).ext x6).ext x16).ext x164).ext x167).ext x197).ext x199).ext x201).ext x206).ext x237).ext x239).ext x244).ext x259).agg (vs := [.string y250.key, .string y250.val]) agg_80_2 0 rfl rfl)) ?_
      refine p_var (v := vWr y250) (vs := [.string y250.key, .string y250.val]) rfl rfl rfl zero_80 rfl rfl rfl rfl rfl rfl rfl size_80 rfl (fun w260 b261 x262 z263 => ?_)
      refine p_nil (t_norm (c_seq (c_quiet (qv (.pointer (some (⟨w258.heap.size, 1, none⟩))) (fun _ x' => x_fieldAddr fld_80_1 rfl rfl rfl) ?_))))
      refine qv (.string y250.val) (fun _ x' => x_load rfl rfl ((b261.ext x').one one_9 rfl)) ?_
      refine qv (iJ (y250.val.size : Int)) (fun _ x' => x_len_string str_9 rfl rfl) ?_
      refine q_bool (b := decide ((y250.val.size : Int) > 8)) rfl rfl (fun _ x' => x_gtr rfl rfl rfl) (fun c264 => ?_) (fun c264 => ?_)
      ·refine q_nil (fun w265 x266 => t_norm (c_true rfl (c_seq (c_quiet (qv (.bool false) (fun _ x' => x_assign rfl rfl) ?_)))))
       exact q_nil (fun w267 x268 => t_norm (c_ret (b_ret (t_ret (t_ret (b_ret (t_ret (c_done rfl rfl (Ret.b ((rightCmd_writes (by simpa using c7) (all_fail (p := fun x : Wr => decide (x.val.size ≤ 8)) hx251 (by simp_all <;> omega))).symm) (((((((((((((((x3.trans x6).trans x16).trans x164).trans x167).trans x197).trans x199).trans x201).trans x206).trans x237).trans x239).trans x244).trans x259).trans x262).trans x266).trans x268))))))))))
      refine q_nil (fun w269 x270 => t_norm (c_false rfl (c_skip (b_norm (t_norm (c_quiet (qv (iJ ((k240 : Int) + 1)) (fun _ x' => x_add rfl e248 rfl (wrap_of (by omega) (by omega))) ?_)))))))
      refine qv (iJ ((k240 : Int) + 1)) (fun _ x' => x_move rfl rfl) ?_
      exact q_nil (fun w271 x272 => t_norm (⟨_, rfl, ⟨k240 + 1, by omega, all_step (p := fun x : Wr => decide (x.val.size ≤ 8)) hi242 hx251 (by simp_all <;> omega), e245, e246, e247, rfl, ((((x244.trans x259).trans x262).trans x270).trans x272)⟩, meas_up e248 hl249⟩))
     refine c_seq (c_quiet (qv (.bool false) (fun _ x' => yb (x_lss rfl e248 e247) (decide_eq_false (by omega))) ?_))
     refine q_nil (fun w273 x274 => t_norm (c_seq (c_false rfl (c_exit (t_exit (t_exit (b_exit (t_norm (c_seq (c_plain (pv (vCmd a pa) (x_load rfl e245 (((((((((((((b2.ext x6).ext x16).ext x164).ext x167).ext x197).ext x199).ext x201).ext x206).ext x237).ext x239).ext x244).ext x274).agg (vs := [iJ a.kind, iJ a.txn.client, iJ a.txn.number, iJ a.stp.time, iJ a.stp.client, iJ a.shards, .slice pa.A a.reads.length pa.n, .slice pa.B a.writes.length pa.m, .bool a.commit]) agg_37_9 rfl)) ?_)))))))))))
     refine p_call (vs := #[vCmd a pa]) fn_69 rfl rfl rfl (args1 rfl) ?_
     refine (C_read _ a pa (((((((((((((ha.ext x3).ext x6).ext x16).ext x164).ext x167).ext x197).ext x199).ext x201).ext x206).ext x237).ext x239).ext x244).ext x274) hs).mono ?_
     rintro e w278 ⟨A275, n276, c277, rfl, he279, hl280, hb281, hc282, x283⟩
     refine ⟨_, rfl, ?_⟩
     refine p_call (vs := #[.slice A275 n276 c277]) fn_68 rfl rfl rfl (args1 rfl) ?_
     refine (C_rightKeys _ _ _ _ (a.reads.map (·.key)) he279 hl280 (by have h := hs; simp; unfold Slim at h; omega)).mono ?_
     rintro e w284 ⟨rfl, x285⟩
     refine ⟨_, rfl, ?_⟩
     cases c286 : rightKeys (a.reads.map (·.key))
     case false =>
      refine pv (.bool false) (x_move rfl rfl) ?_
      refine p_skip rfl rfl ?_
      refine p_skip rfl rfl ?_
      refine p_skip rfl rfl ?_
      refine pv (.bool false) (x_pick_f rfl rfl rfl) ?_
      refine pv (.bool false) (x_assign rfl rfl) ?_
      exact p_nil (t_norm (c_ret (c_done rfl rfl (Ret.b (rightCmd_end (by simpa using c7) (all_end hi204 hl212) (all_end hi242 hl249) c286 (fun h => by cases h) (fun _ => rfl) (by clear ha; simp only [empty_len] at *; simp_all [-List.length_eq_zero_iff] <;> first | omega | (intros; omega) | (intros; simp_all [-List.length_eq_zero_iff] <;> omega))) ((((((((((((((x3.trans x6).trans x16).trans x164).trans x167).trans x197).trans x199).trans x201).trans x206).trans x237).trans x239).trans x244).trans x274).trans x283).trans x285)))))
     refine pv (.bool true) (x_move rfl rfl) ?_
     refine pv (vCmd a pa) (x_load rfl e245 (((((((((((((((b2.ext x6).ext x16).ext x164).ext x167).ext x197).ext x199).ext x201).ext x206).ext x237).ext x239).ext x244).ext x274).ext x283).ext x285).agg (vs := [iJ a.kind, iJ a.txn.client, iJ a.txn.number, iJ a.stp.time, iJ a.stp.client, iJ a.shards, .slice pa.A a.reads.length pa.n, .slice pa.B a.writes.length pa.m, .bool a.commit]) agg_37_9 rfl)) ?_
     refine p_call (vs := #[vCmd a pa]) fn_70 rfl rfl rfl (args1 rfl) ?_
     refine (C_written _ a pa (((((((((((((((ha.ext x3).ext x6).ext x16).ext x164).ext x167).ext x197).ext x199).ext x201).ext x206).ext x237).ext x239).ext x244).ext x274).ext x283).ext x285) hs).mono ?_
     rintro e w290 ⟨A287, n288, c289, rfl, he291, hl292, hb293, hc294, x295⟩
     refine ⟨_, rfl, ?_⟩
     refine p_call (vs := #[.slice A287 n288 c289]) fn_68 rfl rfl rfl (args1 rfl) ?_
     refine (C_rightKeys _ _ _ _ (a.writes.map (·.key)) he291 hl292 (by have h := hs; simp; unfold Slim at h; omega)).mono ?_
     rintro e w296 ⟨rfl, x297⟩
     refine ⟨_, rfl, ?_⟩
     cases c298 : rightKeys (a.writes.map (·.key))
     case false =>
      refine pv (.bool false) (x_pick_t rfl rfl rfl) ?_
      refine pv (.bool false) (x_assign rfl rfl) ?_
      exact p_nil (t_norm (c_ret (c_done rfl rfl (Ret.b (rightCmd_end (by simpa using c7) (all_end hi204 hl212) (all_end hi242 hl249) c286 (fun _ => c298) (fun h => by cases h) (by clear ha; simp only [empty_len] at *; simp_all [-List.length_eq_zero_iff] <;> first | omega | (intros; omega) | (intros; simp_all [-List.length_eq_zero_iff] <;> omega))) ((((((((((((((((x3.trans x6).trans x16).trans x164).trans x167).trans x197).trans x199).trans x201).trans x206).trans x237).trans x239).trans x244).trans x274).trans x283).trans x285).trans x295).trans x297)))))
     refine pv (.bool true) (x_pick_t rfl rfl rfl) ?_
     refine pv (.bool true) (x_assign rfl rfl) ?_
     exact p_nil (t_norm (c_ret (c_done rfl rfl (Ret.b (rightCmd_end (by simpa using c7) (all_end hi204 hl212) (all_end hi242 hl249) c286 (fun _ => c298) (fun h => by cases h) (by clear ha; simp only [empty_len] at *; simp_all [-List.length_eq_zero_iff] <;> first | omega | (intros; omega) | (intros; simp_all [-List.length_eq_zero_iff] <;> omega))) ((((((((((((((((x3.trans x6).trans x16).trans x164).trans x167).trans x197).trans x199).trans x201).trans x206).trans x237).trans x239).trans x244).trans x274).trans x283).trans x285).trans x295).trans x297)))))
    refine qv (.bool false) (fun _ x' => x_move rfl rfl) ?_
    refine qk rfl rfl (qk rfl rfl (qk rfl rfl (qv (.bool false) (fun _ x' => x_pick_f rfl rfl rfl) ?_)))
    refine qv (.bool false) (fun _ x' => x_pick_f rfl rfl rfl) ?_
    refine q_nil (fun w299 x300 => t_norm (c_false rfl (c_skip (t_norm (c_seq (c_quiet (qv (.func (.func 66) #[] #[pJ w.heap.size]) (fun _ x' => x_makeFunc rfl (args1 rfl)) ?_)))))))
    refine qv (.func (.func 66) #[] #[pJ w.heap.size]) (fun _ x' => x_assign rfl rfl) ?_
    refine q_nil (fun w301 x302 => t_norm (c_seq (c_seq (c_quiet (qv (.pointer (some (⟨w.heap.size, 6, none⟩))) (fun _ x' => x_fieldAddr fld_37_4 rfl rfl rfl) ?_)))))
    refine qv (.slice pa.A a.reads.length pa.n) (fun _ x' => x_load rfl rfl ((((((((b2.ext x6).ext x16).ext x164).ext x167).ext x300).ext x302).ext x').one one_34 rfl)) ?_
    refine qv (iJ (a.reads.length : Int)) (fun _ x' => x_len_slice sl_34 rfl rfl) ?_
    refine qv (iJ 0) (fun _ x' => x_move rfl rfl) ?_
    refine q_nil (fun w303 x304 => t_norm (c_block (c_loop (fun ρ w308 => ∃ k305 : Nat, k305 ≤ a.reads.length ∧ (a.reads.take k305).all (oldRd a) = true ∧ ρ 1 = pJ w.heap.size ∧ ρ 3 = .func (.func 66) #[] #[pJ w.heap.size] ∧ ρ 74 = .slice pa.A a.reads.length pa.n ∧ ρ 75 = iJ (a.reads.length : Int) ∧ ρ 76 = iJ (k305 : Int) ∧ Ext w303 w308) (fun ρ _ => a.reads.length - (intOf (ρ 76)).toNat) ⟨0, Nat.zero_le _, rfl, rfl, rfl, rfl, rfl, rfl, Ext.refl _⟩ ?_)))
    rintro ρ w308 ⟨k305, hk306, hi307, e310, e311, e312, e313, e314, x309⟩
    by_cases hl315 : k305 < a.reads.length
    ·obtain ⟨y316, hx317⟩ := some_of (l := a.reads) (k := k305) (by omega)
     obtain ⟨ad318, cs319, eA320, hK321, hE322⟩ := ha.reads k305 y316 hx317
     have hK321' : cs319 = [.string y316.key, iJ y316.ver.time, iJ y316.ver.client] := hK321
     subst hK321'
     refine c_seq (c_quiet (qv (.bool true) (fun _ x' => yb (x_lss rfl e314 e313) (decide_eq_true (by omega))) ?_))
     refine q_nil (fun w324 x325 => t_norm (c_seq (c_true rfl (c_skip (t_norm (c_seq (c_block (c_seq (c_plain (pv (.pointer (some (ad318.add (k305 * 3)))) (x_indexAddr sl_34 rfl e312 eA320 e314 (by omega) (by omega) rfl) ?_))))))))))
     refine pv (vRd y316) (x_load rfl rfl (((((((((((hE322.ext x3).ext x6).ext x16).ext x164).ext x167).ext x300).ext x302).ext x304).ext x309).ext x325).agg (vs := [.string y316.key, iJ y316.ver.time, iJ y316.ver.client]) agg_78_3 0 rfl rfl)) ?_
     refine p_var (v := vRd y316) (vs := [.string y316.key, iJ y316.ver.time, iJ y316.ver.client]) rfl rfl rfl zero_78 rfl rfl rfl rfl rfl rfl rfl size_78 rfl (fun w326 b327 x328 z329 => ?_)
     refine p_nil (t_norm (c_seq (c_quiet (qv (.func (.func 66) #[] #[pJ w.heap.size]) (fun _ x' => x_move rfl e311) ?_))))
     refine qv (vRd y316) (fun _ x' => x_load rfl rfl ((b327.ext x').agg (vs := [.string y316.key, iJ y316.ver.time, iJ y316.ver.client]) agg_78_3 rfl)) ?_
     refine q_callvb (b := oldRd a y316) (vs := #[vRd y316]) (cap := #[pJ w.heap.size]) (all := #[vRd y316, pJ w.heap.size]) fn_66 rfl rfl rfl rfl (args1 rfl) (by simp) (fun _ x' => C_oldRd _ y316 a pa _ (((((((((((b2.ext x6).ext x16).ext x164).ext x167).ext x300).ext x302).ext x304).ext x309).ext x325).ext x328).ext x')) (fun c330 => ?_) (fun c330 => ?_)
     ·refine qv (.bool false) (fun _ x' => x_not (b := true) rfl rfl) ?_
      refine q_nil (fun w331 x332 => t_norm (c_false rfl (c_skip (b_norm (t_norm (c_quiet (qv (iJ ((k305 : Int) + 1)) (fun _ x' => x_add rfl e314 rfl (wrap_of (by omega) (by omega))) ?_)))))))
      refine qv (iJ ((k305 : Int) + 1)) (fun _ x' => x_move rfl rfl) ?_
      exact q_nil (fun w333 x334 => t_norm (⟨_, rfl, ⟨k305 + 1, by omega, all_step (p := oldRd a) hi307 hx317 (by simp_all [oldRd]), e310, e311, e312, e313, rfl, ((((x309.trans x325).trans x328).trans x332).trans x334)⟩, meas_up e314 hl315⟩))
     refine qv (.bool true) (fun _ x' => x_not (b := false) rfl rfl) ?_
     refine q_nil (fun w335 x336 => t_norm (c_true rfl (c_seq (c_quiet (qv (.bool false) (fun _ x' => x_assign rfl rfl) ?_)))))
     exact q_nil (fun w337 x338 => t_norm (c_ret (b_ret (t_ret (t_ret (b_ret (t_ret (c_done rfl rfl (Ret.b ((rightCmd_reads (by simpa using c7) (all_fail (p := oldRd a) hx317 c330)).symm) ((((((((((((x3.trans x6).trans x16).trans x164).trans x167).trans x300).trans x302).trans x304).trans x309).trans x325).trans x328).trans x336).trans x338))))))))))
    refine c_seq (c_quiet (qv (.bool false) (fun _ x' => yb (x_lss rfl e314 e313) (decide_eq_false (by omega))) ?_))
    refine q_nil (fun w339 x340 => t_norm (c_seq (c_false rfl (c_exit (t_exit (t_exit (b_exit (t_norm (c_seq (c_seq (c_quiet (qv (.pointer (some (⟨w.heap.size, 7, none⟩))) (fun _ x' => x_fieldAddr fld_37_5 rfl e310 rfl) ?_))))))))))))
    refine qv (.slice pa.B a.writes.length pa.m) (fun _ x' => x_load rfl rfl (((((((((((b2.ext x6).ext x16).ext x164).ext x167).ext x300).ext x302).ext x304).ext x309).ext x340).ext x').one one_35 rfl)) ?_
    refine qv (iJ (a.writes.length : Int)) (fun _ x' => x_len_slice sl_35 rfl rfl) ?_
    refine qv (iJ 0) (fun _ x' => x_move rfl rfl) ?_
    refine q_nil (fun w341 x342 => t_norm (c_block (c_loop (fun ρ w346 => ∃ k343 : Nat, k343 ≤ a.writes.length ∧ (a.writes.take k343).all (fun x : Wr => decide (x.val.size ≤ 8)) = true ∧ ρ 1 = pJ w.heap.size ∧ ρ 86 = .slice pa.B a.writes.length pa.m ∧ ρ 87 = iJ (a.writes.length : Int) ∧ ρ 88 = iJ (k343 : Int) ∧ Ext w341 w346) (fun ρ _ => a.writes.length - (intOf (ρ 88)).toNat) ⟨0, Nat.zero_le _, rfl, e310, rfl, rfl, rfl, Ext.refl _⟩ ?_)))
    rintro ρ w346 ⟨k343, hk344, hi345, e348, e349, e350, e351, x347⟩
    by_cases hl352 : k343 < a.writes.length
    ·obtain ⟨y353, hx354⟩ := some_of (l := a.writes) (k := k343) (by omega)
     obtain ⟨ad355, cs356, eA357, hK358, hE359⟩ := ha.writes k343 y353 hx354
     have hK358' : cs356 = [.string y353.key, .string y353.val] := hK358
     subst hK358'
     refine c_seq (c_quiet (qv (.bool true) (fun _ x' => yb (x_lss rfl e351 e350) (decide_eq_true (by omega))) ?_))
     refine q_nil (fun w361 x362 => t_norm (c_seq (c_true rfl (c_skip (t_norm (c_seq (c_block (c_seq (c_plain (pv (.pointer (some (ad355.add (k343 * 2)))) (x_indexAddr sl_35 rfl e349 eA357 e351 (by omega) (by omega) rfl) ?_))))))))))
     refine pv (vWr y353) (x_load rfl rfl ((((((((((((((hE359.ext x3).ext x6).ext x16).ext x164).ext x167).ext x300).ext x302).ext x304).ext x309).ext x340).ext x342).ext x347).ext x362).agg (vs := [.string y353.key, .string y353.val]) agg_80_2 0 rfl rfl)) ?_
     refine p_var (v := vWr y353) (vs := [.string y353.key, .string y353.val]) rfl rfl rfl zero_80 rfl rfl rfl rfl rfl rfl rfl size_80 rfl (fun w363 b364 x365 z366 => ?_)
     refine p_nil (t_norm (c_seq (c_quiet (qv (.pointer (some (⟨w361.heap.size, 1, none⟩))) (fun _ x' => x_fieldAddr fld_80_1 rfl rfl rfl) ?_))))
     refine qv (.string y353.val) (fun _ x' => x_load rfl rfl ((b364.ext x').one one_9 rfl)) ?_
     refine qv (iJ (y353.val.size : Int)) (fun _ x' => x_len_string str_9 rfl rfl) ?_
     refine q_bool (b := decide ((y353.val.size : Int) > 8)) rfl rfl (fun _ x' => x_gtr rfl rfl rfl) (fun c367 => ?_) (fun c367 => ?_)
     ·refine q_nil (fun w368 x369 => t_norm (c_true rfl (c_seq (c_quiet (qv (.bool false) (fun _ x' => x_assign rfl rfl) ?_)))))
      exact q_nil (fun w370 x371 => t_norm (c_ret (b_ret (t_ret (t_ret (b_ret (t_ret (c_done rfl rfl (Ret.b ((rightCmd_writes (by simpa using c7) (all_fail (p := fun x : Wr => decide (x.val.size ≤ 8)) hx354 (by simp_all <;> omega))).symm) (((((((((((((((x3.trans x6).trans x16).trans x164).trans x167).trans x300).trans x302).trans x304).trans x309).trans x340).trans x342).trans x347).trans x362).trans x365).trans x369).trans x371))))))))))
     refine q_nil (fun w372 x373 => t_norm (c_false rfl (c_skip (b_norm (t_norm (c_quiet (qv (iJ ((k343 : Int) + 1)) (fun _ x' => x_add rfl e351 rfl (wrap_of (by omega) (by omega))) ?_)))))))
     refine qv (iJ ((k343 : Int) + 1)) (fun _ x' => x_move rfl rfl) ?_
     exact q_nil (fun w374 x375 => t_norm (⟨_, rfl, ⟨k343 + 1, by omega, all_step (p := fun x : Wr => decide (x.val.size ≤ 8)) hi345 hx354 (by simp_all <;> omega), e348, e349, e350, rfl, ((((x347.trans x362).trans x365).trans x373).trans x375)⟩, meas_up e351 hl352⟩))
    refine c_seq (c_quiet (qv (.bool false) (fun _ x' => yb (x_lss rfl e351 e350) (decide_eq_false (by omega))) ?_))
    refine q_nil (fun w376 x377 => t_norm (c_seq (c_false rfl (c_exit (t_exit (t_exit (b_exit (t_norm (c_seq (c_plain (pv (vCmd a pa) (x_load rfl e348 (((((((((((((b2.ext x6).ext x16).ext x164).ext x167).ext x300).ext x302).ext x304).ext x309).ext x340).ext x342).ext x347).ext x377).agg (vs := [iJ a.kind, iJ a.txn.client, iJ a.txn.number, iJ a.stp.time, iJ a.stp.client, iJ a.shards, .slice pa.A a.reads.length pa.n, .slice pa.B a.writes.length pa.m, .bool a.commit]) agg_37_9 rfl)) ?_)))))))))))
    refine p_call (vs := #[vCmd a pa]) fn_69 rfl rfl rfl (args1 rfl) ?_
    refine (C_read _ a pa (((((((((((((ha.ext x3).ext x6).ext x16).ext x164).ext x167).ext x300).ext x302).ext x304).ext x309).ext x340).ext x342).ext x347).ext x377) hs).mono ?_
    rintro e w381 ⟨A378, n379, c380, rfl, he382, hl383, hb384, hc385, x386⟩
    refine ⟨_, rfl, ?_⟩
    refine p_call (vs := #[.slice A378 n379 c380]) fn_68 rfl rfl rfl (args1 rfl) ?_
    refine (C_rightKeys _ _ _ _ (a.reads.map (·.key)) he382 hl383 (by have h := hs; simp; unfold Slim at h; omega)).mono ?_
    rintro e w387 ⟨rfl, x388⟩
    refine ⟨_, rfl, ?_⟩
    cases c389 : rightKeys (a.reads.map (·.key))
    case false =>
     refine pv (.bool false) (x_move rfl rfl) ?_
     refine p_skip rfl rfl ?_
     refine p_skip rfl rfl ?_
     refine p_skip rfl rfl ?_
     refine pv (.bool false) (x_pick_f rfl rfl rfl) ?_
     refine pv (.bool false) (x_assign rfl rfl) ?_
     exact p_nil (t_norm (c_ret (c_done rfl rfl (Ret.b (rightCmd_end (by simpa using c7) (all_end hi307 hl315) (all_end hi345 hl352) c389 (fun h => by cases h) (fun _ => rfl) (by clear ha; simp only [empty_len] at *; simp_all [-List.length_eq_zero_iff] <;> first | omega | (intros; omega) | (intros; simp_all [-List.length_eq_zero_iff] <;> omega))) ((((((((((((((x3.trans x6).trans x16).trans x164).trans x167).trans x300).trans x302).trans x304).trans x309).trans x340).trans x342).trans x347).trans x377).trans x386).trans x388)))))
    refine pv (.bool true) (x_move rfl rfl) ?_
    refine pv (vCmd a pa) (x_load rfl e348 (((((((((((((((b2.ext x6).ext x16).ext x164).ext x167).ext x300).ext x302).ext x304).ext x309).ext x340).ext x342).ext x347).ext x377).ext x386).ext x388).agg (vs := [iJ a.kind, iJ a.txn.client, iJ a.txn.number, iJ a.stp.time, iJ a.stp.client, iJ a.shards, .slice pa.A a.reads.length pa.n, .slice pa.B a.writes.length pa.m, .bool a.commit]) agg_37_9 rfl)) ?_
    refine p_call (vs := #[vCmd a pa]) fn_70 rfl rfl rfl (args1 rfl) ?_
    refine (C_written _ a pa (((((((((((((((ha.ext x3).ext x6).ext x16).ext x164).ext x167).ext x300).ext x302).ext x304).ext x309).ext x340).ext x342).ext x347).ext x377).ext x386).ext x388) hs).mono ?_
    rintro e w393 ⟨A390, n391, c392, rfl, he394, hl395, hb396, hc397, x398⟩
    refine ⟨_, rfl, ?_⟩
    refine p_call (vs := #[.slice A390 n391 c392]) fn_68 rfl rfl rfl (args1 rfl) ?_
    refine (C_rightKeys _ _ _ _ (a.writes.map (·.key)) he394 hl395 (by have h := hs; simp; unfold Slim at h; omega)).mono ?_
    rintro e w399 ⟨rfl, x400⟩
    refine ⟨_, rfl, ?_⟩
    cases c401 : rightKeys (a.writes.map (·.key))
    case false =>
     refine pv (.bool false) (x_pick_t rfl rfl rfl) ?_
     refine pv (.bool false) (x_assign rfl rfl) ?_
     exact p_nil (t_norm (c_ret (c_done rfl rfl (Ret.b (rightCmd_end (by simpa using c7) (all_end hi307 hl315) (all_end hi345 hl352) c389 (fun _ => c401) (fun h => by cases h) (by clear ha; simp only [empty_len] at *; simp_all [-List.length_eq_zero_iff] <;> first | omega | (intros; omega) | (intros; simp_all [-List.length_eq_zero_iff] <;> omega))) ((((((((((((((((x3.trans x6).trans x16).trans x164).trans x167).trans x300).trans x302).trans x304).trans x309).trans x340).trans x342).trans x347).trans x377).trans x386).trans x388).trans x398).trans x400)))))
    refine pv (.bool true) (x_pick_t rfl rfl rfl) ?_
    refine pv (.bool true) (x_assign rfl rfl) ?_
    exact p_nil (t_norm (c_ret (c_done rfl rfl (Ret.b (rightCmd_end (by simpa using c7) (all_end hi307 hl315) (all_end hi345 hl352) c389 (fun _ => c401) (fun h => by cases h) (by clear ha; simp only [empty_len] at *; simp_all [-List.length_eq_zero_iff] <;> first | omega | (intros; omega) | (intros; simp_all [-List.length_eq_zero_iff] <;> omega))) ((((((((((((((((x3.trans x6).trans x16).trans x164).trans x167).trans x300).trans x302).trans x304).trans x309).trans x340).trans x342).trans x347).trans x377).trans x386).trans x388).trans x398).trans x400)))))
   refine qv (.bool true) (fun _ x' => x_not (b := false) rfl rfl) ?_
   refine qv (.bool true) (fun _ x' => x_pick_f rfl rfl rfl) ?_
   refine qv (.bool true) (fun _ x' => x_move rfl rfl) ?_
   refine qk rfl rfl (qk rfl rfl (qk rfl rfl (qk rfl rfl (qv (.bool true) (fun _ x' => x_pick_t rfl rfl rfl) ?_))))
   refine qv (.bool true) (fun _ x' => x_move rfl rfl) ?_
   refine qk rfl rfl (qk rfl rfl (qk rfl rfl (qk rfl rfl (qk rfl rfl (qk rfl rfl (qk rfl rfl (qv (.bool true) (fun _ x' => x_pick_t rfl rfl rfl) ?_)))))))
   refine qv (.bool true) (fun _ x' => x_move rfl rfl) ?_
   refine qk rfl rfl (qk rfl rfl (qk rfl rfl (qv (.bool true) (fun _ x' => x_pick_t rfl rfl rfl) ?_)))
   refine qv (.bool true) (fun _ x' => x_move rfl rfl) ?_
   refine qk rfl rfl (qk rfl rfl (qk rfl rfl (qv (.bool true) (fun _ x' => x_pick_t rfl rfl rfl) ?_)))
   refine qv (.bool true) (fun _ x' => x_move rfl rfl) ?_
   refine qk rfl rfl (qk rfl rfl (qk rfl rfl (qk rfl rfl (qk rfl rfl (qk rfl rfl (qk rfl rfl (qk rfl rfl (qv (.bool true) (fun _ x' => x_pick_t rfl rfl rfl) ?_))))))))
   refine qv (.bool true) (fun _ x' => x_move rfl rfl) ?_
   refine qk rfl rfl (qk rfl rfl (qk rfl rfl (qk rfl rfl (qk rfl rfl (qk rfl rfl (qk rfl rfl (qv (.bool true) (fun _ x' => x_pick_t rfl rfl rfl) ?_)))))))
   refine q_nil (fun w402 x403 => t_norm (c_true rfl (c_seq (c_quiet (qv (.bool false) (fun _ x' => x_assign rfl rfl) ?_)))))
   exact q_nil (fun w404 x405 => t_norm (c_ret (t_ret (c_done rfl rfl (Ret.b ((rightCmd_head (by simpa using c7) (by clear ha; simp only [empty_len] at *; simp_all [-List.length_eq_zero_iff] <;> first | omega | (intros; omega) | (intros; simp_all [-List.length_eq_zero_iff] <;> omega))).symm) ((((((x3.trans x6).trans x16).trans x164).trans x167).trans x403).trans x405))))))
  refine qv (.bool true) (fun _ x' => x_not (b := false) rfl rfl) ?_
  refine qv (.bool true) (fun _ x' => x_move rfl rfl) ?_
  refine qk rfl rfl (qk rfl rfl (qk rfl rfl (qk rfl rfl (qv (.bool true) (fun _ x' => x_pick_t rfl rfl rfl) ?_))))
  refine qv (.bool true) (fun _ x' => x_move rfl rfl) ?_
  refine qk rfl rfl (qk rfl rfl (qk rfl rfl (qk rfl rfl (qv (.bool true) (fun _ x' => x_pick_t rfl rfl rfl) ?_))))
  refine qv (.bool true) (fun _ x' => x_move rfl rfl) ?_
  refine qk rfl rfl (qk rfl rfl (qk rfl rfl (qk rfl rfl (qk rfl rfl (qk rfl rfl (qk rfl rfl (qv (.bool true) (fun _ x' => x_pick_t rfl rfl rfl) ?_)))))))
  refine qv (.bool true) (fun _ x' => x_move rfl rfl) ?_
  refine qk rfl rfl (qk rfl rfl (qk rfl rfl (qv (.bool true) (fun _ x' => x_pick_t rfl rfl rfl) ?_)))
  refine qv (.bool true) (fun _ x' => x_move rfl rfl) ?_
  refine qk rfl rfl (qk rfl rfl (qk rfl rfl (qv (.bool true) (fun _ x' => x_pick_t rfl rfl rfl) ?_)))
  refine qv (.bool true) (fun _ x' => x_move rfl rfl) ?_
  refine qk rfl rfl (qk rfl rfl (qk rfl rfl (qk rfl rfl (qk rfl rfl (qk rfl rfl (qk rfl rfl (qk rfl rfl (qv (.bool true) (fun _ x' => x_pick_t rfl rfl rfl) ?_))))))))
  refine qv (.bool true) (fun _ x' => x_move rfl rfl) ?_
  refine qk rfl rfl (qk rfl rfl (qk rfl rfl (qk rfl rfl (qk rfl rfl (qk rfl rfl (qk rfl rfl (qv (.bool true) (fun _ x' => x_pick_t rfl rfl rfl) ?_)))))))
  refine q_nil (fun w406 x407 => t_norm (c_true rfl (c_seq (c_quiet (qv (.bool false) (fun _ x' => x_assign rfl rfl) ?_)))))
  exact q_nil (fun w408 x409 => t_norm (c_ret (t_ret (c_done rfl rfl (Ret.b ((rightCmd_head (by simpa using c7) (by clear ha; simp only [empty_len] at *; simp_all [-List.length_eq_zero_iff] <;> first | omega | (intros; omega) | (intros; simp_all [-List.length_eq_zero_iff] <;> omega))).symm) ((((((x3.trans x6).trans x16).trans x164).trans x167).trans x407).trans x409))))))
 refine qv (.bool false) (fun _ x' => x_assign rfl rfl) ?_
 refine q_nil (fun w410 x411 => t_norm (c_false rfl (c_seq (c_quiet (qv (.bool false) (fun _ x' => x_assign rfl rfl) ?_)))))
 exact q_nil (fun w412 x413 => t_norm (c_ret (b_ret (t_ret (c_done rfl rfl (Ret.b ((rightCmd_head (by simpa using c7) (by clear ha; simp only [empty_len] at *; simp_all [-List.length_eq_zero_iff] <;> first | omega | (intros; omega) | (intros; simp_all [-List.length_eq_zero_iff] <;> omega))).symm) (((((x3.trans x6).trans x16).trans x164).trans x411).trans x413)))))))
end Go.Proofs.Ytadeigpphklmfaa
