/- A walk through the code of layers below, or of layer 10. -/
import Derived.Test.YtadeigpphklmfaaDos
import Derived.Test.YtadeigpphklmfaaDrs
import Derived.Test.YtadeigpphklmfaaPan
import Derived.Test.YtadeigpphklmfaaA6
namespace Go.Proofs.Ytadeigpphklmfaa
open Go.RowKit Go.Eng
set_option linter.unusedVariables false
set_option linter.unusedSimpArgs false
set_option maxHeartbeats 4000000 in
theorem C_few (w : World) (A : Option Addr) (c : Nat) (l : List (Cmd × Ptr)) (hR : Lies kCmd w A l) (hn : l.length ≤ 1000) :
    Calls Try.prog 11 #[.slice A l.length c] w (Ret w (.bool (few l))) := by
 refine c_enter (n := 72) Try.func11 rfl rfl rfl ?_
 refine c_seq (c_quiet (qv (.bool false) (fun _ x' => x_assign rfl rfl) ?_))
 refine q_nil (fun w1 x2 => t_norm (c_seq (c_seq (c_quiet (qv (.slice A l.length c) (fun _ x' => x_move rfl rfl) ?_)))))
 refine qv (iJ (l.length : Int)) (fun _ x' => x_len_slice sl_76 rfl rfl) ?_
 refine qv (iJ 0) (fun _ x' => x_move rfl rfl) ?_
 refine q_nil (fun w3 x4 => t_norm (c_block (c_loop (fun ρ w8 => ∃ k5 : Nat, k5 ≤ l.length ∧ (l.take k5).all (fun z => fewOne z.1) = true ∧ ρ 7 = .slice A l.length c ∧ ρ 8 = iJ (l.length : Int) ∧ ρ 9 = iJ (k5 : Int) ∧ Ext w3 w8) (fun ρ _ => l.length - (intOf (ρ 9)).toNat) ⟨0, Nat.zero_le _, rfl, rfl, rfl, rfl, Ext.refl _⟩ ?_)))
 rintro ρ w8 ⟨k5, hk6, hi7, e10, e11, e12, x9⟩
 by_cases hl13 : k5 < l.length
 ·obtain ⟨y14, hx15⟩ := some_of (l := l) (k := k5) (by omega)
  obtain ⟨ad16, cs17, eA18, hK19, hE20⟩ := hR k5 y14 hx15
  obtain ⟨hK19', hK19⟩ := hK19
  have hK19'' : cs17 = [iJ y14.1.kind, iJ y14.1.txn.client, iJ y14.1.txn.number, iJ y14.1.stp.time, iJ y14.1.stp.client, iJ y14.1.shards, .slice y14.2.A y14.1.reads.length y14.2.n, .slice y14.2.B y14.1.writes.length y14.2.m, .bool y14.1.commit] := hK19'
  subst hK19''
  refine c_seq (c_quiet (qv (.bool true) (fun _ x' => yb (x_lss rfl e12 e11) (decide_eq_true (by omega))) ?_))
  refine q_nil (fun w22 x23 => t_norm (c_seq (c_true rfl (c_skip (t_norm (c_seq (c_block (c_seq (c_plain (pv (.pointer (some (ad16.add (k5 * 9)))) (x_indexAddr sl_76 rfl e10 eA18 e12 (by omega) (by omega) rfl) ?_))))))))))
  refine pv (vCmd y14.1 y14.2) (x_load rfl rfl (((((hE20.ext x2).ext x4).ext x9).ext x23).agg (vs := [iJ y14.1.kind, iJ y14.1.txn.client, iJ y14.1.txn.number, iJ y14.1.stp.time, iJ y14.1.stp.client, iJ y14.1.shards, .slice y14.2.A y14.1.reads.length y14.2.n, .slice y14.2.B y14.1.writes.length y14.2.m, .bool y14.1.commit]) agg_37_9 0 rfl rfl)) ?_
  refine p_var (v := vCmd y14.1 y14.2) (vs := [iJ y14.1.kind, iJ y14.1.txn.client, iJ y14.1.txn.number, iJ y14.1.stp.time, iJ y14.1.stp.client, iJ y14.1.shards, .slice y14.2.A y14.1.reads.length y14.2.n, .slice y14.2.B y14.1.writes.length y14.2.m, .bool y14.1.commit]) rfl rfl rfl zero_37 rfl rfl rfl rfl rfl rfl rfl size_37 rfl (fun w24 b25 x26 z27 => ?_)
  refine p_nil (t_norm (c_seq (c_seq (c_quiet (qv (iJ 0) (fun _ x' => x_assign rfl rfl) ?_)))))
  refine q_nil (fun w28 x29 => t_norm (c_block (c_loop (fun ρ w34 => ∃ k30 : Nat, k30 ≤ y14.1.reads.length ∧ (y14.1.reads.take k30).all fewR = true ∧ k30 ≤ 21 ∧ ρ 4 = pJ w22.heap.size ∧ ρ 7 = .slice A l.length c ∧ ρ 8 = iJ (l.length : Int) ∧ ρ 9 = iJ (k5 : Int) ∧ ρ 10 = .bool true ∧ ρ 11 = .pointer (some (ad16.add (k5 * 9))) ∧ ρ 12 = vCmd y14.1 y14.2 ∧ ρ 5 = iJ (k30 : Int) ∧ Ext w28 w34) (fun ρ _ => y14.1.reads.length - (intOf (ρ 5)).toNat) ⟨0, Nat.zero_le _, rfl, by decide, rfl, e10, e11, e12, rfl, rfl, rfl, rfl, Ext.refl _⟩ ?_)))
  rintro ρ w34 ⟨k30, hk31, hi32, hi33, e36, e37, e38, e39, e40, e41, e42, e43, x35⟩
  by_cases hl44 : k30 < y14.1.reads.length
  ·obtain ⟨y45, hx46⟩ := some_of (l := y14.1.reads) (k := k30) (by omega)
   obtain ⟨ad47, cs48, eA49, hK50, hE51⟩ := hK19.reads k30 y45 hx46
   have hK50' : cs48 = [.string y45.key, iJ y45.ver.time, iJ y45.ver.client] := hK50
   subst hK50'
   refine c_seq (c_seq (c_quiet (qv (iJ (k30 : Int)) (fun _ x' => x_move rfl e43) ?_)))
   refine qv (.pointer (some (⟨w22.heap.size, 6, none⟩))) (fun _ x' => x_fieldAddr fld_37_4 rfl e36 rfl) ?_
   refine qv (.slice y14.2.A y14.1.reads.length y14.2.n) (fun _ x' => x_load rfl rfl ((((b25.ext x29).ext x35).ext x').one one_34 rfl)) ?_
   refine qv (iJ (y14.1.reads.length : Int)) (fun _ x' => x_len_slice sl_34 rfl rfl) ?_
   refine qv (.bool true) (fun _ x' => yb (x_lss rfl rfl rfl) (decide_eq_true (by omega))) ?_
   refine qv (.bool true) (fun _ x' => x_move rfl rfl) ?_
   refine qv (iJ (k30 : Int)) (fun _ x' => x_move rfl e43) ?_
   refine q_bool (b := decide ((k30 : Int) ≤ 20)) rfl rfl (fun _ x' => x_leq rfl rfl rfl) (fun c53 => ?_) (fun c53 => ?_)
   ·refine qv (.bool true) (fun _ x' => x_pick_t rfl rfl rfl) ?_
    refine q_nil (fun w54 x55 => t_norm (c_true rfl (c_skip (t_norm (c_seq (c_block (c_seq (c_quiet (qv (.pointer (some (⟨w22.heap.size, 6, none⟩))) (fun _ x' => x_fieldAddr fld_37_4 rfl e36 rfl) ?_)))))))))
    refine qv (.slice y14.2.A y14.1.reads.length y14.2.n) (fun _ x' => x_load rfl rfl (((((b25.ext x29).ext x35).ext x55).ext x').one one_34 rfl)) ?_
    refine qv (iJ (k30 : Int)) (fun _ x' => x_move rfl e43) ?_
    refine qv (.pointer (some (ad47.add (k30 * 3)))) (fun _ x' => x_indexAddr sl_34 rfl rfl eA49 rfl (by omega) (by omega) rfl) ?_
    refine qv (.pointer (some (ad47.add (k30 * 3)))) (fun _ x' => x_fieldAddr fld_78_0 rfl rfl rfl) ?_
    refine qv (.string y45.key) (fun _ x' => x_load rfl rfl ((((((((((hE51.ext x2).ext x4).ext x9).ext x23).ext x26).ext x29).ext x35).ext x55).ext x').one one_9 0 rfl rfl)) ?_
    refine qv (iJ (y45.key.size : Int)) (fun _ x' => x_len_string str_9 rfl rfl) ?_
    refine q_bool (b := decide ((y45.key.size : Int) > 100)) rfl rfl (fun _ x' => x_gtr rfl rfl rfl) (fun c56 => ?_) (fun c56 => ?_)
    ·refine q_nil (fun w57 x58 => t_norm (c_true rfl (c_seq (c_quiet (qv (.bool false) (fun _ x' => x_assign rfl rfl) ?_)))))
     exact q_nil (fun w59 x60 => t_norm (c_ret (b_ret (t_ret (t_ret (b_ret (t_ret (b_ret (t_ret (t_ret (b_ret (t_ret (c_done rfl rfl (Ret.b ((all_fail (p := fun z : Cmd × Ptr => fewOne z.1) hx15 (few_r hx46 (by simp at *; omega) (by simp_all [fewR] <;> omega))).symm) (((((((((x2.trans x4).trans x9).trans x23).trans x26).trans x29).trans x35).trans x55).trans x58).trans x60)))))))))))))))
    refine q_nil (fun w61 x62 => t_norm (c_false rfl (c_skip (b_norm (t_norm (c_quiet (qv (iJ (k30 : Int)) (fun _ x' => x_move rfl e43) ?_)))))))
    refine qv (iJ ((k30 : Int) + 1)) (fun _ x' => x_add rfl rfl rfl (wrap_of (by omega) (by omega))) ?_
    refine qv (iJ ((k30 : Int) + 1)) (fun _ x' => x_assign rfl rfl) ?_
    exact q_nil (fun w63 x64 => t_norm (⟨_, rfl, ⟨k30 + 1, by omega, all_step hi32 hx46 (by simp_all [fewR] <;> omega), by simp at *; omega, e36, e37, e38, e39, e40, e41, e42, rfl, (((x35.trans x55).trans x62).trans x64)⟩, meas_up e43 hl44⟩))
   refine qv (.bool false) (fun _ x' => x_pick_t rfl rfl rfl) ?_
   refine q_nil (fun w65 x66 => t_norm (c_false rfl (c_exit (t_exit (t_exit (b_exit (t_norm (c_seq (c_seq (c_quiet (qv (iJ 0) (fun _ x' => x_assign rfl rfl) ?_)))))))))))
   refine q_nil (fun w67 x68 => t_norm (c_block (c_loop (fun ρ w73 => ∃ k69 : Nat, k69 ≤ y14.1.writes.length ∧ (y14.1.writes.take k69).all fewW = true ∧ k69 ≤ 21 ∧ ρ 4 = pJ w22.heap.size ∧ ρ 5 = iJ (k30 : Int) ∧ ρ 7 = .slice A l.length c ∧ ρ 8 = iJ (l.length : Int) ∧ ρ 9 = iJ (k5 : Int) ∧ ρ 10 = .bool true ∧ ρ 11 = .pointer (some (ad16.add (k5 * 9))) ∧ ρ 12 = vCmd y14.1 y14.2 ∧ ρ 13 = iJ (k30 : Int) ∧ ρ 14 = .pointer (some (⟨w22.heap.size, 6, none⟩)) ∧ ρ 15 = .slice y14.2.A y14.1.reads.length y14.2.n ∧ ρ 16 = iJ (y14.1.reads.length : Int) ∧ ρ 17 = .bool true ∧ ρ 18 = .bool true ∧ ρ 19 = iJ (k30 : Int) ∧ ρ 20 = .bool false ∧ ρ 21 = .bool false ∧ ρ 6 = iJ (k69 : Int) ∧ Ext w67 w73) (fun ρ _ => y14.1.writes.length - (intOf (ρ 6)).toNat) ⟨0, Nat.zero_le _, rfl, by decide, e36, e43, e37, e38, e39, e40, e41, e42, rfl, rfl, rfl, rfl, rfl, rfl, rfl, rfl, rfl, rfl, Ext.refl _⟩ ?_)))
   rintro ρ w73 ⟨k69, hk70, hi71, hi72, e75, e76, e77, e78, e79, e80, e81, e82, e83, e84, e85, e86, e87, e88, e89, e90, e91, e92, x74⟩
   by_cases hl93 : k69 < y14.1.writes.length
   ·obtain ⟨y94, hx95⟩ := some_of (l := y14.1.writes) (k := k69) (by omega)
    obtain ⟨ad96, cs97, eA98, hK99, hE100⟩ := hK19.writes k69 y94 hx95
    have hK99' : cs97 = [.string y94.key, .string y94.val] := hK99
    subst hK99'
    refine c_seq (c_seq (c_quiet (qv (iJ (k69 : Int)) (fun _ x' => x_move rfl e92) ?_)))
    refine qv (.pointer (some (⟨w22.heap.size, 7, none⟩))) (fun _ x' => x_fieldAddr fld_37_5 rfl e75 rfl) ?_
    refine qv (.slice y14.2.B y14.1.writes.length y14.2.m) (fun _ x' => x_load rfl rfl (((((((b25.ext x29).ext x35).ext x66).ext x68).ext x74).ext x').one one_35 rfl)) ?_
    refine qv (iJ (y14.1.writes.length : Int)) (fun _ x' => x_len_slice sl_35 rfl rfl) ?_
    refine qv (.bool true) (fun _ x' => yb (x_lss rfl rfl rfl) (decide_eq_true (by omega))) ?_
    refine qv (.bool true) (fun _ x' => x_move rfl rfl) ?_
    refine qv (iJ (k69 : Int)) (fun _ x' => x_move rfl e92) ?_
    refine q_bool (b := decide ((k69 : Int) ≤ 20)) rfl rfl (fun _ x' => x_leq rfl rfl rfl) (fun c102 => ?_) (fun c102 => ?_)
    ·refine qv (.bool true) (fun _ x' => x_pick_t rfl rfl rfl) ?_
     refine q_nil (fun w103 x104 => t_norm (c_true rfl (c_skip (t_norm (c_seq (c_block (c_seq (c_quiet (qv (.pointer (some (⟨w22.heap.size, 7, none⟩))) (fun _ x' => x_fieldAddr fld_37_5 rfl e75 rfl) ?_)))))))))
     refine qv (.slice y14.2.B y14.1.writes.length y14.2.m) (fun _ x' => x_load rfl rfl ((((((((b25.ext x29).ext x35).ext x66).ext x68).ext x74).ext x104).ext x').one one_35 rfl)) ?_
     refine qv (iJ (k69 : Int)) (fun _ x' => x_move rfl e92) ?_
     refine qv (.pointer (some (ad96.add (k69 * 2)))) (fun _ x' => x_indexAddr sl_35 rfl rfl eA98 rfl (by omega) (by omega) rfl) ?_
     refine qv (.pointer (some (ad96.add (k69 * 2)))) (fun _ x' => x_fieldAddr fld_80_0 rfl rfl rfl) ?_
     refine qv (.string y94.key) (fun _ x' => x_load rfl rfl (((((((((((((hE100.ext x2).ext x4).ext x9).ext x23).ext x26).ext x29).ext x35).ext x66).ext x68).ext x74).ext x104).ext x').one one_9 0 rfl rfl)) ?_
     refine qv (iJ (y94.key.size : Int)) (fun _ x' => x_len_string str_9 rfl rfl) ?_
     refine q_bool (b := decide ((y94.key.size : Int) > 100)) rfl rfl (fun _ x' => x_gtr rfl rfl rfl) (fun c105 => ?_) (fun c105 => ?_)
     ·refine qv (.bool true) (fun _ x' => x_move rfl rfl) ?_
      refine qk rfl rfl (qk rfl rfl (qk rfl rfl (qk rfl rfl (qk rfl rfl (qk rfl rfl (qk rfl rfl (qk rfl rfl (qv (.bool true) (fun _ x' => x_pick_t rfl rfl rfl) ?_))))))))
      refine q_nil (fun w106 x107 => t_norm (c_true rfl (c_seq (c_quiet (qv (.bool false) (fun _ x' => x_assign rfl rfl) ?_)))))
      exact q_nil (fun w108 x109 => t_norm (c_ret (b_ret (t_ret (t_ret (b_ret (t_ret (b_ret (t_ret (t_ret (b_ret (t_ret (c_done rfl rfl (Ret.b ((all_fail (p := fun z : Cmd × Ptr => fewOne z.1) hx15 (few_w hx95 (by simp at *; omega) (by simp_all [fewW] <;> omega))).symm) ((((((((((((x2.trans x4).trans x9).trans x23).trans x26).trans x29).trans x35).trans x66).trans x68).trans x74).trans x104).trans x107).trans x109)))))))))))))))
     refine qv (.bool false) (fun _ x' => x_move rfl rfl) ?_
     refine qv (.pointer (some (⟨w22.heap.size, 7, none⟩))) (fun _ x' => x_fieldAddr fld_37_5 rfl e75 rfl) ?_
     refine qv (.slice y14.2.B y14.1.writes.length y14.2.m) (fun _ x' => x_load rfl rfl ((((((((b25.ext x29).ext x35).ext x66).ext x68).ext x74).ext x104).ext x').one one_35 rfl)) ?_
     refine qv (iJ (k69 : Int)) (fun _ x' => x_move rfl e92) ?_
     refine qv (.pointer (some (ad96.add (k69 * 2)))) (fun _ x' => x_indexAddr sl_35 rfl rfl eA98 rfl (by omega) (by omega) rfl) ?_
     refine qv (.pointer (some ((ad96.add (k69 * 2)).add 1))) (fun _ x' => x_fieldAddr fld_80_1 rfl rfl rfl) ?_
     refine qv (.string y94.val) (fun _ x' => x_load rfl rfl (((((((((((((hE100.ext x2).ext x4).ext x9).ext x23).ext x26).ext x29).ext x35).ext x66).ext x68).ext x74).ext x104).ext x').one one_9 1 rfl rfl)) ?_
     refine qv (iJ (y94.val.size : Int)) (fun _ x' => x_len_string str_9 rfl rfl) ?_
     refine q_bool (b := decide ((y94.val.size : Int) > 100)) rfl rfl (fun _ x' => x_gtr rfl rfl rfl) (fun c110 => ?_) (fun c110 => ?_)
     ·refine qv (.bool true) (fun _ x' => x_pick_f rfl rfl rfl) ?_
      refine q_nil (fun w111 x112 => t_norm (c_true rfl (c_seq (c_quiet (qv (.bool false) (fun _ x' => x_assign rfl rfl) ?_)))))
      exact q_nil (fun w113 x114 => t_norm (c_ret (b_ret (t_ret (t_ret (b_ret (t_ret (b_ret (t_ret (t_ret (b_ret (t_ret (c_done rfl rfl (Ret.b ((all_fail (p := fun z : Cmd × Ptr => fewOne z.1) hx15 (few_w hx95 (by simp at *; omega) (by simp_all [fewW] <;> omega))).symm) ((((((((((((x2.trans x4).trans x9).trans x23).trans x26).trans x29).trans x35).trans x66).trans x68).trans x74).trans x104).trans x112).trans x114)))))))))))))))
     refine qv (.bool false) (fun _ x' => x_pick_f rfl rfl rfl) ?_
     refine q_nil (fun w115 x116 => t_norm (c_false rfl (c_skip (b_norm (t_norm (c_quiet (qv (iJ (k69 : Int)) (fun _ x' => x_move rfl e92) ?_)))))))
     refine qv (iJ ((k69 : Int) + 1)) (fun _ x' => x_add rfl rfl rfl (wrap_of (by omega) (by omega))) ?_
     refine qv (iJ ((k69 : Int) + 1)) (fun _ x' => x_assign rfl rfl) ?_
     exact q_nil (fun w117 x118 => t_norm (⟨_, rfl, ⟨k69 + 1, by omega, all_step hi71 hx95 (by simp_all [fewW] <;> omega), by simp at *; omega, e75, e76, e77, e78, e79, e80, e81, e82, e83, e84, e85, e86, e87, e88, e89, e90, e91, rfl, (((x74.trans x104).trans x116).trans x118)⟩, meas_up e92 hl93⟩))
    refine qv (.bool false) (fun _ x' => x_pick_t rfl rfl rfl) ?_
    refine q_nil (fun w119 x120 => t_norm (c_false rfl (c_exit (t_exit (t_exit (b_exit (t_norm (c_seq (c_quiet (qv (.pointer (some (⟨w22.heap.size, 6, none⟩))) (fun _ x' => x_fieldAddr fld_37_4 rfl e75 rfl) ?_))))))))))
    refine qv (.slice y14.2.A y14.1.reads.length y14.2.n) (fun _ x' => x_load rfl rfl ((((((((b25.ext x29).ext x35).ext x66).ext x68).ext x74).ext x120).ext x').one one_34 rfl)) ?_
    refine qv (iJ (y14.1.reads.length : Int)) (fun _ x' => x_len_slice sl_34 rfl rfl) ?_
    refine q_bool (b := decide ((y14.1.reads.length : Int) > 20)) rfl rfl (fun _ x' => x_gtr rfl rfl rfl) (fun c121 => ?_) (fun c121 => ?_)
    ·refine qv (.bool true) (fun _ x' => x_move rfl rfl) ?_
     refine qk rfl rfl (qk rfl rfl (qk rfl rfl (qk rfl rfl (qv (.bool true) (fun _ x' => x_pick_t rfl rfl rfl) ?_))))
     refine q_nil (fun w122 x123 => t_norm (c_true rfl (c_seq (c_quiet (qv (.bool false) (fun _ x' => x_assign rfl rfl) ?_)))))
     exact q_nil (fun w124 x125 => t_norm (c_ret (b_ret (t_ret (t_ret (b_ret (t_ret (c_done rfl rfl (Ret.b ((all_fail (p := fun z : Cmd × Ptr => fewOne z.1) hx15 (few_n (by simp at *; omega))).symm) ((((((((((((x2.trans x4).trans x9).trans x23).trans x26).trans x29).trans x35).trans x66).trans x68).trans x74).trans x120).trans x123).trans x125))))))))))
    refine qv (.bool false) (fun _ x' => x_move rfl rfl) ?_
    refine qv (.pointer (some (⟨w22.heap.size, 7, none⟩))) (fun _ x' => x_fieldAddr fld_37_5 rfl e75 rfl) ?_
    refine qv (.slice y14.2.B y14.1.writes.length y14.2.m) (fun _ x' => x_load rfl rfl ((((((((b25.ext x29).ext x35).ext x66).ext x68).ext x74).ext x120).ext x').one one_35 rfl)) ?_
    refine qv (iJ (y14.1.writes.length : Int)) (fun _ x' => x_len_slice sl_35 rfl rfl) ?_
    refine q_bool (b := decide ((y14.1.writes.length : Int) > 20)) rfl rfl (fun _ x' => x_gtr rfl rfl rfl) (fun c126 => ?_) (fun c126 => ?_)
    ·refine qv (.bool true) (fun _ x' => x_pick_f rfl rfl rfl) ?_
     refine q_nil (fun w127 x128 => t_norm (c_true rfl (c_seq (c_quiet (qv (.bool false) (fun _ x' => x_assign rfl rfl) ?_)))))
     exact q_nil (fun w129 x130 => t_norm (c_ret (b_ret (t_ret (t_ret (b_ret (t_ret (c_done rfl rfl (Ret.b ((all_fail (p := fun z : Cmd × Ptr => fewOne z.1) hx15 (few_m (by simp at *; omega))).symm) ((((((((((((x2.trans x4).trans x9).trans x23).trans x26).trans x29).trans x35).trans x66).trans x68).trans x74).trans x120).trans x128).trans x130))))))))))
    refine qv (.bool false) (fun _ x' => x_pick_f rfl rfl rfl) ?_
    refine q_nil (fun w131 x132 => t_norm (c_false rfl (c_skip (b_norm (t_norm (c_quiet (qv (iJ ((k5 : Int) + 1)) (fun _ x' => x_add rfl e79 rfl (wrap_of (by omega) (by omega))) ?_)))))))
    refine qv (iJ ((k5 : Int) + 1)) (fun _ x' => x_move rfl rfl) ?_
    exact q_nil (fun w133 x134 => t_norm (⟨_, rfl, ⟨k5 + 1, by omega, all_step (p := fun z : Cmd × Ptr => fewOne z.1) hi7 hx15 (few_ok hi32 hi71 (by simp at *; omega) (by simp at *; omega) (by simp at *; omega) (by simp at *; omega)), e77, e78, rfl, ((((((((((x9.trans x23).trans x26).trans x29).trans x35).trans x66).trans x68).trans x74).trans x120).trans x132).trans x134)⟩, meas_up e12 hl13⟩))
   refine c_seq (c_seq (c_quiet (qv (iJ (k69 : Int)) (fun _ x' => x_move rfl e92) ?_)))
   refine qv (.pointer (some (⟨w22.heap.size, 7, none⟩))) (fun _ x' => x_fieldAddr fld_37_5 rfl e75 rfl) ?_
   refine qv (.slice y14.2.B y14.1.writes.length y14.2.m) (fun _ x' => x_load rfl rfl (((((((b25.ext x29).ext x35).ext x66).ext x68).ext x74).ext x').one one_35 rfl)) ?_
   refine qv (iJ (y14.1.writes.length : Int)) (fun _ x' => x_len_slice sl_35 rfl rfl) ?_
   refine qv (.bool false) (fun _ x' => yb (x_lss rfl rfl rfl) (decide_eq_false (by omega))) ?_
   refine qv (.bool false) (fun _ x' => x_move rfl rfl) ?_
   refine qk rfl rfl (qk rfl rfl (qv (.bool false) (fun _ x' => x_pick_f rfl rfl rfl) ?_))
   refine q_nil (fun w135 x136 => t_norm (c_false rfl (c_exit (t_exit (t_exit (b_exit (t_norm (c_seq (c_quiet (qv (.pointer (some (⟨w22.heap.size, 6, none⟩))) (fun _ x' => x_fieldAddr fld_37_4 rfl e75 rfl) ?_))))))))))
   refine qv (.slice y14.2.A y14.1.reads.length y14.2.n) (fun _ x' => x_load rfl rfl ((((((((b25.ext x29).ext x35).ext x66).ext x68).ext x74).ext x136).ext x').one one_34 rfl)) ?_
   refine qv (iJ (y14.1.reads.length : Int)) (fun _ x' => x_len_slice sl_34 rfl rfl) ?_
   refine q_bool (b := decide ((y14.1.reads.length : Int) > 20)) rfl rfl (fun _ x' => x_gtr rfl rfl rfl) (fun c137 => ?_) (fun c137 => ?_)
   ·refine qv (.bool true) (fun _ x' => x_move rfl rfl) ?_
    refine qk rfl rfl (qk rfl rfl (qk rfl rfl (qk rfl rfl (qv (.bool true) (fun _ x' => x_pick_t rfl rfl rfl) ?_))))
    refine q_nil (fun w138 x139 => t_norm (c_true rfl (c_seq (c_quiet (qv (.bool false) (fun _ x' => x_assign rfl rfl) ?_)))))
    exact q_nil (fun w140 x141 => t_norm (c_ret (b_ret (t_ret (t_ret (b_ret (t_ret (c_done rfl rfl (Ret.b ((all_fail (p := fun z : Cmd × Ptr => fewOne z.1) hx15 (few_n (by simp at *; omega))).symm) ((((((((((((x2.trans x4).trans x9).trans x23).trans x26).trans x29).trans x35).trans x66).trans x68).trans x74).trans x136).trans x139).trans x141))))))))))
   refine qv (.bool false) (fun _ x' => x_move rfl rfl) ?_
   refine qv (.pointer (some (⟨w22.heap.size, 7, none⟩))) (fun _ x' => x_fieldAddr fld_37_5 rfl e75 rfl) ?_
   refine qv (.slice y14.2.B y14.1.writes.length y14.2.m) (fun _ x' => x_load rfl rfl ((((((((b25.ext x29).ext x35).ext x66).ext x68).ext x74).ext x136).ext x').one one_35 rfl)) ?_
   refine qv (iJ (y14.1.writes.length : Int)) (fun _ x' => x_len_slice sl_35 rfl rfl) ?_
   refine q_bool (b := decide ((y14.1.writes.length : Int) > 20)) rfl rfl (fun _ x' => x_gtr rfl rfl rfl) (fun c142 => ?_) (fun c142 => ?_)
   ·refine qv (.bool true) (fun _ x' => x_pick_f rfl rfl rfl) ?_
    refine q_nil (fun w143 x144 => t_norm (c_true rfl (c_seq (c_quiet (qv (.bool false) (fun _ x' => x_assign rfl rfl) ?_)))))
    exact q_nil (fun w145 x146 => t_norm (c_ret (b_ret (t_ret (t_ret (b_ret (t_ret (c_done rfl rfl (Ret.b ((all_fail (p := fun z : Cmd × Ptr => fewOne z.1) hx15 (few_m (by simp at *; omega))).symm) ((((((((((((x2.trans x4).trans x9).trans x23).trans x26).trans x29).trans x35).trans x66).trans x68).trans x74).trans x136).trans x144).trans x146))))))))))
   refine qv (.bool false) (fun _ x' => x_pick_f rfl rfl rfl) ?_
   refine q_nil (fun w147 x148 => t_norm (c_false rfl (c_skip (b_norm (t_norm (c_quiet (qv (iJ ((k5 : Int) + 1)) (fun _ x' => x_add rfl e79 rfl (wrap_of (by omega) (by omega))) ?_)))))))
   refine qv (iJ ((k5 : Int) + 1)) (fun _ x' => x_move rfl rfl) ?_
   exact q_nil (fun w149 x150 => t_norm (⟨_, rfl, ⟨k5 + 1, by omega, all_step (p := fun z : Cmd × Ptr => fewOne z.1) hi7 hx15 (few_ok hi32 hi71 (by simp at *; omega) (by simp at *; omega) (by simp at *; omega) (by simp at *; omega)), e77, e78, rfl, ((((((((((x9.trans x23).trans x26).trans x29).trans x35).trans x66).trans x68).trans x74).trans x136).trans x148).trans x150)⟩, meas_up e12 hl13⟩))
  refine c_seq (c_seq (c_quiet (qv (iJ (k30 : Int)) (fun _ x' => x_move rfl e43) ?_)))
  refine qv (.pointer (some (⟨w22.heap.size, 6, none⟩))) (fun _ x' => x_fieldAddr fld_37_4 rfl e36 rfl) ?_
  refine qv (.slice y14.2.A y14.1.reads.length y14.2.n) (fun _ x' => x_load rfl rfl ((((b25.ext x29).ext x35).ext x').one one_34 rfl)) ?_
  refine qv (iJ (y14.1.reads.length : Int)) (fun _ x' => x_len_slice sl_34 rfl rfl) ?_
  refine qv (.bool false) (fun _ x' => yb (x_lss rfl rfl rfl) (decide_eq_false (by omega))) ?_
  refine qv (.bool false) (fun _ x' => x_move rfl rfl) ?_
  refine qk rfl rfl (qk rfl rfl (qv (.bool false) (fun _ x' => x_pick_f rfl rfl rfl) ?_))
  refine q_nil (fun w151 x152 => t_norm (c_false rfl (c_exit (t_exit (t_exit (b_exit (t_norm (c_seq (c_seq (c_quiet (qv (iJ 0) (fun _ x' => x_assign rfl rfl) ?_)))))))))))
  refine q_nil (fun w153 x154 => t_norm (c_block (c_loop (fun ρ w159 => ∃ k155 : Nat, k155 ≤ y14.1.writes.length ∧ (y14.1.writes.take k155).all fewW = true ∧ k155 ≤ 21 ∧ ρ 4 = pJ w22.heap.size ∧ ρ 5 = iJ (k30 : Int) ∧ ρ 7 = .slice A l.length c ∧ ρ 8 = iJ (l.length : Int) ∧ ρ 9 = iJ (k5 : Int) ∧ ρ 10 = .bool true ∧ ρ 11 = .pointer (some (ad16.add (k5 * 9))) ∧ ρ 12 = vCmd y14.1 y14.2 ∧ ρ 13 = iJ (k30 : Int) ∧ ρ 14 = .pointer (some (⟨w22.heap.size, 6, none⟩)) ∧ ρ 15 = .slice y14.2.A y14.1.reads.length y14.2.n ∧ ρ 16 = iJ (y14.1.reads.length : Int) ∧ ρ 17 = .bool false ∧ ρ 18 = .bool false ∧ ρ 21 = .bool false ∧ ρ 6 = iJ (k155 : Int) ∧ Ext w153 w159) (fun ρ _ => y14.1.writes.length - (intOf (ρ 6)).toNat) ⟨0, Nat.zero_le _, rfl, by decide, e36, e43, e37, e38, e39, e40, e41, e42, rfl, rfl, rfl, rfl, rfl, rfl, rfl, rfl, Ext.refl _⟩ ?_)))
  rintro ρ w159 ⟨k155, hk156, hi157, hi158, e161, e162, e163, e164, e165, e166, e167, e168, e169, e170, e171, e172, e173, e174, e175, e176, x160⟩
  by_cases hl177 : k155 < y14.1.writes.length
  ·obtain ⟨y178, hx179⟩ := some_of (l := y14.1.writes) (k := k155) (by omega)
   obtain ⟨ad180, cs181, eA182, hK183, hE184⟩ := hK19.writes k155 y178 hx179
   have hK183' : cs181 = [.string y178.key, .string y178.val] := hK183
   subst hK183'
   refine c_seq (c_seq (c_quiet (qv (iJ (k155 : Int)) (fun _ x' => x_move rfl e176) ?_)))
   refine qv (.pointer (some (⟨w22.heap.size, 7, none⟩))) (fun _ x' => x_fieldAddr fld_37_5 rfl e161 rfl) ?_
   refine qv (.slice y14.2.B y14.1.writes.length y14.2.m) (fun _ x' => x_load rfl rfl (((((((b25.ext x29).ext x35).ext x152).ext x154).ext x160).ext x').one one_35 rfl)) ?_
   refine qv (iJ (y14.1.writes.length : Int)) (fun _ x' => x_len_slice sl_35 rfl rfl) ?_
   refine qv (.bool true) (fun _ x' => yb (x_lss rfl rfl rfl) (decide_eq_true (by omega))) ?_
   refine qv (.bool true) (fun _ x' => x_move rfl rfl) ?_
   refine qv (iJ (k155 : Int)) (fun _ x' => x_move rfl e176) ?_
   refine q_bool (b := decide ((k155 : Int) ≤ 20)) rfl rfl (fun _ x' => x_leq rfl rfl rfl) (fun c186 => ?_) (fun c186 => ?_)
   ·refine qv (.bool true) (fun _ x' => x_pick_t rfl rfl rfl) ?_
    refine q_nil (fun w187 x188 => t_norm (c_true rfl (c_skip (t_norm (c_seq (c_block (c_seq (c_quiet (qv (.pointer (some (⟨w22.heap.size, 7, none⟩))) (fun _ x' => x_fieldAddr fld_37_5 rfl e161 rfl) ?_)))))))))
    refine qv (.slice y14.2.B y14.1.writes.length y14.2.m) (fun _ x' => x_load rfl rfl ((((((((b25.ext x29).ext x35).ext x152).ext x154).ext x160).ext x188).ext x').one one_35 rfl)) ?_
    refine qv (iJ (k155 : Int)) (fun _ x' => x_move rfl e176) ?_
    refine qv (.pointer (some (ad180.add (k155 * 2)))) (fun _ x' => x_indexAddr sl_35 rfl rfl eA182 rfl (by omega) (by omega) rfl) ?_
    refine qv (.pointer (some (ad180.add (k155 * 2)))) (fun _ x' => x_fieldAddr fld_80_0 rfl rfl rfl) ?_
    refine qv (.string y178.key) (fun _ x' => x_load rfl rfl (((((((((((((hE184.ext x2).ext x4).ext x9).ext x23).ext x26).ext x29).ext x35).ext x152).ext x154).ext x160).ext x188).ext x').one one_9 0 rfl rfl)) ?_
    refine qv (iJ (y178.key.size : Int)) (fun _ x' => x_len_string str_9 rfl rfl) ?_
    refine q_bool (b := decide ((y178.key.size : Int) > 100)) rfl rfl (fun _ x' => x_gtr rfl rfl rfl) (fun c189 => ?_) (fun c189 => ?_)
    ·refine qv (.bool true) (fun _ x' => x_move rfl rfl) ?_
     refine qk rfl rfl (qk rfl rfl (qk rfl rfl (qk rfl rfl (qk rfl rfl (qk rfl rfl (qk rfl rfl (qk rfl rfl (qv (.bool true) (fun _ x' => x_pick_t rfl rfl rfl) ?_))))))))
     refine q_nil (fun w190 x191 => t_norm (c_true rfl (c_seq (c_quiet (qv (.bool false) (fun _ x' => x_assign rfl rfl) ?_)))))
     exact q_nil (fun w192 x193 => t_norm (c_ret (b_ret (t_ret (t_ret (b_ret (t_ret (b_ret (t_ret (t_ret (b_ret (t_ret (c_done rfl rfl (Ret.b ((all_fail (p := fun z : Cmd × Ptr => fewOne z.1) hx15 (few_w hx179 (by simp at *; omega) (by simp_all [fewW] <;> omega))).symm) ((((((((((((x2.trans x4).trans x9).trans x23).trans x26).trans x29).trans x35).trans x152).trans x154).trans x160).trans x188).trans x191).trans x193)))))))))))))))
    refine qv (.bool false) (fun _ x' => x_move rfl rfl) ?_
    refine qv (.pointer (some (⟨w22.heap.size, 7, none⟩))) (fun _ x' => x_fieldAddr fld_37_5 rfl e161 rfl) ?_
    refine qv (.slice y14.2.B y14.1.writes.length y14.2.m) (fun _ x' => x_load rfl rfl ((((((((b25.ext x29).ext x35).ext x152).ext x154).ext x160).ext x188).ext x').one one_35 rfl)) ?_
    refine qv (iJ (k155 : Int)) (fun _ x' => x_move rfl e176) ?_
    refine qv (.pointer (some (ad180.add (k155 * 2)))) (fun _ x' => x_indexAddr sl_35 rfl rfl eA182 rfl (by omega) (by omega) rfl) ?_
    refine qv (.pointer (some ((ad180.add (k155 * 2)).add 1))) (fun _ x' => x_fieldAddr fld_80_1 rfl rfl rfl) ?_
    refine qv (.string y178.val) (fun _ x' => x_load rfl rfl (((((((((((((hE184.ext x2).ext x4).ext x9).ext x23).ext x26).ext x29).ext x35).ext x152).ext x154).ext x160).ext x188).ext x').one one_9 1 rfl rfl)) ?_
    refine qv (iJ (y178.val.size : Int)) (fun _ x' => x_len_string str_9 rfl rfl) ?_
    refine q_bool (b := decide ((y178.val.size : Int) > 100)) rfl rfl (fun _ x' => x_gtr rfl rfl rfl) (fun c194 => ?_) (fun c194 => ?_)
    ·refine qv (.bool true) (fun _ x' => x_pick_f rfl rfl rfl) ?_
     refine q_nil (fun w195 x196 => t_norm (c_true rfl (c_seq (c_quiet (qv (.bool false) (fun _ x' => x_assign rfl rfl) ?_)))))
     exact q_nil (fun w197 x198 => t_norm (c_ret (b_ret (t_ret (t_ret (b_ret (t_ret (b_ret (t_ret (t_ret (b_ret (t_ret (c_done rfl rfl (Ret.b ((all_fail (p := fun z : Cmd × Ptr => fewOne z.1) hx15 (few_w hx179 (by simp at *; omega) (by simp_all [fewW] <;> omega))).symm) ((((((((((((x2.trans x4).trans x9).trans x23).trans x26).trans x29).trans x35).trans x152).trans x154).trans x160).trans x188).trans x196).trans x198)))))))))))))))
    refine qv (.bool false) (fun _ x' => x_pick_f rfl rfl rfl) ?_
    refine q_nil (fun w199 x200 => t_norm (c_false rfl (c_skip (b_norm (t_norm (c_quiet (qv (iJ (k155 : Int)) (fun _ x' => x_move rfl e176) ?_)))))))
    refine qv (iJ ((k155 : Int) + 1)) (fun _ x' => x_add rfl rfl rfl (wrap_of (by omega) (by omega))) ?_
    refine qv (iJ ((k155 : Int) + 1)) (fun _ x' => x_assign rfl rfl) ?_
    exact q_nil (fun w201 x202 => t_norm (⟨_, rfl, ⟨k155 + 1, by omega, all_step hi157 hx179 (by simp_all [fewW] <;> omega), by simp at *; omega, e161, e162, e163, e164, e165, e166, e167, e168, e169, e170, e171, e172, e173, e174, e175, rfl, (((x160.trans x188).trans x200).trans x202)⟩, meas_up e176 hl177⟩))
   refine qv (.bool false) (fun _ x' => x_pick_t rfl rfl rfl) ?_
   refine q_nil (fun w203 x204 => t_norm (c_false rfl (c_exit (t_exit (t_exit (b_exit (t_norm (c_seq (c_quiet (qv (.pointer (some (⟨w22.heap.size, 6, none⟩))) (fun _ x' => x_fieldAddr fld_37_4 rfl e161 rfl) ?_))))))))))
   refine qv (.slice y14.2.A y14.1.reads.length y14.2.n) (fun _ x' => x_load rfl rfl ((((((((b25.ext x29).ext x35).ext x152).ext x154).ext x160).ext x204).ext x').one one_34 rfl)) ?_
   refine qv (iJ (y14.1.reads.length : Int)) (fun _ x' => x_len_slice sl_34 rfl rfl) ?_
   refine q_bool (b := decide ((y14.1.reads.length : Int) > 20)) rfl rfl (fun _ x' => x_gtr rfl rfl rfl) (fun c205 => ?_) (fun c205 => ?_)
   ·refine qv (.bool true) (fun _ x' => x_move rfl rfl) ?_
    refine qk rfl rfl (qk rfl rfl (qk rfl rfl (qk rfl rfl (qv (.bool true) (fun _ x' => x_pick_t rfl rfl rfl) ?_))))
    refine q_nil (fun w206 x207 => t_norm (c_true rfl (c_seq (c_quiet (qv (.bool false) (fun _ x' => x_assign rfl rfl) ?_)))))
    exact q_nil (fun w208 x209 => t_norm (c_ret (b_ret (t_ret (t_ret (b_ret (t_ret (c_done rfl rfl (Ret.b ((all_fail (p := fun z : Cmd × Ptr => fewOne z.1) hx15 (few_n (by simp at *; omega))).symm) ((((((((((((x2.trans x4).trans x9).trans x23).trans x26).trans x29).trans x35).trans x152).trans x154).trans x160).trans x204).trans x207).trans x209))))))))))
   refine qv (.bool false) (fun _ x' => x_move rfl rfl) ?_
   refine qv (.pointer (some (⟨w22.heap.size, 7, none⟩))) (fun _ x' => x_fieldAddr fld_37_5 rfl e161 rfl) ?_
   refine qv (.slice y14.2.B y14.1.writes.length y14.2.m) (fun _ x' => x_load rfl rfl ((((((((b25.ext x29).ext x35).ext x152).ext x154).ext x160).ext x204).ext x').one one_35 rfl)) ?_
   refine qv (iJ (y14.1.writes.length : Int)) (fun _ x' => x_len_slice sl_35 rfl rfl) ?_
   refine q_bool (b := decide ((y14.1.writes.length : Int) > 20)) rfl rfl (fun _ x' => x_gtr rfl rfl rfl) (fun c210 => ?_) (fun c210 => ?_)
   ·refine qv (.bool true) (fun _ x' => x_pick_f rfl rfl rfl) ?_
    refine q_nil (fun w211 x212 => t_norm (c_true rfl (c_seq (c_quiet (qv (.bool false) (fun _ x' => x_assign rfl rfl) ?_)))))
    exact q_nil (fun w213 x214 => t_norm (c_ret (b_ret (t_ret (t_ret (b_ret (t_ret (c_done rfl rfl (Ret.b ((all_fail (p := fun z : Cmd × Ptr => fewOne z.1) hx15 (few_m (by simp at *; omega))).symm) ((((((((((((x2.trans x4).trans x9).trans x23).trans x26).trans x29).trans x35).trans x152).trans x154).trans x160).trans x204).trans x212).trans x214))))))))))
   refine qv (.bool false) (fun _ x' => x_pick_f rfl rfl rfl) ?_
   refine q_nil (fun w215 x216 => t_norm (c_false rfl (c_skip (b_norm (t_norm (c_quiet (qv (iJ ((k5 : Int) + 1)) (fun _ x' => x_add rfl e165 rfl (wrap_of (by omega) (by omega))) ?_)))))))
   refine qv (iJ ((k5 : Int) + 1)) (fun _ x' => x_move rfl rfl) ?_
   exact q_nil (fun w217 x218 => t_norm (⟨_, rfl, ⟨k5 + 1, by omega, all_step (p := fun z : Cmd × Ptr => fewOne z.1) hi7 hx15 (few_ok hi32 hi157 (by simp at *; omega) (by simp at *; omega) (by simp at *; omega) (by simp at *; omega)), e163, e164, rfl, ((((((((((x9.trans x23).trans x26).trans x29).trans x35).trans x152).trans x154).trans x160).trans x204).trans x216).trans x218)⟩, meas_up e12 hl13⟩))
  refine c_seq (c_seq (c_quiet (qv (iJ (k155 : Int)) (fun _ x' => x_move rfl e176) ?_)))
  refine qv (.pointer (some (⟨w22.heap.size, 7, none⟩))) (fun _ x' => x_fieldAddr fld_37_5 rfl e161 rfl) ?_
  refine qv (.slice y14.2.B y14.1.writes.length y14.2.m) (fun _ x' => x_load rfl rfl (((((((b25.ext x29).ext x35).ext x152).ext x154).ext x160).ext x').one one_35 rfl)) ?_
  refine qv (iJ (y14.1.writes.length : Int)) (fun _ x' => x_len_slice sl_35 rfl rfl) ?_
  refine qv (.bool false) (fun _ x' => yb (x_lss rfl rfl rfl) (decide_eq_false (by omega))) ?_
  refine qv (.bool false) (fun _ x' => x_move rfl rfl) ?_
  refine qk rfl rfl (qk rfl rfl (qv (.bool false) (fun _ x' => x_pick_f rfl rfl rfl) ?_))
  refine q_nil (fun w219 x220 => t_norm (c_false rfl (c_exit (t_exit (t_exit (b_exit (t_norm (c_seq (c_quiet (qv (.pointer (some (⟨w22.heap.size, 6, none⟩))) (fun _ x' => x_fieldAddr fld_37_4 rfl e161 rfl) ?_))))))))))
  refine qv (.slice y14.2.A y14.1.reads.length y14.2.n) (fun _ x' => x_load rfl rfl ((((((((b25.ext x29).ext x35).ext x152).ext x154).ext x160).ext x220).ext x').one one_34 rfl)) ?_
  refine qv (iJ (y14.1.reads.length : Int)) (fun _ x' => x_len_slice sl_34 rfl rfl) ?_
  refine q_bool (b := decide ((y14.1.reads.length : Int) > 20)) rfl rfl (fun _ x' => x_gtr rfl rfl rfl) (fun c221 => ?_) (fun c221 => ?_)
  ·refine qv (.bool true) (fun _ x' => x_move rfl rfl) ?_
   refine qk rfl rfl (qk rfl rfl (qk rfl rfl (qk rfl rfl (qv (.bool true) (fun _ x' => x_pick_t rfl rfl rfl) ?_))))
   refine q_nil (fun w222 x223 => t_norm (c_true rfl (c_seq (c_quiet (qv (.bool false) (fun _ x' => x_assign rfl rfl) ?_)))))
   exact q_nil (fun w224 x225 => t_norm (c_ret (b_ret (t_ret (t_ret (b_ret (t_ret (c_done rfl rfl (Ret.b ((all_fail (p := fun z : Cmd × Ptr => fewOne z.1) hx15 (few_n (by simp at *; omega))).symm) ((((((((((((x2.trans x4).trans x9).trans x23).trans x26).trans x29).trans x35).trans x152).trans x154).trans x160).trans x220).trans x223).trans x225))))))))))
  refine qv (.bool false) (fun _ x' => x_move rfl rfl) ?_
  refine qv (.pointer (some (⟨w22.heap.size, 7, none⟩))) (fun _ x' => x_fieldAddr fld_37_5 rfl e161 rfl) ?_
  refine qv (.slice y14.2.B y14.1.writes.length y14.2.m) (fun _ x' => x_load rfl rfl ((((((((b25.ext x29).ext x35).ext x152).ext x154).ext x160).ext x220).ext x').one one_35 rfl)) ?_
  refine qv (iJ (y14.1.writes.length : Int)) (fun _ x' => x_len_slice sl_35 rfl rfl) ?_
  refine q_bool (b := decide ((y14.1.writes.length : Int) > 20)) rfl rfl (fun _ x' => x_gtr rfl rfl rfl) (fun c226 => ?_) (fun c226 => ?_)
  ·refine qv (.bool true) (fun _ x' => x_pick_f rfl rfl rfl) ?_
   refine q_nil (fun w227 x228 => t_norm (c_true rfl (c_seq (c_quiet (qv (.bool false) (fun _ x' => x_assign rfl rfl) ?_)))))
   exact q_nil (fun w229 x230 => t_norm (c_ret (b_ret (t_ret (t_ret (b_ret (t_ret (c_done rfl rfl (Ret.b ((all_fail (p := fun z : Cmd × Ptr => fewOne z.1) hx15 (few_m (by simp at *; omega))).symm) ((((((((((((x2.trans x4).trans x9).trans x23).trans x26).trans x29).trans x35).trans x152).trans x154).trans x160).trans x220).trans x228).trans x230))))))))))
  refine qv (.bool false) (fun _ x' => x_pick_f rfl rfl rfl) ?_
  refine q_nil (fun w231 x232 => t_norm (c_false rfl (c_skip (b_norm (t_norm (c_quiet (qv (iJ ((k5 : Int) + 1)) (fun _ x' => x_add rfl e165 rfl (wrap_of (by omega) (by omega))) ?_)))))))
  refine qv (iJ ((k5 : Int) + 1)) (fun _ x' => x_move rfl rfl) ?_
  exact q_nil (fun w233 x234 => t_norm (⟨_, rfl, ⟨k5 + 1, by omega, all_step (p := fun z : Cmd × Ptr => fewOne z.1) hi7 hx15 (few_ok hi32 hi157 (by simp at *; omega) (by simp at *; omega) (by simp at *; omega) (by simp at *; omega)), e163, e164, rfl, ((((((((((x9.trans x23).trans x26).trans x29).trans x35).trans x152).trans x154).trans x160).trans x220).trans x232).trans x234)⟩, meas_up e12 hl13⟩))
 refine c_seq (c_quiet (qv (.bool false) (fun _ x' => yb (x_lss rfl e12 e11) (decide_eq_false (by omega))) ?_))
 refine q_nil (fun w235 x236 => t_norm (c_seq (c_false rfl (c_exit (t_exit (t_exit (b_exit (t_norm (c_seq (c_quiet (qv (.bool true) (fun _ x' => x_assign rfl rfl) ?_)))))))))))
 exact q_nil (fun w237 x238 => t_norm (c_ret (c_done rfl rfl (Ret.b ((all_end (p := fun z : Cmd × Ptr => fewOne z.1) hi7 hl13).symm) ((((x2.trans x4).trans x9).trans x236).trans x238)))))
end Go.Proofs.Ytadeigpphklmfaa
