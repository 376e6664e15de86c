/- Few. -/
import Derived.Test.YtibhkdomoknnfaaEnc
import Derived.Test.YtibhkdomoknnfaaA6
namespace Go.Proofs.Ytibhkdomoknnfaa
open Go.RowKit Go.Eng
set_option linter.unusedVariables false
set_option linter.unusedSimpArgs false
set_option maxHeartbeats 4000000 in
theorem C_few (w : World) (A : Option Addr) (c : Nat) (l : List (Cmd × Ptr)) (hR : Lies kCmd w A l) (hn : l.length ≤ 1000) :
    Calls Try.prog 7 #[.slice A l.length c] w (Ret w (.bool (few l))) := by
 refine c_enter (n := 72) Try.func7 rfl rfl rfl ?_
 refine c_seq ?_
 refine c_quiet ?_
 refine q_val (v := .bool false) rfl rfl (fun w' x' => x_assign rfl rfl) ?_
 refine q_nil (fun w1 x2 => ?_)
 refine t_norm ?_
 refine c_seq ?_
 refine c_seq ?_
 refine c_quiet ?_
 refine q_val (v := .slice A l.length c) rfl rfl (fun w' x' => x_move rfl rfl) ?_
 refine q_val (v := .int .i64 (l.length : Int)) rfl rfl (fun w' x' => x_len_slice sl_62 rfl rfl) ?_
 refine q_val (v := .int .i64 0) rfl rfl (fun w' x' => x_move rfl rfl) ?_
 refine q_nil (fun w3 x4 => ?_)
 refine t_norm ?_
 refine c_block ?_
 refine c_loop (fun ρ w8 => ∃ k5 : Nat, k5 ≤ l.length ∧ (l.take k5).all (fun z => fewOne z.1) = true ∧ ρ 7 = .slice A l.length c ∧ ρ 8 = .int .i64 (l.length : Int) ∧ ρ 9 = .int .i64 (k5 : Int) ∧ Ext w3 w8) (fun ρ _ => l.length - (intOf (ρ 9)).toNat) ⟨0, Nat.zero_le _, rfl, rfl, rfl, rfl, Ext.refl _⟩ ?_
 rintro ρ w8 ⟨k5, hk6, hi7, e10, e11, e12, x9⟩
 by_cases hl13 : k5 < l.length
 ·obtain ⟨y14, hx15⟩ := some_of (l := l) (k := k5) (by omega)
  obtain ⟨ad16, cs17, eA18, hK19, hE20⟩ := hR k5 y14 hx15
  obtain ⟨hK19', hK19⟩ := hK19
  have hK19'' : cs17 = [.int .i64 y14.1.kind, .int .i64 y14.1.txn.client, .int .i64 y14.1.txn.number, .int .i64 y14.1.stp.time, .int .i64 y14.1.stp.client, .int .i64 y14.1.shards, .slice y14.2.A y14.1.reads.length y14.2.n, .slice y14.2.B y14.1.writes.length y14.2.m, .bool y14.1.commit] := hK19'
  subst hK19''
  refine c_seq ?_
  refine c_quiet ?_
  refine q_val (v := .bool true) rfl rfl (fun w' x' => yb (x_lss rfl e12 e11) (decide_eq_true (by omega))) ?_
  refine q_nil (fun w22 x23 => ?_)
  refine t_norm ?_
  refine c_seq ?_
  refine c_true rfl ?_
  refine c_skip ?_
  refine t_norm ?_
  refine c_seq ?_
  refine c_block ?_
  refine c_seq ?_
  refine c_plain ?_
  refine p_val (v := .pointer (some (ad16.add (k5 * 9)))) rfl rfl (x_indexAddr sl_62 rfl e10 eA18 e12 (by omega) (by omega) rfl) ?_
  refine p_val (v := vCmd y14.1 y14.2) rfl rfl (x_load rfl rfl (((((hE20.ext x2).ext x4).ext x9).ext x23).agg (vs := [.int .i64 y14.1.kind, .int .i64 y14.1.txn.client, .int .i64 y14.1.txn.number, .int .i64 y14.1.stp.time, .int .i64 y14.1.stp.client, .int .i64 y14.1.shards, .slice y14.2.A y14.1.reads.length y14.2.n, .slice y14.2.B y14.1.writes.length y14.2.m, .bool y14.1.commit]) agg_33_9 0 rfl rfl)) ?_
  refine p_var (v := vCmd y14.1 y14.2) (vs := [.int .i64 y14.1.kind, .int .i64 y14.1.txn.client, .int .i64 y14.1.txn.number, .int .i64 y14.1.stp.time, .int .i64 y14.1.stp.client, .int .i64 y14.1.shards, .slice y14.2.A y14.1.reads.length y14.2.n, .slice y14.2.B y14.1.writes.length y14.2.m, .bool y14.1.commit]) rfl rfl rfl zero_33 rfl rfl rfl rfl rfl rfl rfl size_33 rfl (fun w24 b25 x26 z27 => ?_)
  refine p_nil ?_
  refine t_norm ?_
  refine c_seq ?_
  refine c_seq ?_
  refine c_quiet ?_
  refine q_val (v := .int .i64 0) rfl rfl (fun w' x' => x_assign rfl rfl) ?_
  refine q_nil (fun w28 x29 => ?_)
  refine t_norm ?_
  refine c_block ?_
  refine c_loop (fun ρ w34 => ∃ k30 : Nat, k30 ≤ y14.1.reads.length ∧ (y14.1.reads.take k30).all fewR = true ∧ k30 ≤ 21 ∧ ρ 4 = .pointer (some (⟨w22.heap.size, 0, none⟩)) ∧ ρ 7 = .slice A l.length c ∧ ρ 8 = .int .i64 (l.length : Int) ∧ ρ 9 = .int .i64 (k5 : Int) ∧ ρ 10 = .bool true ∧ ρ 11 = .pointer (some (ad16.add (k5 * 9))) ∧ ρ 12 = vCmd y14.1 y14.2 ∧ ρ 5 = .int .i64 (k30 : Int) ∧ Ext w28 w34) (fun ρ _ => y14.1.reads.length - (intOf (ρ 5)).toNat) ⟨0, Nat.zero_le _, rfl, by decide, rfl, e10, e11, e12, rfl, rfl, rfl, rfl, Ext.refl _⟩ ?_
  rintro ρ w34 ⟨k30, hk31, hi32, hi33, e36, e37, e38, e39, e40, e41, e42, e43, x35⟩
  by_cases hl44 : k30 < y14.1.reads.length
  ·obtain ⟨y45, hx46⟩ := some_of (l := y14.1.reads) (k := k30) (by omega)
   obtain ⟨ad47, cs48, eA49, hK50, hE51⟩ := hK19.reads k30 y45 hx46
   have hK50' : cs48 = [.string y45.key, .int .i64 y45.ver.time, .int .i64 y45.ver.client] := hK50
   subst hK50'
   refine c_seq ?_
   refine c_seq ?_
   refine c_quiet ?_
   refine q_val (v := .int .i64 (k30 : Int)) rfl rfl (fun w' x' => x_move rfl e43) ?_
   refine q_val (v := .pointer (some (⟨w22.heap.size, 6, none⟩))) rfl rfl (fun w' x' => x_fieldAddr fld_33_4 rfl e36 rfl) ?_
   refine q_val (v := .slice y14.2.A y14.1.reads.length y14.2.n) rfl rfl (fun w' x' => x_load rfl rfl ((((b25.ext x29).ext x35).ext x').one one_30 rfl)) ?_
   refine q_val (v := .int .i64 (y14.1.reads.length : Int)) rfl rfl (fun w' x' => x_len_slice sl_30 rfl rfl) ?_
   refine q_val (v := .bool true) rfl rfl (fun w' x' => yb (x_lss rfl rfl rfl) (decide_eq_true (by omega))) ?_
   refine q_val (v := .bool true) rfl rfl (fun w' x' => x_move rfl rfl) ?_
   refine q_val (v := .int .i64 (k30 : Int)) rfl rfl (fun w' x' => x_move rfl e43) ?_
   refine q_bool (b := decide ((k30 : Int) ≤ 20)) rfl rfl (fun w' x' => x_leq rfl rfl rfl) (fun c53 => ?_) (fun c53 => ?_)
   ·refine q_val (v := .bool true) rfl rfl (fun w' x' => x_pick_t rfl rfl rfl) ?_
    refine q_nil (fun w54 x55 => ?_)
    refine t_norm ?_
    refine c_true rfl ?_
    refine c_skip ?_
    refine t_norm ?_
    refine c_seq ?_
    refine c_block ?_
    refine c_seq ?_
    refine c_quiet ?_
    refine q_val (v := .pointer (some (⟨w22.heap.size, 6, none⟩))) rfl rfl (fun w' x' => x_fieldAddr fld_33_4 rfl e36 rfl) ?_
    refine q_val (v := .slice y14.2.A y14.1.reads.length y14.2.n) rfl rfl (fun w' x' => x_load rfl rfl (((((b25.ext x29).ext x35).ext x55).ext x').one one_30 rfl)) ?_
    refine q_val (v := .int .i64 (k30 : Int)) rfl rfl (fun w' x' => x_move rfl e43) ?_
    refine q_val (v := .pointer (some (ad47.add (k30 * 3)))) rfl rfl (fun w' x' => x_indexAddr sl_30 rfl rfl eA49 rfl (by omega) (by omega) rfl) ?_
    refine q_val (v := .pointer (some (ad47.add (k30 * 3)))) rfl rfl (fun w' x' => x_fieldAddr fld_64_0 rfl rfl rfl) ?_
    refine q_val (v := .string y45.key) rfl rfl (fun w' x' => x_load rfl rfl ((((((((((hE51.ext x2).ext x4).ext x9).ext x23).ext x26).ext x29).ext x35).ext x55).ext x').one one_9 0 rfl rfl)) ?_
    refine q_val (v := .int .i64 (y45.key.size : Int)) rfl rfl (fun w' x' => x_len_string str_9 rfl rfl) ?_
    refine q_bool (b := decide ((y45.key.size : Int) > 100)) rfl rfl (fun w' x' => x_gtr rfl rfl rfl) (fun c56 => ?_) (fun c56 => ?_)
    ·refine q_nil (fun w57 x58 => ?_)
     refine t_norm ?_
     refine c_true rfl ?_
     refine c_seq ?_
     refine c_quiet ?_
     refine q_val (v := .bool false) rfl rfl (fun w' x' => x_assign rfl rfl) ?_
     refine q_nil (fun w59 x60 => ?_)
     refine t_norm ?_
     refine c_ret ?_
     refine b_ret (t_ret (t_ret (b_ret (t_ret (b_ret (t_ret (t_ret (b_ret (t_ret ?_)))))))))
     exact c_done rfl rfl (Ret.b ((all_fail (p := fun z : Cmd × Ptr => fewOne z.1) hx15 (few_r hx46 (by simp at *; omega) (by simp_all [fewR] <;> omega))).symm) (((((((((x2.trans x4).trans x9).trans x23).trans x26).trans x29).trans x35).trans x55).trans x58).trans x60))
    ·refine q_nil (fun w61 x62 => ?_)
     refine t_norm ?_
     refine c_false rfl ?_
     refine c_skip ?_
     refine b_norm (t_norm ?_)
     refine c_quiet ?_
     refine q_val (v := .int .i64 (k30 : Int)) rfl rfl (fun w' x' => x_move rfl e43) ?_
     refine q_val (v := .int .i64 ((k30 : Int) + 1)) rfl rfl (fun w' x' => x_add rfl rfl rfl (wrap_of (by omega) (by omega))) ?_
     refine q_val (v := .int .i64 ((k30 : Int) + 1)) rfl rfl (fun w' x' => x_assign rfl rfl) ?_
     refine q_nil (fun w63 x64 => ?_)
     refine t_norm ?_
     exact ⟨_, rfl, ⟨k30 + 1, by omega, all_step hi32 hx46 (by simp_all [fewR] <;> omega), by simp at *; omega, e36, e37, e38, e39, e40, e41, e42, rfl, (((x35.trans x55).trans x62).trans x64)⟩, meas_up e43 hl44⟩
   ·refine q_val (v := .bool false) rfl rfl (fun w' x' => x_pick_t rfl rfl rfl) ?_
    refine q_nil (fun w65 x66 => ?_)
    refine t_norm ?_
    refine c_false rfl ?_
    refine c_exit ?_
    refine t_exit (t_exit (b_exit (t_norm ?_)))
    refine c_seq ?_
    refine c_seq ?_
    refine c_quiet ?_
    refine q_val (v := .int .i64 0) rfl rfl (fun w' x' => x_assign rfl rfl) ?_
    refine q_nil (fun w67 x68 => ?_)
    refine t_norm ?_
    refine c_block ?_
    refine c_loop (fun ρ w73 => ∃ k69 : Nat, k69 ≤ y14.1.writes.length ∧ (y14.1.writes.take k69).all fewW = true ∧ k69 ≤ 21 ∧ ρ 4 = .pointer (some (⟨w22.heap.size, 0, none⟩)) ∧ ρ 5 = .int .i64 (k30 : Int) ∧ ρ 7 = .slice A l.length c ∧ ρ 8 = .int .i64 (l.length : Int) ∧ ρ 9 = .int .i64 (k5 : Int) ∧ ρ 10 = .bool true ∧ ρ 11 = .pointer (some (ad16.add (k5 * 9))) ∧ ρ 12 = vCmd y14.1 y14.2 ∧ ρ 13 = .int .i64 (k30 : Int) ∧ ρ 14 = .pointer (some (⟨w22.heap.size, 6, none⟩)) ∧ ρ 15 = .slice y14.2.A y14.1.reads.length y14.2.n ∧ ρ 16 = .int .i64 (y14.1.reads.length : Int) ∧ ρ 17 = .bool true ∧ ρ 18 = .bool true ∧ ρ 19 = .int .i64 (k30 : Int) ∧ ρ 20 = .bool false ∧ ρ 21 = .bool false ∧ ρ 6 = .int .i64 (k69 : Int) ∧ Ext w67 w73) (fun ρ _ => y14.1.writes.length - (intOf (ρ 6)).toNat) ⟨0, Nat.zero_le _, rfl, by decide, e36, e43, e37, e38, e39, e40, e41, e42, rfl, rfl, rfl, rfl, rfl, rfl, rfl, rfl, rfl, rfl, Ext.refl _⟩ ?_
    rintro ρ w73 ⟨k69, hk70, hi71, hi72, e75, e76, e77, e78, e79, e80, e81, e82, e83, e84, e85, e86, e87, e88, e89, e90, e91, e92, x74⟩
    by_cases hl93 : k69 < y14.1.writes.length
    ·obtain ⟨y94, hx95⟩ := some_of (l := y14.1.writes) (k := k69) (by omega)
     obtain ⟨ad96, cs97, eA98, hK99, hE100⟩ := hK19.writes k69 y94 hx95
     have hK99' : cs97 = [.string y94.key, .string y94.val] := hK99
     subst hK99'
     refine c_seq ?_
     refine c_seq ?_
     refine c_quiet ?_
     refine q_val (v := .int .i64 (k69 : Int)) rfl rfl (fun w' x' => x_move rfl e92) ?_
     refine q_val (v := .pointer (some (⟨w22.heap.size, 7, none⟩))) rfl rfl (fun w' x' => x_fieldAddr fld_33_5 rfl e75 rfl) ?_
     refine q_val (v := .slice y14.2.B y14.1.writes.length y14.2.m) rfl rfl (fun w' x' => x_load rfl rfl (((((((b25.ext x29).ext x35).ext x66).ext x68).ext x74).ext x').one one_31 rfl)) ?_
     refine q_val (v := .int .i64 (y14.1.writes.length : Int)) rfl rfl (fun w' x' => x_len_slice sl_31 rfl rfl) ?_
     refine q_val (v := .bool true) rfl rfl (fun w' x' => yb (x_lss rfl rfl rfl) (decide_eq_true (by omega))) ?_
     refine q_val (v := .bool true) rfl rfl (fun w' x' => x_move rfl rfl) ?_
     refine q_val (v := .int .i64 (k69 : Int)) rfl rfl (fun w' x' => x_move rfl e92) ?_
     refine q_bool (b := decide ((k69 : Int) ≤ 20)) rfl rfl (fun w' x' => x_leq rfl rfl rfl) (fun c102 => ?_) (fun c102 => ?_)
     ·refine q_val (v := .bool true) rfl rfl (fun w' x' => x_pick_t rfl rfl rfl) ?_
      refine q_nil (fun w103 x104 => ?_)
      refine t_norm ?_
      refine c_true rfl ?_
      refine c_skip ?_
      refine t_norm ?_
      refine c_seq ?_
      refine c_block ?_
      refine c_seq ?_
      refine c_quiet ?_
      refine q_val (v := .pointer (some (⟨w22.heap.size, 7, none⟩))) rfl rfl (fun w' x' => x_fieldAddr fld_33_5 rfl e75 rfl) ?_
      refine q_val (v := .slice y14.2.B y14.1.writes.length y14.2.m) rfl rfl (fun w' x' => x_load rfl rfl ((((((((b25.ext x29).ext x35).ext x66).ext x68).ext x74).ext x104).ext x').one one_31 rfl)) ?_
      refine q_val (v := .int .i64 (k69 : Int)) rfl rfl (fun w' x' => x_move rfl e92) ?_
      refine q_val (v := .pointer (some (ad96.add (k69 * 2)))) rfl rfl (fun w' x' => x_indexAddr sl_31 rfl rfl eA98 rfl (by omega) (by omega) rfl) ?_
      refine q_val (v := .pointer (some (ad96.add (k69 * 2)))) rfl rfl (fun w' x' => x_fieldAddr fld_66_0 rfl rfl rfl) ?_
      refine q_val (v := .string y94.key) rfl rfl (fun w' x' => x_load rfl rfl (((((((((((((hE100.ext x2).ext x4).ext x9).ext x23).ext x26).ext x29).ext x35).ext x66).ext x68).ext x74).ext x104).ext x').one one_9 0 rfl rfl)) ?_
      refine q_val (v := .int .i64 (y94.key.size : Int)) rfl rfl (fun w' x' => x_len_string str_9 rfl rfl) ?_
      refine q_bool (b := decide ((y94.key.size : Int) > 100)) rfl rfl (fun w' x' => x_gtr rfl rfl rfl) (fun c105 => ?_) (fun c105 => ?_)
      ·refine q_val (v := .bool true) rfl rfl (fun w' x' => x_move rfl rfl) ?_
       refine q_skip rfl rfl ?_
       refine q_skip rfl rfl ?_
       refine q_skip rfl rfl ?_
       refine q_skip rfl rfl ?_
       refine q_skip rfl rfl ?_
       refine q_skip rfl rfl ?_
       refine q_skip rfl rfl ?_
       refine q_skip rfl rfl ?_
       refine q_val (v := .bool true) rfl rfl (fun w' x' => x_pick_t rfl rfl rfl) ?_
       refine q_nil (fun w106 x107 => ?_)
       refine t_norm ?_
       refine c_true rfl ?_
       refine c_seq ?_
       refine c_quiet ?_
       refine q_val (v := .bool false) rfl rfl (fun w' x' => x_assign rfl rfl) ?_
       refine q_nil (fun w108 x109 => ?_)
       refine t_norm ?_
       refine c_ret ?_
       refine b_ret (t_ret (t_ret (b_ret (t_ret (b_ret (t_ret (t_ret (b_ret (t_ret ?_)))))))))
       exact c_done rfl rfl (Ret.b ((all_fail (p := fun z : Cmd × Ptr => fewOne z.1) hx15 (few_w hx95 (by simp at *; omega) (by simp_all [fewW] <;> omega))).symm) ((((((((((((x2.trans x4).trans x9).trans x23).trans x26).trans x29).trans x35).trans x66).trans x68).trans x74).trans x104).trans x107).trans x109))
      ·refine q_val (v := .bool false) rfl rfl (fun w' x' => x_move rfl rfl) ?_
       refine q_val (v := .pointer (some (⟨w22.heap.size, 7, none⟩))) rfl rfl (fun w' x' => x_fieldAddr fld_33_5 rfl e75 rfl) ?_
       refine q_val (v := .slice y14.2.B y14.1.writes.length y14.2.m) rfl rfl (fun w' x' => x_load rfl rfl ((((((((b25.ext x29).ext x35).ext x66).ext x68).ext x74).ext x104).ext x').one one_31 rfl)) ?_
       refine q_val (v := .int .i64 (k69 : Int)) rfl rfl (fun w' x' => x_move rfl e92) ?_
       refine q_val (v := .pointer (some (ad96.add (k69 * 2)))) rfl rfl (fun w' x' => x_indexAddr sl_31 rfl rfl eA98 rfl (by omega) (by omega) rfl) ?_
       refine q_val (v := .pointer (some ((ad96.add (k69 * 2)).add 1))) rfl rfl (fun w' x' => x_fieldAddr fld_66_1 rfl rfl rfl) ?_
       refine q_val (v := .string y94.val) rfl rfl (fun w' x' => x_load rfl rfl (((((((((((((hE100.ext x2).ext x4).ext x9).ext x23).ext x26).ext x29).ext x35).ext x66).ext x68).ext x74).ext x104).ext x').one one_9 1 rfl rfl)) ?_
       refine q_val (v := .int .i64 (y94.val.size : Int)) rfl rfl (fun w' x' => x_len_string str_9 rfl rfl) ?_
       refine q_bool (b := decide ((y94.val.size : Int) > 100)) rfl rfl (fun w' x' => x_gtr rfl rfl rfl) (fun c110 => ?_) (fun c110 => ?_)
       ·refine q_val (v := .bool true) rfl rfl (fun w' x' => x_pick_f rfl rfl rfl) ?_
        refine q_nil (fun w111 x112 => ?_)
        refine t_norm ?_
        refine c_true rfl ?_
        refine c_seq ?_
        refine c_quiet ?_
        refine q_val (v := .bool false) rfl rfl (fun w' x' => x_assign rfl rfl) ?_
        refine q_nil (fun w113 x114 => ?_)
        refine t_norm ?_
        refine c_ret ?_
        refine b_ret (t_ret (t_ret (b_ret (t_ret (b_ret (t_ret (t_ret (b_ret (t_ret ?_)))))))))
        exact c_done rfl rfl (Ret.b ((all_fail (p := fun z : Cmd × Ptr => fewOne z.1) hx15 (few_w hx95 (by simp at *; omega) (by simp_all [fewW] <;> omega))).symm) ((((((((((((x2.trans x4).trans x9).trans x23).trans x26).trans x29).trans x35).trans x66).trans x68).trans x74).trans x104).trans x112).trans x114))
       ·refine q_val (v := .bool false) rfl rfl (fun w' x' => x_pick_f rfl rfl rfl) ?_
        refine q_nil (fun w115 x116 => ?_)
        refine t_norm ?_
        refine c_false rfl ?_
        refine c_skip ?_
        refine b_norm (t_norm ?_)
        refine c_quiet ?_
        refine q_val (v := .int .i64 (k69 : Int)) rfl rfl (fun w' x' => x_move rfl e92) ?_
        refine q_val (v := .int .i64 ((k69 : Int) + 1)) rfl rfl (fun w' x' => x_add rfl rfl rfl (wrap_of (by omega) (by omega))) ?_
        refine q_val (v := .int .i64 ((k69 : Int) + 1)) rfl rfl (fun w' x' => x_assign rfl rfl) ?_
        refine q_nil (fun w117 x118 => ?_)
        refine t_norm ?_
        exact ⟨_, rfl, ⟨k69 + 1, by omega, all_step hi71 hx95 (by simp_all [fewW] <;> omega), by simp at *; omega, e75, e76, e77, e78, e79, e80, e81, e82, e83, e84, e85, e86, e87, e88, e89, e90, e91, rfl, (((x74.trans x104).trans x116).trans x118)⟩, meas_up e92 hl93⟩
     ·refine q_val (v := .bool false) rfl rfl (fun w' x' => x_pick_t rfl rfl rfl) ?_
      refine q_nil (fun w119 x120 => ?_)
      refine t_norm ?_
      refine c_false rfl ?_
      refine c_exit ?_
      refine t_exit (t_exit (b_exit (t_norm ?_)))
      refine c_seq ?_
      refine c_quiet ?_
      refine q_val (v := .pointer (some (⟨w22.heap.size, 6, none⟩))) rfl rfl (fun w' x' => x_fieldAddr fld_33_4 rfl e75 rfl) ?_
      refine q_val (v := .slice y14.2.A y14.1.reads.length y14.2.n) rfl rfl (fun w' x' => x_load rfl rfl ((((((((b25.ext x29).ext x35).ext x66).ext x68).ext x74).ext x120).ext x').one one_30 rfl)) ?_
      refine q_val (v := .int .i64 (y14.1.reads.length : Int)) rfl rfl (fun w' x' => x_len_slice sl_30 rfl rfl) ?_
      refine q_bool (b := decide ((y14.1.reads.length : Int) > 20)) rfl rfl (fun w' x' => x_gtr rfl rfl rfl) (fun c121 => ?_) (fun c121 => ?_)
      ·refine q_val (v := .bool true) rfl rfl (fun w' x' => x_move rfl rfl) ?_
       refine q_skip rfl rfl ?_
       refine q_skip rfl rfl ?_
       refine q_skip rfl rfl ?_
       refine q_skip rfl rfl ?_
       refine q_val (v := .bool true) rfl rfl (fun w' x' => x_pick_t rfl rfl rfl) ?_
       refine q_nil (fun w122 x123 => ?_)
       refine t_norm ?_
       refine c_true rfl ?_
       refine c_seq ?_
       refine c_quiet ?_
       refine q_val (v := .bool false) rfl rfl (fun w' x' => x_assign rfl rfl) ?_
       refine q_nil (fun w124 x125 => ?_)
       refine t_norm ?_
       refine c_ret ?_
       refine b_ret (t_ret (t_ret (b_ret (t_ret ?_))))
       exact c_done rfl rfl (Ret.b ((all_fail (p := fun z : Cmd × Ptr => fewOne z.1) hx15 (few_n (by simp at *; omega))).symm) ((((((((((((x2.trans x4).trans x9).trans x23).trans x26).trans x29).trans x35).trans x66).trans x68).trans x74).trans x120).trans x123).trans x125))
      ·refine q_val (v := .bool false) rfl rfl (fun w' x' => x_move rfl rfl) ?_
       refine q_val (v := .pointer (some (⟨w22.heap.size, 7, none⟩))) rfl rfl (fun w' x' => x_fieldAddr fld_33_5 rfl e75 rfl) ?_
       refine q_val (v := .slice y14.2.B y14.1.writes.length y14.2.m) rfl rfl (fun w' x' => x_load rfl rfl ((((((((b25.ext x29).ext x35).ext x66).ext x68).ext x74).ext x120).ext x').one one_31 rfl)) ?_
       refine q_val (v := .int .i64 (y14.1.writes.length : Int)) rfl rfl (fun w' x' => x_len_slice sl_31 rfl rfl) ?_
       refine q_bool (b := decide ((y14.1.writes.length : Int) > 20)) rfl rfl (fun w' x' => x_gtr rfl rfl rfl) (fun c126 => ?_) (fun c126 => ?_)
       ·refine q_val (v := .bool true) rfl rfl (fun w' x' => x_pick_f rfl rfl rfl) ?_
        refine q_nil (fun w127 x128 => ?_)
        refine t_norm ?_
        refine c_true rfl ?_
        refine c_seq ?_
        refine c_quiet ?_
        refine q_val (v := .bool false) rfl rfl (fun w' x' => x_assign rfl rfl) ?_
        refine q_nil (fun w129 x130 => ?_)
        refine t_norm ?_
        refine c_ret ?_
        refine b_ret (t_ret (t_ret (b_ret (t_ret ?_))))
        exact c_done rfl rfl (Ret.b ((all_fail (p := fun z : Cmd × Ptr => fewOne z.1) hx15 (few_m (by simp at *; omega))).symm) ((((((((((((x2.trans x4).trans x9).trans x23).trans x26).trans x29).trans x35).trans x66).trans x68).trans x74).trans x120).trans x128).trans x130))
       ·refine q_val (v := .bool false) rfl rfl (fun w' x' => x_pick_f rfl rfl rfl) ?_
        refine q_nil (fun w131 x132 => ?_)
        refine t_norm ?_
        refine c_false rfl ?_
        refine c_skip ?_
        refine b_norm (t_norm ?_)
        refine c_quiet ?_
        refine q_val (v := .int .i64 ((k5 : Int) + 1)) rfl rfl (fun w' x' => x_add rfl e79 rfl (wrap_of (by omega) (by omega))) ?_
        refine q_val (v := .int .i64 ((k5 : Int) + 1)) rfl rfl (fun w' x' => x_move rfl rfl) ?_
        refine q_nil (fun w133 x134 => ?_)
        refine t_norm ?_
        exact ⟨_, rfl, ⟨k5 + 1, by omega, all_step (p := fun z : Cmd × Ptr => fewOne z.1) hi7 hx15 (few_ok hi32 hi71 (by simp at *; omega) (by simp at *; omega) (by simp at *; omega) (by simp at *; omega)), e77, e78, rfl, ((((((((((x9.trans x23).trans x26).trans x29).trans x35).trans x66).trans x68).trans x74).trans x120).trans x132).trans x134)⟩, meas_up e12 hl13⟩
    ·refine c_seq ?_
     refine c_seq ?_
     refine c_quiet ?_
     refine q_val (v := .int .i64 (k69 : Int)) rfl rfl (fun w' x' => x_move rfl e92) ?_
     refine q_val (v := .pointer (some (⟨w22.heap.size, 7, none⟩))) rfl rfl (fun w' x' => x_fieldAddr fld_33_5 rfl e75 rfl) ?_
     refine q_val (v := .slice y14.2.B y14.1.writes.length y14.2.m) rfl rfl (fun w' x' => x_load rfl rfl (((((((b25.ext x29).ext x35).ext x66).ext x68).ext x74).ext x').one one_31 rfl)) ?_
     refine q_val (v := .int .i64 (y14.1.writes.length : Int)) rfl rfl (fun w' x' => x_len_slice sl_31 rfl rfl) ?_
     refine q_val (v := .bool false) rfl rfl (fun w' x' => yb (x_lss rfl rfl rfl) (decide_eq_false (by omega))) ?_
     refine q_val (v := .bool false) rfl rfl (fun w' x' => x_move rfl rfl) ?_
     refine q_skip rfl rfl ?_
     refine q_skip rfl rfl ?_
     refine q_val (v := .bool false) rfl rfl (fun w' x' => x_pick_f rfl rfl rfl) ?_
     refine q_nil (fun w135 x136 => ?_)
     refine t_norm ?_
     refine c_false rfl ?_
     refine c_exit ?_
     refine t_exit (t_exit (b_exit (t_norm ?_)))
     refine c_seq ?_
     refine c_quiet ?_
     refine q_val (v := .pointer (some (⟨w22.heap.size, 6, none⟩))) rfl rfl (fun w' x' => x_fieldAddr fld_33_4 rfl e75 rfl) ?_
     refine q_val (v := .slice y14.2.A y14.1.reads.length y14.2.n) rfl rfl (fun w' x' => x_load rfl rfl ((((((((b25.ext x29).ext x35).ext x66).ext x68).ext x74).ext x136).ext x').one one_30 rfl)) ?_
     refine q_val (v := .int .i64 (y14.1.reads.length : Int)) rfl rfl (fun w' x' => x_len_slice sl_30 rfl rfl) ?_
     refine q_bool (b := decide ((y14.1.reads.length : Int) > 20)) rfl rfl (fun w' x' => x_gtr rfl rfl rfl) (fun c137 => ?_) (fun c137 => ?_)
     ·refine q_val (v := .bool true) rfl rfl (fun w' x' => x_move rfl rfl) ?_
      refine q_skip rfl rfl ?_
      refine q_skip rfl rfl ?_
      refine q_skip rfl rfl ?_
      refine q_skip rfl rfl ?_
      refine q_val (v := .bool true) rfl rfl (fun w' x' => x_pick_t rfl rfl rfl) ?_
      refine q_nil (fun w138 x139 => ?_)
      refine t_norm ?_
      refine c_true rfl ?_
      refine c_seq ?_
      refine c_quiet ?_
      refine q_val (v := .bool false) rfl rfl (fun w' x' => x_assign rfl rfl) ?_
      refine q_nil (fun w140 x141 => ?_)
      refine t_norm ?_
      refine c_ret ?_
      refine b_ret (t_ret (t_ret (b_ret (t_ret ?_))))
      exact c_done rfl rfl (Ret.b ((all_fail (p := fun z : Cmd × Ptr => fewOne z.1) hx15 (few_n (by simp at *; omega))).symm) ((((((((((((x2.trans x4).trans x9).trans x23).trans x26).trans x29).trans x35).trans x66).trans x68).trans x74).trans x136).trans x139).trans x141))
     ·refine q_val (v := .bool false) rfl rfl (fun w' x' => x_move rfl rfl) ?_
      refine q_val (v := .pointer (some (⟨w22.heap.size, 7, none⟩))) rfl rfl (fun w' x' => x_fieldAddr fld_33_5 rfl e75 rfl) ?_
      refine q_val (v := .slice y14.2.B y14.1.writes.length y14.2.m) rfl rfl (fun w' x' => x_load rfl rfl ((((((((b25.ext x29).ext x35).ext x66).ext x68).ext x74).ext x136).ext x').one one_31 rfl)) ?_
      refine q_val (v := .int .i64 (y14.1.writes.length : Int)) rfl rfl (fun w' x' => x_len_slice sl_31 rfl rfl) ?_
      refine q_bool (b := decide ((y14.1.writes.length : Int) > 20)) rfl rfl (fun w' x' => x_gtr rfl rfl rfl) (fun c142 => ?_) (fun c142 => ?_)
      ·refine q_val (v := .bool true) rfl rfl (fun w' x' => x_pick_f rfl rfl rfl) ?_
       refine q_nil (fun w143 x144 => ?_)
       refine t_norm ?_
       refine c_true rfl ?_
       refine c_seq ?_
       refine c_quiet ?_
       refine q_val (v := .bool false) rfl rfl (fun w' x' => x_assign rfl rfl) ?_
       refine q_nil (fun w145 x146 => ?_)
       refine t_norm ?_
       refine c_ret ?_
       refine b_ret (t_ret (t_ret (b_ret (t_ret ?_))))
       exact c_done rfl rfl (Ret.b ((all_fail (p := fun z : Cmd × Ptr => fewOne z.1) hx15 (few_m (by simp at *; omega))).symm) ((((((((((((x2.trans x4).trans x9).trans x23).trans x26).trans x29).trans x35).trans x66).trans x68).trans x74).trans x136).trans x144).trans x146))
      ·refine q_val (v := .bool false) rfl rfl (fun w' x' => x_pick_f rfl rfl rfl) ?_
       refine q_nil (fun w147 x148 => ?_)
       refine t_norm ?_
       refine c_false rfl ?_
       refine c_skip ?_
       refine b_norm (t_norm ?_)
       refine c_quiet ?_
       refine q_val (v := .int .i64 ((k5 : Int) + 1)) rfl rfl (fun w' x' => x_add rfl e79 rfl (wrap_of (by omega) (by omega))) ?_
       refine q_val (v := .int .i64 ((k5 : Int) + 1)) rfl rfl (fun w' x' => x_move rfl rfl) ?_
       refine q_nil (fun w149 x150 => ?_)
       refine t_norm ?_
       exact ⟨_, rfl, ⟨k5 + 1, by omega, all_step (p := fun z : Cmd × Ptr => fewOne z.1) hi7 hx15 (few_ok hi32 hi71 (by simp at *; omega) (by simp at *; omega) (by simp at *; omega) (by simp at *; omega)), e77, e78, rfl, ((((((((((x9.trans x23).trans x26).trans x29).trans x35).trans x66).trans x68).trans x74).trans x136).trans x148).trans x150)⟩, meas_up e12 hl13⟩
  ·refine c_seq ?_
   refine c_seq ?_
   refine c_quiet ?_
   refine q_val (v := .int .i64 (k30 : Int)) rfl rfl (fun w' x' => x_move rfl e43) ?_
   refine q_val (v := .pointer (some (⟨w22.heap.size, 6, none⟩))) rfl rfl (fun w' x' => x_fieldAddr fld_33_4 rfl e36 rfl) ?_
   refine q_val (v := .slice y14.2.A y14.1.reads.length y14.2.n) rfl rfl (fun w' x' => x_load rfl rfl ((((b25.ext x29).ext x35).ext x').one one_30 rfl)) ?_
   refine q_val (v := .int .i64 (y14.1.reads.length : Int)) rfl rfl (fun w' x' => x_len_slice sl_30 rfl rfl) ?_
   refine q_val (v := .bool false) rfl rfl (fun w' x' => yb (x_lss rfl rfl rfl) (decide_eq_false (by omega))) ?_
   refine q_val (v := .bool false) rfl rfl (fun w' x' => x_move rfl rfl) ?_
   refine q_skip rfl rfl ?_
   refine q_skip rfl rfl ?_
   refine q_val (v := .bool false) rfl rfl (fun w' x' => x_pick_f rfl rfl rfl) ?_
   refine q_nil (fun w151 x152 => ?_)
   refine t_norm ?_
   refine c_false rfl ?_
   refine c_exit ?_
   refine t_exit (t_exit (b_exit (t_norm ?_)))
   refine c_seq ?_
   refine c_seq ?_
   refine c_quiet ?_
   refine q_val (v := .int .i64 0) rfl rfl (fun w' x' => x_assign rfl rfl) ?_
   refine q_nil (fun w153 x154 => ?_)
   refine t_norm ?_
   refine c_block ?_
   refine c_loop (fun ρ w159 => ∃ k155 : Nat, k155 ≤ y14.1.writes.length ∧ (y14.1.writes.take k155).all fewW = true ∧ k155 ≤ 21 ∧ ρ 4 = .pointer (some (⟨w22.heap.size, 0, none⟩)) ∧ ρ 5 = .int .i64 (k30 : Int) ∧ ρ 7 = .slice A l.length c ∧ ρ 8 = .int .i64 (l.length : Int) ∧ ρ 9 = .int .i64 (k5 : Int) ∧ ρ 10 = .bool true ∧ ρ 11 = .pointer (some (ad16.add (k5 * 9))) ∧ ρ 12 = vCmd y14.1 y14.2 ∧ ρ 13 = .int .i64 (k30 : Int) ∧ ρ 14 = .pointer (some (⟨w22.heap.size, 6, none⟩)) ∧ ρ 15 = .slice y14.2.A y14.1.reads.length y14.2.n ∧ ρ 16 = .int .i64 (y14.1.reads.length : Int) ∧ ρ 17 = .bool false ∧ ρ 18 = .bool false ∧ ρ 21 = .bool false ∧ ρ 6 = .int .i64 (k155 : Int) ∧ Ext w153 w159) (fun ρ _ => y14.1.writes.length - (intOf (ρ 6)).toNat) ⟨0, Nat.zero_le _, rfl, by decide, e36, e43, e37, e38, e39, e40, e41, e42, rfl, rfl, rfl, rfl, rfl, rfl, rfl, rfl, Ext.refl _⟩ ?_
   rintro ρ w159 ⟨k155, hk156, hi157, hi158, e161, e162, e163, e164, e165, e166, e167, e168, e169, e170, e171, e172, e173, e174, e175, e176, x160⟩
   by_cases hl177 : k155 < y14.1.writes.length
   ·obtain ⟨y178, hx179⟩ := some_of (l := y14.1.writes) (k := k155) (by omega)
    obtain ⟨ad180, cs181, eA182, hK183, hE184⟩ := hK19.writes k155 y178 hx179
    have hK183' : cs181 = [.string y178.key, .string y178.val] := hK183
    subst hK183'
    refine c_seq ?_
    refine c_seq ?_
    refine c_quiet ?_
    refine q_val (v := .int .i64 (k155 : Int)) rfl rfl (fun w' x' => x_move rfl e176) ?_
    refine q_val (v := .pointer (some (⟨w22.heap.size, 7, none⟩))) rfl rfl (fun w' x' => x_fieldAddr fld_33_5 rfl e161 rfl) ?_
    refine q_val (v := .slice y14.2.B y14.1.writes.length y14.2.m) rfl rfl (fun w' x' => x_load rfl rfl (((((((b25.ext x29).ext x35).ext x152).ext x154).ext x160).ext x').one one_31 rfl)) ?_
    refine q_val (v := .int .i64 (y14.1.writes.length : Int)) rfl rfl (fun w' x' => x_len_slice sl_31 rfl rfl) ?_
    refine q_val (v := .bool true) rfl rfl (fun w' x' => yb (x_lss rfl rfl rfl) (decide_eq_true (by omega))) ?_
    refine q_val (v := .bool true) rfl rfl (fun w' x' => x_move rfl rfl) ?_
    refine q_val (v := .int .i64 (k155 : Int)) rfl rfl (fun w' x' => x_move rfl e176) ?_
    refine q_bool (b := decide ((k155 : Int) ≤ 20)) rfl rfl (fun w' x' => x_leq rfl rfl rfl) (fun c186 => ?_) (fun c186 => ?_)
    ·refine q_val (v := .bool true) rfl rfl (fun w' x' => x_pick_t rfl rfl rfl) ?_
     refine q_nil (fun w187 x188 => ?_)
     refine t_norm ?_
     refine c_true rfl ?_
     refine c_skip ?_
     refine t_norm ?_
     refine c_seq ?_
     refine c_block ?_
     refine c_seq ?_
     refine c_quiet ?_
     refine q_val (v := .pointer (some (⟨w22.heap.size, 7, none⟩))) rfl rfl (fun w' x' => x_fieldAddr fld_33_5 rfl e161 rfl) ?_
     refine q_val (v := .slice y14.2.B y14.1.writes.length y14.2.m) rfl rfl (fun w' x' => x_load rfl rfl ((((((((b25.ext x29).ext x35).ext x152).ext x154).ext x160).ext x188).ext x').one one_31 rfl)) ?_
     refine q_val (v := .int .i64 (k155 : Int)) rfl rfl (fun w' x' => x_move rfl e176) ?_
     refine q_val (v := .pointer (some (ad180.add (k155 * 2)))) rfl rfl (fun w' x' => x_indexAddr sl_31 rfl rfl eA182 rfl (by omega) (by omega) rfl) ?_
     refine q_val (v := .pointer (some (ad180.add (k155 * 2)))) rfl rfl (fun w' x' => x_fieldAddr fld_66_0 rfl rfl rfl) ?_
     refine q_val (v := .string y178.key) rfl rfl (fun w' x' => x_load rfl rfl (((((((((((((hE184.ext x2).ext x4).ext x9).ext x23).ext x26).ext x29).ext x35).ext x152).ext x154).ext x160).ext x188).ext x').one one_9 0 rfl rfl)) ?_
     refine q_val (v := .int .i64 (y178.key.size : Int)) rfl rfl (fun w' x' => x_len_string str_9 rfl rfl) ?_
     refine q_bool (b := decide ((y178.key.size : Int) > 100)) rfl rfl (fun w' x' => x_gtr rfl rfl rfl) (fun c189 => ?_) (fun c189 => ?_)
     ·refine q_val (v := .bool true) rfl rfl (fun w' x' => x_move rfl rfl) ?_
      refine q_skip rfl rfl ?_
      refine q_skip rfl rfl ?_
      refine q_skip rfl rfl ?_
      refine q_skip rfl rfl ?_
      refine q_skip rfl rfl ?_
      refine q_skip rfl rfl ?_
      refine q_skip rfl rfl ?_
      refine q_skip rfl rfl ?_
      refine q_val (v := .bool true) rfl rfl (fun w' x' => x_pick_t rfl rfl rfl) ?_
      refine q_nil (fun w190 x191 => ?_)
      refine t_norm ?_
      refine c_true rfl ?_
      refine c_seq ?_
      refine c_quiet ?_
      refine q_val (v := .bool false) rfl rfl (fun w' x' => x_assign rfl rfl) ?_
      refine q_nil (fun w192 x193 => ?_)
      refine t_norm ?_
      refine c_ret ?_
      refine b_ret (t_ret (t_ret (b_ret (t_ret (b_ret (t_ret (t_ret (b_ret (t_ret ?_)))))))))
      exact c_done rfl rfl (Ret.b ((all_fail (p := fun z : Cmd × Ptr => fewOne z.1) hx15 (few_w hx179 (by simp at *; omega) (by simp_all [fewW] <;> omega))).symm) ((((((((((((x2.trans x4).trans x9).trans x23).trans x26).trans x29).trans x35).trans x152).trans x154).trans x160).trans x188).trans x191).trans x193))
     ·refine q_val (v := .bool false) rfl rfl (fun w' x' => x_move rfl rfl) ?_
      refine q_val (v := .pointer (some (⟨w22.heap.size, 7, none⟩))) rfl rfl (fun w' x' => x_fieldAddr fld_33_5 rfl e161 rfl) ?_
      refine q_val (v := .slice y14.2.B y14.1.writes.length y14.2.m) rfl rfl (fun w' x' => x_load rfl rfl ((((((((b25.ext x29).ext x35).ext x152).ext x154).ext x160).ext x188).ext x').one one_31 rfl)) ?_
      refine q_val (v := .int .i64 (k155 : Int)) rfl rfl (fun w' x' => x_move rfl e176) ?_
      refine q_val (v := .pointer (some (ad180.add (k155 * 2)))) rfl rfl (fun w' x' => x_indexAddr sl_31 rfl rfl eA182 rfl (by omega) (by omega) rfl) ?_
      refine q_val (v := .pointer (some ((ad180.add (k155 * 2)).add 1))) rfl rfl (fun w' x' => x_fieldAddr fld_66_1 rfl rfl rfl) ?_
      refine q_val (v := .string y178.val) rfl rfl (fun w' x' => x_load rfl rfl (((((((((((((hE184.ext x2).ext x4).ext x9).ext x23).ext x26).ext x29).ext x35).ext x152).ext x154).ext x160).ext x188).ext x').one one_9 1 rfl rfl)) ?_
      refine q_val (v := .int .i64 (y178.val.size : Int)) rfl rfl (fun w' x' => x_len_string str_9 rfl rfl) ?_
      refine q_bool (b := decide ((y178.val.size : Int) > 100)) rfl rfl (fun w' x' => x_gtr rfl rfl rfl) (fun c194 => ?_) (fun c194 => ?_)
      ·refine q_val (v := .bool true) rfl rfl (fun w' x' => x_pick_f rfl rfl rfl) ?_
       refine q_nil (fun w195 x196 => ?_)
       refine t_norm ?_
       refine c_true rfl ?_
       refine c_seq ?_
       refine c_quiet ?_
       refine q_val (v := .bool false) rfl rfl (fun w' x' => x_assign rfl rfl) ?_
       refine q_nil (fun w197 x198 => ?_)
       refine t_norm ?_
       refine c_ret ?_
       refine b_ret (t_ret (t_ret (b_ret (t_ret (b_ret (t_ret (t_ret (b_ret (t_ret ?_)))))))))
       exact c_done rfl rfl (Ret.b ((all_fail (p := fun z : Cmd × Ptr => fewOne z.1) hx15 (few_w hx179 (by simp at *; omega) (by simp_all [fewW] <;> omega))).symm) ((((((((((((x2.trans x4).trans x9).trans x23).trans x26).trans x29).trans x35).trans x152).trans x154).trans x160).trans x188).trans x196).trans x198))
      ·refine q_val (v := .bool false) rfl rfl (fun w' x' => x_pick_f rfl rfl rfl) ?_
       refine q_nil (fun w199 x200 => ?_)
       refine t_norm ?_
       refine c_false rfl ?_
       refine c_skip ?_
       refine b_norm (t_norm ?_)
       refine c_quiet ?_
       refine q_val (v := .int .i64 (k155 : Int)) rfl rfl (fun w' x' => x_move rfl e176) ?_
       refine q_val (v := .int .i64 ((k155 : Int) + 1)) rfl rfl (fun w' x' => x_add rfl rfl rfl (wrap_of (by omega) (by omega))) ?_
       refine q_val (v := .int .i64 ((k155 : Int) + 1)) rfl rfl (fun w' x' => x_assign rfl rfl) ?_
       refine q_nil (fun w201 x202 => ?_)
       refine t_norm ?_
       exact ⟨_, rfl, ⟨k155 + 1, by omega, all_step hi157 hx179 (by simp_all [fewW] <;> omega), by simp at *; omega, e161, e162, e163, e164, e165, e166, e167, e168, e169, e170, e171, e172, e173, e174, e175, rfl, (((x160.trans x188).trans x200).trans x202)⟩, meas_up e176 hl177⟩
    ·refine q_val (v := .bool false) rfl rfl (fun w' x' => x_pick_t rfl rfl rfl) ?_
     refine q_nil (fun w203 x204 => ?_)
     refine t_norm ?_
     refine c_false rfl ?_
     refine c_exit ?_
     refine t_exit (t_exit (b_exit (t_norm ?_)))
     refine c_seq ?_
     refine c_quiet ?_
     refine q_val (v := .pointer (some (⟨w22.heap.size, 6, none⟩))) rfl rfl (fun w' x' => x_fieldAddr fld_33_4 rfl e161 rfl) ?_
     refine q_val (v := .slice y14.2.A y14.1.reads.length y14.2.n) rfl rfl (fun w' x' => x_load rfl rfl ((((((((b25.ext x29).ext x35).ext x152).ext x154).ext x160).ext x204).ext x').one one_30 rfl)) ?_
     refine q_val (v := .int .i64 (y14.1.reads.length : Int)) rfl rfl (fun w' x' => x_len_slice sl_30 rfl rfl) ?_
     refine q_bool (b := decide ((y14.1.reads.length : Int) > 20)) rfl rfl (fun w' x' => x_gtr rfl rfl rfl) (fun c205 => ?_) (fun c205 => ?_)
     ·refine q_val (v := .bool true) rfl rfl (fun w' x' => x_move rfl rfl) ?_
      refine q_skip rfl rfl ?_
      refine q_skip rfl rfl ?_
      refine q_skip rfl rfl ?_
      refine q_skip rfl rfl ?_
      refine q_val (v := .bool true) rfl rfl (fun w' x' => x_pick_t rfl rfl rfl) ?_
      refine q_nil (fun w206 x207 => ?_)
      refine t_norm ?_
      refine c_true rfl ?_
      refine c_seq ?_
      refine c_quiet ?_
      refine q_val (v := .bool false) rfl rfl (fun w' x' => x_assign rfl rfl) ?_
      refine q_nil (fun w208 x209 => ?_)
      refine t_norm ?_
      refine c_ret ?_
      refine b_ret (t_ret (t_ret (b_ret (t_ret ?_))))
      exact c_done rfl rfl (Ret.b ((all_fail (p := fun z : Cmd × Ptr => fewOne z.1) hx15 (few_n (by simp at *; omega))).symm) ((((((((((((x2.trans x4).trans x9).trans x23).trans x26).trans x29).trans x35).trans x152).trans x154).trans x160).trans x204).trans x207).trans x209))
     ·refine q_val (v := .bool false) rfl rfl (fun w' x' => x_move rfl rfl) ?_
      refine q_val (v := .pointer (some (⟨w22.heap.size, 7, none⟩))) rfl rfl (fun w' x' => x_fieldAddr fld_33_5 rfl e161 rfl) ?_
      refine q_val (v := .slice y14.2.B y14.1.writes.length y14.2.m) rfl rfl (fun w' x' => x_load rfl rfl ((((((((b25.ext x29).ext x35).ext x152).ext x154).ext x160).ext x204).ext x').one one_31 rfl)) ?_
      refine q_val (v := .int .i64 (y14.1.writes.length : Int)) rfl rfl (fun w' x' => x_len_slice sl_31 rfl rfl) ?_
      refine q_bool (b := decide ((y14.1.writes.length : Int) > 20)) rfl rfl (fun w' x' => x_gtr rfl rfl rfl) (fun c210 => ?_) (fun c210 => ?_)
      ·refine q_val (v := .bool true) rfl rfl (fun w' x' => x_pick_f rfl rfl rfl) ?_
       refine q_nil (fun w211 x212 => ?_)
       refine t_norm ?_
       refine c_true rfl ?_
       refine c_seq ?_
       refine c_quiet ?_
       refine q_val (v := .bool false) rfl rfl (fun w' x' => x_assign rfl rfl) ?_
       refine q_nil (fun w213 x214 => ?_)
       refine t_norm ?_
       refine c_ret ?_
       refine b_ret (t_ret (t_ret (b_ret (t_ret ?_))))
       exact c_done rfl rfl (Ret.b ((all_fail (p := fun z : Cmd × Ptr => fewOne z.1) hx15 (few_m (by simp at *; omega))).symm) ((((((((((((x2.trans x4).trans x9).trans x23).trans x26).trans x29).trans x35).trans x152).trans x154).trans x160).trans x204).trans x212).trans x214))
      ·refine q_val (v := .bool false) rfl rfl (fun w' x' => x_pick_f rfl rfl rfl) ?_
       refine q_nil (fun w215 x216 => ?_)
       refine t_norm ?_
       refine c_false rfl ?_
       refine c_skip ?_
       refine b_norm (t_norm ?_)
       refine c_quiet ?_
       refine q_val (v := .int .i64 ((k5 : Int) + 1)) rfl rfl (fun w' x' => x_add rfl e165 rfl (wrap_of (by omega) (by omega))) ?_
       refine q_val (v := .int .i64 ((k5 : Int) + 1)) rfl rfl (fun w' x' => x_move rfl rfl) ?_
       refine q_nil (fun w217 x218 => ?_)
       refine t_norm ?_
       exact ⟨_, rfl, ⟨k5 + 1, by omega, all_step (p := fun z : Cmd × Ptr => fewOne z.1) hi7 hx15 (few_ok hi32 hi157 (by simp at *; omega) (by simp at *; omega) (by simp at *; omega) (by simp at *; omega)), e163, e164, rfl, ((((((((((x9.trans x23).trans x26).trans x29).trans x35).trans x152).trans x154).trans x160).trans x204).trans x216).trans x218)⟩, meas_up e12 hl13⟩
   ·refine c_seq ?_
    refine c_seq ?_
    refine c_quiet ?_
    refine q_val (v := .int .i64 (k155 : Int)) rfl rfl (fun w' x' => x_move rfl e176) ?_
    refine q_val (v := .pointer (some (⟨w22.heap.size, 7, none⟩))) rfl rfl (fun w' x' => x_fieldAddr fld_33_5 rfl e161 rfl) ?_
    refine q_val (v := .slice y14.2.B y14.1.writes.length y14.2.m) rfl rfl (fun w' x' => x_load rfl rfl (((((((b25.ext x29).ext x35).ext x152).ext x154).ext x160).ext x').one one_31 rfl)) ?_
    refine q_val (v := .int .i64 (y14.1.writes.length : Int)) rfl rfl (fun w' x' => x_len_slice sl_31 rfl rfl) ?_
    refine q_val (v := .bool false) rfl rfl (fun w' x' => yb (x_lss rfl rfl rfl) (decide_eq_false (by omega))) ?_
    refine q_val (v := .bool false) rfl rfl (fun w' x' => x_move rfl rfl) ?_
    refine q_skip rfl rfl ?_
    refine q_skip rfl rfl ?_
    refine q_val (v := .bool false) rfl rfl (fun w' x' => x_pick_f rfl rfl rfl) ?_
    refine q_nil (fun w219 x220 => ?_)
    refine t_norm ?_
    refine c_false rfl ?_
    refine c_exit ?_
    refine t_exit (t_exit (b_exit (t_norm ?_)))
    refine c_seq ?_
    refine c_quiet ?_
    refine q_val (v := .pointer (some (⟨w22.heap.size, 6, none⟩))) rfl rfl (fun w' x' => x_fieldAddr fld_33_4 rfl e161 rfl) ?_
    refine q_val (v := .slice y14.2.A y14.1.reads.length y14.2.n) rfl rfl (fun w' x' => x_load rfl rfl ((((((((b25.ext x29).ext x35).ext x152).ext x154).ext x160).ext x220).ext x').one one_30 rfl)) ?_
    refine q_val (v := .int .i64 (y14.1.reads.length : Int)) rfl rfl (fun w' x' => x_len_slice sl_30 rfl rfl) ?_
    refine q_bool (b := decide ((y14.1.reads.length : Int) > 20)) rfl rfl (fun w' x' => x_gtr rfl rfl rfl) (fun c221 => ?_) (fun c221 => ?_)
    ·refine q_val (v := .bool true) rfl rfl (fun w' x' => x_move rfl rfl) ?_
     refine q_skip rfl rfl ?_
     refine q_skip rfl rfl ?_
     refine q_skip rfl rfl ?_
     refine q_skip rfl rfl ?_
     refine q_val (v := .bool true) rfl rfl (fun w' x' => x_pick_t rfl rfl rfl) ?_
     refine q_nil (fun w222 x223 => ?_)
     refine t_norm ?_
     refine c_true rfl ?_
     refine c_seq ?_
     refine c_quiet ?_
     refine q_val (v := .bool false) rfl rfl (fun w' x' => x_assign rfl rfl) ?_
     refine q_nil (fun w224 x225 => ?_)
     refine t_norm ?_
     refine c_ret ?_
     refine b_ret (t_ret (t_ret (b_ret (t_ret ?_))))
     exact c_done rfl rfl (Ret.b ((all_fail (p := fun z : Cmd × Ptr => fewOne z.1) hx15 (few_n (by simp at *; omega))).symm) ((((((((((((x2.trans x4).trans x9).trans x23).trans x26).trans x29).trans x35).trans x152).trans x154).trans x160).trans x220).trans x223).trans x225))
    ·refine q_val (v := .bool false) rfl rfl (fun w' x' => x_move rfl rfl) ?_
     refine q_val (v := .pointer (some (⟨w22.heap.size, 7, none⟩))) rfl rfl (fun w' x' => x_fieldAddr fld_33_5 rfl e161 rfl) ?_
     refine q_val (v := .slice y14.2.B y14.1.writes.length y14.2.m) rfl rfl (fun w' x' => x_load rfl rfl ((((((((b25.ext x29).ext x35).ext x152).ext x154).ext x160).ext x220).ext x').one one_31 rfl)) ?_
     refine q_val (v := .int .i64 (y14.1.writes.length : Int)) rfl rfl (fun w' x' => x_len_slice sl_31 rfl rfl) ?_
     refine q_bool (b := decide ((y14.1.writes.length : Int) > 20)) rfl rfl (fun w' x' => x_gtr rfl rfl rfl) (fun c226 => ?_) (fun c226 => ?_)
     ·refine q_val (v := .bool true) rfl rfl (fun w' x' => x_pick_f rfl rfl rfl) ?_
      refine q_nil (fun w227 x228 => ?_)
      refine t_norm ?_
      refine c_true rfl ?_
      refine c_seq ?_
      refine c_quiet ?_
      refine q_val (v := .bool false) rfl rfl (fun w' x' => x_assign rfl rfl) ?_
      refine q_nil (fun w229 x230 => ?_)
      refine t_norm ?_
      refine c_ret ?_
      refine b_ret (t_ret (t_ret (b_ret (t_ret ?_))))
      exact c_done rfl rfl (Ret.b ((all_fail (p := fun z : Cmd × Ptr => fewOne z.1) hx15 (few_m (by simp at *; omega))).symm) ((((((((((((x2.trans x4).trans x9).trans x23).trans x26).trans x29).trans x35).trans x152).trans x154).trans x160).trans x220).trans x228).trans x230))
     ·refine q_val (v := .bool false) rfl rfl (fun w' x' => x_pick_f rfl rfl rfl) ?_
      refine q_nil (fun w231 x232 => ?_)
      refine t_norm ?_
      refine c_false rfl ?_
      refine c_skip ?_
      refine b_norm (t_norm ?_)
      refine c_quiet ?_
      refine q_val (v := .int .i64 ((k5 : Int) + 1)) rfl rfl (fun w' x' => x_add rfl e165 rfl (wrap_of (by omega) (by omega))) ?_
      refine q_val (v := .int .i64 ((k5 : Int) + 1)) rfl rfl (fun w' x' => x_move rfl rfl) ?_
      refine q_nil (fun w233 x234 => ?_)
      refine t_norm ?_
      exact ⟨_, rfl, ⟨k5 + 1, by omega, all_step (p := fun z : Cmd × Ptr => fewOne z.1) hi7 hx15 (few_ok hi32 hi157 (by simp at *; omega) (by simp at *; omega) (by simp at *; omega) (by simp at *; omega)), e163, e164, rfl, ((((((((((x9.trans x23).trans x26).trans x29).trans x35).trans x152).trans x154).trans x160).trans x220).trans x232).trans x234)⟩, meas_up e12 hl13⟩
 ·refine c_seq ?_
  refine c_quiet ?_
  refine q_val (v := .bool false) rfl rfl (fun w' x' => yb (x_lss rfl e12 e11) (decide_eq_false (by omega))) ?_
  refine q_nil (fun w235 x236 => ?_)
  refine t_norm ?_
  refine c_seq ?_
  refine c_false rfl ?_
  refine c_exit ?_
  refine t_exit (t_exit (b_exit (t_norm ?_)))
  refine c_seq ?_
  refine c_quiet ?_
  refine q_val (v := .bool true) rfl rfl (fun w' x' => x_assign rfl rfl) ?_
  refine q_nil (fun w237 x238 => ?_)
  refine t_norm ?_
  refine c_ret ?_
  exact c_done rfl rfl (Ret.b ((all_end (p := fun z : Cmd × Ptr => fewOne z.1) hi7 hl13).symm) ((((x2.trans x4).trans x9).trans x236).trans x238))

end Go.Proofs.Ytibhkdomoknnfaa
