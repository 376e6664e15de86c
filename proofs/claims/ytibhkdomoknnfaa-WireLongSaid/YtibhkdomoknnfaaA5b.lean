/- Whether a command may be. -/
import Derived.Test.YtibhkdomoknnfaaEnc
import Derived.Test.YtibhkdomoknnfaaA5
namespace Go.Proofs.Ytibhkdomoknnfaa
open Go.RowKit Go.Eng
set_option linter.unusedVariables false
set_option linter.unusedSimpArgs false
set_option maxHeartbeats 4000000 in
theorem D_rightCmd (w : World) (a : Cmd) (pa : Ptr) (ha : CmdAt w a pa) (hs : Slim a) :
    Calls Try.prog 16 #[vCmd a pa] w (Ret w (.bool (rightCmd a))) := by
 have hs1 := hs.1
 have hs2 := hs.2
 have hst := stp_low (s := a.stp)
 refine c_enter (n := 170) Try.func16 rfl rfl rfl ?_
 refine c_seq ?_
 refine c_plain ?_
 refine p_box rfl rfl rfl rfl (fun w1 b2 x3 z4 => ?_)
 refine p_val (v := .bool false) rfl rfl (x_assign rfl rfl) ?_
 refine p_nil ?_
 refine t_norm ?_
 refine c_seq ?_
 refine c_seq ?_
 refine c_quiet ?_
 refine q_val (v := .pointer (some (⟨w.heap.size, 0, none⟩))) rfl rfl (fun w' x' => x_fieldAddr fld_33_0 rfl rfl rfl) ?_
 refine q_val (v := .int .i64 a.kind) rfl rfl (fun w' x' => x_load rfl rfl ((b2.ext x').one one_3 rfl)) ?_
 refine q_bool (b := decide (a.kind = 0)) rfl rfl (fun w' x' => x_eql rfl rfl rfl) (fun c5 => ?_) (fun c5 => ?_)
 ·refine q_nil (fun w6 x7 => ?_)
  refine t_norm ?_
  refine c_true rfl ?_
  refine c_seq ?_
  refine c_quiet ?_
  refine q_val (v := .pointer (some (⟨w.heap.size, 1, none⟩))) rfl rfl (fun w' x' => x_fieldAddr fld_33_1 rfl rfl rfl) ?_
  refine q_val (v := .agg #[.int .i64 a.txn.client, .int .i64 a.txn.number]) rfl rfl (fun w' x' => x_load rfl rfl (((b2.ext x7).ext x').agg (vs := [.int .i64 a.txn.client, .int .i64 a.txn.number]) agg_27_2 rfl)) ?_
  refine q_val (v := .agg #[.int .i64 0, .int .i64 0]) rfl rfl (fun w' x' => x_build0 zero_27 bld_27 rfl) ?_
  refine q_bool (b := decide (a.txn = (⟨0, 0⟩ : Txn))) rfl rfl (fun w' x' => x_eqTxn ints2_27 rfl rfl rfl) (fun c8 => ?_) (fun c8 => ?_)
  ·refine q_val (v := .bool true) rfl rfl (fun w' x' => x_move rfl rfl) ?_
   refine q_val (v := .pointer (some (⟨w.heap.size, 3, none⟩))) rfl rfl (fun w' x' => x_fieldAddr fld_33_2 rfl rfl rfl) ?_
   refine q_val (v := .agg #[.int .i64 a.stp.time, .int .i64 a.stp.client]) rfl rfl (fun w' x' => x_load rfl rfl (((b2.ext x7).ext x').agg (vs := [.int .i64 a.stp.time, .int .i64 a.stp.client]) agg_29_2 rfl)) ?_
   refine q_val (v := .agg #[.int .i64 0, .int .i64 0]) rfl rfl (fun w' x' => x_build0 zero_29 bld_29 rfl) ?_
   refine q_bool (b := decide (a.stp = (⟨0, 0⟩ : Stp))) rfl rfl (fun w' x' => x_eqStp ints2_29 rfl rfl rfl) (fun c9 => ?_) (fun c9 => ?_)
   ·refine q_val (v := .bool true) rfl rfl (fun w' x' => x_pick_t rfl rfl rfl) ?_
    refine q_val (v := .bool true) rfl rfl (fun w' x' => x_move rfl rfl) ?_
    refine q_val (v := .pointer (some (⟨w.heap.size, 5, none⟩))) rfl rfl (fun w' x' => x_fieldAddr fld_33_3 rfl rfl rfl) ?_
    refine q_val (v := .int .i64 a.shards) rfl rfl (fun w' x' => x_load rfl rfl (((b2.ext x7).ext x').one one_3 rfl)) ?_
    refine q_bool (b := decide (a.shards = 0)) rfl rfl (fun w' x' => x_eql rfl rfl rfl) (fun c10 => ?_) (fun c10 => ?_)
    ·refine q_val (v := .bool true) rfl rfl (fun w' x' => x_pick_t rfl rfl rfl) ?_
     refine q_val (v := .bool true) rfl rfl (fun w' x' => x_move rfl rfl) ?_
     refine q_val (v := .pointer (some (⟨w.heap.size, 6, none⟩))) rfl rfl (fun w' x' => x_fieldAddr fld_33_4 rfl rfl rfl) ?_
     refine q_val (v := .slice pa.A a.reads.length pa.n) rfl rfl (fun w' x' => x_load rfl rfl (((b2.ext x7).ext x').one one_30 rfl)) ?_
     refine q_val (v := .int .i64 (a.reads.length : Int)) rfl rfl (fun w' x' => x_len_slice sl_30 rfl rfl) ?_
     refine q_bool (b := decide ((a.reads.length : Int) = 0)) rfl rfl (fun w' x' => x_eql rfl rfl rfl) (fun c11 => ?_) (fun c11 => ?_)
     ·refine q_val (v := .bool true) rfl rfl (fun w' x' => x_pick_t rfl rfl rfl) ?_
      refine q_val (v := .bool true) rfl rfl (fun w' x' => x_move rfl rfl) ?_
      refine q_val (v := .pointer (some (⟨w.heap.size, 7, none⟩))) rfl rfl (fun w' x' => x_fieldAddr fld_33_5 rfl rfl rfl) ?_
      refine q_val (v := .slice pa.B a.writes.length pa.m) rfl rfl (fun w' x' => x_load rfl rfl (((b2.ext x7).ext x').one one_31 rfl)) ?_
      refine q_val (v := .int .i64 (a.writes.length : Int)) rfl rfl (fun w' x' => x_len_slice sl_31 rfl rfl) ?_
      refine q_bool (b := decide ((a.writes.length : Int) = 0)) rfl rfl (fun w' x' => x_eql rfl rfl rfl) (fun c12 => ?_) (fun c12 => ?_)
      ·refine q_val (v := .bool true) rfl rfl (fun w' x' => x_pick_t rfl rfl rfl) ?_
       refine q_val (v := .bool true) rfl rfl (fun w' x' => x_move rfl rfl) ?_
       refine q_val (v := .pointer (some (⟨w.heap.size, 8, none⟩))) rfl rfl (fun w' x' => x_fieldAddr fld_33_6 rfl rfl rfl) ?_
       refine q_bool (b := a.commit) rfl rfl (fun w' x' => x_load rfl rfl (((b2.ext x7).ext x').one one_4 rfl)) (fun c13 => ?_) (fun c13 => ?_)
       ·refine q_val (v := .bool false) rfl rfl (fun w' x' => x_not (b := true) rfl rfl) ?_
        refine q_val (v := .bool false) rfl rfl (fun w' x' => x_pick_t rfl rfl rfl) ?_
        refine q_val (v := .bool false) rfl rfl (fun w' x' => x_assign rfl rfl) ?_
        refine q_nil (fun w14 x15 => ?_)
        refine t_norm ?_
        refine c_ret ?_
        refine t_ret ?_
        exact c_done rfl rfl (Ret.b (by clear ha; simp_all [rightCmd] <;> (intro h; subst h; simp_all)) ((x3.trans x7).trans x15))
       ·refine q_val (v := .bool true) rfl rfl (fun w' x' => x_not (b := false) rfl rfl) ?_
        refine q_val (v := .bool true) rfl rfl (fun w' x' => x_pick_t rfl rfl rfl) ?_
        refine q_val (v := .bool true) rfl rfl (fun w' x' => x_assign rfl rfl) ?_
        refine q_nil (fun w16 x17 => ?_)
        refine t_norm ?_
        refine c_ret ?_
        refine t_ret ?_
        exact c_done rfl rfl (Ret.b (by obtain ⟨k, x, s, n, r, w, c⟩ := a; clear ha; simp_all [rightCmd]) ((x3.trans x7).trans x17))
      ·refine q_val (v := .bool false) rfl rfl (fun w' x' => x_pick_t rfl rfl rfl) ?_
       refine q_val (v := .bool false) rfl rfl (fun w' x' => x_move rfl rfl) ?_
       refine q_skip rfl rfl ?_
       refine q_skip rfl rfl ?_
       refine q_skip rfl rfl ?_
       refine q_val (v := .bool false) rfl rfl (fun w' x' => x_pick_f rfl rfl rfl) ?_
       refine q_val (v := .bool false) rfl rfl (fun w' x' => x_assign rfl rfl) ?_
       refine q_nil (fun w18 x19 => ?_)
       refine t_norm ?_
       refine c_ret ?_
       refine t_ret ?_
       exact c_done rfl rfl (Ret.b (by clear ha; simp_all [rightCmd] <;> (intro h; subst h; simp_all)) ((x3.trans x7).trans x19))
     ·refine q_val (v := .bool false) rfl rfl (fun w' x' => x_pick_t rfl rfl rfl) ?_
      refine q_val (v := .bool false) rfl rfl (fun w' x' => x_move rfl rfl) ?_
      refine q_skip rfl rfl ?_
      refine q_skip rfl rfl ?_
      refine q_skip rfl rfl ?_
      refine q_skip rfl rfl ?_
      refine q_val (v := .bool false) rfl rfl (fun w' x' => x_pick_f rfl rfl rfl) ?_
      refine q_val (v := .bool false) rfl rfl (fun w' x' => x_move rfl rfl) ?_
      refine q_skip rfl rfl ?_
      refine q_skip rfl rfl ?_
      refine q_skip rfl rfl ?_
      refine q_val (v := .bool false) rfl rfl (fun w' x' => x_pick_f rfl rfl rfl) ?_
      refine q_val (v := .bool false) rfl rfl (fun w' x' => x_assign rfl rfl) ?_
      refine q_nil (fun w20 x21 => ?_)
      refine t_norm ?_
      refine c_ret ?_
      refine t_ret ?_
      exact c_done rfl rfl (Ret.b (by clear ha; simp_all [rightCmd] <;> (intro h; subst h; simp_all)) ((x3.trans x7).trans x21))
    ·refine q_val (v := .bool false) rfl rfl (fun w' x' => x_pick_t rfl rfl rfl) ?_
     refine q_val (v := .bool false) rfl rfl (fun w' x' => x_move rfl rfl) ?_
     refine q_skip rfl rfl ?_
     refine q_skip rfl rfl ?_
     refine q_skip rfl rfl ?_
     refine q_skip rfl rfl ?_
     refine q_val (v := .bool false) rfl rfl (fun w' x' => x_pick_f rfl rfl rfl) ?_
     refine q_val (v := .bool false) rfl rfl (fun w' x' => x_move rfl rfl) ?_
     refine q_skip rfl rfl ?_
     refine q_skip rfl rfl ?_
     refine q_skip rfl rfl ?_
     refine q_skip rfl rfl ?_
     refine q_val (v := .bool false) rfl rfl (fun w' x' => x_pick_f rfl rfl rfl) ?_
     refine q_val (v := .bool false) rfl rfl (fun w' x' => x_move rfl rfl) ?_
     refine q_skip rfl rfl ?_
     refine q_skip rfl rfl ?_
     refine q_skip rfl rfl ?_
     refine q_val (v := .bool false) rfl rfl (fun w' x' => x_pick_f rfl rfl rfl) ?_
     refine q_val (v := .bool false) rfl rfl (fun w' x' => x_assign rfl rfl) ?_
     refine q_nil (fun w22 x23 => ?_)
     refine t_norm ?_
     refine c_ret ?_
     refine t_ret ?_
     exact c_done rfl rfl (Ret.b (by clear ha; simp_all [rightCmd] <;> (intro h; subst h; simp_all)) ((x3.trans x7).trans x23))
   ·refine q_val (v := .bool false) rfl rfl (fun w' x' => x_pick_t rfl rfl rfl) ?_
    refine q_val (v := .bool false) rfl rfl (fun w' x' => x_move rfl rfl) ?_
    refine q_skip rfl rfl ?_
    refine q_skip rfl rfl ?_
    refine q_skip rfl rfl ?_
    refine q_val (v := .bool false) rfl rfl (fun w' x' => x_pick_f rfl rfl rfl) ?_
    refine q_val (v := .bool false) rfl rfl (fun w' x' => x_move rfl rfl) ?_
    refine q_skip rfl rfl ?_
    refine q_skip rfl rfl ?_
    refine q_skip rfl rfl ?_
    refine q_skip rfl rfl ?_
    refine q_val (v := .bool false) rfl rfl (fun w' x' => x_pick_f rfl rfl rfl) ?_
    refine q_val (v := .bool false) rfl rfl (fun w' x' => x_move rfl rfl) ?_
    refine q_skip rfl rfl ?_
    refine q_skip rfl rfl ?_
    refine q_skip rfl rfl ?_
    refine q_skip rfl rfl ?_
    refine q_val (v := .bool false) rfl rfl (fun w' x' => x_pick_f rfl rfl rfl) ?_
    refine q_val (v := .bool false) rfl rfl (fun w' x' => x_move rfl rfl) ?_
    refine q_skip rfl rfl ?_
    refine q_skip rfl rfl ?_
    refine q_skip rfl rfl ?_
    refine q_val (v := .bool false) rfl rfl (fun w' x' => x_pick_f rfl rfl rfl) ?_
    refine q_val (v := .bool false) rfl rfl (fun w' x' => x_assign rfl rfl) ?_
    refine q_nil (fun w24 x25 => ?_)
    refine t_norm ?_
    refine c_ret ?_
    refine t_ret ?_
    exact c_done rfl rfl (Ret.b (by clear ha; simp_all [rightCmd] <;> (intro h; subst h; simp_all)) ((x3.trans x7).trans x25))
  ·refine q_val (v := .bool false) rfl rfl (fun w' x' => x_move rfl rfl) ?_
   refine q_skip rfl rfl ?_
   refine q_skip rfl rfl ?_
   refine q_skip rfl rfl ?_
   refine q_skip rfl rfl ?_
   refine q_val (v := .bool false) rfl rfl (fun w' x' => x_pick_f rfl rfl rfl) ?_
   refine q_val (v := .bool false) rfl rfl (fun w' x' => x_move rfl rfl) ?_
   refine q_skip rfl rfl ?_
   refine q_skip rfl rfl ?_
   refine q_skip rfl rfl ?_
   refine q_val (v := .bool false) rfl rfl (fun w' x' => x_pick_f rfl rfl rfl) ?_
   refine q_val (v := .bool false) rfl rfl (fun w' x' => x_move rfl rfl) ?_
   refine q_skip rfl rfl ?_
   refine q_skip rfl rfl ?_
   refine q_skip rfl rfl ?_
   refine q_skip rfl rfl ?_
   refine q_val (v := .bool false) rfl rfl (fun w' x' => x_pick_f rfl rfl rfl) ?_
   refine q_val (v := .bool false) rfl rfl (fun w' x' => x_move rfl rfl) ?_
   refine q_skip rfl rfl ?_
   refine q_skip rfl rfl ?_
   refine q_skip rfl rfl ?_
   refine q_skip rfl rfl ?_
   refine q_val (v := .bool false) rfl rfl (fun w' x' => x_pick_f rfl rfl rfl) ?_
   refine q_val (v := .bool false) rfl rfl (fun w' x' => x_move rfl rfl) ?_
   refine q_skip rfl rfl ?_
   refine q_skip rfl rfl ?_
   refine q_skip rfl rfl ?_
   refine q_val (v := .bool false) rfl rfl (fun w' x' => x_pick_f rfl rfl rfl) ?_
   refine q_val (v := .bool false) rfl rfl (fun w' x' => x_assign rfl rfl) ?_
   refine q_nil (fun w26 x27 => ?_)
   refine t_norm ?_
   refine c_ret ?_
   refine t_ret ?_
   exact c_done rfl rfl (Ret.b (by clear ha; simp_all [rightCmd] <;> (intro h; subst h; simp_all)) ((x3.trans x7).trans x27))
 ·refine q_nil (fun w28 x29 => ?_)
  refine t_norm ?_
  refine c_false rfl ?_
  refine c_skip ?_
  refine t_norm ?_
  refine c_seq ?_
  refine c_seq ?_
  refine c_quiet ?_
  refine q_val (v := .pointer (some (⟨w.heap.size, 0, none⟩))) rfl rfl (fun w' x' => x_fieldAddr fld_33_0 rfl rfl rfl) ?_
  refine q_val (v := .int .i64 a.kind) rfl rfl (fun w' x' => x_load rfl rfl (((b2.ext x29).ext x').one one_3 rfl)) ?_
  refine q_bool (b := decide (a.kind ≠ 1)) rfl rfl (fun w' x' => x_neq rfl rfl rfl) (fun c30 => ?_) (fun c30 => ?_)
  ·refine q_val (v := .bool true) rfl rfl (fun w' x' => x_move rfl rfl) ?_
   refine q_val (v := .pointer (some (⟨w.heap.size, 0, none⟩))) rfl rfl (fun w' x' => x_fieldAddr fld_33_0 rfl rfl rfl) ?_
   refine q_val (v := .int .i64 a.kind) rfl rfl (fun w' x' => x_load rfl rfl (((b2.ext x29).ext x').one one_3 rfl)) ?_
   refine q_bool (b := decide (a.kind ≠ 2)) rfl rfl (fun w' x' => x_neq rfl rfl rfl) (fun c31 => ?_) (fun c31 => ?_)
   ·refine q_val (v := .bool true) rfl rfl (fun w' x' => x_pick_t rfl rfl rfl) ?_
    refine q_val (v := .bool true) rfl rfl (fun w' x' => x_move rfl rfl) ?_
    refine q_skip rfl rfl ?_
    refine q_skip rfl rfl ?_
    refine q_skip rfl rfl ?_
    refine q_skip rfl rfl ?_
    refine q_skip rfl rfl ?_
    refine q_skip rfl rfl ?_
    refine q_skip rfl rfl ?_
    refine q_val (v := .bool true) rfl rfl (fun w' x' => x_pick_t rfl rfl rfl) ?_
    refine q_nil (fun w32 x33 => ?_)
    refine t_norm ?_
    refine c_true rfl ?_
    refine c_seq ?_
    refine c_quiet ?_
    refine q_val (v := .bool false) rfl rfl (fun w' x' => x_assign rfl rfl) ?_
    refine q_nil (fun w34 x35 => ?_)
    refine t_norm ?_
    refine c_ret ?_
    refine t_ret ?_
    exact c_done rfl rfl (Ret.b ((rightCmd_head (by simpa using c5) (by clear ha; simp only [empty_len] at *; simp_all [-List.length_eq_zero_iff] <;> first | omega | (intros; omega) | (intros; simp_all [-List.length_eq_zero_iff] <;> omega))).symm) (((x3.trans x29).trans x33).trans x35))
   ·refine q_val (v := .bool false) rfl rfl (fun w' x' => x_pick_t rfl rfl rfl) ?_
    refine q_val (v := .bool false) rfl rfl (fun w' x' => x_move rfl rfl) ?_
    refine q_val (v := .pointer (some (⟨w.heap.size, 0, none⟩))) rfl rfl (fun w' x' => x_fieldAddr fld_33_0 rfl rfl rfl) ?_
    refine q_val (v := .int .i64 a.kind) rfl rfl (fun w' x' => x_load rfl rfl (((b2.ext x29).ext x').one one_3 rfl)) ?_
    refine q_bool (b := decide (a.kind = 1)) rfl rfl (fun w' x' => x_eql rfl rfl rfl) (fun c36 => ?_) (fun c36 => ?_)
    ·refine q_val (v := .bool true) rfl rfl (fun w' x' => x_move rfl rfl) ?_
     refine q_val (v := .pointer (some (⟨w.heap.size, 8, none⟩))) rfl rfl (fun w' x' => x_fieldAddr fld_33_6 rfl rfl rfl) ?_
     refine q_bool (b := a.commit) rfl rfl (fun w' x' => x_load rfl rfl (((b2.ext x29).ext x').one one_4 rfl)) (fun c37 => ?_) (fun c37 => ?_)
     ·refine q_val (v := .bool true) rfl rfl (fun w' x' => x_pick_t rfl rfl rfl) ?_
      refine q_val (v := .bool true) rfl rfl (fun w' x' => x_pick_f rfl rfl rfl) ?_
      refine q_nil (fun w38 x39 => ?_)
      refine t_norm ?_
      refine c_true rfl ?_
      refine c_seq ?_
      refine c_quiet ?_
      refine q_val (v := .bool false) rfl rfl (fun w' x' => x_assign rfl rfl) ?_
      refine q_nil (fun w40 x41 => ?_)
      refine t_norm ?_
      refine c_ret ?_
      refine t_ret ?_
      exact c_done rfl rfl (Ret.b ((rightCmd_head (by simpa using c5) (by clear ha; simp only [empty_len] at *; simp_all [-List.length_eq_zero_iff] <;> first | omega | (intros; omega) | (intros; simp_all [-List.length_eq_zero_iff] <;> omega))).symm) (((x3.trans x29).trans x39).trans x41))
     ·refine q_val (v := .bool false) rfl rfl (fun w' x' => x_pick_t rfl rfl rfl) ?_
      refine q_val (v := .bool false) rfl rfl (fun w' x' => x_pick_f rfl rfl rfl) ?_
      refine q_nil (fun w42 x43 => ?_)
      refine t_norm ?_
      refine c_false rfl ?_
      refine c_skip ?_
      refine t_norm ?_
      refine c_seq ?_
      refine c_seq ?_
      refine c_quiet ?_
      refine q_val (v := .pointer (some (⟨w.heap.size, 1, none⟩))) rfl rfl (fun w' x' => x_fieldAddr fld_33_1 rfl rfl rfl) ?_
      refine q_val (v := .agg #[.int .i64 a.txn.client, .int .i64 a.txn.number]) rfl rfl (fun w' x' => x_load rfl rfl ((((b2.ext x29).ext x43).ext x').agg (vs := [.int .i64 a.txn.client, .int .i64 a.txn.number]) agg_27_2 rfl)) ?_
      refine q_callb (b := rightTxn a.txn) (vs := #[.agg #[.int .i64 a.txn.client, .int .i64 a.txn.number]]) fn_39 rfl rfl rfl (args1 rfl) (fun w' x' => D_rightTxn _ a.txn) (fun c44 => ?_) (fun c44 => ?_)
      ·refine q_val (v := .bool false) rfl rfl (fun w' x' => x_not (b := true) rfl rfl) ?_
       refine q_val (v := .bool false) rfl rfl (fun w' x' => x_move rfl rfl) ?_
       refine q_val (v := .pointer (some (⟨w.heap.size, 3, none⟩))) rfl rfl (fun w' x' => x_fieldAddr fld_33_2 rfl rfl rfl) ?_
       refine q_val (v := .agg #[.int .i64 a.stp.time, .int .i64 a.stp.client]) rfl rfl (fun w' x' => x_load rfl rfl ((((b2.ext x29).ext x43).ext x').agg (vs := [.int .i64 a.stp.time, .int .i64 a.stp.client]) agg_29_2 rfl)) ?_
       refine q_callb (b := rightStp a.stp) (vs := #[.agg #[.int .i64 a.stp.time, .int .i64 a.stp.client]]) fn_40 rfl rfl rfl (args1 rfl) (fun w' x' => D_rightStp _ a.stp) (fun c45 => ?_) (fun c45 => ?_)
       ·refine q_val (v := .bool false) rfl rfl (fun w' x' => x_not (b := true) rfl rfl) ?_
        refine q_val (v := .bool false) rfl rfl (fun w' x' => x_pick_f rfl rfl rfl) ?_
        refine q_val (v := .bool false) rfl rfl (fun w' x' => x_move rfl rfl) ?_
        refine q_val (v := .pointer (some (⟨w.heap.size, 3, none⟩))) rfl rfl (fun w' x' => x_fieldAddr fld_33_2 rfl rfl rfl) ?_
        refine q_val (v := .pointer (some (⟨w.heap.size, 3, none⟩))) rfl rfl (fun w' x' => x_fieldAddr fld_29_0 rfl rfl rfl) ?_
        refine q_val (v := .int .i64 a.stp.time) rfl rfl (fun w' x' => x_load rfl rfl ((((b2.ext x29).ext x43).ext x').one one_3 rfl)) ?_
        refine q_bool (b := decide (a.stp.time = 0)) rfl rfl (fun w' x' => x_eql rfl rfl rfl) (fun c46 => ?_) (fun c46 => ?_)
        ·refine q_val (v := .bool true) rfl rfl (fun w' x' => x_pick_f rfl rfl rfl) ?_
         refine q_val (v := .bool true) rfl rfl (fun w' x' => x_move rfl rfl) ?_
         refine q_skip rfl rfl ?_
         refine q_skip rfl rfl ?_
         refine q_skip rfl rfl ?_
         refine q_skip rfl rfl ?_
         refine q_skip rfl rfl ?_
         refine q_skip rfl rfl ?_
         refine q_skip rfl rfl ?_
         refine q_val (v := .bool true) rfl rfl (fun w' x' => x_pick_t rfl rfl rfl) ?_
         refine q_nil (fun w47 x48 => ?_)
         refine t_norm ?_
         refine c_true rfl ?_
         refine c_seq ?_
         refine c_quiet ?_
         refine q_val (v := .bool false) rfl rfl (fun w' x' => x_assign rfl rfl) ?_
         refine q_nil (fun w49 x50 => ?_)
         refine t_norm ?_
         refine c_ret ?_
         refine t_ret ?_
         exact c_done rfl rfl (Ret.b ((rightCmd_head (by simpa using c5) (by clear ha; simp only [empty_len] at *; simp_all [-List.length_eq_zero_iff] <;> first | omega | (intros; omega) | (intros; simp_all [-List.length_eq_zero_iff] <;> omega))).symm) ((((x3.trans x29).trans x43).trans x48).trans x50))
        ·refine q_val (v := .bool false) rfl rfl (fun w' x' => x_pick_f rfl rfl rfl) ?_
         refine q_val (v := .bool false) rfl rfl (fun w' x' => x_move rfl rfl) ?_
         refine q_val (v := .pointer (some (⟨w.heap.size, 3, none⟩))) rfl rfl (fun w' x' => x_fieldAddr fld_33_2 rfl rfl rfl) ?_
         refine q_val (v := .pointer (some (⟨w.heap.size, 4, none⟩))) rfl rfl (fun w' x' => x_fieldAddr fld_29_1 rfl rfl rfl) ?_
         refine q_val (v := .int .i64 a.stp.client) rfl rfl (fun w' x' => x_load rfl rfl ((((b2.ext x29).ext x43).ext x').one one_3 rfl)) ?_
         refine q_val (v := .pointer (some (⟨w.heap.size, 1, none⟩))) rfl rfl (fun w' x' => x_fieldAddr fld_33_1 rfl rfl rfl) ?_
         refine q_val (v := .pointer (some (⟨w.heap.size, 1, none⟩))) rfl rfl (fun w' x' => x_fieldAddr fld_27_0 rfl rfl rfl) ?_
         refine q_val (v := .int .i64 a.txn.client) rfl rfl (fun w' x' => x_load rfl rfl ((((b2.ext x29).ext x43).ext x').one one_3 rfl)) ?_
         refine q_bool (b := decide (a.stp.client ≠ a.txn.client)) rfl rfl (fun w' x' => x_neq rfl rfl rfl) (fun c51 => ?_) (fun c51 => ?_)
         ·refine q_val (v := .bool true) rfl rfl (fun w' x' => x_pick_f rfl rfl rfl) ?_
          refine q_nil (fun w52 x53 => ?_)
          refine t_norm ?_
          refine c_true rfl ?_
          refine c_seq ?_
          refine c_quiet ?_
          refine q_val (v := .bool false) rfl rfl (fun w' x' => x_assign rfl rfl) ?_
          refine q_nil (fun w54 x55 => ?_)
          refine t_norm ?_
          refine c_ret ?_
          refine t_ret ?_
          exact c_done rfl rfl (Ret.b ((rightCmd_head (by simpa using c5) (by clear ha; simp only [empty_len] at *; simp_all [-List.length_eq_zero_iff] <;> first | omega | (intros; omega) | (intros; simp_all [-List.length_eq_zero_iff] <;> omega))).symm) ((((x3.trans x29).trans x43).trans x53).trans x55))
         ·refine q_val (v := .bool false) rfl rfl (fun w' x' => x_pick_f rfl rfl rfl) ?_
          refine q_nil (fun w56 x57 => ?_)
          refine t_norm ?_
          refine c_false rfl ?_
          refine c_skip ?_
          refine t_norm ?_
          refine c_seq ?_
          refine c_seq ?_
          refine c_quiet ?_
          refine q_val (v := .pointer (some (⟨w.heap.size, 5, none⟩))) rfl rfl (fun w' x' => x_fieldAddr fld_33_3 rfl rfl rfl) ?_
          refine q_val (v := .int .i64 a.shards) rfl rfl (fun w' x' => x_load rfl rfl (((((b2.ext x29).ext x43).ext x57).ext x').one one_3 rfl)) ?_
          refine q_bool (b := decide (a.shards ≤ 0)) rfl rfl (fun w' x' => x_leq rfl rfl rfl) (fun c58 => ?_) (fun c58 => ?_)
          ·refine q_val (v := .bool true) rfl rfl (fun w' x' => x_move rfl rfl) ?_
           refine q_skip rfl rfl ?_
           refine q_skip rfl rfl ?_
           refine q_skip rfl rfl ?_
           refine q_val (v := .bool true) rfl rfl (fun w' x' => x_pick_t rfl rfl rfl) ?_
           refine q_val (v := .bool true) rfl rfl (fun w' x' => x_move rfl rfl) ?_
           refine q_skip rfl rfl ?_
           refine q_skip rfl rfl ?_
           refine q_skip rfl rfl ?_
           refine q_skip rfl rfl ?_
           refine q_skip rfl rfl ?_
           refine q_skip rfl rfl ?_
           refine q_skip rfl rfl ?_
           refine q_skip rfl rfl ?_
           refine q_skip rfl rfl ?_
           refine q_skip rfl rfl ?_
           refine q_val (v := .bool true) rfl rfl (fun w' x' => x_pick_t rfl rfl rfl) ?_
           refine q_nil (fun w59 x60 => ?_)
           refine t_norm ?_
           refine c_true rfl ?_
           refine c_seq ?_
           refine c_quiet ?_
           refine q_val (v := .bool false) rfl rfl (fun w' x' => x_assign rfl rfl) ?_
           refine q_nil (fun w61 x62 => ?_)
           refine t_norm ?_
           refine c_ret ?_
           refine t_ret ?_
           exact c_done rfl rfl (Ret.b ((rightCmd_head (by simpa using c5) (by clear ha; simp only [empty_len] at *; simp_all [-List.length_eq_zero_iff] <;> first | omega | (intros; omega) | (intros; simp_all [-List.length_eq_zero_iff] <;> omega))).symm) (((((x3.trans x29).trans x43).trans x57).trans x60).trans x62))
          ·refine q_val (v := .bool false) rfl rfl (fun w' x' => x_move rfl rfl) ?_
           refine q_val (v := .pointer (some (⟨w.heap.size, 5, none⟩))) rfl rfl (fun w' x' => x_fieldAddr fld_33_3 rfl rfl rfl) ?_
           refine q_val (v := .int .i64 a.shards) rfl rfl (fun w' x' => x_load rfl rfl (((((b2.ext x29).ext x43).ext x57).ext x').one one_3 rfl)) ?_
           refine q_bool (b := decide (a.shards ≥ 16)) rfl rfl (fun w' x' => x_geq rfl rfl rfl) (fun c63 => ?_) (fun c63 => ?_)
           ·refine q_val (v := .bool true) rfl rfl (fun w' x' => x_pick_f rfl rfl rfl) ?_
            refine q_val (v := .bool true) rfl rfl (fun w' x' => x_move rfl rfl) ?_
            refine q_skip rfl rfl ?_
            refine q_skip rfl rfl ?_
            refine q_skip rfl rfl ?_
            refine q_skip rfl rfl ?_
            refine q_skip rfl rfl ?_
            refine q_skip rfl rfl ?_
            refine q_skip rfl rfl ?_
            refine q_skip rfl rfl ?_
            refine q_skip rfl rfl ?_
            refine q_skip rfl rfl ?_
            refine q_val (v := .bool true) rfl rfl (fun w' x' => x_pick_t rfl rfl rfl) ?_
            refine q_nil (fun w64 x65 => ?_)
            refine t_norm ?_
            refine c_true rfl ?_
            refine c_seq ?_
            refine c_quiet ?_
            refine q_val (v := .bool false) rfl rfl (fun w' x' => x_assign rfl rfl) ?_
            refine q_nil (fun w66 x67 => ?_)
            refine t_norm ?_
            refine c_ret ?_
            refine t_ret ?_
            exact c_done rfl rfl (Ret.b ((rightCmd_head (by simpa using c5) (by clear ha; simp only [empty_len] at *; simp_all [-List.length_eq_zero_iff] <;> first | omega | (intros; omega) | (intros; simp_all [-List.length_eq_zero_iff] <;> omega))).symm) (((((x3.trans x29).trans x43).trans x57).trans x65).trans x67))
           ·refine q_val (v := .bool false) rfl rfl (fun w' x' => x_pick_f rfl rfl rfl) ?_
            refine q_val (v := .bool false) rfl rfl (fun w' x' => x_move rfl rfl) ?_
            refine q_val (v := .pointer (some (⟨w.heap.size, 6, none⟩))) rfl rfl (fun w' x' => x_fieldAddr fld_33_4 rfl rfl rfl) ?_
            refine q_val (v := .slice pa.A a.reads.length pa.n) rfl rfl (fun w' x' => x_load rfl rfl (((((b2.ext x29).ext x43).ext x57).ext x').one one_30 rfl)) ?_
            refine q_val (v := .int .i64 (a.reads.length : Int)) rfl rfl (fun w' x' => x_len_slice sl_30 rfl rfl) ?_
            refine q_bool (b := decide ((a.reads.length : Int) = 0)) rfl rfl (fun w' x' => x_eql rfl rfl rfl) (fun c68 => ?_) (fun c68 => ?_)
            ·refine q_val (v := .bool true) rfl rfl (fun w' x' => x_move rfl rfl) ?_
             refine q_val (v := .pointer (some (⟨w.heap.size, 7, none⟩))) rfl rfl (fun w' x' => x_fieldAddr fld_33_5 rfl rfl rfl) ?_
             refine q_val (v := .slice pa.B a.writes.length pa.m) rfl rfl (fun w' x' => x_load rfl rfl (((((b2.ext x29).ext x43).ext x57).ext x').one one_31 rfl)) ?_
             refine q_val (v := .int .i64 (a.writes.length : Int)) rfl rfl (fun w' x' => x_len_slice sl_31 rfl rfl) ?_
             refine q_bool (b := decide ((a.writes.length : Int) = 0)) rfl rfl (fun w' x' => x_eql rfl rfl rfl) (fun c69 => ?_) (fun c69 => ?_)
             ·refine q_val (v := .bool true) rfl rfl (fun w' x' => x_pick_t rfl rfl rfl) ?_
              refine q_val (v := .bool true) rfl rfl (fun w' x' => x_pick_f rfl rfl rfl) ?_
              refine q_nil (fun w70 x71 => ?_)
              refine t_norm ?_
              refine c_true rfl ?_
              refine c_seq ?_
              refine c_quiet ?_
              refine q_val (v := .bool false) rfl rfl (fun w' x' => x_assign rfl rfl) ?_
              refine q_nil (fun w72 x73 => ?_)
              refine t_norm ?_
              refine c_ret ?_
              refine t_ret ?_
              exact c_done rfl rfl (Ret.b ((rightCmd_head (by simpa using c5) (by clear ha; simp only [empty_len] at *; simp_all [-List.length_eq_zero_iff] <;> first | omega | (intros; omega) | (intros; simp_all [-List.length_eq_zero_iff] <;> omega))).symm) (((((x3.trans x29).trans x43).trans x57).trans x71).trans x73))
             ·refine q_val (v := .bool false) rfl rfl (fun w' x' => x_pick_t rfl rfl rfl) ?_
              refine q_val (v := .bool false) rfl rfl (fun w' x' => x_pick_f rfl rfl rfl) ?_
              refine q_nil (fun w74 x75 => ?_)
              refine t_norm ?_
              refine c_false rfl ?_
              refine c_skip ?_
              refine t_norm ?_
              refine c_seq ?_
              refine c_quiet ?_
              refine q_val (v := .slice none 0 0) rfl rfl (fun w' x' => x_assign rfl rfl) ?_
              refine q_nil (fun w76 x77 => ?_)
              refine t_norm ?_
              refine c_seq ?_
              refine c_seq ?_
              refine c_quiet ?_
              refine q_val (v := .int .i64 0) rfl rfl (fun w' x' => x_assign rfl rfl) ?_
              refine q_nil (fun w78 x79 => ?_)
              refine t_norm ?_
              refine c_block ?_
              refine c_loop (fun ρ w88 => ∃ k80 : Nat, ∃ A83 : Option Addr, ∃ c84 : Nat, k80 ≤ a.reads.length ∧ (a.reads.take k80).all (oldRd a) = true ∧ World.ownsRow w88 w78.heap.size 9 1 (.slice A83 k80 c84) k80 (((a.reads.map (·.key)).take k80).flatMap fStr) ∧ k80 ≤ c84 ∧ c84 ≤ 9223372036854775807 ∧ ρ 1 = .pointer (some (⟨w.heap.size, 0, none⟩)) ∧ ρ 3 = .slice A83 k80 c84 ∧ ρ 4 = .int .i64 (k80 : Int) ∧ Ext w78 w88) (fun ρ _ => a.reads.length - (intOf (ρ 4)).toNat) ⟨0, none, 0, Nat.zero_le _, rfl, own_nil _ _ _ _, Nat.le_refl _, Nat.zero_le _, rfl, rfl, rfl, Ext.refl _⟩ ?_
              rintro ρ w88 ⟨k80, A83, c84, hk81, hi82, ho85, h86, h87, e90, e91, e92, x89⟩
              by_cases hl93 : k80 < a.reads.length
              ·obtain ⟨y94, hx95⟩ := some_of (l := a.reads) (k := k80) (by omega)
               obtain ⟨ad96, cs97, eA98, hK99, hE100⟩ := ha.reads k80 y94 hx95
               have hK99' : cs97 = [.string y94.key, .int .i64 y94.ver.time, .int .i64 y94.ver.client] := hK99
               subst hK99'
               refine c_seq ?_
               refine c_seq ?_
               refine c_quiet ?_
               refine q_val (v := .int .i64 (k80 : Int)) rfl rfl (fun w' x' => x_move rfl e92) ?_
               refine q_val (v := .pointer (some (⟨w.heap.size, 6, none⟩))) rfl rfl (fun w' x' => x_fieldAddr fld_33_4 rfl e90 rfl) ?_
               refine q_val (v := .slice pa.A a.reads.length pa.n) rfl rfl (fun w' x' => x_load rfl rfl (((((((((b2.ext x29).ext x43).ext x57).ext x75).ext x77).ext x79).ext x89).ext x').one one_30 rfl)) ?_
               refine q_val (v := .int .i64 (a.reads.length : Int)) rfl rfl (fun w' x' => x_len_slice sl_30 rfl rfl) ?_
               refine q_val (v := .bool true) rfl rfl (fun w' x' => yb (x_lss rfl rfl rfl) (decide_eq_true (by omega))) ?_
               refine q_nil (fun w102 x103 => ?_)
               refine t_norm ?_
               refine c_true rfl ?_
               refine c_skip ?_
               refine t_norm ?_
               refine c_seq ?_
               refine c_block ?_
               refine c_seq ?_
               refine c_seq ?_
               refine c_draw mixed (by kernel_rfl) ?_
               refine q_val (v := .pointer (some (⟨w.heap.size, 6, none⟩))) rfl rfl (fun w' x' => x_fieldAddr fld_33_4 rfl e90 rfl) ?_
               refine q_val (v := .slice pa.A a.reads.length pa.n) rfl rfl (fun w' x' => x_load rfl rfl ((((((((((b2.ext x29).ext x43).ext x57).ext x75).ext x77).ext x79).ext x89).ext x103).ext x').one one_30 rfl)) ?_
               refine q_val (v := .int .i64 (k80 : Int)) rfl rfl (fun w' x' => x_move rfl e92) ?_
               refine q_val (v := .pointer (some (ad96.add (k80 * 3)))) rfl rfl (fun w' x' => x_indexAddr sl_30 rfl rfl eA98 rfl (by omega) (by omega) rfl) ?_
               refine q_val (v := .pointer (some ((ad96.add (k80 * 3)).add 1))) rfl rfl (fun w' x' => x_fieldAddr fld_64_1 rfl rfl rfl) ?_
               refine q_val (v := .agg #[.int .i64 y94.ver.time, .int .i64 y94.ver.client]) rfl rfl (fun w' x' => x_load rfl rfl (((((((((((hE100.ext x3).ext x29).ext x43).ext x57).ext x75).ext x77).ext x79).ext x89).ext x103).ext x').agg (vs := [.int .i64 y94.ver.time, .int .i64 y94.ver.client]) agg_29_2 1 rfl rfl)) ?_
               refine q_callb (b := rightStp y94.ver) (vs := #[.agg #[.int .i64 y94.ver.time, .int .i64 y94.ver.client]]) fn_40 rfl rfl rfl (args1 rfl) (fun w' x' => D_rightStp _ y94.ver) (fun c104 => ?_) (fun c104 => ?_)
               ·refine q_val (v := .bool false) rfl rfl (fun w' x' => x_not (b := true) rfl rfl) ?_
                refine q_val (v := .bool false) rfl rfl (fun w' x' => x_move rfl rfl) ?_
                refine q_val (v := .pointer (some (⟨w.heap.size, 6, none⟩))) rfl rfl (fun w' x' => x_fieldAddr fld_33_4 rfl e90 rfl) ?_
                refine q_val (v := .slice pa.A a.reads.length pa.n) rfl rfl (fun w' x' => x_load rfl rfl ((((((((((b2.ext x29).ext x43).ext x57).ext x75).ext x77).ext x79).ext x89).ext x103).ext x').one one_30 rfl)) ?_
                refine q_val (v := .int .i64 (k80 : Int)) rfl rfl (fun w' x' => x_move rfl e92) ?_
                refine q_val (v := .pointer (some (ad96.add (k80 * 3)))) rfl rfl (fun w' x' => x_indexAddr sl_30 rfl rfl eA98 rfl (by omega) (by omega) rfl) ?_
                refine q_val (v := .pointer (some ((ad96.add (k80 * 3)).add 1))) rfl rfl (fun w' x' => x_fieldAddr fld_64_1 rfl rfl rfl) ?_
                refine q_val (v := .agg #[.int .i64 y94.ver.time, .int .i64 y94.ver.client]) rfl rfl (fun w' x' => x_load rfl rfl (((((((((((hE100.ext x3).ext x29).ext x43).ext x57).ext x75).ext x77).ext x79).ext x89).ext x103).ext x').agg (vs := [.int .i64 y94.ver.time, .int .i64 y94.ver.client]) agg_29_2 1 rfl rfl)) ?_
                refine q_val (v := .pointer (some (⟨w.heap.size, 3, none⟩))) rfl rfl (fun w' x' => x_fieldAddr fld_33_2 rfl e90 rfl) ?_
                refine q_val (v := .agg #[.int .i64 a.stp.time, .int .i64 a.stp.client]) rfl rfl (fun w' x' => x_load rfl rfl ((((((((((b2.ext x29).ext x43).ext x57).ext x75).ext x77).ext x79).ext x89).ext x103).ext x').agg (vs := [.int .i64 a.stp.time, .int .i64 a.stp.client]) agg_29_2 rfl)) ?_
                refine q_callb (b := decide (cmpStp y94.ver a.stp < 0)) (vs := #[.agg #[.int .i64 y94.ver.time, .int .i64 y94.ver.client], .agg #[.int .i64 a.stp.time, .int .i64 a.stp.client]]) fn_41 rfl rfl rfl (args2 rfl rfl) (fun w' x' => D_before _ y94.ver a.stp) (fun c105 => ?_) (fun c105 => ?_)
                ·refine q_val (v := .bool false) rfl rfl (fun w' x' => x_not (b := true) rfl rfl) ?_
                 refine q_val (v := .bool false) rfl rfl (fun w' x' => x_pick_f rfl rfl rfl) ?_
                 refine q_nil (fun w106 x107 => ?_)
                 refine t_norm ?_
                 refine c_false rfl ?_
                 refine c_skip ?_
                 refine t_norm ?_
                 refine c_plain ?_
                 refine p_val (v := .slice A83 k80 c84) rfl rfl (x_move rfl e91) ?_
                 refine p_val (v := .pointer (some (⟨w.heap.size, 6, none⟩))) rfl rfl (x_fieldAddr fld_33_4 rfl e90 rfl) ?_
                 refine p_val (v := .slice pa.A a.reads.length pa.n) rfl rfl (x_load rfl rfl ((((((((((b2.ext x29).ext x43).ext x57).ext x75).ext x77).ext x79).ext x89).ext x103).ext x107).one one_30 rfl)) ?_
                 refine p_val (v := .int .i64 (k80 : Int)) rfl rfl (x_move rfl e92) ?_
                 refine p_val (v := .pointer (some (ad96.add (k80 * 3)))) rfl rfl (x_indexAddr sl_30 rfl rfl eA98 rfl (by omega) (by omega) rfl) ?_
                 refine p_val (v := .pointer (some (ad96.add (k80 * 3)))) rfl rfl (x_fieldAddr fld_64_0 rfl rfl rfl) ?_
                 refine p_val (v := .string y94.key) rfl rfl (x_load rfl rfl (((((((((((hE100.ext x3).ext x29).ext x43).ext x57).ext x75).ext x77).ext x79).ext x89).ext x103).ext x107).one one_9 0 rfl rfl)) ?_
                 refine p_buildSlice (cs := [.string y94.key]) el_79 rfl rfl rfl (parts1 rfl) (by decide) (by decide) (fill_ok [.string y94.key] [.string y94.key] rfl rfl) (fun w108 b109 x110 z111 => ?_)
                 refine p_append (B := w78.heap.size) (k := k80) (m := 1) (cs := (((a.reads.map (·.key)).take k80).flatMap fStr)) (news := [.string y94.key]) (ad := ⟨w106.heap.size, 0, none⟩) el_79 rfl rfl rfl rfl (own_ext ho85 ((x103.trans x107).trans x110)) rfl rfl b109.put rfl (by omega) (by omega) (((x89.trans x103).trans x107).trans x110).size (fun A116 c117 w112 o113 bl114 gr115 h118 h119 => ?_)
                 refine p_val (v := .slice A116 (k80 + 1) c117) rfl rfl (x_assign rfl rfl) ?_
                 refine p_nil ?_
                 refine b_norm (t_norm ?_)
                 refine c_quiet ?_
                 refine q_val (v := .int .i64 (k80 : Int)) rfl rfl (fun w' x' => x_move rfl e92) ?_
                 refine q_val (v := .int .i64 ((k80 : Int) + 1)) rfl rfl (fun w' x' => x_add rfl rfl rfl (wrap_of (by omega) (by omega))) ?_
                 refine q_val (v := .int .i64 ((k80 : Int) + 1)) rfl rfl (fun w' x' => x_assign rfl rfl) ?_
                 refine q_nil (fun w120 x121 => ?_)
                 refine t_norm ?_
                 exact ⟨_, rfl, ⟨k80 + 1, A116, c117, by omega, all_step (p := oldRd a) hi82 hx95 (by simp_all [oldRd]), (by rw [← flat_step (map_of (g := fun z => z.key) hx95)]; exact (own_ext o113 x121)), h118, h119, e90, rfl, rfl, (((((x89.trans x103).trans x107).trans x110).below (Nat.le_refl _) bl114).trans x121)⟩, meas_up e92 hl93⟩
                ·refine q_val (v := .bool true) rfl rfl (fun w' x' => x_not (b := false) rfl rfl) ?_
                 refine q_val (v := .bool true) rfl rfl (fun w' x' => x_pick_f rfl rfl rfl) ?_
                 refine q_nil (fun w122 x123 => ?_)
                 refine t_norm ?_
                 refine c_true rfl ?_
                 refine c_seq ?_
                 refine c_quiet ?_
                 refine q_val (v := .bool false) rfl rfl (fun w' x' => x_assign rfl rfl) ?_
                 refine q_nil (fun w124 x125 => ?_)
                 refine t_norm ?_
                 refine c_ret ?_
                 refine t_ret (b_ret (t_ret (t_ret (b_ret (t_ret ?_)))))
                 exact c_done rfl rfl (Ret.b ((rightCmd_reads (by simpa using c5) (all_fail (p := oldRd a) hx95 (by simp only [oldRd]; simp_all))).symm) ((((((((((x3.trans x29).trans x43).trans x57).trans x75).trans x77).trans x79).trans x89).trans x103).trans x123).trans x125))
               ·refine q_val (v := .bool true) rfl rfl (fun w' x' => x_not (b := false) rfl rfl) ?_
                refine q_val (v := .bool true) rfl rfl (fun w' x' => x_move rfl rfl) ?_
                refine q_skip rfl rfl ?_
                refine q_skip rfl rfl ?_
                refine q_skip rfl rfl ?_
                refine q_skip rfl rfl ?_
                refine q_skip rfl rfl ?_
                refine q_skip rfl rfl ?_
                refine q_skip rfl rfl ?_
                refine q_skip rfl rfl ?_
                refine q_skip rfl rfl ?_
                refine q_skip rfl rfl ?_
                refine q_val (v := .bool true) rfl rfl (fun w' x' => x_pick_t rfl rfl rfl) ?_
                refine q_nil (fun w126 x127 => ?_)
                refine t_norm ?_
                refine c_true rfl ?_
                refine c_seq ?_
                refine c_quiet ?_
                refine q_val (v := .bool false) rfl rfl (fun w' x' => x_assign rfl rfl) ?_
                refine q_nil (fun w128 x129 => ?_)
                refine t_norm ?_
                refine c_ret ?_
                refine t_ret (b_ret (t_ret (t_ret (b_ret (t_ret ?_)))))
                exact c_done rfl rfl (Ret.b ((rightCmd_reads (by simpa using c5) (all_fail (p := oldRd a) hx95 (by simp only [oldRd]; simp_all))).symm) ((((((((((x3.trans x29).trans x43).trans x57).trans x75).trans x77).trans x79).trans x89).trans x103).trans x127).trans x129))
              ·have hr130 := own_lies (d := kStr) (xs := a.reads.map (·.key)) (by rw [show (a.reads.map (·.key)) = (a.reads.map (·.key)).take k80 from by rw [List.take_of_length_le (by simp; omega)]]; exact ho85) (by simp; omega) (fun _ => rfl) (fun _ => rfl)
               have he131 : k80 = (a.reads.map (·.key)).length := by simp; omega
               refine c_seq ?_
               refine c_seq ?_
               refine c_quiet ?_
               refine q_val (v := .int .i64 (k80 : Int)) rfl rfl (fun w' x' => x_move rfl e92) ?_
               refine q_val (v := .pointer (some (⟨w.heap.size, 6, none⟩))) rfl rfl (fun w' x' => x_fieldAddr fld_33_4 rfl e90 rfl) ?_
               refine q_val (v := .slice pa.A a.reads.length pa.n) rfl rfl (fun w' x' => x_load rfl rfl (((((((((b2.ext x29).ext x43).ext x57).ext x75).ext x77).ext x79).ext x89).ext x').one one_30 rfl)) ?_
               refine q_val (v := .int .i64 (a.reads.length : Int)) rfl rfl (fun w' x' => x_len_slice sl_30 rfl rfl) ?_
               refine q_val (v := .bool false) rfl rfl (fun w' x' => yb (x_lss rfl rfl rfl) (decide_eq_false (by omega))) ?_
               refine q_nil (fun w132 x133 => ?_)
               refine t_norm ?_
               refine c_false rfl ?_
               refine c_exit ?_
               refine t_exit (t_exit (b_exit (t_norm ?_)))
               refine c_seq ?_
               refine c_quiet ?_
               refine q_val (v := .slice none 0 0) rfl rfl (fun w' x' => x_assign rfl rfl) ?_
               refine q_nil (fun w134 x135 => ?_)
               refine t_norm ?_
               refine c_seq ?_
               refine c_seq ?_
               refine c_quiet ?_
               refine q_val (v := .int .i64 0) rfl rfl (fun w' x' => x_assign rfl rfl) ?_
               refine q_nil (fun w136 x137 => ?_)
               refine t_norm ?_
               refine c_block ?_
               refine c_loop (fun ρ w146 => ∃ k138 : Nat, ∃ A141 : Option Addr, ∃ c142 : Nat, k138 ≤ a.writes.length ∧ (a.writes.take k138).all (fun x : Wr => decide (x.val.size ≤ 8)) = true ∧ World.ownsRow w146 w136.heap.size 9 1 (.slice A141 k138 c142) k138 (((a.writes.map (·.key)).take k138).flatMap fStr) ∧ k138 ≤ c142 ∧ c142 ≤ 9223372036854775807 ∧ ρ 1 = .pointer (some (⟨w.heap.size, 0, none⟩)) ∧ ρ 3 = .slice A83 k80 c84 ∧ ρ 5 = .slice A141 k138 c142 ∧ ρ 6 = .int .i64 (k138 : Int) ∧ Ext w136 w146) (fun ρ _ => a.writes.length - (intOf (ρ 6)).toNat) ⟨0, none, 0, Nat.zero_le _, rfl, own_nil _ _ _ _, Nat.le_refl _, Nat.zero_le _, e90, e91, rfl, rfl, Ext.refl _⟩ ?_
               rintro ρ w146 ⟨k138, A141, c142, hk139, hi140, ho143, h144, h145, e148, e149, e150, e151, x147⟩
               by_cases hl152 : k138 < a.writes.length
               ·obtain ⟨y153, hx154⟩ := some_of (l := a.writes) (k := k138) (by omega)
                obtain ⟨ad155, cs156, eA157, hK158, hE159⟩ := ha.writes k138 y153 hx154
                have hK158' : cs156 = [.string y153.key, .string y153.val] := hK158
                subst hK158'
                refine c_seq ?_
                refine c_seq ?_
                refine c_quiet ?_
                refine q_val (v := .int .i64 (k138 : Int)) rfl rfl (fun w' x' => x_move rfl e151) ?_
                refine q_val (v := .pointer (some (⟨w.heap.size, 7, none⟩))) rfl rfl (fun w' x' => x_fieldAddr fld_33_5 rfl e148 rfl) ?_
                refine q_val (v := .slice pa.B a.writes.length pa.m) rfl rfl (fun w' x' => x_load rfl rfl (((((((((((((b2.ext x29).ext x43).ext x57).ext x75).ext x77).ext x79).ext x89).ext x133).ext x135).ext x137).ext x147).ext x').one one_31 rfl)) ?_
                refine q_val (v := .int .i64 (a.writes.length : Int)) rfl rfl (fun w' x' => x_len_slice sl_31 rfl rfl) ?_
                refine q_val (v := .bool true) rfl rfl (fun w' x' => yb (x_lss rfl rfl rfl) (decide_eq_true (by omega))) ?_
                refine q_nil (fun w161 x162 => ?_)
                refine t_norm ?_
                refine c_true rfl ?_
                refine c_skip ?_
                refine t_norm ?_
                refine c_seq ?_
                refine c_block ?_
                refine c_seq ?_
                refine c_seq ?_
                refine c_quiet ?_
                refine q_val (v := .pointer (some (⟨w.heap.size, 7, none⟩))) rfl rfl (fun w' x' => x_fieldAddr fld_33_5 rfl e148 rfl) ?_
                refine q_val (v := .slice pa.B a.writes.length pa.m) rfl rfl (fun w' x' => x_load rfl rfl ((((((((((((((b2.ext x29).ext x43).ext x57).ext x75).ext x77).ext x79).ext x89).ext x133).ext x135).ext x137).ext x147).ext x162).ext x').one one_31 rfl)) ?_
                refine q_val (v := .int .i64 (k138 : Int)) rfl rfl (fun w' x' => x_move rfl e151) ?_
                refine q_val (v := .pointer (some (ad155.add (k138 * 2)))) rfl rfl (fun w' x' => x_indexAddr sl_31 rfl rfl eA157 rfl (by omega) (by omega) rfl) ?_
                refine q_val (v := .pointer (some ((ad155.add (k138 * 2)).add 1))) rfl rfl (fun w' x' => x_fieldAddr fld_66_1 rfl rfl rfl) ?_
                refine q_val (v := .string y153.val) rfl rfl (fun w' x' => x_load rfl rfl (((((((((((((((hE159.ext x3).ext x29).ext x43).ext x57).ext x75).ext x77).ext x79).ext x89).ext x133).ext x135).ext x137).ext x147).ext x162).ext x').one one_9 1 rfl rfl)) ?_
                refine q_val (v := .int .i64 (y153.val.size : Int)) rfl rfl (fun w' x' => x_len_string str_9 rfl rfl) ?_
                refine q_bool (b := decide ((y153.val.size : Int) > 8)) rfl rfl (fun w' x' => x_gtr rfl rfl rfl) (fun c163 => ?_) (fun c163 => ?_)
                ·refine q_nil (fun w164 x165 => ?_)
                 refine t_norm ?_
                 refine c_true rfl ?_
                 refine c_seq ?_
                 refine c_quiet ?_
                 refine q_val (v := .bool false) rfl rfl (fun w' x' => x_assign rfl rfl) ?_
                 refine q_nil (fun w166 x167 => ?_)
                 refine t_norm ?_
                 refine c_ret ?_
                 refine t_ret (b_ret (t_ret (t_ret (b_ret (t_ret ?_)))))
                 exact c_done rfl rfl (Ret.b ((rightCmd_writes (by simpa using c5) (all_fail (p := fun x : Wr => decide (x.val.size ≤ 8)) hx154 (by simp_all <;> omega))).symm) ((((((((((((((x3.trans x29).trans x43).trans x57).trans x75).trans x77).trans x79).trans x89).trans x133).trans x135).trans x137).trans x147).trans x162).trans x165).trans x167))
                ·refine q_nil (fun w168 x169 => ?_)
                 refine t_norm ?_
                 refine c_false rfl ?_
                 refine c_skip ?_
                 refine t_norm ?_
                 refine c_plain ?_
                 refine p_val (v := .slice A141 k138 c142) rfl rfl (x_move rfl e150) ?_
                 refine p_val (v := .pointer (some (⟨w.heap.size, 7, none⟩))) rfl rfl (x_fieldAddr fld_33_5 rfl e148 rfl) ?_
                 refine p_val (v := .slice pa.B a.writes.length pa.m) rfl rfl (x_load rfl rfl ((((((((((((((b2.ext x29).ext x43).ext x57).ext x75).ext x77).ext x79).ext x89).ext x133).ext x135).ext x137).ext x147).ext x162).ext x169).one one_31 rfl)) ?_
                 refine p_val (v := .int .i64 (k138 : Int)) rfl rfl (x_move rfl e151) ?_
                 refine p_val (v := .pointer (some (ad155.add (k138 * 2)))) rfl rfl (x_indexAddr sl_31 rfl rfl eA157 rfl (by omega) (by omega) rfl) ?_
                 refine p_val (v := .pointer (some (ad155.add (k138 * 2)))) rfl rfl (x_fieldAddr fld_66_0 rfl rfl rfl) ?_
                 refine p_val (v := .string y153.key) rfl rfl (x_load rfl rfl (((((((((((((((hE159.ext x3).ext x29).ext x43).ext x57).ext x75).ext x77).ext x79).ext x89).ext x133).ext x135).ext x137).ext x147).ext x162).ext x169).one one_9 0 rfl rfl)) ?_
                 refine p_buildSlice (cs := [.string y153.key]) el_79 rfl rfl rfl (parts1 rfl) (by decide) (by decide) (fill_ok [.string y153.key] [.string y153.key] rfl rfl) (fun w170 b171 x172 z173 => ?_)
                 refine p_append (B := w136.heap.size) (k := k138) (m := 1) (cs := (((a.writes.map (·.key)).take k138).flatMap fStr)) (news := [.string y153.key]) (ad := ⟨w168.heap.size, 0, none⟩) el_79 rfl rfl rfl rfl (own_ext ho143 ((x162.trans x169).trans x172)) rfl rfl b171.put rfl (by omega) (by omega) (((x147.trans x162).trans x169).trans x172).size (fun A178 c179 w174 o175 bl176 gr177 h180 h181 => ?_)
                 refine p_val (v := .slice A178 (k138 + 1) c179) rfl rfl (x_assign rfl rfl) ?_
                 refine p_nil ?_
                 refine b_norm (t_norm ?_)
                 refine c_quiet ?_
                 refine q_val (v := .int .i64 (k138 : Int)) rfl rfl (fun w' x' => x_move rfl e151) ?_
                 refine q_val (v := .int .i64 ((k138 : Int) + 1)) rfl rfl (fun w' x' => x_add rfl rfl rfl (wrap_of (by omega) (by omega))) ?_
                 refine q_val (v := .int .i64 ((k138 : Int) + 1)) rfl rfl (fun w' x' => x_assign rfl rfl) ?_
                 refine q_nil (fun w182 x183 => ?_)
                 refine t_norm ?_
                 exact ⟨_, rfl, ⟨k138 + 1, A178, c179, by omega, all_step (p := fun x : Wr => decide (x.val.size ≤ 8)) hi140 hx154 (by simp_all <;> omega), (by rw [← flat_step (map_of (g := fun z => z.key) hx154)]; exact (own_ext o175 x183)), h180, h181, e148, e149, rfl, rfl, (((((x147.trans x162).trans x169).trans x172).below (Nat.le_refl _) bl176).trans x183)⟩, meas_up e151 hl152⟩
               ·have hr184 := own_lies (d := kStr) (xs := a.writes.map (·.key)) (by rw [show (a.writes.map (·.key)) = (a.writes.map (·.key)).take k138 from by rw [List.take_of_length_le (by simp; omega)]]; exact ho143) (by simp; omega) (fun _ => rfl) (fun _ => rfl)
                have he185 : k138 = (a.writes.map (·.key)).length := by simp; omega
                refine c_seq ?_
                refine c_seq ?_
                refine c_quiet ?_
                refine q_val (v := .int .i64 (k138 : Int)) rfl rfl (fun w' x' => x_move rfl e151) ?_
                refine q_val (v := .pointer (some (⟨w.heap.size, 7, none⟩))) rfl rfl (fun w' x' => x_fieldAddr fld_33_5 rfl e148 rfl) ?_
                refine q_val (v := .slice pa.B a.writes.length pa.m) rfl rfl (fun w' x' => x_load rfl rfl (((((((((((((b2.ext x29).ext x43).ext x57).ext x75).ext x77).ext x79).ext x89).ext x133).ext x135).ext x137).ext x147).ext x').one one_31 rfl)) ?_
                refine q_val (v := .int .i64 (a.writes.length : Int)) rfl rfl (fun w' x' => x_len_slice sl_31 rfl rfl) ?_
                refine q_val (v := .bool false) rfl rfl (fun w' x' => yb (x_lss rfl rfl rfl) (decide_eq_false (by omega))) ?_
                refine q_nil (fun w186 x187 => ?_)
                refine t_norm ?_
                refine c_false rfl ?_
                refine c_exit ?_
                refine t_exit (t_exit (b_exit (t_norm ?_)))
                refine c_seq ?_
                refine c_quiet ?_
                refine q_val (v := .slice A83 k80 c84) rfl rfl (fun w' x' => x_move rfl e149) ?_
                refine q_callb (b := rightKeys (a.reads.map (·.key))) (vs := #[.slice A83 k80 c84]) fn_42 rfl rfl rfl (args1 rfl) (fun w' x' => D_rightKeys _ _ _ _ (a.reads.map (·.key)) he131 ((((((hr130.ext x133).ext x135).ext x137).ext x147).ext x187).ext x') (by simp; omega)) (fun c188 => ?_) (fun c188 => ?_)
                ·refine q_val (v := .bool true) rfl rfl (fun w' x' => x_move rfl rfl) ?_
                 refine q_val (v := .slice A141 k138 c142) rfl rfl (fun w' x' => x_move rfl e150) ?_
                 refine q_callb (b := rightKeys (a.writes.map (·.key))) (vs := #[.slice A141 k138 c142]) fn_42 rfl rfl rfl (args1 rfl) (fun w' x' => D_rightKeys _ _ _ _ (a.writes.map (·.key)) he185 ((hr184.ext x187).ext x') (by simp; omega)) (fun c189 => ?_) (fun c189 => ?_)
                 ·refine q_val (v := .bool true) rfl rfl (fun w' x' => x_pick_t rfl rfl rfl) ?_
                  refine q_val (v := .bool true) rfl rfl (fun w' x' => x_assign rfl rfl) ?_
                  refine q_nil (fun w190 x191 => ?_)
                  refine t_norm ?_
                  refine c_ret ?_
                  exact c_done rfl rfl (Ret.b (rightCmd_end (by simpa using c5) (all_end hi82 hl93) (all_end hi140 hl152) c188 (fun _ => c189) (fun h => by cases h) (by clear ha; simp only [empty_len] at *; simp_all [-List.length_eq_zero_iff] <;> first | omega | (intros; omega) | (intros; simp_all [-List.length_eq_zero_iff] <;> omega))) (((((((((((((x3.trans x29).trans x43).trans x57).trans x75).trans x77).trans x79).trans x89).trans x133).trans x135).trans x137).trans x147).trans x187).trans x191))
                 ·refine q_val (v := .bool false) rfl rfl (fun w' x' => x_pick_t rfl rfl rfl) ?_
                  refine q_val (v := .bool false) rfl rfl (fun w' x' => x_assign rfl rfl) ?_
                  refine q_nil (fun w192 x193 => ?_)
                  refine t_norm ?_
                  refine c_ret ?_
                  exact c_done rfl rfl (Ret.b (rightCmd_end (by simpa using c5) (all_end hi82 hl93) (all_end hi140 hl152) c188 (fun _ => c189) (fun h => by cases h) (by clear ha; simp only [empty_len] at *; simp_all [-List.length_eq_zero_iff] <;> first | omega | (intros; omega) | (intros; simp_all [-List.length_eq_zero_iff] <;> omega))) (((((((((((((x3.trans x29).trans x43).trans x57).trans x75).trans x77).trans x79).trans x89).trans x133).trans x135).trans x137).trans x147).trans x187).trans x193))
                ·refine q_val (v := .bool false) rfl rfl (fun w' x' => x_move rfl rfl) ?_
                 refine q_skip rfl rfl ?_
                 refine q_skip rfl rfl ?_
                 refine q_val (v := .bool false) rfl rfl (fun w' x' => x_pick_f rfl rfl rfl) ?_
                 refine q_val (v := .bool false) rfl rfl (fun w' x' => x_assign rfl rfl) ?_
                 refine q_nil (fun w194 x195 => ?_)
                 refine t_norm ?_
                 refine c_ret ?_
                 exact c_done rfl rfl (Ret.b (rightCmd_end (by simpa using c5) (all_end hi82 hl93) (all_end hi140 hl152) c188 (fun h => by cases h) (fun _ => rfl) (by clear ha; simp only [empty_len] at *; simp_all [-List.length_eq_zero_iff] <;> first | omega | (intros; omega) | (intros; simp_all [-List.length_eq_zero_iff] <;> omega))) (((((((((((((x3.trans x29).trans x43).trans x57).trans x75).trans x77).trans x79).trans x89).trans x133).trans x135).trans x137).trans x147).trans x187).trans x195))
            ·refine q_val (v := .bool false) rfl rfl (fun w' x' => x_move rfl rfl) ?_
             refine q_skip rfl rfl ?_
             refine q_skip rfl rfl ?_
             refine q_skip rfl rfl ?_
             refine q_skip rfl rfl ?_
             refine q_val (v := .bool false) rfl rfl (fun w' x' => x_pick_f rfl rfl rfl) ?_
             refine q_val (v := .bool false) rfl rfl (fun w' x' => x_pick_f rfl rfl rfl) ?_
             refine q_nil (fun w196 x197 => ?_)
             refine t_norm ?_
             refine c_false rfl ?_
             refine c_skip ?_
             refine t_norm ?_
             refine c_seq ?_
             refine c_quiet ?_
             refine q_val (v := .slice none 0 0) rfl rfl (fun w' x' => x_assign rfl rfl) ?_
             refine q_nil (fun w198 x199 => ?_)
             refine t_norm ?_
             refine c_seq ?_
             refine c_seq ?_
             refine c_quiet ?_
             refine q_val (v := .int .i64 0) rfl rfl (fun w' x' => x_assign rfl rfl) ?_
             refine q_nil (fun w200 x201 => ?_)
             refine t_norm ?_
             refine c_block ?_
             refine c_loop (fun ρ w210 => ∃ k202 : Nat, ∃ A205 : Option Addr, ∃ c206 : Nat, k202 ≤ a.reads.length ∧ (a.reads.take k202).all (oldRd a) = true ∧ World.ownsRow w210 w200.heap.size 9 1 (.slice A205 k202 c206) k202 (((a.reads.map (·.key)).take k202).flatMap fStr) ∧ k202 ≤ c206 ∧ c206 ≤ 9223372036854775807 ∧ ρ 1 = .pointer (some (⟨w.heap.size, 0, none⟩)) ∧ ρ 3 = .slice A205 k202 c206 ∧ ρ 4 = .int .i64 (k202 : Int) ∧ Ext w200 w210) (fun ρ _ => a.reads.length - (intOf (ρ 4)).toNat) ⟨0, none, 0, Nat.zero_le _, rfl, own_nil _ _ _ _, Nat.le_refl _, Nat.zero_le _, rfl, rfl, rfl, Ext.refl _⟩ ?_
             rintro ρ w210 ⟨k202, A205, c206, hk203, hi204, ho207, h208, h209, e212, e213, e214, x211⟩
             by_cases hl215 : k202 < a.reads.length
             ·obtain ⟨y216, hx217⟩ := some_of (l := a.reads) (k := k202) (by omega)
              obtain ⟨ad218, cs219, eA220, hK221, hE222⟩ := ha.reads k202 y216 hx217
              have hK221' : cs219 = [.string y216.key, .int .i64 y216.ver.time, .int .i64 y216.ver.client] := hK221
              subst hK221'
              refine c_seq ?_
              refine c_seq ?_
              refine c_quiet ?_
              refine q_val (v := .int .i64 (k202 : Int)) rfl rfl (fun w' x' => x_move rfl e214) ?_
              refine q_val (v := .pointer (some (⟨w.heap.size, 6, none⟩))) rfl rfl (fun w' x' => x_fieldAddr fld_33_4 rfl e212 rfl) ?_
              refine q_val (v := .slice pa.A a.reads.length pa.n) rfl rfl (fun w' x' => x_load rfl rfl (((((((((b2.ext x29).ext x43).ext x57).ext x197).ext x199).ext x201).ext x211).ext x').one one_30 rfl)) ?_
              refine q_val (v := .int .i64 (a.reads.length : Int)) rfl rfl (fun w' x' => x_len_slice sl_30 rfl rfl) ?_
              refine q_val (v := .bool true) rfl rfl (fun w' x' => yb (x_lss rfl rfl rfl) (decide_eq_true (by omega))) ?_
              refine q_nil (fun w224 x225 => ?_)
              refine t_norm ?_
              refine c_true rfl ?_
              refine c_skip ?_
              refine t_norm ?_
              refine c_seq ?_
              refine c_block ?_
              refine c_seq ?_
              refine c_seq ?_
              refine c_draw mixed (by kernel_rfl) ?_
              refine q_val (v := .pointer (some (⟨w.heap.size, 6, none⟩))) rfl rfl (fun w' x' => x_fieldAddr fld_33_4 rfl e212 rfl) ?_
              refine q_val (v := .slice pa.A a.reads.length pa.n) rfl rfl (fun w' x' => x_load rfl rfl ((((((((((b2.ext x29).ext x43).ext x57).ext x197).ext x199).ext x201).ext x211).ext x225).ext x').one one_30 rfl)) ?_
              refine q_val (v := .int .i64 (k202 : Int)) rfl rfl (fun w' x' => x_move rfl e214) ?_
              refine q_val (v := .pointer (some (ad218.add (k202 * 3)))) rfl rfl (fun w' x' => x_indexAddr sl_30 rfl rfl eA220 rfl (by omega) (by omega) rfl) ?_
              refine q_val (v := .pointer (some ((ad218.add (k202 * 3)).add 1))) rfl rfl (fun w' x' => x_fieldAddr fld_64_1 rfl rfl rfl) ?_
              refine q_val (v := .agg #[.int .i64 y216.ver.time, .int .i64 y216.ver.client]) rfl rfl (fun w' x' => x_load rfl rfl (((((((((((hE222.ext x3).ext x29).ext x43).ext x57).ext x197).ext x199).ext x201).ext x211).ext x225).ext x').agg (vs := [.int .i64 y216.ver.time, .int .i64 y216.ver.client]) agg_29_2 1 rfl rfl)) ?_
              refine q_callb (b := rightStp y216.ver) (vs := #[.agg #[.int .i64 y216.ver.time, .int .i64 y216.ver.client]]) fn_40 rfl rfl rfl (args1 rfl) (fun w' x' => D_rightStp _ y216.ver) (fun c226 => ?_) (fun c226 => ?_)
              ·refine q_val (v := .bool false) rfl rfl (fun w' x' => x_not (b := true) rfl rfl) ?_
               refine q_val (v := .bool false) rfl rfl (fun w' x' => x_move rfl rfl) ?_
               refine q_val (v := .pointer (some (⟨w.heap.size, 6, none⟩))) rfl rfl (fun w' x' => x_fieldAddr fld_33_4 rfl e212 rfl) ?_
               refine q_val (v := .slice pa.A a.reads.length pa.n) rfl rfl (fun w' x' => x_load rfl rfl ((((((((((b2.ext x29).ext x43).ext x57).ext x197).ext x199).ext x201).ext x211).ext x225).ext x').one one_30 rfl)) ?_
               refine q_val (v := .int .i64 (k202 : Int)) rfl rfl (fun w' x' => x_move rfl e214) ?_
               refine q_val (v := .pointer (some (ad218.add (k202 * 3)))) rfl rfl (fun w' x' => x_indexAddr sl_30 rfl rfl eA220 rfl (by omega) (by omega) rfl) ?_
               refine q_val (v := .pointer (some ((ad218.add (k202 * 3)).add 1))) rfl rfl (fun w' x' => x_fieldAddr fld_64_1 rfl rfl rfl) ?_
               refine q_val (v := .agg #[.int .i64 y216.ver.time, .int .i64 y216.ver.client]) rfl rfl (fun w' x' => x_load rfl rfl (((((((((((hE222.ext x3).ext x29).ext x43).ext x57).ext x197).ext x199).ext x201).ext x211).ext x225).ext x').agg (vs := [.int .i64 y216.ver.time, .int .i64 y216.ver.client]) agg_29_2 1 rfl rfl)) ?_
               refine q_val (v := .pointer (some (⟨w.heap.size, 3, none⟩))) rfl rfl (fun w' x' => x_fieldAddr fld_33_2 rfl e212 rfl) ?_
               refine q_val (v := .agg #[.int .i64 a.stp.time, .int .i64 a.stp.client]) rfl rfl (fun w' x' => x_load rfl rfl ((((((((((b2.ext x29).ext x43).ext x57).ext x197).ext x199).ext x201).ext x211).ext x225).ext x').agg (vs := [.int .i64 a.stp.time, .int .i64 a.stp.client]) agg_29_2 rfl)) ?_
               refine q_callb (b := decide (cmpStp y216.ver a.stp < 0)) (vs := #[.agg #[.int .i64 y216.ver.time, .int .i64 y216.ver.client], .agg #[.int .i64 a.stp.time, .int .i64 a.stp.client]]) fn_41 rfl rfl rfl (args2 rfl rfl) (fun w' x' => D_before _ y216.ver a.stp) (fun c227 => ?_) (fun c227 => ?_)
               ·refine q_val (v := .bool false) rfl rfl (fun w' x' => x_not (b := true) rfl rfl) ?_
                refine q_val (v := .bool false) rfl rfl (fun w' x' => x_pick_f rfl rfl rfl) ?_
                refine q_nil (fun w228 x229 => ?_)
                refine t_norm ?_
                refine c_false rfl ?_
                refine c_skip ?_
                refine t_norm ?_
                refine c_plain ?_
                refine p_val (v := .slice A205 k202 c206) rfl rfl (x_move rfl e213) ?_
                refine p_val (v := .pointer (some (⟨w.heap.size, 6, none⟩))) rfl rfl (x_fieldAddr fld_33_4 rfl e212 rfl) ?_
                refine p_val (v := .slice pa.A a.reads.length pa.n) rfl rfl (x_load rfl rfl ((((((((((b2.ext x29).ext x43).ext x57).ext x197).ext x199).ext x201).ext x211).ext x225).ext x229).one one_30 rfl)) ?_
                refine p_val (v := .int .i64 (k202 : Int)) rfl rfl (x_move rfl e214) ?_
                refine p_val (v := .pointer (some (ad218.add (k202 * 3)))) rfl rfl (x_indexAddr sl_30 rfl rfl eA220 rfl (by omega) (by omega) rfl) ?_
                refine p_val (v := .pointer (some (ad218.add (k202 * 3)))) rfl rfl (x_fieldAddr fld_64_0 rfl rfl rfl) ?_
                refine p_val (v := .string y216.key) rfl rfl (x_load rfl rfl (((((((((((hE222.ext x3).ext x29).ext x43).ext x57).ext x197).ext x199).ext x201).ext x211).ext x225).ext x229).one one_9 0 rfl rfl)) ?_
                refine p_buildSlice (cs := [.string y216.key]) el_79 rfl rfl rfl (parts1 rfl) (by decide) (by decide) (fill_ok [.string y216.key] [.string y216.key] rfl rfl) (fun w230 b231 x232 z233 => ?_)
                refine p_append (B := w200.heap.size) (k := k202) (m := 1) (cs := (((a.reads.map (·.key)).take k202).flatMap fStr)) (news := [.string y216.key]) (ad := ⟨w228.heap.size, 0, none⟩) el_79 rfl rfl rfl rfl (own_ext ho207 ((x225.trans x229).trans x232)) rfl rfl b231.put rfl (by omega) (by omega) (((x211.trans x225).trans x229).trans x232).size (fun A238 c239 w234 o235 bl236 gr237 h240 h241 => ?_)
                refine p_val (v := .slice A238 (k202 + 1) c239) rfl rfl (x_assign rfl rfl) ?_
                refine p_nil ?_
                refine b_norm (t_norm ?_)
                refine c_quiet ?_
                refine q_val (v := .int .i64 (k202 : Int)) rfl rfl (fun w' x' => x_move rfl e214) ?_
                refine q_val (v := .int .i64 ((k202 : Int) + 1)) rfl rfl (fun w' x' => x_add rfl rfl rfl (wrap_of (by omega) (by omega))) ?_
                refine q_val (v := .int .i64 ((k202 : Int) + 1)) rfl rfl (fun w' x' => x_assign rfl rfl) ?_
                refine q_nil (fun w242 x243 => ?_)
                refine t_norm ?_
                exact ⟨_, rfl, ⟨k202 + 1, A238, c239, by omega, all_step (p := oldRd a) hi204 hx217 (by simp_all [oldRd]), (by rw [← flat_step (map_of (g := fun z => z.key) hx217)]; exact (own_ext o235 x243)), h240, h241, e212, rfl, rfl, (((((x211.trans x225).trans x229).trans x232).below (Nat.le_refl _) bl236).trans x243)⟩, meas_up e214 hl215⟩
               ·refine q_val (v := .bool true) rfl rfl (fun w' x' => x_not (b := false) rfl rfl) ?_
                refine q_val (v := .bool true) rfl rfl (fun w' x' => x_pick_f rfl rfl rfl) ?_
                refine q_nil (fun w244 x245 => ?_)
                refine t_norm ?_
                refine c_true rfl ?_
                refine c_seq ?_
                refine c_quiet ?_
                refine q_val (v := .bool false) rfl rfl (fun w' x' => x_assign rfl rfl) ?_
                refine q_nil (fun w246 x247 => ?_)
                refine t_norm ?_
                refine c_ret ?_
                refine t_ret (b_ret (t_ret (t_ret (b_ret (t_ret ?_)))))
                exact c_done rfl rfl (Ret.b ((rightCmd_reads (by simpa using c5) (all_fail (p := oldRd a) hx217 (by simp only [oldRd]; simp_all))).symm) ((((((((((x3.trans x29).trans x43).trans x57).trans x197).trans x199).trans x201).trans x211).trans x225).trans x245).trans x247))
              ·refine q_val (v := .bool true) rfl rfl (fun w' x' => x_not (b := false) rfl rfl) ?_
               refine q_val (v := .bool true) rfl rfl (fun w' x' => x_move rfl rfl) ?_
               refine q_skip rfl rfl ?_
               refine q_skip rfl rfl ?_
               refine q_skip rfl rfl ?_
               refine q_skip rfl rfl ?_
               refine q_skip rfl rfl ?_
               refine q_skip rfl rfl ?_
               refine q_skip rfl rfl ?_
               refine q_skip rfl rfl ?_
               refine q_skip rfl rfl ?_
               refine q_skip rfl rfl ?_
               refine q_val (v := .bool true) rfl rfl (fun w' x' => x_pick_t rfl rfl rfl) ?_
               refine q_nil (fun w248 x249 => ?_)
               refine t_norm ?_
               refine c_true rfl ?_
               refine c_seq ?_
               refine c_quiet ?_
               refine q_val (v := .bool false) rfl rfl (fun w' x' => x_assign rfl rfl) ?_
               refine q_nil (fun w250 x251 => ?_)
               refine t_norm ?_
               refine c_ret ?_
               refine t_ret (b_ret (t_ret (t_ret (b_ret (t_ret ?_)))))
               exact c_done rfl rfl (Ret.b ((rightCmd_reads (by simpa using c5) (all_fail (p := oldRd a) hx217 (by simp only [oldRd]; simp_all))).symm) ((((((((((x3.trans x29).trans x43).trans x57).trans x197).trans x199).trans x201).trans x211).trans x225).trans x249).trans x251))
             ·have hr252 := own_lies (d := kStr) (xs := a.reads.map (·.key)) (by rw [show (a.reads.map (·.key)) = (a.reads.map (·.key)).take k202 from by rw [List.take_of_length_le (by simp; omega)]]; exact ho207) (by simp; omega) (fun _ => rfl) (fun _ => rfl)
              have he253 : k202 = (a.reads.map (·.key)).length := by simp; omega
              refine c_seq ?_
              refine c_seq ?_
              refine c_quiet ?_
              refine q_val (v := .int .i64 (k202 : Int)) rfl rfl (fun w' x' => x_move rfl e214) ?_
              refine q_val (v := .pointer (some (⟨w.heap.size, 6, none⟩))) rfl rfl (fun w' x' => x_fieldAddr fld_33_4 rfl e212 rfl) ?_
              refine q_val (v := .slice pa.A a.reads.length pa.n) rfl rfl (fun w' x' => x_load rfl rfl (((((((((b2.ext x29).ext x43).ext x57).ext x197).ext x199).ext x201).ext x211).ext x').one one_30 rfl)) ?_
              refine q_val (v := .int .i64 (a.reads.length : Int)) rfl rfl (fun w' x' => x_len_slice sl_30 rfl rfl) ?_
              refine q_val (v := .bool false) rfl rfl (fun w' x' => yb (x_lss rfl rfl rfl) (decide_eq_false (by omega))) ?_
              refine q_nil (fun w254 x255 => ?_)
              refine t_norm ?_
              refine c_false rfl ?_
              refine c_exit ?_
              refine t_exit (t_exit (b_exit (t_norm ?_)))
              refine c_seq ?_
              refine c_quiet ?_
              refine q_val (v := .slice none 0 0) rfl rfl (fun w' x' => x_assign rfl rfl) ?_
              refine q_nil (fun w256 x257 => ?_)
              refine t_norm ?_
              refine c_seq ?_
              refine c_seq ?_
              refine c_quiet ?_
              refine q_val (v := .int .i64 0) rfl rfl (fun w' x' => x_assign rfl rfl) ?_
              refine q_nil (fun w258 x259 => ?_)
              refine t_norm ?_
              refine c_block ?_
              refine c_loop (fun ρ w268 => ∃ k260 : Nat, ∃ A263 : Option Addr, ∃ c264 : Nat, k260 ≤ a.writes.length ∧ (a.writes.take k260).all (fun x : Wr => decide (x.val.size ≤ 8)) = true ∧ World.ownsRow w268 w258.heap.size 9 1 (.slice A263 k260 c264) k260 (((a.writes.map (·.key)).take k260).flatMap fStr) ∧ k260 ≤ c264 ∧ c264 ≤ 9223372036854775807 ∧ ρ 1 = .pointer (some (⟨w.heap.size, 0, none⟩)) ∧ ρ 3 = .slice A205 k202 c206 ∧ ρ 5 = .slice A263 k260 c264 ∧ ρ 6 = .int .i64 (k260 : Int) ∧ Ext w258 w268) (fun ρ _ => a.writes.length - (intOf (ρ 6)).toNat) ⟨0, none, 0, Nat.zero_le _, rfl, own_nil _ _ _ _, Nat.le_refl _, Nat.zero_le _, e212, e213, rfl, rfl, Ext.refl _⟩ ?_
              rintro ρ w268 ⟨k260, A263, c264, hk261, hi262, ho265, h266, h267, e270, e271, e272, e273, x269⟩
              by_cases hl274 : k260 < a.writes.length
              ·obtain ⟨y275, hx276⟩ := some_of (l := a.writes) (k := k260) (by omega)
               obtain ⟨ad277, cs278, eA279, hK280, hE281⟩ := ha.writes k260 y275 hx276
               have hK280' : cs278 = [.string y275.key, .string y275.val] := hK280
               subst hK280'
               refine c_seq ?_
               refine c_seq ?_
               refine c_quiet ?_
               refine q_val (v := .int .i64 (k260 : Int)) rfl rfl (fun w' x' => x_move rfl e273) ?_
               refine q_val (v := .pointer (some (⟨w.heap.size, 7, none⟩))) rfl rfl (fun w' x' => x_fieldAddr fld_33_5 rfl e270 rfl) ?_
               refine q_val (v := .slice pa.B a.writes.length pa.m) rfl rfl (fun w' x' => x_load rfl rfl (((((((((((((b2.ext x29).ext x43).ext x57).ext x197).ext x199).ext x201).ext x211).ext x255).ext x257).ext x259).ext x269).ext x').one one_31 rfl)) ?_
               refine q_val (v := .int .i64 (a.writes.length : Int)) rfl rfl (fun w' x' => x_len_slice sl_31 rfl rfl) ?_
               refine q_val (v := .bool true) rfl rfl (fun w' x' => yb (x_lss rfl rfl rfl) (decide_eq_true (by omega))) ?_
               refine q_nil (fun w283 x284 => ?_)
               refine t_norm ?_
               refine c_true rfl ?_
               refine c_skip ?_
               refine t_norm ?_
               refine c_seq ?_
               refine c_block ?_
               refine c_seq ?_
               refine c_seq ?_
               refine c_quiet ?_
               refine q_val (v := .pointer (some (⟨w.heap.size, 7, none⟩))) rfl rfl (fun w' x' => x_fieldAddr fld_33_5 rfl e270 rfl) ?_
               refine q_val (v := .slice pa.B a.writes.length pa.m) rfl rfl (fun w' x' => x_load rfl rfl ((((((((((((((b2.ext x29).ext x43).ext x57).ext x197).ext x199).ext x201).ext x211).ext x255).ext x257).ext x259).ext x269).ext x284).ext x').one one_31 rfl)) ?_
               refine q_val (v := .int .i64 (k260 : Int)) rfl rfl (fun w' x' => x_move rfl e273) ?_
               refine q_val (v := .pointer (some (ad277.add (k260 * 2)))) rfl rfl (fun w' x' => x_indexAddr sl_31 rfl rfl eA279 rfl (by omega) (by omega) rfl) ?_
               refine q_val (v := .pointer (some ((ad277.add (k260 * 2)).add 1))) rfl rfl (fun w' x' => x_fieldAddr fld_66_1 rfl rfl rfl) ?_
               refine q_val (v := .string y275.val) rfl rfl (fun w' x' => x_load rfl rfl (((((((((((((((hE281.ext x3).ext x29).ext x43).ext x57).ext x197).ext x199).ext x201).ext x211).ext x255).ext x257).ext x259).ext x269).ext x284).ext x').one one_9 1 rfl rfl)) ?_
               refine q_val (v := .int .i64 (y275.val.size : Int)) rfl rfl (fun w' x' => x_len_string str_9 rfl rfl) ?_
               refine q_bool (b := decide ((y275.val.size : Int) > 8)) rfl rfl (fun w' x' => x_gtr rfl rfl rfl) (fun c285 => ?_) (fun c285 => ?_)
               ·refine q_nil (fun w286 x287 => ?_)
                refine t_norm ?_
                refine c_true rfl ?_
                refine c_seq ?_
                refine c_quiet ?_
                refine q_val (v := .bool false) rfl rfl (fun w' x' => x_assign rfl rfl) ?_
                refine q_nil (fun w288 x289 => ?_)
                refine t_norm ?_
                refine c_ret ?_
                refine t_ret (b_ret (t_ret (t_ret (b_ret (t_ret ?_)))))
                exact c_done rfl rfl (Ret.b ((rightCmd_writes (by simpa using c5) (all_fail (p := fun x : Wr => decide (x.val.size ≤ 8)) hx276 (by simp_all <;> omega))).symm) ((((((((((((((x3.trans x29).trans x43).trans x57).trans x197).trans x199).trans x201).trans x211).trans x255).trans x257).trans x259).trans x269).trans x284).trans x287).trans x289))
               ·refine q_nil (fun w290 x291 => ?_)
                refine t_norm ?_
                refine c_false rfl ?_
                refine c_skip ?_
                refine t_norm ?_
                refine c_plain ?_
                refine p_val (v := .slice A263 k260 c264) rfl rfl (x_move rfl e272) ?_
                refine p_val (v := .pointer (some (⟨w.heap.size, 7, none⟩))) rfl rfl (x_fieldAddr fld_33_5 rfl e270 rfl) ?_
                refine p_val (v := .slice pa.B a.writes.length pa.m) rfl rfl (x_load rfl rfl ((((((((((((((b2.ext x29).ext x43).ext x57).ext x197).ext x199).ext x201).ext x211).ext x255).ext x257).ext x259).ext x269).ext x284).ext x291).one one_31 rfl)) ?_
                refine p_val (v := .int .i64 (k260 : Int)) rfl rfl (x_move rfl e273) ?_
                refine p_val (v := .pointer (some (ad277.add (k260 * 2)))) rfl rfl (x_indexAddr sl_31 rfl rfl eA279 rfl (by omega) (by omega) rfl) ?_
                refine p_val (v := .pointer (some (ad277.add (k260 * 2)))) rfl rfl (x_fieldAddr fld_66_0 rfl rfl rfl) ?_
                refine p_val (v := .string y275.key) rfl rfl (x_load rfl rfl (((((((((((((((hE281.ext x3).ext x29).ext x43).ext x57).ext x197).ext x199).ext x201).ext x211).ext x255).ext x257).ext x259).ext x269).ext x284).ext x291).one one_9 0 rfl rfl)) ?_
                refine p_buildSlice (cs := [.string y275.key]) el_79 rfl rfl rfl (parts1 rfl) (by decide) (by decide) (fill_ok [.string y275.key] [.string y275.key] rfl rfl) (fun w292 b293 x294 z295 => ?_)
                refine p_append (B := w258.heap.size) (k := k260) (m := 1) (cs := (((a.writes.map (·.key)).take k260).flatMap fStr)) (news := [.string y275.key]) (ad := ⟨w290.heap.size, 0, none⟩) el_79 rfl rfl rfl rfl (own_ext ho265 ((x284.trans x291).trans x294)) rfl rfl b293.put rfl (by omega) (by omega) (((x269.trans x284).trans x291).trans x294).size (fun A300 c301 w296 o297 bl298 gr299 h302 h303 => ?_)
                refine p_val (v := .slice A300 (k260 + 1) c301) rfl rfl (x_assign rfl rfl) ?_
                refine p_nil ?_
                refine b_norm (t_norm ?_)
                refine c_quiet ?_
                refine q_val (v := .int .i64 (k260 : Int)) rfl rfl (fun w' x' => x_move rfl e273) ?_
                refine q_val (v := .int .i64 ((k260 : Int) + 1)) rfl rfl (fun w' x' => x_add rfl rfl rfl (wrap_of (by omega) (by omega))) ?_
                refine q_val (v := .int .i64 ((k260 : Int) + 1)) rfl rfl (fun w' x' => x_assign rfl rfl) ?_
                refine q_nil (fun w304 x305 => ?_)
                refine t_norm ?_
                exact ⟨_, rfl, ⟨k260 + 1, A300, c301, by omega, all_step (p := fun x : Wr => decide (x.val.size ≤ 8)) hi262 hx276 (by simp_all <;> omega), (by rw [← flat_step (map_of (g := fun z => z.key) hx276)]; exact (own_ext o297 x305)), h302, h303, e270, e271, rfl, rfl, (((((x269.trans x284).trans x291).trans x294).below (Nat.le_refl _) bl298).trans x305)⟩, meas_up e273 hl274⟩
              ·have hr306 := own_lies (d := kStr) (xs := a.writes.map (·.key)) (by rw [show (a.writes.map (·.key)) = (a.writes.map (·.key)).take k260 from by rw [List.take_of_length_le (by simp; omega)]]; exact ho265) (by simp; omega) (fun _ => rfl) (fun _ => rfl)
               have he307 : k260 = (a.writes.map (·.key)).length := by simp; omega
               refine c_seq ?_
               refine c_seq ?_
               refine c_quiet ?_
               refine q_val (v := .int .i64 (k260 : Int)) rfl rfl (fun w' x' => x_move rfl e273) ?_
               refine q_val (v := .pointer (some (⟨w.heap.size, 7, none⟩))) rfl rfl (fun w' x' => x_fieldAddr fld_33_5 rfl e270 rfl) ?_
               refine q_val (v := .slice pa.B a.writes.length pa.m) rfl rfl (fun w' x' => x_load rfl rfl (((((((((((((b2.ext x29).ext x43).ext x57).ext x197).ext x199).ext x201).ext x211).ext x255).ext x257).ext x259).ext x269).ext x').one one_31 rfl)) ?_
               refine q_val (v := .int .i64 (a.writes.length : Int)) rfl rfl (fun w' x' => x_len_slice sl_31 rfl rfl) ?_
               refine q_val (v := .bool false) rfl rfl (fun w' x' => yb (x_lss rfl rfl rfl) (decide_eq_false (by omega))) ?_
               refine q_nil (fun w308 x309 => ?_)
               refine t_norm ?_
               refine c_false rfl ?_
               refine c_exit ?_
               refine t_exit (t_exit (b_exit (t_norm ?_)))
               refine c_seq ?_
               refine c_quiet ?_
               refine q_val (v := .slice A205 k202 c206) rfl rfl (fun w' x' => x_move rfl e271) ?_
               refine q_callb (b := rightKeys (a.reads.map (·.key))) (vs := #[.slice A205 k202 c206]) fn_42 rfl rfl rfl (args1 rfl) (fun w' x' => D_rightKeys _ _ _ _ (a.reads.map (·.key)) he253 ((((((hr252.ext x255).ext x257).ext x259).ext x269).ext x309).ext x') (by simp; omega)) (fun c310 => ?_) (fun c310 => ?_)
               ·refine q_val (v := .bool true) rfl rfl (fun w' x' => x_move rfl rfl) ?_
                refine q_val (v := .slice A263 k260 c264) rfl rfl (fun w' x' => x_move rfl e272) ?_
                refine q_callb (b := rightKeys (a.writes.map (·.key))) (vs := #[.slice A263 k260 c264]) fn_42 rfl rfl rfl (args1 rfl) (fun w' x' => D_rightKeys _ _ _ _ (a.writes.map (·.key)) he307 ((hr306.ext x309).ext x') (by simp; omega)) (fun c311 => ?_) (fun c311 => ?_)
                ·refine q_val (v := .bool true) rfl rfl (fun w' x' => x_pick_t rfl rfl rfl) ?_
                 refine q_val (v := .bool true) rfl rfl (fun w' x' => x_assign rfl rfl) ?_
                 refine q_nil (fun w312 x313 => ?_)
                 refine t_norm ?_
                 refine c_ret ?_
                 exact c_done rfl rfl (Ret.b (rightCmd_end (by simpa using c5) (all_end hi204 hl215) (all_end hi262 hl274) c310 (fun _ => c311) (fun h => by cases h) (by clear ha; simp only [empty_len] at *; simp_all [-List.length_eq_zero_iff] <;> first | omega | (intros; omega) | (intros; simp_all [-List.length_eq_zero_iff] <;> omega))) (((((((((((((x3.trans x29).trans x43).trans x57).trans x197).trans x199).trans x201).trans x211).trans x255).trans x257).trans x259).trans x269).trans x309).trans x313))
                ·refine q_val (v := .bool false) rfl rfl (fun w' x' => x_pick_t rfl rfl rfl) ?_
                 refine q_val (v := .bool false) rfl rfl (fun w' x' => x_assign rfl rfl) ?_
                 refine q_nil (fun w314 x315 => ?_)
                 refine t_norm ?_
                 refine c_ret ?_
                 exact c_done rfl rfl (Ret.b (rightCmd_end (by simpa using c5) (all_end hi204 hl215) (all_end hi262 hl274) c310 (fun _ => c311) (fun h => by cases h) (by clear ha; simp only [empty_len] at *; simp_all [-List.length_eq_zero_iff] <;> first | omega | (intros; omega) | (intros; simp_all [-List.length_eq_zero_iff] <;> omega))) (((((((((((((x3.trans x29).trans x43).trans x57).trans x197).trans x199).trans x201).trans x211).trans x255).trans x257).trans x259).trans x269).trans x309).trans x315))
               ·refine q_val (v := .bool false) rfl rfl (fun w' x' => x_move rfl rfl) ?_
                refine q_skip rfl rfl ?_
                refine q_skip rfl rfl ?_
                refine q_val (v := .bool false) rfl rfl (fun w' x' => x_pick_f rfl rfl rfl) ?_
                refine q_val (v := .bool false) rfl rfl (fun w' x' => x_assign rfl rfl) ?_
                refine q_nil (fun w316 x317 => ?_)
                refine t_norm ?_
                refine c_ret ?_
                exact c_done rfl rfl (Ret.b (rightCmd_end (by simpa using c5) (all_end hi204 hl215) (all_end hi262 hl274) c310 (fun h => by cases h) (fun _ => rfl) (by clear ha; simp only [empty_len] at *; simp_all [-List.length_eq_zero_iff] <;> first | omega | (intros; omega) | (intros; simp_all [-List.length_eq_zero_iff] <;> omega))) (((((((((((((x3.trans x29).trans x43).trans x57).trans x197).trans x199).trans x201).trans x211).trans x255).trans x257).trans x259).trans x269).trans x309).trans x317))
       ·refine q_val (v := .bool true) rfl rfl (fun w' x' => x_not (b := false) rfl rfl) ?_
        refine q_val (v := .bool true) rfl rfl (fun w' x' => x_pick_f rfl rfl rfl) ?_
        refine q_val (v := .bool true) rfl rfl (fun w' x' => x_move rfl rfl) ?_
        refine q_skip rfl rfl ?_
        refine q_skip rfl rfl ?_
        refine q_skip rfl rfl ?_
        refine q_skip rfl rfl ?_
        refine q_val (v := .bool true) rfl rfl (fun w' x' => x_pick_t rfl rfl rfl) ?_
        refine q_val (v := .bool true) rfl rfl (fun w' x' => x_move rfl rfl) ?_
        refine q_skip rfl rfl ?_
        refine q_skip rfl rfl ?_
        refine q_skip rfl rfl ?_
        refine q_skip rfl rfl ?_
        refine q_skip rfl rfl ?_
        refine q_skip rfl rfl ?_
        refine q_skip rfl rfl ?_
        refine q_val (v := .bool true) rfl rfl (fun w' x' => x_pick_t rfl rfl rfl) ?_
        refine q_nil (fun w318 x319 => ?_)
        refine t_norm ?_
        refine c_true rfl ?_
        refine c_seq ?_
        refine c_quiet ?_
        refine q_val (v := .bool false) rfl rfl (fun w' x' => x_assign rfl rfl) ?_
        refine q_nil (fun w320 x321 => ?_)
        refine t_norm ?_
        refine c_ret ?_
        refine t_ret ?_
        exact c_done rfl rfl (Ret.b ((rightCmd_head (by simpa using c5) (by clear ha; simp only [empty_len] at *; simp_all [-List.length_eq_zero_iff] <;> first | omega | (intros; omega) | (intros; simp_all [-List.length_eq_zero_iff] <;> omega))).symm) ((((x3.trans x29).trans x43).trans x319).trans x321))
      ·refine q_val (v := .bool true) rfl rfl (fun w' x' => x_not (b := false) rfl rfl) ?_
       refine q_val (v := .bool true) rfl rfl (fun w' x' => x_move rfl rfl) ?_
       refine q_skip rfl rfl ?_
       refine q_skip rfl rfl ?_
       refine q_skip rfl rfl ?_
       refine q_skip rfl rfl ?_
       refine q_val (v := .bool true) rfl rfl (fun w' x' => x_pick_t rfl rfl rfl) ?_
       refine q_val (v := .bool true) rfl rfl (fun w' x' => x_move rfl rfl) ?_
       refine q_skip rfl rfl ?_
       refine q_skip rfl rfl ?_
       refine q_skip rfl rfl ?_
       refine q_skip rfl rfl ?_
       refine q_val (v := .bool true) rfl rfl (fun w' x' => x_pick_t rfl rfl rfl) ?_
       refine q_val (v := .bool true) rfl rfl (fun w' x' => x_move rfl rfl) ?_
       refine q_skip rfl rfl ?_
       refine q_skip rfl rfl ?_
       refine q_skip rfl rfl ?_
       refine q_skip rfl rfl ?_
       refine q_skip rfl rfl ?_
       refine q_skip rfl rfl ?_
       refine q_skip rfl rfl ?_
       refine q_val (v := .bool true) rfl rfl (fun w' x' => x_pick_t rfl rfl rfl) ?_
       refine q_nil (fun w322 x323 => ?_)
       refine t_norm ?_
       refine c_true rfl ?_
       refine c_seq ?_
       refine c_quiet ?_
       refine q_val (v := .bool false) rfl rfl (fun w' x' => x_assign rfl rfl) ?_
       refine q_nil (fun w324 x325 => ?_)
       refine t_norm ?_
       refine c_ret ?_
       refine t_ret ?_
       exact c_done rfl rfl (Ret.b ((rightCmd_head (by simpa using c5) (by clear ha; simp only [empty_len] at *; simp_all [-List.length_eq_zero_iff] <;> first | omega | (intros; omega) | (intros; simp_all [-List.length_eq_zero_iff] <;> omega))).symm) ((((x3.trans x29).trans x43).trans x323).trans x325))
    ·refine q_val (v := .bool false) rfl rfl (fun w' x' => x_move rfl rfl) ?_
     refine q_skip rfl rfl ?_
     refine q_skip rfl rfl ?_
     refine q_val (v := .bool false) rfl rfl (fun w' x' => x_pick_f rfl rfl rfl) ?_
     refine q_val (v := .bool false) rfl rfl (fun w' x' => x_pick_f rfl rfl rfl) ?_
     refine q_nil (fun w326 x327 => ?_)
     refine t_norm ?_
     refine c_false rfl ?_
     refine c_skip ?_
     refine t_norm ?_
     refine c_seq ?_
     refine c_seq ?_
     refine c_quiet ?_
     refine q_val (v := .pointer (some (⟨w.heap.size, 1, none⟩))) rfl rfl (fun w' x' => x_fieldAddr fld_33_1 rfl rfl rfl) ?_
     refine q_val (v := .agg #[.int .i64 a.txn.client, .int .i64 a.txn.number]) rfl rfl (fun w' x' => x_load rfl rfl ((((b2.ext x29).ext x327).ext x').agg (vs := [.int .i64 a.txn.client, .int .i64 a.txn.number]) agg_27_2 rfl)) ?_
     refine q_callb (b := rightTxn a.txn) (vs := #[.agg #[.int .i64 a.txn.client, .int .i64 a.txn.number]]) fn_39 rfl rfl rfl (args1 rfl) (fun w' x' => D_rightTxn _ a.txn) (fun c328 => ?_) (fun c328 => ?_)
     ·refine q_val (v := .bool false) rfl rfl (fun w' x' => x_not (b := true) rfl rfl) ?_
      refine q_val (v := .bool false) rfl rfl (fun w' x' => x_move rfl rfl) ?_
      refine q_val (v := .pointer (some (⟨w.heap.size, 3, none⟩))) rfl rfl (fun w' x' => x_fieldAddr fld_33_2 rfl rfl rfl) ?_
      refine q_val (v := .agg #[.int .i64 a.stp.time, .int .i64 a.stp.client]) rfl rfl (fun w' x' => x_load rfl rfl ((((b2.ext x29).ext x327).ext x').agg (vs := [.int .i64 a.stp.time, .int .i64 a.stp.client]) agg_29_2 rfl)) ?_
      refine q_callb (b := rightStp a.stp) (vs := #[.agg #[.int .i64 a.stp.time, .int .i64 a.stp.client]]) fn_40 rfl rfl rfl (args1 rfl) (fun w' x' => D_rightStp _ a.stp) (fun c329 => ?_) (fun c329 => ?_)
      ·refine q_val (v := .bool false) rfl rfl (fun w' x' => x_not (b := true) rfl rfl) ?_
       refine q_val (v := .bool false) rfl rfl (fun w' x' => x_pick_f rfl rfl rfl) ?_
       refine q_val (v := .bool false) rfl rfl (fun w' x' => x_move rfl rfl) ?_
       refine q_val (v := .pointer (some (⟨w.heap.size, 3, none⟩))) rfl rfl (fun w' x' => x_fieldAddr fld_33_2 rfl rfl rfl) ?_
       refine q_val (v := .pointer (some (⟨w.heap.size, 3, none⟩))) rfl rfl (fun w' x' => x_fieldAddr fld_29_0 rfl rfl rfl) ?_
       refine q_val (v := .int .i64 a.stp.time) rfl rfl (fun w' x' => x_load rfl rfl ((((b2.ext x29).ext x327).ext x').one one_3 rfl)) ?_
       refine q_bool (b := decide (a.stp.time = 0)) rfl rfl (fun w' x' => x_eql rfl rfl rfl) (fun c330 => ?_) (fun c330 => ?_)
       ·refine q_val (v := .bool true) rfl rfl (fun w' x' => x_pick_f rfl rfl rfl) ?_
        refine q_val (v := .bool true) rfl rfl (fun w' x' => x_move rfl rfl) ?_
        refine q_skip rfl rfl ?_
        refine q_skip rfl rfl ?_
        refine q_skip rfl rfl ?_
        refine q_skip rfl rfl ?_
        refine q_skip rfl rfl ?_
        refine q_skip rfl rfl ?_
        refine q_skip rfl rfl ?_
        refine q_val (v := .bool true) rfl rfl (fun w' x' => x_pick_t rfl rfl rfl) ?_
        refine q_nil (fun w331 x332 => ?_)
        refine t_norm ?_
        refine c_true rfl ?_
        refine c_seq ?_
        refine c_quiet ?_
        refine q_val (v := .bool false) rfl rfl (fun w' x' => x_assign rfl rfl) ?_
        refine q_nil (fun w333 x334 => ?_)
        refine t_norm ?_
        refine c_ret ?_
        refine t_ret ?_
        exact c_done rfl rfl (Ret.b ((rightCmd_head (by simpa using c5) (by clear ha; simp only [empty_len] at *; simp_all [-List.length_eq_zero_iff] <;> first | omega | (intros; omega) | (intros; simp_all [-List.length_eq_zero_iff] <;> omega))).symm) ((((x3.trans x29).trans x327).trans x332).trans x334))
       ·refine q_val (v := .bool false) rfl rfl (fun w' x' => x_pick_f rfl rfl rfl) ?_
        refine q_val (v := .bool false) rfl rfl (fun w' x' => x_move rfl rfl) ?_
        refine q_val (v := .pointer (some (⟨w.heap.size, 3, none⟩))) rfl rfl (fun w' x' => x_fieldAddr fld_33_2 rfl rfl rfl) ?_
        refine q_val (v := .pointer (some (⟨w.heap.size, 4, none⟩))) rfl rfl (fun w' x' => x_fieldAddr fld_29_1 rfl rfl rfl) ?_
        refine q_val (v := .int .i64 a.stp.client) rfl rfl (fun w' x' => x_load rfl rfl ((((b2.ext x29).ext x327).ext x').one one_3 rfl)) ?_
        refine q_val (v := .pointer (some (⟨w.heap.size, 1, none⟩))) rfl rfl (fun w' x' => x_fieldAddr fld_33_1 rfl rfl rfl) ?_
        refine q_val (v := .pointer (some (⟨w.heap.size, 1, none⟩))) rfl rfl (fun w' x' => x_fieldAddr fld_27_0 rfl rfl rfl) ?_
        refine q_val (v := .int .i64 a.txn.client) rfl rfl (fun w' x' => x_load rfl rfl ((((b2.ext x29).ext x327).ext x').one one_3 rfl)) ?_
        refine q_bool (b := decide (a.stp.client ≠ a.txn.client)) rfl rfl (fun w' x' => x_neq rfl rfl rfl) (fun c335 => ?_) (fun c335 => ?_)
        ·refine q_val (v := .bool true) rfl rfl (fun w' x' => x_pick_f rfl rfl rfl) ?_
         refine q_nil (fun w336 x337 => ?_)
         refine t_norm ?_
         refine c_true rfl ?_
         refine c_seq ?_
         refine c_quiet ?_
         refine q_val (v := .bool false) rfl rfl (fun w' x' => x_assign rfl rfl) ?_
         refine q_nil (fun w338 x339 => ?_)
         refine t_norm ?_
         refine c_ret ?_
         refine t_ret ?_
         exact c_done rfl rfl (Ret.b ((rightCmd_head (by simpa using c5) (by clear ha; simp only [empty_len] at *; simp_all [-List.length_eq_zero_iff] <;> first | omega | (intros; omega) | (intros; simp_all [-List.length_eq_zero_iff] <;> omega))).symm) ((((x3.trans x29).trans x327).trans x337).trans x339))
        ·refine q_val (v := .bool false) rfl rfl (fun w' x' => x_pick_f rfl rfl rfl) ?_
         refine q_nil (fun w340 x341 => ?_)
         refine t_norm ?_
         refine c_false rfl ?_
         refine c_skip ?_
         refine t_norm ?_
         refine c_seq ?_
         refine c_seq ?_
         refine c_quiet ?_
         refine q_val (v := .pointer (some (⟨w.heap.size, 5, none⟩))) rfl rfl (fun w' x' => x_fieldAddr fld_33_3 rfl rfl rfl) ?_
         refine q_val (v := .int .i64 a.shards) rfl rfl (fun w' x' => x_load rfl rfl (((((b2.ext x29).ext x327).ext x341).ext x').one one_3 rfl)) ?_
         refine q_bool (b := decide (a.shards ≤ 0)) rfl rfl (fun w' x' => x_leq rfl rfl rfl) (fun c342 => ?_) (fun c342 => ?_)
         ·refine q_val (v := .bool true) rfl rfl (fun w' x' => x_move rfl rfl) ?_
          refine q_skip rfl rfl ?_
          refine q_skip rfl rfl ?_
          refine q_skip rfl rfl ?_
          refine q_val (v := .bool true) rfl rfl (fun w' x' => x_pick_t rfl rfl rfl) ?_
          refine q_val (v := .bool true) rfl rfl (fun w' x' => x_move rfl rfl) ?_
          refine q_skip rfl rfl ?_
          refine q_skip rfl rfl ?_
          refine q_skip rfl rfl ?_
          refine q_skip rfl rfl ?_
          refine q_skip rfl rfl ?_
          refine q_skip rfl rfl ?_
          refine q_skip rfl rfl ?_
          refine q_skip rfl rfl ?_
          refine q_skip rfl rfl ?_
          refine q_skip rfl rfl ?_
          refine q_val (v := .bool true) rfl rfl (fun w' x' => x_pick_t rfl rfl rfl) ?_
          refine q_nil (fun w343 x344 => ?_)
          refine t_norm ?_
          refine c_true rfl ?_
          refine c_seq ?_
          refine c_quiet ?_
          refine q_val (v := .bool false) rfl rfl (fun w' x' => x_assign rfl rfl) ?_
          refine q_nil (fun w345 x346 => ?_)
          refine t_norm ?_
          refine c_ret ?_
          refine t_ret ?_
          exact c_done rfl rfl (Ret.b ((rightCmd_head (by simpa using c5) (by clear ha; simp only [empty_len] at *; simp_all [-List.length_eq_zero_iff] <;> first | omega | (intros; omega) | (intros; simp_all [-List.length_eq_zero_iff] <;> omega))).symm) (((((x3.trans x29).trans x327).trans x341).trans x344).trans x346))
         ·refine q_val (v := .bool false) rfl rfl (fun w' x' => x_move rfl rfl) ?_
          refine q_val (v := .pointer (some (⟨w.heap.size, 5, none⟩))) rfl rfl (fun w' x' => x_fieldAddr fld_33_3 rfl rfl rfl) ?_
          refine q_val (v := .int .i64 a.shards) rfl rfl (fun w' x' => x_load rfl rfl (((((b2.ext x29).ext x327).ext x341).ext x').one one_3 rfl)) ?_
          refine q_bool (b := decide (a.shards ≥ 16)) rfl rfl (fun w' x' => x_geq rfl rfl rfl) (fun c347 => ?_) (fun c347 => ?_)
          ·refine q_val (v := .bool true) rfl rfl (fun w' x' => x_pick_f rfl rfl rfl) ?_
           refine q_val (v := .bool true) rfl rfl (fun w' x' => x_move rfl rfl) ?_
           refine q_skip rfl rfl ?_
           refine q_skip rfl rfl ?_
           refine q_skip rfl rfl ?_
           refine q_skip rfl rfl ?_
           refine q_skip rfl rfl ?_
           refine q_skip rfl rfl ?_
           refine q_skip rfl rfl ?_
           refine q_skip rfl rfl ?_
           refine q_skip rfl rfl ?_
           refine q_skip rfl rfl ?_
           refine q_val (v := .bool true) rfl rfl (fun w' x' => x_pick_t rfl rfl rfl) ?_
           refine q_nil (fun w348 x349 => ?_)
           refine t_norm ?_
           refine c_true rfl ?_
           refine c_seq ?_
           refine c_quiet ?_
           refine q_val (v := .bool false) rfl rfl (fun w' x' => x_assign rfl rfl) ?_
           refine q_nil (fun w350 x351 => ?_)
           refine t_norm ?_
           refine c_ret ?_
           refine t_ret ?_
           exact c_done rfl rfl (Ret.b ((rightCmd_head (by simpa using c5) (by clear ha; simp only [empty_len] at *; simp_all [-List.length_eq_zero_iff] <;> first | omega | (intros; omega) | (intros; simp_all [-List.length_eq_zero_iff] <;> omega))).symm) (((((x3.trans x29).trans x327).trans x341).trans x349).trans x351))
          ·refine q_val (v := .bool false) rfl rfl (fun w' x' => x_pick_f rfl rfl rfl) ?_
           refine q_val (v := .bool false) rfl rfl (fun w' x' => x_move rfl rfl) ?_
           refine q_val (v := .pointer (some (⟨w.heap.size, 6, none⟩))) rfl rfl (fun w' x' => x_fieldAddr fld_33_4 rfl rfl rfl) ?_
           refine q_val (v := .slice pa.A a.reads.length pa.n) rfl rfl (fun w' x' => x_load rfl rfl (((((b2.ext x29).ext x327).ext x341).ext x').one one_30 rfl)) ?_
           refine q_val (v := .int .i64 (a.reads.length : Int)) rfl rfl (fun w' x' => x_len_slice sl_30 rfl rfl) ?_
           refine q_bool (b := decide ((a.reads.length : Int) = 0)) rfl rfl (fun w' x' => x_eql rfl rfl rfl) (fun c352 => ?_) (fun c352 => ?_)
           ·refine q_val (v := .bool true) rfl rfl (fun w' x' => x_move rfl rfl) ?_
            refine q_val (v := .pointer (some (⟨w.heap.size, 7, none⟩))) rfl rfl (fun w' x' => x_fieldAddr fld_33_5 rfl rfl rfl) ?_
            refine q_val (v := .slice pa.B a.writes.length pa.m) rfl rfl (fun w' x' => x_load rfl rfl (((((b2.ext x29).ext x327).ext x341).ext x').one one_31 rfl)) ?_
            refine q_val (v := .int .i64 (a.writes.length : Int)) rfl rfl (fun w' x' => x_len_slice sl_31 rfl rfl) ?_
            refine q_bool (b := decide ((a.writes.length : Int) = 0)) rfl rfl (fun w' x' => x_eql rfl rfl rfl) (fun c353 => ?_) (fun c353 => ?_)
            ·refine q_val (v := .bool true) rfl rfl (fun w' x' => x_pick_t rfl rfl rfl) ?_
             refine q_val (v := .bool true) rfl rfl (fun w' x' => x_pick_f rfl rfl rfl) ?_
             refine q_nil (fun w354 x355 => ?_)
             refine t_norm ?_
             refine c_true rfl ?_
             refine c_seq ?_
             refine c_quiet ?_
             refine q_val (v := .bool false) rfl rfl (fun w' x' => x_assign rfl rfl) ?_
             refine q_nil (fun w356 x357 => ?_)
             refine t_norm ?_
             refine c_ret ?_
             refine t_ret ?_
             exact c_done rfl rfl (Ret.b ((rightCmd_head (by simpa using c5) (by clear ha; simp only [empty_len] at *; simp_all [-List.length_eq_zero_iff] <;> first | omega | (intros; omega) | (intros; simp_all [-List.length_eq_zero_iff] <;> omega))).symm) (((((x3.trans x29).trans x327).trans x341).trans x355).trans x357))
            ·refine q_val (v := .bool false) rfl rfl (fun w' x' => x_pick_t rfl rfl rfl) ?_
             refine q_val (v := .bool false) rfl rfl (fun w' x' => x_pick_f rfl rfl rfl) ?_
             refine q_nil (fun w358 x359 => ?_)
             refine t_norm ?_
             refine c_false rfl ?_
             refine c_skip ?_
             refine t_norm ?_
             refine c_seq ?_
             refine c_quiet ?_
             refine q_val (v := .slice none 0 0) rfl rfl (fun w' x' => x_assign rfl rfl) ?_
             refine q_nil (fun w360 x361 => ?_)
             refine t_norm ?_
             refine c_seq ?_
             refine c_seq ?_
             refine c_quiet ?_
             refine q_val (v := .int .i64 0) rfl rfl (fun w' x' => x_assign rfl rfl) ?_
             refine q_nil (fun w362 x363 => ?_)
             refine t_norm ?_
             refine c_block ?_
             refine c_loop (fun ρ w372 => ∃ k364 : Nat, ∃ A367 : Option Addr, ∃ c368 : Nat, k364 ≤ a.reads.length ∧ (a.reads.take k364).all (oldRd a) = true ∧ World.ownsRow w372 w362.heap.size 9 1 (.slice A367 k364 c368) k364 (((a.reads.map (·.key)).take k364).flatMap fStr) ∧ k364 ≤ c368 ∧ c368 ≤ 9223372036854775807 ∧ ρ 1 = .pointer (some (⟨w.heap.size, 0, none⟩)) ∧ ρ 3 = .slice A367 k364 c368 ∧ ρ 4 = .int .i64 (k364 : Int) ∧ Ext w362 w372) (fun ρ _ => a.reads.length - (intOf (ρ 4)).toNat) ⟨0, none, 0, Nat.zero_le _, rfl, own_nil _ _ _ _, Nat.le_refl _, Nat.zero_le _, rfl, rfl, rfl, Ext.refl _⟩ ?_
             rintro ρ w372 ⟨k364, A367, c368, hk365, hi366, ho369, h370, h371, e374, e375, e376, x373⟩
             by_cases hl377 : k364 < a.reads.length
             ·obtain ⟨y378, hx379⟩ := some_of (l := a.reads) (k := k364) (by omega)
              obtain ⟨ad380, cs381, eA382, hK383, hE384⟩ := ha.reads k364 y378 hx379
              have hK383' : cs381 = [.string y378.key, .int .i64 y378.ver.time, .int .i64 y378.ver.client] := hK383
              subst hK383'
              refine c_seq ?_
              refine c_seq ?_
              refine c_quiet ?_
              refine q_val (v := .int .i64 (k364 : Int)) rfl rfl (fun w' x' => x_move rfl e376) ?_
              refine q_val (v := .pointer (some (⟨w.heap.size, 6, none⟩))) rfl rfl (fun w' x' => x_fieldAddr fld_33_4 rfl e374 rfl) ?_
              refine q_val (v := .slice pa.A a.reads.length pa.n) rfl rfl (fun w' x' => x_load rfl rfl (((((((((b2.ext x29).ext x327).ext x341).ext x359).ext x361).ext x363).ext x373).ext x').one one_30 rfl)) ?_
              refine q_val (v := .int .i64 (a.reads.length : Int)) rfl rfl (fun w' x' => x_len_slice sl_30 rfl rfl) ?_
              refine q_val (v := .bool true) rfl rfl (fun w' x' => yb (x_lss rfl rfl rfl) (decide_eq_true (by omega))) ?_
              refine q_nil (fun w386 x387 => ?_)
              refine t_norm ?_
              refine c_true rfl ?_
              refine c_skip ?_
              refine t_norm ?_
              refine c_seq ?_
              refine c_block ?_
              refine c_seq ?_
              refine c_seq ?_
              refine c_draw mixed (by kernel_rfl) ?_
              refine q_val (v := .pointer (some (⟨w.heap.size, 6, none⟩))) rfl rfl (fun w' x' => x_fieldAddr fld_33_4 rfl e374 rfl) ?_
              refine q_val (v := .slice pa.A a.reads.length pa.n) rfl rfl (fun w' x' => x_load rfl rfl ((((((((((b2.ext x29).ext x327).ext x341).ext x359).ext x361).ext x363).ext x373).ext x387).ext x').one one_30 rfl)) ?_
              refine q_val (v := .int .i64 (k364 : Int)) rfl rfl (fun w' x' => x_move rfl e376) ?_
              refine q_val (v := .pointer (some (ad380.add (k364 * 3)))) rfl rfl (fun w' x' => x_indexAddr sl_30 rfl rfl eA382 rfl (by omega) (by omega) rfl) ?_
              refine q_val (v := .pointer (some ((ad380.add (k364 * 3)).add 1))) rfl rfl (fun w' x' => x_fieldAddr fld_64_1 rfl rfl rfl) ?_
              refine q_val (v := .agg #[.int .i64 y378.ver.time, .int .i64 y378.ver.client]) rfl rfl (fun w' x' => x_load rfl rfl (((((((((((hE384.ext x3).ext x29).ext x327).ext x341).ext x359).ext x361).ext x363).ext x373).ext x387).ext x').agg (vs := [.int .i64 y378.ver.time, .int .i64 y378.ver.client]) agg_29_2 1 rfl rfl)) ?_
              refine q_callb (b := rightStp y378.ver) (vs := #[.agg #[.int .i64 y378.ver.time, .int .i64 y378.ver.client]]) fn_40 rfl rfl rfl (args1 rfl) (fun w' x' => D_rightStp _ y378.ver) (fun c388 => ?_) (fun c388 => ?_)
              ·refine q_val (v := .bool false) rfl rfl (fun w' x' => x_not (b := true) rfl rfl) ?_
               refine q_val (v := .bool false) rfl rfl (fun w' x' => x_move rfl rfl) ?_
               refine q_val (v := .pointer (some (⟨w.heap.size, 6, none⟩))) rfl rfl (fun w' x' => x_fieldAddr fld_33_4 rfl e374 rfl) ?_
               refine q_val (v := .slice pa.A a.reads.length pa.n) rfl rfl (fun w' x' => x_load rfl rfl ((((((((((b2.ext x29).ext x327).ext x341).ext x359).ext x361).ext x363).ext x373).ext x387).ext x').one one_30 rfl)) ?_
               refine q_val (v := .int .i64 (k364 : Int)) rfl rfl (fun w' x' => x_move rfl e376) ?_
               refine q_val (v := .pointer (some (ad380.add (k364 * 3)))) rfl rfl (fun w' x' => x_indexAddr sl_30 rfl rfl eA382 rfl (by omega) (by omega) rfl) ?_
               refine q_val (v := .pointer (some ((ad380.add (k364 * 3)).add 1))) rfl rfl (fun w' x' => x_fieldAddr fld_64_1 rfl rfl rfl) ?_
               refine q_val (v := .agg #[.int .i64 y378.ver.time, .int .i64 y378.ver.client]) rfl rfl (fun w' x' => x_load rfl rfl (((((((((((hE384.ext x3).ext x29).ext x327).ext x341).ext x359).ext x361).ext x363).ext x373).ext x387).ext x').agg (vs := [.int .i64 y378.ver.time, .int .i64 y378.ver.client]) agg_29_2 1 rfl rfl)) ?_
               refine q_val (v := .pointer (some (⟨w.heap.size, 3, none⟩))) rfl rfl (fun w' x' => x_fieldAddr fld_33_2 rfl e374 rfl) ?_
               refine q_val (v := .agg #[.int .i64 a.stp.time, .int .i64 a.stp.client]) rfl rfl (fun w' x' => x_load rfl rfl ((((((((((b2.ext x29).ext x327).ext x341).ext x359).ext x361).ext x363).ext x373).ext x387).ext x').agg (vs := [.int .i64 a.stp.time, .int .i64 a.stp.client]) agg_29_2 rfl)) ?_
               refine q_callb (b := decide (cmpStp y378.ver a.stp < 0)) (vs := #[.agg #[.int .i64 y378.ver.time, .int .i64 y378.ver.client], .agg #[.int .i64 a.stp.time, .int .i64 a.stp.client]]) fn_41 rfl rfl rfl (args2 rfl rfl) (fun w' x' => D_before _ y378.ver a.stp) (fun c389 => ?_) (fun c389 => ?_)
               ·refine q_val (v := .bool false) rfl rfl (fun w' x' => x_not (b := true) rfl rfl) ?_
                refine q_val (v := .bool false) rfl rfl (fun w' x' => x_pick_f rfl rfl rfl) ?_
                refine q_nil (fun w390 x391 => ?_)
                refine t_norm ?_
                refine c_false rfl ?_
                refine c_skip ?_
                refine t_norm ?_
                refine c_plain ?_
                refine p_val (v := .slice A367 k364 c368) rfl rfl (x_move rfl e375) ?_
                refine p_val (v := .pointer (some (⟨w.heap.size, 6, none⟩))) rfl rfl (x_fieldAddr fld_33_4 rfl e374 rfl) ?_
                refine p_val (v := .slice pa.A a.reads.length pa.n) rfl rfl (x_load rfl rfl ((((((((((b2.ext x29).ext x327).ext x341).ext x359).ext x361).ext x363).ext x373).ext x387).ext x391).one one_30 rfl)) ?_
                refine p_val (v := .int .i64 (k364 : Int)) rfl rfl (x_move rfl e376) ?_
                refine p_val (v := .pointer (some (ad380.add (k364 * 3)))) rfl rfl (x_indexAddr sl_30 rfl rfl eA382 rfl (by omega) (by omega) rfl) ?_
                refine p_val (v := .pointer (some (ad380.add (k364 * 3)))) rfl rfl (x_fieldAddr fld_64_0 rfl rfl rfl) ?_
                refine p_val (v := .string y378.key) rfl rfl (x_load rfl rfl (((((((((((hE384.ext x3).ext x29).ext x327).ext x341).ext x359).ext x361).ext x363).ext x373).ext x387).ext x391).one one_9 0 rfl rfl)) ?_
                refine p_buildSlice (cs := [.string y378.key]) el_79 rfl rfl rfl (parts1 rfl) (by decide) (by decide) (fill_ok [.string y378.key] [.string y378.key] rfl rfl) (fun w392 b393 x394 z395 => ?_)
                refine p_append (B := w362.heap.size) (k := k364) (m := 1) (cs := (((a.reads.map (·.key)).take k364).flatMap fStr)) (news := [.string y378.key]) (ad := ⟨w390.heap.size, 0, none⟩) el_79 rfl rfl rfl rfl (own_ext ho369 ((x387.trans x391).trans x394)) rfl rfl b393.put rfl (by omega) (by omega) (((x373.trans x387).trans x391).trans x394).size (fun A400 c401 w396 o397 bl398 gr399 h402 h403 => ?_)
                refine p_val (v := .slice A400 (k364 + 1) c401) rfl rfl (x_assign rfl rfl) ?_
                refine p_nil ?_
                refine b_norm (t_norm ?_)
                refine c_quiet ?_
                refine q_val (v := .int .i64 (k364 : Int)) rfl rfl (fun w' x' => x_move rfl e376) ?_
                refine q_val (v := .int .i64 ((k364 : Int) + 1)) rfl rfl (fun w' x' => x_add rfl rfl rfl (wrap_of (by omega) (by omega))) ?_
                refine q_val (v := .int .i64 ((k364 : Int) + 1)) rfl rfl (fun w' x' => x_assign rfl rfl) ?_
                refine q_nil (fun w404 x405 => ?_)
                refine t_norm ?_
                exact ⟨_, rfl, ⟨k364 + 1, A400, c401, by omega, all_step (p := oldRd a) hi366 hx379 (by simp_all [oldRd]), (by rw [← flat_step (map_of (g := fun z => z.key) hx379)]; exact (own_ext o397 x405)), h402, h403, e374, rfl, rfl, (((((x373.trans x387).trans x391).trans x394).below (Nat.le_refl _) bl398).trans x405)⟩, meas_up e376 hl377⟩
               ·refine q_val (v := .bool true) rfl rfl (fun w' x' => x_not (b := false) rfl rfl) ?_
                refine q_val (v := .bool true) rfl rfl (fun w' x' => x_pick_f rfl rfl rfl) ?_
                refine q_nil (fun w406 x407 => ?_)
                refine t_norm ?_
                refine c_true rfl ?_
                refine c_seq ?_
                refine c_quiet ?_
                refine q_val (v := .bool false) rfl rfl (fun w' x' => x_assign rfl rfl) ?_
                refine q_nil (fun w408 x409 => ?_)
                refine t_norm ?_
                refine c_ret ?_
                refine t_ret (b_ret (t_ret (t_ret (b_ret (t_ret ?_)))))
                exact c_done rfl rfl (Ret.b ((rightCmd_reads (by simpa using c5) (all_fail (p := oldRd a) hx379 (by simp only [oldRd]; simp_all))).symm) ((((((((((x3.trans x29).trans x327).trans x341).trans x359).trans x361).trans x363).trans x373).trans x387).trans x407).trans x409))
              ·refine q_val (v := .bool true) rfl rfl (fun w' x' => x_not (b := false) rfl rfl) ?_
               refine q_val (v := .bool true) rfl rfl (fun w' x' => x_move rfl rfl) ?_
               refine q_skip rfl rfl ?_
               refine q_skip rfl rfl ?_
               refine q_skip rfl rfl ?_
               refine q_skip rfl rfl ?_
               refine q_skip rfl rfl ?_
               refine q_skip rfl rfl ?_
               refine q_skip rfl rfl ?_
               refine q_skip rfl rfl ?_
               refine q_skip rfl rfl ?_
               refine q_skip rfl rfl ?_
               refine q_val (v := .bool true) rfl rfl (fun w' x' => x_pick_t rfl rfl rfl) ?_
               refine q_nil (fun w410 x411 => ?_)
               refine t_norm ?_
               refine c_true rfl ?_
               refine c_seq ?_
               refine c_quiet ?_
               refine q_val (v := .bool false) rfl rfl (fun w' x' => x_assign rfl rfl) ?_
               refine q_nil (fun w412 x413 => ?_)
               refine t_norm ?_
               refine c_ret ?_
               refine t_ret (b_ret (t_ret (t_ret (b_ret (t_ret ?_)))))
               exact c_done rfl rfl (Ret.b ((rightCmd_reads (by simpa using c5) (all_fail (p := oldRd a) hx379 (by simp only [oldRd]; simp_all))).symm) ((((((((((x3.trans x29).trans x327).trans x341).trans x359).trans x361).trans x363).trans x373).trans x387).trans x411).trans x413))
             ·have hr414 := own_lies (d := kStr) (xs := a.reads.map (·.key)) (by rw [show (a.reads.map (·.key)) = (a.reads.map (·.key)).take k364 from by rw [List.take_of_length_le (by simp; omega)]]; exact ho369) (by simp; omega) (fun _ => rfl) (fun _ => rfl)
              have he415 : k364 = (a.reads.map (·.key)).length := by simp; omega
              refine c_seq ?_
              refine c_seq ?_
              refine c_quiet ?_
              refine q_val (v := .int .i64 (k364 : Int)) rfl rfl (fun w' x' => x_move rfl e376) ?_
              refine q_val (v := .pointer (some (⟨w.heap.size, 6, none⟩))) rfl rfl (fun w' x' => x_fieldAddr fld_33_4 rfl e374 rfl) ?_
              refine q_val (v := .slice pa.A a.reads.length pa.n) rfl rfl (fun w' x' => x_load rfl rfl (((((((((b2.ext x29).ext x327).ext x341).ext x359).ext x361).ext x363).ext x373).ext x').one one_30 rfl)) ?_
              refine q_val (v := .int .i64 (a.reads.length : Int)) rfl rfl (fun w' x' => x_len_slice sl_30 rfl rfl) ?_
              refine q_val (v := .bool false) rfl rfl (fun w' x' => yb (x_lss rfl rfl rfl) (decide_eq_false (by omega))) ?_
              refine q_nil (fun w416 x417 => ?_)
              refine t_norm ?_
              refine c_false rfl ?_
              refine c_exit ?_
              refine t_exit (t_exit (b_exit (t_norm ?_)))
              refine c_seq ?_
              refine c_quiet ?_
              refine q_val (v := .slice none 0 0) rfl rfl (fun w' x' => x_assign rfl rfl) ?_
              refine q_nil (fun w418 x419 => ?_)
              refine t_norm ?_
              refine c_seq ?_
              refine c_seq ?_
              refine c_quiet ?_
              refine q_val (v := .int .i64 0) rfl rfl (fun w' x' => x_assign rfl rfl) ?_
              refine q_nil (fun w420 x421 => ?_)
              refine t_norm ?_
              refine c_block ?_
              refine c_loop (fun ρ w430 => ∃ k422 : Nat, ∃ A425 : Option Addr, ∃ c426 : Nat, k422 ≤ a.writes.length ∧ (a.writes.take k422).all (fun x : Wr => decide (x.val.size ≤ 8)) = true ∧ World.ownsRow w430 w420.heap.size 9 1 (.slice A425 k422 c426) k422 (((a.writes.map (·.key)).take k422).flatMap fStr) ∧ k422 ≤ c426 ∧ c426 ≤ 9223372036854775807 ∧ ρ 1 = .pointer (some (⟨w.heap.size, 0, none⟩)) ∧ ρ 3 = .slice A367 k364 c368 ∧ ρ 5 = .slice A425 k422 c426 ∧ ρ 6 = .int .i64 (k422 : Int) ∧ Ext w420 w430) (fun ρ _ => a.writes.length - (intOf (ρ 6)).toNat) ⟨0, none, 0, Nat.zero_le _, rfl, own_nil _ _ _ _, Nat.le_refl _, Nat.zero_le _, e374, e375, rfl, rfl, Ext.refl _⟩ ?_
              rintro ρ w430 ⟨k422, A425, c426, hk423, hi424, ho427, h428, h429, e432, e433, e434, e435, x431⟩
              by_cases hl436 : k422 < a.writes.length
              ·obtain ⟨y437, hx438⟩ := some_of (l := a.writes) (k := k422) (by omega)
               obtain ⟨ad439, cs440, eA441, hK442, hE443⟩ := ha.writes k422 y437 hx438
               have hK442' : cs440 = [.string y437.key, .string y437.val] := hK442
               subst hK442'
               refine c_seq ?_
               refine c_seq ?_
               refine c_quiet ?_
               refine q_val (v := .int .i64 (k422 : Int)) rfl rfl (fun w' x' => x_move rfl e435) ?_
               refine q_val (v := .pointer (some (⟨w.heap.size, 7, none⟩))) rfl rfl (fun w' x' => x_fieldAddr fld_33_5 rfl e432 rfl) ?_
               refine q_val (v := .slice pa.B a.writes.length pa.m) rfl rfl (fun w' x' => x_load rfl rfl (((((((((((((b2.ext x29).ext x327).ext x341).ext x359).ext x361).ext x363).ext x373).ext x417).ext x419).ext x421).ext x431).ext x').one one_31 rfl)) ?_
               refine q_val (v := .int .i64 (a.writes.length : Int)) rfl rfl (fun w' x' => x_len_slice sl_31 rfl rfl) ?_
               refine q_val (v := .bool true) rfl rfl (fun w' x' => yb (x_lss rfl rfl rfl) (decide_eq_true (by omega))) ?_
               refine q_nil (fun w445 x446 => ?_)
               refine t_norm ?_
               refine c_true rfl ?_
               refine c_skip ?_
               refine t_norm ?_
               refine c_seq ?_
               refine c_block ?_
               refine c_seq ?_
               refine c_seq ?_
               refine c_quiet ?_
               refine q_val (v := .pointer (some (⟨w.heap.size, 7, none⟩))) rfl rfl (fun w' x' => x_fieldAddr fld_33_5 rfl e432 rfl) ?_
               refine q_val (v := .slice pa.B a.writes.length pa.m) rfl rfl (fun w' x' => x_load rfl rfl ((((((((((((((b2.ext x29).ext x327).ext x341).ext x359).ext x361).ext x363).ext x373).ext x417).ext x419).ext x421).ext x431).ext x446).ext x').one one_31 rfl)) ?_
               refine q_val (v := .int .i64 (k422 : Int)) rfl rfl (fun w' x' => x_move rfl e435) ?_
               refine q_val (v := .pointer (some (ad439.add (k422 * 2)))) rfl rfl (fun w' x' => x_indexAddr sl_31 rfl rfl eA441 rfl (by omega) (by omega) rfl) ?_
               refine q_val (v := .pointer (some ((ad439.add (k422 * 2)).add 1))) rfl rfl (fun w' x' => x_fieldAddr fld_66_1 rfl rfl rfl) ?_
               refine q_val (v := .string y437.val) rfl rfl (fun w' x' => x_load rfl rfl (((((((((((((((hE443.ext x3).ext x29).ext x327).ext x341).ext x359).ext x361).ext x363).ext x373).ext x417).ext x419).ext x421).ext x431).ext x446).ext x').one one_9 1 rfl rfl)) ?_
               refine q_val (v := .int .i64 (y437.val.size : Int)) rfl rfl (fun w' x' => x_len_string str_9 rfl rfl) ?_
               refine q_bool (b := decide ((y437.val.size : Int) > 8)) rfl rfl (fun w' x' => x_gtr rfl rfl rfl) (fun c447 => ?_) (fun c447 => ?_)
               ·refine q_nil (fun w448 x449 => ?_)
                refine t_norm ?_
                refine c_true rfl ?_
                refine c_seq ?_
                refine c_quiet ?_
                refine q_val (v := .bool false) rfl rfl (fun w' x' => x_assign rfl rfl) ?_
                refine q_nil (fun w450 x451 => ?_)
                refine t_norm ?_
                refine c_ret ?_
                refine t_ret (b_ret (t_ret (t_ret (b_ret (t_ret ?_)))))
                exact c_done rfl rfl (Ret.b ((rightCmd_writes (by simpa using c5) (all_fail (p := fun x : Wr => decide (x.val.size ≤ 8)) hx438 (by simp_all <;> omega))).symm) ((((((((((((((x3.trans x29).trans x327).trans x341).trans x359).trans x361).trans x363).trans x373).trans x417).trans x419).trans x421).trans x431).trans x446).trans x449).trans x451))
               ·refine q_nil (fun w452 x453 => ?_)
                refine t_norm ?_
                refine c_false rfl ?_
                refine c_skip ?_
                refine t_norm ?_
                refine c_plain ?_
                refine p_val (v := .slice A425 k422 c426) rfl rfl (x_move rfl e434) ?_
                refine p_val (v := .pointer (some (⟨w.heap.size, 7, none⟩))) rfl rfl (x_fieldAddr fld_33_5 rfl e432 rfl) ?_
                refine p_val (v := .slice pa.B a.writes.length pa.m) rfl rfl (x_load rfl rfl ((((((((((((((b2.ext x29).ext x327).ext x341).ext x359).ext x361).ext x363).ext x373).ext x417).ext x419).ext x421).ext x431).ext x446).ext x453).one one_31 rfl)) ?_
                refine p_val (v := .int .i64 (k422 : Int)) rfl rfl (x_move rfl e435) ?_
                refine p_val (v := .pointer (some (ad439.add (k422 * 2)))) rfl rfl (x_indexAddr sl_31 rfl rfl eA441 rfl (by omega) (by omega) rfl) ?_
                refine p_val (v := .pointer (some (ad439.add (k422 * 2)))) rfl rfl (x_fieldAddr fld_66_0 rfl rfl rfl) ?_
                refine p_val (v := .string y437.key) rfl rfl (x_load rfl rfl (((((((((((((((hE443.ext x3).ext x29).ext x327).ext x341).ext x359).ext x361).ext x363).ext x373).ext x417).ext x419).ext x421).ext x431).ext x446).ext x453).one one_9 0 rfl rfl)) ?_
                refine p_buildSlice (cs := [.string y437.key]) el_79 rfl rfl rfl (parts1 rfl) (by decide) (by decide) (fill_ok [.string y437.key] [.string y437.key] rfl rfl) (fun w454 b455 x456 z457 => ?_)
                refine p_append (B := w420.heap.size) (k := k422) (m := 1) (cs := (((a.writes.map (·.key)).take k422).flatMap fStr)) (news := [.string y437.key]) (ad := ⟨w452.heap.size, 0, none⟩) el_79 rfl rfl rfl rfl (own_ext ho427 ((x446.trans x453).trans x456)) rfl rfl b455.put rfl (by omega) (by omega) (((x431.trans x446).trans x453).trans x456).size (fun A462 c463 w458 o459 bl460 gr461 h464 h465 => ?_)
                refine p_val (v := .slice A462 (k422 + 1) c463) rfl rfl (x_assign rfl rfl) ?_
                refine p_nil ?_
                refine b_norm (t_norm ?_)
                refine c_quiet ?_
                refine q_val (v := .int .i64 (k422 : Int)) rfl rfl (fun w' x' => x_move rfl e435) ?_
                refine q_val (v := .int .i64 ((k422 : Int) + 1)) rfl rfl (fun w' x' => x_add rfl rfl rfl (wrap_of (by omega) (by omega))) ?_
                refine q_val (v := .int .i64 ((k422 : Int) + 1)) rfl rfl (fun w' x' => x_assign rfl rfl) ?_
                refine q_nil (fun w466 x467 => ?_)
                refine t_norm ?_
                exact ⟨_, rfl, ⟨k422 + 1, A462, c463, by omega, all_step (p := fun x : Wr => decide (x.val.size ≤ 8)) hi424 hx438 (by simp_all <;> omega), (by rw [← flat_step (map_of (g := fun z => z.key) hx438)]; exact (own_ext o459 x467)), h464, h465, e432, e433, rfl, rfl, (((((x431.trans x446).trans x453).trans x456).below (Nat.le_refl _) bl460).trans x467)⟩, meas_up e435 hl436⟩
              ·have hr468 := own_lies (d := kStr) (xs := a.writes.map (·.key)) (by rw [show (a.writes.map (·.key)) = (a.writes.map (·.key)).take k422 from by rw [List.take_of_length_le (by simp; omega)]]; exact ho427) (by simp; omega) (fun _ => rfl) (fun _ => rfl)
               have he469 : k422 = (a.writes.map (·.key)).length := by simp; omega
               refine c_seq ?_
               refine c_seq ?_
               refine c_quiet ?_
               refine q_val (v := .int .i64 (k422 : Int)) rfl rfl (fun w' x' => x_move rfl e435) ?_
               refine q_val (v := .pointer (some (⟨w.heap.size, 7, none⟩))) rfl rfl (fun w' x' => x_fieldAddr fld_33_5 rfl e432 rfl) ?_
               refine q_val (v := .slice pa.B a.writes.length pa.m) rfl rfl (fun w' x' => x_load rfl rfl (((((((((((((b2.ext x29).ext x327).ext x341).ext x359).ext x361).ext x363).ext x373).ext x417).ext x419).ext x421).ext x431).ext x').one one_31 rfl)) ?_
               refine q_val (v := .int .i64 (a.writes.length : Int)) rfl rfl (fun w' x' => x_len_slice sl_31 rfl rfl) ?_
               refine q_val (v := .bool false) rfl rfl (fun w' x' => yb (x_lss rfl rfl rfl) (decide_eq_false (by omega))) ?_
               refine q_nil (fun w470 x471 => ?_)
               refine t_norm ?_
               refine c_false rfl ?_
               refine c_exit ?_
               refine t_exit (t_exit (b_exit (t_norm ?_)))
               refine c_seq ?_
               refine c_quiet ?_
               refine q_val (v := .slice A367 k364 c368) rfl rfl (fun w' x' => x_move rfl e433) ?_
               refine q_callb (b := rightKeys (a.reads.map (·.key))) (vs := #[.slice A367 k364 c368]) fn_42 rfl rfl rfl (args1 rfl) (fun w' x' => D_rightKeys _ _ _ _ (a.reads.map (·.key)) he415 ((((((hr414.ext x417).ext x419).ext x421).ext x431).ext x471).ext x') (by simp; omega)) (fun c472 => ?_) (fun c472 => ?_)
               ·refine q_val (v := .bool true) rfl rfl (fun w' x' => x_move rfl rfl) ?_
                refine q_val (v := .slice A425 k422 c426) rfl rfl (fun w' x' => x_move rfl e434) ?_
                refine q_callb (b := rightKeys (a.writes.map (·.key))) (vs := #[.slice A425 k422 c426]) fn_42 rfl rfl rfl (args1 rfl) (fun w' x' => D_rightKeys _ _ _ _ (a.writes.map (·.key)) he469 ((hr468.ext x471).ext x') (by simp; omega)) (fun c473 => ?_) (fun c473 => ?_)
                ·refine q_val (v := .bool true) rfl rfl (fun w' x' => x_pick_t rfl rfl rfl) ?_
                 refine q_val (v := .bool true) rfl rfl (fun w' x' => x_assign rfl rfl) ?_
                 refine q_nil (fun w474 x475 => ?_)
                 refine t_norm ?_
                 refine c_ret ?_
                 exact c_done rfl rfl (Ret.b (rightCmd_end (by simpa using c5) (all_end hi366 hl377) (all_end hi424 hl436) c472 (fun _ => c473) (fun h => by cases h) (by clear ha; simp only [empty_len] at *; simp_all [-List.length_eq_zero_iff] <;> first | omega | (intros; omega) | (intros; simp_all [-List.length_eq_zero_iff] <;> omega))) (((((((((((((x3.trans x29).trans x327).trans x341).trans x359).trans x361).trans x363).trans x373).trans x417).trans x419).trans x421).trans x431).trans x471).trans x475))
                ·refine q_val (v := .bool false) rfl rfl (fun w' x' => x_pick_t rfl rfl rfl) ?_
                 refine q_val (v := .bool false) rfl rfl (fun w' x' => x_assign rfl rfl) ?_
                 refine q_nil (fun w476 x477 => ?_)
                 refine t_norm ?_
                 refine c_ret ?_
                 exact c_done rfl rfl (Ret.b (rightCmd_end (by simpa using c5) (all_end hi366 hl377) (all_end hi424 hl436) c472 (fun _ => c473) (fun h => by cases h) (by clear ha; simp only [empty_len] at *; simp_all [-List.length_eq_zero_iff] <;> first | omega | (intros; omega) | (intros; simp_all [-List.length_eq_zero_iff] <;> omega))) (((((((((((((x3.trans x29).trans x327).trans x341).trans x359).trans x361).trans x363).trans x373).trans x417).trans x419).trans x421).trans x431).trans x471).trans x477))
               ·refine q_val (v := .bool false) rfl rfl (fun w' x' => x_move rfl rfl) ?_
                refine q_skip rfl rfl ?_
                refine q_skip rfl rfl ?_
                refine q_val (v := .bool false) rfl rfl (fun w' x' => x_pick_f rfl rfl rfl) ?_
                refine q_val (v := .bool false) rfl rfl (fun w' x' => x_assign rfl rfl) ?_
                refine q_nil (fun w478 x479 => ?_)
                refine t_norm ?_
                refine c_ret ?_
                exact c_done rfl rfl (Ret.b (rightCmd_end (by simpa using c5) (all_end hi366 hl377) (all_end hi424 hl436) c472 (fun h => by cases h) (fun _ => rfl) (by clear ha; simp only [empty_len] at *; simp_all [-List.length_eq_zero_iff] <;> first | omega | (intros; omega) | (intros; simp_all [-List.length_eq_zero_iff] <;> omega))) (((((((((((((x3.trans x29).trans x327).trans x341).trans x359).trans x361).trans x363).trans x373).trans x417).trans x419).trans x421).trans x431).trans x471).trans x479))
           ·refine q_val (v := .bool false) rfl rfl (fun w' x' => x_move rfl rfl) ?_
            refine q_skip rfl rfl ?_
            refine q_skip rfl rfl ?_
            refine q_skip rfl rfl ?_
            refine q_skip rfl rfl ?_
            refine q_val (v := .bool false) rfl rfl (fun w' x' => x_pick_f rfl rfl rfl) ?_
            refine q_val (v := .bool false) rfl rfl (fun w' x' => x_pick_f rfl rfl rfl) ?_
            refine q_nil (fun w480 x481 => ?_)
            refine t_norm ?_
            refine c_false rfl ?_
            refine c_skip ?_
            refine t_norm ?_
            refine c_seq ?_
            refine c_quiet ?_
            refine q_val (v := .slice none 0 0) rfl rfl (fun w' x' => x_assign rfl rfl) ?_
            refine q_nil (fun w482 x483 => ?_)
            refine t_norm ?_
            refine c_seq ?_
            refine c_seq ?_
            refine c_quiet ?_
            refine q_val (v := .int .i64 0) rfl rfl (fun w' x' => x_assign rfl rfl) ?_
            refine q_nil (fun w484 x485 => ?_)
            refine t_norm ?_
            refine c_block ?_
            refine c_loop (fun ρ w494 => ∃ k486 : Nat, ∃ A489 : Option Addr, ∃ c490 : Nat, k486 ≤ a.reads.length ∧ (a.reads.take k486).all (oldRd a) = true ∧ World.ownsRow w494 w484.heap.size 9 1 (.slice A489 k486 c490) k486 (((a.reads.map (·.key)).take k486).flatMap fStr) ∧ k486 ≤ c490 ∧ c490 ≤ 9223372036854775807 ∧ ρ 1 = .pointer (some (⟨w.heap.size, 0, none⟩)) ∧ ρ 3 = .slice A489 k486 c490 ∧ ρ 4 = .int .i64 (k486 : Int) ∧ Ext w484 w494) (fun ρ _ => a.reads.length - (intOf (ρ 4)).toNat) ⟨0, none, 0, Nat.zero_le _, rfl, own_nil _ _ _ _, Nat.le_refl _, Nat.zero_le _, rfl, rfl, rfl, Ext.refl _⟩ ?_
            rintro ρ w494 ⟨k486, A489, c490, hk487, hi488, ho491, h492, h493, e496, e497, e498, x495⟩
            by_cases hl499 : k486 < a.reads.length
            ·obtain ⟨y500, hx501⟩ := some_of (l := a.reads) (k := k486) (by omega)
             obtain ⟨ad502, cs503, eA504, hK505, hE506⟩ := ha.reads k486 y500 hx501
             have hK505' : cs503 = [.string y500.key, .int .i64 y500.ver.time, .int .i64 y500.ver.client] := hK505
             subst hK505'
             refine c_seq ?_
             refine c_seq ?_
             refine c_quiet ?_
             refine q_val (v := .int .i64 (k486 : Int)) rfl rfl (fun w' x' => x_move rfl e498) ?_
             refine q_val (v := .pointer (some (⟨w.heap.size, 6, none⟩))) rfl rfl (fun w' x' => x_fieldAddr fld_33_4 rfl e496 rfl) ?_
             refine q_val (v := .slice pa.A a.reads.length pa.n) rfl rfl (fun w' x' => x_load rfl rfl (((((((((b2.ext x29).ext x327).ext x341).ext x481).ext x483).ext x485).ext x495).ext x').one one_30 rfl)) ?_
             refine q_val (v := .int .i64 (a.reads.length : Int)) rfl rfl (fun w' x' => x_len_slice sl_30 rfl rfl) ?_
             refine q_val (v := .bool true) rfl rfl (fun w' x' => yb (x_lss rfl rfl rfl) (decide_eq_true (by omega))) ?_
             refine q_nil (fun w508 x509 => ?_)
             refine t_norm ?_
             refine c_true rfl ?_
             refine c_skip ?_
             refine t_norm ?_
             refine c_seq ?_
             refine c_block ?_
             refine c_seq ?_
             refine c_seq ?_
             refine c_draw mixed (by kernel_rfl) ?_
             refine q_val (v := .pointer (some (⟨w.heap.size, 6, none⟩))) rfl rfl (fun w' x' => x_fieldAddr fld_33_4 rfl e496 rfl) ?_
             refine q_val (v := .slice pa.A a.reads.length pa.n) rfl rfl (fun w' x' => x_load rfl rfl ((((((((((b2.ext x29).ext x327).ext x341).ext x481).ext x483).ext x485).ext x495).ext x509).ext x').one one_30 rfl)) ?_
             refine q_val (v := .int .i64 (k486 : Int)) rfl rfl (fun w' x' => x_move rfl e498) ?_
             refine q_val (v := .pointer (some (ad502.add (k486 * 3)))) rfl rfl (fun w' x' => x_indexAddr sl_30 rfl rfl eA504 rfl (by omega) (by omega) rfl) ?_
             refine q_val (v := .pointer (some ((ad502.add (k486 * 3)).add 1))) rfl rfl (fun w' x' => x_fieldAddr fld_64_1 rfl rfl rfl) ?_
             refine q_val (v := .agg #[.int .i64 y500.ver.time, .int .i64 y500.ver.client]) rfl rfl (fun w' x' => x_load rfl rfl (((((((((((hE506.ext x3).ext x29).ext x327).ext x341).ext x481).ext x483).ext x485).ext x495).ext x509).ext x').agg (vs := [.int .i64 y500.ver.time, .int .i64 y500.ver.client]) agg_29_2 1 rfl rfl)) ?_
             refine q_callb (b := rightStp y500.ver) (vs := #[.agg #[.int .i64 y500.ver.time, .int .i64 y500.ver.client]]) fn_40 rfl rfl rfl (args1 rfl) (fun w' x' => D_rightStp _ y500.ver) (fun c510 => ?_) (fun c510 => ?_)
             ·refine q_val (v := .bool false) rfl rfl (fun w' x' => x_not (b := true) rfl rfl) ?_
              refine q_val (v := .bool false) rfl rfl (fun w' x' => x_move rfl rfl) ?_
              refine q_val (v := .pointer (some (⟨w.heap.size, 6, none⟩))) rfl rfl (fun w' x' => x_fieldAddr fld_33_4 rfl e496 rfl) ?_
              refine q_val (v := .slice pa.A a.reads.length pa.n) rfl rfl (fun w' x' => x_load rfl rfl ((((((((((b2.ext x29).ext x327).ext x341).ext x481).ext x483).ext x485).ext x495).ext x509).ext x').one one_30 rfl)) ?_
              refine q_val (v := .int .i64 (k486 : Int)) rfl rfl (fun w' x' => x_move rfl e498) ?_
              refine q_val (v := .pointer (some (ad502.add (k486 * 3)))) rfl rfl (fun w' x' => x_indexAddr sl_30 rfl rfl eA504 rfl (by omega) (by omega) rfl) ?_
              refine q_val (v := .pointer (some ((ad502.add (k486 * 3)).add 1))) rfl rfl (fun w' x' => x_fieldAddr fld_64_1 rfl rfl rfl) ?_
              refine q_val (v := .agg #[.int .i64 y500.ver.time, .int .i64 y500.ver.client]) rfl rfl (fun w' x' => x_load rfl rfl (((((((((((hE506.ext x3).ext x29).ext x327).ext x341).ext x481).ext x483).ext x485).ext x495).ext x509).ext x').agg (vs := [.int .i64 y500.ver.time, .int .i64 y500.ver.client]) agg_29_2 1 rfl rfl)) ?_
              refine q_val (v := .pointer (some (⟨w.heap.size, 3, none⟩))) rfl rfl (fun w' x' => x_fieldAddr fld_33_2 rfl e496 rfl) ?_
              refine q_val (v := .agg #[.int .i64 a.stp.time, .int .i64 a.stp.client]) rfl rfl (fun w' x' => x_load rfl rfl ((((((((((b2.ext x29).ext x327).ext x341).ext x481).ext x483).ext x485).ext x495).ext x509).ext x').agg (vs := [.int .i64 a.stp.time, .int .i64 a.stp.client]) agg_29_2 rfl)) ?_
              refine q_callb (b := decide (cmpStp y500.ver a.stp < 0)) (vs := #[.agg #[.int .i64 y500.ver.time, .int .i64 y500.ver.client], .agg #[.int .i64 a.stp.time, .int .i64 a.stp.client]]) fn_41 rfl rfl rfl (args2 rfl rfl) (fun w' x' => D_before _ y500.ver a.stp) (fun c511 => ?_) (fun c511 => ?_)
              ·refine q_val (v := .bool false) rfl rfl (fun w' x' => x_not (b := true) rfl rfl) ?_
               refine q_val (v := .bool false) rfl rfl (fun w' x' => x_pick_f rfl rfl rfl) ?_
               refine q_nil (fun w512 x513 => ?_)
               refine t_norm ?_
               refine c_false rfl ?_
               refine c_skip ?_
               refine t_norm ?_
               refine c_plain ?_
               refine p_val (v := .slice A489 k486 c490) rfl rfl (x_move rfl e497) ?_
               refine p_val (v := .pointer (some (⟨w.heap.size, 6, none⟩))) rfl rfl (x_fieldAddr fld_33_4 rfl e496 rfl) ?_
               refine p_val (v := .slice pa.A a.reads.length pa.n) rfl rfl (x_load rfl rfl ((((((((((b2.ext x29).ext x327).ext x341).ext x481).ext x483).ext x485).ext x495).ext x509).ext x513).one one_30 rfl)) ?_
               refine p_val (v := .int .i64 (k486 : Int)) rfl rfl (x_move rfl e498) ?_
               refine p_val (v := .pointer (some (ad502.add (k486 * 3)))) rfl rfl (x_indexAddr sl_30 rfl rfl eA504 rfl (by omega) (by omega) rfl) ?_
               refine p_val (v := .pointer (some (ad502.add (k486 * 3)))) rfl rfl (x_fieldAddr fld_64_0 rfl rfl rfl) ?_
               refine p_val (v := .string y500.key) rfl rfl (x_load rfl rfl (((((((((((hE506.ext x3).ext x29).ext x327).ext x341).ext x481).ext x483).ext x485).ext x495).ext x509).ext x513).one one_9 0 rfl rfl)) ?_
               refine p_buildSlice (cs := [.string y500.key]) el_79 rfl rfl rfl (parts1 rfl) (by decide) (by decide) (fill_ok [.string y500.key] [.string y500.key] rfl rfl) (fun w514 b515 x516 z517 => ?_)
               refine p_append (B := w484.heap.size) (k := k486) (m := 1) (cs := (((a.reads.map (·.key)).take k486).flatMap fStr)) (news := [.string y500.key]) (ad := ⟨w512.heap.size, 0, none⟩) el_79 rfl rfl rfl rfl (own_ext ho491 ((x509.trans x513).trans x516)) rfl rfl b515.put rfl (by omega) (by omega) (((x495.trans x509).trans x513).trans x516).size (fun A522 c523 w518 o519 bl520 gr521 h524 h525 => ?_)
               refine p_val (v := .slice A522 (k486 + 1) c523) rfl rfl (x_assign rfl rfl) ?_
               refine p_nil ?_
               refine b_norm (t_norm ?_)
               refine c_quiet ?_
               refine q_val (v := .int .i64 (k486 : Int)) rfl rfl (fun w' x' => x_move rfl e498) ?_
               refine q_val (v := .int .i64 ((k486 : Int) + 1)) rfl rfl (fun w' x' => x_add rfl rfl rfl (wrap_of (by omega) (by omega))) ?_
               refine q_val (v := .int .i64 ((k486 : Int) + 1)) rfl rfl (fun w' x' => x_assign rfl rfl) ?_
               refine q_nil (fun w526 x527 => ?_)
               refine t_norm ?_
               exact ⟨_, rfl, ⟨k486 + 1, A522, c523, by omega, all_step (p := oldRd a) hi488 hx501 (by simp_all [oldRd]), (by rw [← flat_step (map_of (g := fun z => z.key) hx501)]; exact (own_ext o519 x527)), h524, h525, e496, rfl, rfl, (((((x495.trans x509).trans x513).trans x516).below (Nat.le_refl _) bl520).trans x527)⟩, meas_up e498 hl499⟩
              ·refine q_val (v := .bool true) rfl rfl (fun w' x' => x_not (b := false) rfl rfl) ?_
               refine q_val (v := .bool true) rfl rfl (fun w' x' => x_pick_f rfl rfl rfl) ?_
               refine q_nil (fun w528 x529 => ?_)
               refine t_norm ?_
               refine c_true rfl ?_
               refine c_seq ?_
               refine c_quiet ?_
               refine q_val (v := .bool false) rfl rfl (fun w' x' => x_assign rfl rfl) ?_
               refine q_nil (fun w530 x531 => ?_)
               refine t_norm ?_
               refine c_ret ?_
               refine t_ret (b_ret (t_ret (t_ret (b_ret (t_ret ?_)))))
               exact c_done rfl rfl (Ret.b ((rightCmd_reads (by simpa using c5) (all_fail (p := oldRd a) hx501 (by simp only [oldRd]; simp_all))).symm) ((((((((((x3.trans x29).trans x327).trans x341).trans x481).trans x483).trans x485).trans x495).trans x509).trans x529).trans x531))
             ·refine q_val (v := .bool true) rfl rfl (fun w' x' => x_not (b := false) rfl rfl) ?_
              refine q_val (v := .bool true) rfl rfl (fun w' x' => x_move rfl rfl) ?_
              refine q_skip rfl rfl ?_
              refine q_skip rfl rfl ?_
              refine q_skip rfl rfl ?_
              refine q_skip rfl rfl ?_
              refine q_skip rfl rfl ?_
              refine q_skip rfl rfl ?_
              refine q_skip rfl rfl ?_
              refine q_skip rfl rfl ?_
              refine q_skip rfl rfl ?_
              refine q_skip rfl rfl ?_
              refine q_val (v := .bool true) rfl rfl (fun w' x' => x_pick_t rfl rfl rfl) ?_
              refine q_nil (fun w532 x533 => ?_)
              refine t_norm ?_
              refine c_true rfl ?_
              refine c_seq ?_
              refine c_quiet ?_
              refine q_val (v := .bool false) rfl rfl (fun w' x' => x_assign rfl rfl) ?_
              refine q_nil (fun w534 x535 => ?_)
              refine t_norm ?_
              refine c_ret ?_
              refine t_ret (b_ret (t_ret (t_ret (b_ret (t_ret ?_)))))
              exact c_done rfl rfl (Ret.b ((rightCmd_reads (by simpa using c5) (all_fail (p := oldRd a) hx501 (by simp only [oldRd]; simp_all))).symm) ((((((((((x3.trans x29).trans x327).trans x341).trans x481).trans x483).trans x485).trans x495).trans x509).trans x533).trans x535))
            ·have hr536 := own_lies (d := kStr) (xs := a.reads.map (·.key)) (by rw [show (a.reads.map (·.key)) = (a.reads.map (·.key)).take k486 from by rw [List.take_of_length_le (by simp; omega)]]; exact ho491) (by simp; omega) (fun _ => rfl) (fun _ => rfl)
             have he537 : k486 = (a.reads.map (·.key)).length := by simp; omega
             refine c_seq ?_
             refine c_seq ?_
             refine c_quiet ?_
             refine q_val (v := .int .i64 (k486 : Int)) rfl rfl (fun w' x' => x_move rfl e498) ?_
             refine q_val (v := .pointer (some (⟨w.heap.size, 6, none⟩))) rfl rfl (fun w' x' => x_fieldAddr fld_33_4 rfl e496 rfl) ?_
             refine q_val (v := .slice pa.A a.reads.length pa.n) rfl rfl (fun w' x' => x_load rfl rfl (((((((((b2.ext x29).ext x327).ext x341).ext x481).ext x483).ext x485).ext x495).ext x').one one_30 rfl)) ?_
             refine q_val (v := .int .i64 (a.reads.length : Int)) rfl rfl (fun w' x' => x_len_slice sl_30 rfl rfl) ?_
             refine q_val (v := .bool false) rfl rfl (fun w' x' => yb (x_lss rfl rfl rfl) (decide_eq_false (by omega))) ?_
             refine q_nil (fun w538 x539 => ?_)
             refine t_norm ?_
             refine c_false rfl ?_
             refine c_exit ?_
             refine t_exit (t_exit (b_exit (t_norm ?_)))
             refine c_seq ?_
             refine c_quiet ?_
             refine q_val (v := .slice none 0 0) rfl rfl (fun w' x' => x_assign rfl rfl) ?_
             refine q_nil (fun w540 x541 => ?_)
             refine t_norm ?_
             refine c_seq ?_
             refine c_seq ?_
             refine c_quiet ?_
             refine q_val (v := .int .i64 0) rfl rfl (fun w' x' => x_assign rfl rfl) ?_
             refine q_nil (fun w542 x543 => ?_)
             refine t_norm ?_
             refine c_block ?_
             refine c_loop (fun ρ w552 => ∃ k544 : Nat, ∃ A547 : Option Addr, ∃ c548 : Nat, k544 ≤ a.writes.length ∧ (a.writes.take k544).all (fun x : Wr => decide (x.val.size ≤ 8)) = true ∧ World.ownsRow w552 w542.heap.size 9 1 (.slice A547 k544 c548) k544 (((a.writes.map (·.key)).take k544).flatMap fStr) ∧ k544 ≤ c548 ∧ c548 ≤ 9223372036854775807 ∧ ρ 1 = .pointer (some (⟨w.heap.size, 0, none⟩)) ∧ ρ 3 = .slice A489 k486 c490 ∧ ρ 5 = .slice A547 k544 c548 ∧ ρ 6 = .int .i64 (k544 : Int) ∧ Ext w542 w552) (fun ρ _ => a.writes.length - (intOf (ρ 6)).toNat) ⟨0, none, 0, Nat.zero_le _, rfl, own_nil _ _ _ _, Nat.le_refl _, Nat.zero_le _, e496, e497, rfl, rfl, Ext.refl _⟩ ?_
             rintro ρ w552 ⟨k544, A547, c548, hk545, hi546, ho549, h550, h551, e554, e555, e556, e557, x553⟩
             by_cases hl558 : k544 < a.writes.length
             ·obtain ⟨y559, hx560⟩ := some_of (l := a.writes) (k := k544) (by omega)
              obtain ⟨ad561, cs562, eA563, hK564, hE565⟩ := ha.writes k544 y559 hx560
              have hK564' : cs562 = [.string y559.key, .string y559.val] := hK564
              subst hK564'
              refine c_seq ?_
              refine c_seq ?_
              refine c_quiet ?_
              refine q_val (v := .int .i64 (k544 : Int)) rfl rfl (fun w' x' => x_move rfl e557) ?_
              refine q_val (v := .pointer (some (⟨w.heap.size, 7, none⟩))) rfl rfl (fun w' x' => x_fieldAddr fld_33_5 rfl e554 rfl) ?_
              refine q_val (v := .slice pa.B a.writes.length pa.m) rfl rfl (fun w' x' => x_load rfl rfl (((((((((((((b2.ext x29).ext x327).ext x341).ext x481).ext x483).ext x485).ext x495).ext x539).ext x541).ext x543).ext x553).ext x').one one_31 rfl)) ?_
              refine q_val (v := .int .i64 (a.writes.length : Int)) rfl rfl (fun w' x' => x_len_slice sl_31 rfl rfl) ?_
              refine q_val (v := .bool true) rfl rfl (fun w' x' => yb (x_lss rfl rfl rfl) (decide_eq_true (by omega))) ?_
              refine q_nil (fun w567 x568 => ?_)
              refine t_norm ?_
              refine c_true rfl ?_
              refine c_skip ?_
              refine t_norm ?_
              refine c_seq ?_
              refine c_block ?_
              refine c_seq ?_
              refine c_seq ?_
              refine c_quiet ?_
              refine q_val (v := .pointer (some (⟨w.heap.size, 7, none⟩))) rfl rfl (fun w' x' => x_fieldAddr fld_33_5 rfl e554 rfl) ?_
              refine q_val (v := .slice pa.B a.writes.length pa.m) rfl rfl (fun w' x' => x_load rfl rfl ((((((((((((((b2.ext x29).ext x327).ext x341).ext x481).ext x483).ext x485).ext x495).ext x539).ext x541).ext x543).ext x553).ext x568).ext x').one one_31 rfl)) ?_
              refine q_val (v := .int .i64 (k544 : Int)) rfl rfl (fun w' x' => x_move rfl e557) ?_
              refine q_val (v := .pointer (some (ad561.add (k544 * 2)))) rfl rfl (fun w' x' => x_indexAddr sl_31 rfl rfl eA563 rfl (by omega) (by omega) rfl) ?_
              refine q_val (v := .pointer (some ((ad561.add (k544 * 2)).add 1))) rfl rfl (fun w' x' => x_fieldAddr fld_66_1 rfl rfl rfl) ?_
              refine q_val (v := .string y559.val) rfl rfl (fun w' x' => x_load rfl rfl (((((((((((((((hE565.ext x3).ext x29).ext x327).ext x341).ext x481).ext x483).ext x485).ext x495).ext x539).ext x541).ext x543).ext x553).ext x568).ext x').one one_9 1 rfl rfl)) ?_
              refine q_val (v := .int .i64 (y559.val.size : Int)) rfl rfl (fun w' x' => x_len_string str_9 rfl rfl) ?_
              refine q_bool (b := decide ((y559.val.size : Int) > 8)) rfl rfl (fun w' x' => x_gtr rfl rfl rfl) (fun c569 => ?_) (fun c569 => ?_)
              ·refine q_nil (fun w570 x571 => ?_)
               refine t_norm ?_
               refine c_true rfl ?_
               refine c_seq ?_
               refine c_quiet ?_
               refine q_val (v := .bool false) rfl rfl (fun w' x' => x_assign rfl rfl) ?_
               refine q_nil (fun w572 x573 => ?_)
               refine t_norm ?_
               refine c_ret ?_
               refine t_ret (b_ret (t_ret (t_ret (b_ret (t_ret ?_)))))
               exact c_done rfl rfl (Ret.b ((rightCmd_writes (by simpa using c5) (all_fail (p := fun x : Wr => decide (x.val.size ≤ 8)) hx560 (by simp_all <;> omega))).symm) ((((((((((((((x3.trans x29).trans x327).trans x341).trans x481).trans x483).trans x485).trans x495).trans x539).trans x541).trans x543).trans x553).trans x568).trans x571).trans x573))
              ·refine q_nil (fun w574 x575 => ?_)
               refine t_norm ?_
               refine c_false rfl ?_
               refine c_skip ?_
               refine t_norm ?_
               refine c_plain ?_
               refine p_val (v := .slice A547 k544 c548) rfl rfl (x_move rfl e556) ?_
               refine p_val (v := .pointer (some (⟨w.heap.size, 7, none⟩))) rfl rfl (x_fieldAddr fld_33_5 rfl e554 rfl) ?_
               refine p_val (v := .slice pa.B a.writes.length pa.m) rfl rfl (x_load rfl rfl ((((((((((((((b2.ext x29).ext x327).ext x341).ext x481).ext x483).ext x485).ext x495).ext x539).ext x541).ext x543).ext x553).ext x568).ext x575).one one_31 rfl)) ?_
               refine p_val (v := .int .i64 (k544 : Int)) rfl rfl (x_move rfl e557) ?_
               refine p_val (v := .pointer (some (ad561.add (k544 * 2)))) rfl rfl (x_indexAddr sl_31 rfl rfl eA563 rfl (by omega) (by omega) rfl) ?_
               refine p_val (v := .pointer (some (ad561.add (k544 * 2)))) rfl rfl (x_fieldAddr fld_66_0 rfl rfl rfl) ?_
               refine p_val (v := .string y559.key) rfl rfl (x_load rfl rfl (((((((((((((((hE565.ext x3).ext x29).ext x327).ext x341).ext x481).ext x483).ext x485).ext x495).ext x539).ext x541).ext x543).ext x553).ext x568).ext x575).one one_9 0 rfl rfl)) ?_
               refine p_buildSlice (cs := [.string y559.key]) el_79 rfl rfl rfl (parts1 rfl) (by decide) (by decide) (fill_ok [.string y559.key] [.string y559.key] rfl rfl) (fun w576 b577 x578 z579 => ?_)
               refine p_append (B := w542.heap.size) (k := k544) (m := 1) (cs := (((a.writes.map (·.key)).take k544).flatMap fStr)) (news := [.string y559.key]) (ad := ⟨w574.heap.size, 0, none⟩) el_79 rfl rfl rfl rfl (own_ext ho549 ((x568.trans x575).trans x578)) rfl rfl b577.put rfl (by omega) (by omega) (((x553.trans x568).trans x575).trans x578).size (fun A584 c585 w580 o581 bl582 gr583 h586 h587 => ?_)
               refine p_val (v := .slice A584 (k544 + 1) c585) rfl rfl (x_assign rfl rfl) ?_
               refine p_nil ?_
               refine b_norm (t_norm ?_)
               refine c_quiet ?_
               refine q_val (v := .int .i64 (k544 : Int)) rfl rfl (fun w' x' => x_move rfl e557) ?_
               refine q_val (v := .int .i64 ((k544 : Int) + 1)) rfl rfl (fun w' x' => x_add rfl rfl rfl (wrap_of (by omega) (by omega))) ?_
               refine q_val (v := .int .i64 ((k544 : Int) + 1)) rfl rfl (fun w' x' => x_assign rfl rfl) ?_
               refine q_nil (fun w588 x589 => ?_)
               refine t_norm ?_
               exact ⟨_, rfl, ⟨k544 + 1, A584, c585, by omega, all_step (p := fun x : Wr => decide (x.val.size ≤ 8)) hi546 hx560 (by simp_all <;> omega), (by rw [← flat_step (map_of (g := fun z => z.key) hx560)]; exact (own_ext o581 x589)), h586, h587, e554, e555, rfl, rfl, (((((x553.trans x568).trans x575).trans x578).below (Nat.le_refl _) bl582).trans x589)⟩, meas_up e557 hl558⟩
             ·have hr590 := own_lies (d := kStr) (xs := a.writes.map (·.key)) (by rw [show (a.writes.map (·.key)) = (a.writes.map (·.key)).take k544 from by rw [List.take_of_length_le (by simp; omega)]]; exact ho549) (by simp; omega) (fun _ => rfl) (fun _ => rfl)
              have he591 : k544 = (a.writes.map (·.key)).length := by simp; omega
              refine c_seq ?_
              refine c_seq ?_
              refine c_quiet ?_
              refine q_val (v := .int .i64 (k544 : Int)) rfl rfl (fun w' x' => x_move rfl e557) ?_
              refine q_val (v := .pointer (some (⟨w.heap.size, 7, none⟩))) rfl rfl (fun w' x' => x_fieldAddr fld_33_5 rfl e554 rfl) ?_
              refine q_val (v := .slice pa.B a.writes.length pa.m) rfl rfl (fun w' x' => x_load rfl rfl (((((((((((((b2.ext x29).ext x327).ext x341).ext x481).ext x483).ext x485).ext x495).ext x539).ext x541).ext x543).ext x553).ext x').one one_31 rfl)) ?_
              refine q_val (v := .int .i64 (a.writes.length : Int)) rfl rfl (fun w' x' => x_len_slice sl_31 rfl rfl) ?_
              refine q_val (v := .bool false) rfl rfl (fun w' x' => yb (x_lss rfl rfl rfl) (decide_eq_false (by omega))) ?_
              refine q_nil (fun w592 x593 => ?_)
              refine t_norm ?_
              refine c_false rfl ?_
              refine c_exit ?_
              refine t_exit (t_exit (b_exit (t_norm ?_)))
              refine c_seq ?_
              refine c_quiet ?_
              refine q_val (v := .slice A489 k486 c490) rfl rfl (fun w' x' => x_move rfl e555) ?_
              refine q_callb (b := rightKeys (a.reads.map (·.key))) (vs := #[.slice A489 k486 c490]) fn_42 rfl rfl rfl (args1 rfl) (fun w' x' => D_rightKeys _ _ _ _ (a.reads.map (·.key)) he537 ((((((hr536.ext x539).ext x541).ext x543).ext x553).ext x593).ext x') (by simp; omega)) (fun c594 => ?_) (fun c594 => ?_)
              ·refine q_val (v := .bool true) rfl rfl (fun w' x' => x_move rfl rfl) ?_
               refine q_val (v := .slice A547 k544 c548) rfl rfl (fun w' x' => x_move rfl e556) ?_
               refine q_callb (b := rightKeys (a.writes.map (·.key))) (vs := #[.slice A547 k544 c548]) fn_42 rfl rfl rfl (args1 rfl) (fun w' x' => D_rightKeys _ _ _ _ (a.writes.map (·.key)) he591 ((hr590.ext x593).ext x') (by simp; omega)) (fun c595 => ?_) (fun c595 => ?_)
               ·refine q_val (v := .bool true) rfl rfl (fun w' x' => x_pick_t rfl rfl rfl) ?_
                refine q_val (v := .bool true) rfl rfl (fun w' x' => x_assign rfl rfl) ?_
                refine q_nil (fun w596 x597 => ?_)
                refine t_norm ?_
                refine c_ret ?_
                exact c_done rfl rfl (Ret.b (rightCmd_end (by simpa using c5) (all_end hi488 hl499) (all_end hi546 hl558) c594 (fun _ => c595) (fun h => by cases h) (by clear ha; simp only [empty_len] at *; simp_all [-List.length_eq_zero_iff] <;> first | omega | (intros; omega) | (intros; simp_all [-List.length_eq_zero_iff] <;> omega))) (((((((((((((x3.trans x29).trans x327).trans x341).trans x481).trans x483).trans x485).trans x495).trans x539).trans x541).trans x543).trans x553).trans x593).trans x597))
               ·refine q_val (v := .bool false) rfl rfl (fun w' x' => x_pick_t rfl rfl rfl) ?_
                refine q_val (v := .bool false) rfl rfl (fun w' x' => x_assign rfl rfl) ?_
                refine q_nil (fun w598 x599 => ?_)
                refine t_norm ?_
                refine c_ret ?_
                exact c_done rfl rfl (Ret.b (rightCmd_end (by simpa using c5) (all_end hi488 hl499) (all_end hi546 hl558) c594 (fun _ => c595) (fun h => by cases h) (by clear ha; simp only [empty_len] at *; simp_all [-List.length_eq_zero_iff] <;> first | omega | (intros; omega) | (intros; simp_all [-List.length_eq_zero_iff] <;> omega))) (((((((((((((x3.trans x29).trans x327).trans x341).trans x481).trans x483).trans x485).trans x495).trans x539).trans x541).trans x543).trans x553).trans x593).trans x599))
              ·refine q_val (v := .bool false) rfl rfl (fun w' x' => x_move rfl rfl) ?_
               refine q_skip rfl rfl ?_
               refine q_skip rfl rfl ?_
               refine q_val (v := .bool false) rfl rfl (fun w' x' => x_pick_f rfl rfl rfl) ?_
               refine q_val (v := .bool false) rfl rfl (fun w' x' => x_assign rfl rfl) ?_
               refine q_nil (fun w600 x601 => ?_)
               refine t_norm ?_
               refine c_ret ?_
               exact c_done rfl rfl (Ret.b (rightCmd_end (by simpa using c5) (all_end hi488 hl499) (all_end hi546 hl558) c594 (fun h => by cases h) (fun _ => rfl) (by clear ha; simp only [empty_len] at *; simp_all [-List.length_eq_zero_iff] <;> first | omega | (intros; omega) | (intros; simp_all [-List.length_eq_zero_iff] <;> omega))) (((((((((((((x3.trans x29).trans x327).trans x341).trans x481).trans x483).trans x485).trans x495).trans x539).trans x541).trans x543).trans x553).trans x593).trans x601))
      ·refine q_val (v := .bool true) rfl rfl (fun w' x' => x_not (b := false) rfl rfl) ?_
       refine q_val (v := .bool true) rfl rfl (fun w' x' => x_pick_f rfl rfl rfl) ?_
       refine q_val (v := .bool true) rfl rfl (fun w' x' => x_move rfl rfl) ?_
       refine q_skip rfl rfl ?_
       refine q_skip rfl rfl ?_
       refine q_skip rfl rfl ?_
       refine q_skip rfl rfl ?_
       refine q_val (v := .bool true) rfl rfl (fun w' x' => x_pick_t rfl rfl rfl) ?_
       refine q_val (v := .bool true) rfl rfl (fun w' x' => x_move rfl rfl) ?_
       refine q_skip rfl rfl ?_
       refine q_skip rfl rfl ?_
       refine q_skip rfl rfl ?_
       refine q_skip rfl rfl ?_
       refine q_skip rfl rfl ?_
       refine q_skip rfl rfl ?_
       refine q_skip rfl rfl ?_
       refine q_val (v := .bool true) rfl rfl (fun w' x' => x_pick_t rfl rfl rfl) ?_
       refine q_nil (fun w602 x603 => ?_)
       refine t_norm ?_
       refine c_true rfl ?_
       refine c_seq ?_
       refine c_quiet ?_
       refine q_val (v := .bool false) rfl rfl (fun w' x' => x_assign rfl rfl) ?_
       refine q_nil (fun w604 x605 => ?_)
       refine t_norm ?_
       refine c_ret ?_
       refine t_ret ?_
       exact c_done rfl rfl (Ret.b ((rightCmd_head (by simpa using c5) (by clear ha; simp only [empty_len] at *; simp_all [-List.length_eq_zero_iff] <;> first | omega | (intros; omega) | (intros; simp_all [-List.length_eq_zero_iff] <;> omega))).symm) ((((x3.trans x29).trans x327).trans x603).trans x605))
     ·refine q_val (v := .bool true) rfl rfl (fun w' x' => x_not (b := false) rfl rfl) ?_
      refine q_val (v := .bool true) rfl rfl (fun w' x' => x_move rfl rfl) ?_
      refine q_skip rfl rfl ?_
      refine q_skip rfl rfl ?_
      refine q_skip rfl rfl ?_
      refine q_skip rfl rfl ?_
      refine q_val (v := .bool true) rfl rfl (fun w' x' => x_pick_t rfl rfl rfl) ?_
      refine q_val (v := .bool true) rfl rfl (fun w' x' => x_move rfl rfl) ?_
      refine q_skip rfl rfl ?_
      refine q_skip rfl rfl ?_
      refine q_skip rfl rfl ?_
      refine q_skip rfl rfl ?_
      refine q_val (v := .bool true) rfl rfl (fun w' x' => x_pick_t rfl rfl rfl) ?_
      refine q_val (v := .bool true) rfl rfl (fun w' x' => x_move rfl rfl) ?_
      refine q_skip rfl rfl ?_
      refine q_skip rfl rfl ?_
      refine q_skip rfl rfl ?_
      refine q_skip rfl rfl ?_
      refine q_skip rfl rfl ?_
      refine q_skip rfl rfl ?_
      refine q_skip rfl rfl ?_
      refine q_val (v := .bool true) rfl rfl (fun w' x' => x_pick_t rfl rfl rfl) ?_
      refine q_nil (fun w606 x607 => ?_)
      refine t_norm ?_
      refine c_true rfl ?_
      refine c_seq ?_
      refine c_quiet ?_
      refine q_val (v := .bool false) rfl rfl (fun w' x' => x_assign rfl rfl) ?_
      refine q_nil (fun w608 x609 => ?_)
      refine t_norm ?_
      refine c_ret ?_
      refine t_ret ?_
      exact c_done rfl rfl (Ret.b ((rightCmd_head (by simpa using c5) (by clear ha; simp only [empty_len] at *; simp_all [-List.length_eq_zero_iff] <;> first | omega | (intros; omega) | (intros; simp_all [-List.length_eq_zero_iff] <;> omega))).symm) ((((x3.trans x29).trans x327).trans x607).trans x609))
  ·refine q_val (v := .bool false) rfl rfl (fun w' x' => x_move rfl rfl) ?_
   refine q_skip rfl rfl ?_
   refine q_skip rfl rfl ?_
   refine q_skip rfl rfl ?_
   refine q_val (v := .bool false) rfl rfl (fun w' x' => x_pick_f rfl rfl rfl) ?_
   refine q_val (v := .bool false) rfl rfl (fun w' x' => x_move rfl rfl) ?_
   refine q_val (v := .pointer (some (⟨w.heap.size, 0, none⟩))) rfl rfl (fun w' x' => x_fieldAddr fld_33_0 rfl rfl rfl) ?_
   refine q_val (v := .int .i64 a.kind) rfl rfl (fun w' x' => x_load rfl rfl (((b2.ext x29).ext x').one one_3 rfl)) ?_
   refine q_bool (b := decide (a.kind = 1)) rfl rfl (fun w' x' => x_eql rfl rfl rfl) (fun c610 => ?_) (fun c610 => ?_)
   ·refine q_val (v := .bool true) rfl rfl (fun w' x' => x_move rfl rfl) ?_
    refine q_val (v := .pointer (some (⟨w.heap.size, 8, none⟩))) rfl rfl (fun w' x' => x_fieldAddr fld_33_6 rfl rfl rfl) ?_
    refine q_bool (b := a.commit) rfl rfl (fun w' x' => x_load rfl rfl (((b2.ext x29).ext x').one one_4 rfl)) (fun c611 => ?_) (fun c611 => ?_)
    ·refine q_val (v := .bool true) rfl rfl (fun w' x' => x_pick_t rfl rfl rfl) ?_
     refine q_val (v := .bool true) rfl rfl (fun w' x' => x_pick_f rfl rfl rfl) ?_
     refine q_nil (fun w612 x613 => ?_)
     refine t_norm ?_
     refine c_true rfl ?_
     refine c_seq ?_
     refine c_quiet ?_
     refine q_val (v := .bool false) rfl rfl (fun w' x' => x_assign rfl rfl) ?_
     refine q_nil (fun w614 x615 => ?_)
     refine t_norm ?_
     refine c_ret ?_
     refine t_ret ?_
     exact c_done rfl rfl (Ret.b ((rightCmd_head (by simpa using c5) (by clear ha; simp only [empty_len] at *; simp_all [-List.length_eq_zero_iff] <;> first | omega | (intros; omega) | (intros; simp_all [-List.length_eq_zero_iff] <;> omega))).symm) (((x3.trans x29).trans x613).trans x615))
    ·refine q_val (v := .bool false) rfl rfl (fun w' x' => x_pick_t rfl rfl rfl) ?_
     refine q_val (v := .bool false) rfl rfl (fun w' x' => x_pick_f rfl rfl rfl) ?_
     refine q_nil (fun w616 x617 => ?_)
     refine t_norm ?_
     refine c_false rfl ?_
     refine c_skip ?_
     refine t_norm ?_
     refine c_seq ?_
     refine c_seq ?_
     refine c_quiet ?_
     refine q_val (v := .pointer (some (⟨w.heap.size, 1, none⟩))) rfl rfl (fun w' x' => x_fieldAddr fld_33_1 rfl rfl rfl) ?_
     refine q_val (v := .agg #[.int .i64 a.txn.client, .int .i64 a.txn.number]) rfl rfl (fun w' x' => x_load rfl rfl ((((b2.ext x29).ext x617).ext x').agg (vs := [.int .i64 a.txn.client, .int .i64 a.txn.number]) agg_27_2 rfl)) ?_
     refine q_callb (b := rightTxn a.txn) (vs := #[.agg #[.int .i64 a.txn.client, .int .i64 a.txn.number]]) fn_39 rfl rfl rfl (args1 rfl) (fun w' x' => D_rightTxn _ a.txn) (fun c618 => ?_) (fun c618 => ?_)
     ·refine q_val (v := .bool false) rfl rfl (fun w' x' => x_not (b := true) rfl rfl) ?_
      refine q_val (v := .bool false) rfl rfl (fun w' x' => x_move rfl rfl) ?_
      refine q_val (v := .pointer (some (⟨w.heap.size, 3, none⟩))) rfl rfl (fun w' x' => x_fieldAddr fld_33_2 rfl rfl rfl) ?_
      refine q_val (v := .agg #[.int .i64 a.stp.time, .int .i64 a.stp.client]) rfl rfl (fun w' x' => x_load rfl rfl ((((b2.ext x29).ext x617).ext x').agg (vs := [.int .i64 a.stp.time, .int .i64 a.stp.client]) agg_29_2 rfl)) ?_
      refine q_callb (b := rightStp a.stp) (vs := #[.agg #[.int .i64 a.stp.time, .int .i64 a.stp.client]]) fn_40 rfl rfl rfl (args1 rfl) (fun w' x' => D_rightStp _ a.stp) (fun c619 => ?_) (fun c619 => ?_)
      ·refine q_val (v := .bool false) rfl rfl (fun w' x' => x_not (b := true) rfl rfl) ?_
       refine q_val (v := .bool false) rfl rfl (fun w' x' => x_pick_f rfl rfl rfl) ?_
       refine q_val (v := .bool false) rfl rfl (fun w' x' => x_move rfl rfl) ?_
       refine q_val (v := .pointer (some (⟨w.heap.size, 3, none⟩))) rfl rfl (fun w' x' => x_fieldAddr fld_33_2 rfl rfl rfl) ?_
       refine q_val (v := .pointer (some (⟨w.heap.size, 3, none⟩))) rfl rfl (fun w' x' => x_fieldAddr fld_29_0 rfl rfl rfl) ?_
       refine q_val (v := .int .i64 a.stp.time) rfl rfl (fun w' x' => x_load rfl rfl ((((b2.ext x29).ext x617).ext x').one one_3 rfl)) ?_
       refine q_bool (b := decide (a.stp.time = 0)) rfl rfl (fun w' x' => x_eql rfl rfl rfl) (fun c620 => ?_) (fun c620 => ?_)
       ·refine q_val (v := .bool true) rfl rfl (fun w' x' => x_pick_f rfl rfl rfl) ?_
        refine q_val (v := .bool true) rfl rfl (fun w' x' => x_move rfl rfl) ?_
        refine q_skip rfl rfl ?_
        refine q_skip rfl rfl ?_
        refine q_skip rfl rfl ?_
        refine q_skip rfl rfl ?_
        refine q_skip rfl rfl ?_
        refine q_skip rfl rfl ?_
        refine q_skip rfl rfl ?_
        refine q_val (v := .bool true) rfl rfl (fun w' x' => x_pick_t rfl rfl rfl) ?_
        refine q_nil (fun w621 x622 => ?_)
        refine t_norm ?_
        refine c_true rfl ?_
        refine c_seq ?_
        refine c_quiet ?_
        refine q_val (v := .bool false) rfl rfl (fun w' x' => x_assign rfl rfl) ?_
        refine q_nil (fun w623 x624 => ?_)
        refine t_norm ?_
        refine c_ret ?_
        refine t_ret ?_
        exact c_done rfl rfl (Ret.b ((rightCmd_head (by simpa using c5) (by clear ha; simp only [empty_len] at *; simp_all [-List.length_eq_zero_iff] <;> first | omega | (intros; omega) | (intros; simp_all [-List.length_eq_zero_iff] <;> omega))).symm) ((((x3.trans x29).trans x617).trans x622).trans x624))
       ·refine q_val (v := .bool false) rfl rfl (fun w' x' => x_pick_f rfl rfl rfl) ?_
        refine q_val (v := .bool false) rfl rfl (fun w' x' => x_move rfl rfl) ?_
        refine q_val (v := .pointer (some (⟨w.heap.size, 3, none⟩))) rfl rfl (fun w' x' => x_fieldAddr fld_33_2 rfl rfl rfl) ?_
        refine q_val (v := .pointer (some (⟨w.heap.size, 4, none⟩))) rfl rfl (fun w' x' => x_fieldAddr fld_29_1 rfl rfl rfl) ?_
        refine q_val (v := .int .i64 a.stp.client) rfl rfl (fun w' x' => x_load rfl rfl ((((b2.ext x29).ext x617).ext x').one one_3 rfl)) ?_
        refine q_val (v := .pointer (some (⟨w.heap.size, 1, none⟩))) rfl rfl (fun w' x' => x_fieldAddr fld_33_1 rfl rfl rfl) ?_
        refine q_val (v := .pointer (some (⟨w.heap.size, 1, none⟩))) rfl rfl (fun w' x' => x_fieldAddr fld_27_0 rfl rfl rfl) ?_
        refine q_val (v := .int .i64 a.txn.client) rfl rfl (fun w' x' => x_load rfl rfl ((((b2.ext x29).ext x617).ext x').one one_3 rfl)) ?_
        refine q_bool (b := decide (a.stp.client ≠ a.txn.client)) rfl rfl (fun w' x' => x_neq rfl rfl rfl) (fun c625 => ?_) (fun c625 => ?_)
        ·refine q_val (v := .bool true) rfl rfl (fun w' x' => x_pick_f rfl rfl rfl) ?_
         refine q_nil (fun w626 x627 => ?_)
         refine t_norm ?_
         refine c_true rfl ?_
         refine c_seq ?_
         refine c_quiet ?_
         refine q_val (v := .bool false) rfl rfl (fun w' x' => x_assign rfl rfl) ?_
         refine q_nil (fun w628 x629 => ?_)
         refine t_norm ?_
         refine c_ret ?_
         refine t_ret ?_
         exact c_done rfl rfl (Ret.b ((rightCmd_head (by simpa using c5) (by clear ha; simp only [empty_len] at *; simp_all [-List.length_eq_zero_iff] <;> first | omega | (intros; omega) | (intros; simp_all [-List.length_eq_zero_iff] <;> omega))).symm) ((((x3.trans x29).trans x617).trans x627).trans x629))
        ·refine q_val (v := .bool false) rfl rfl (fun w' x' => x_pick_f rfl rfl rfl) ?_
         refine q_nil (fun w630 x631 => ?_)
         refine t_norm ?_
         refine c_false rfl ?_
         refine c_skip ?_
         refine t_norm ?_
         refine c_seq ?_
         refine c_seq ?_
         refine c_quiet ?_
         refine q_val (v := .pointer (some (⟨w.heap.size, 5, none⟩))) rfl rfl (fun w' x' => x_fieldAddr fld_33_3 rfl rfl rfl) ?_
         refine q_val (v := .int .i64 a.shards) rfl rfl (fun w' x' => x_load rfl rfl (((((b2.ext x29).ext x617).ext x631).ext x').one one_3 rfl)) ?_
         refine q_bool (b := decide (a.shards ≤ 0)) rfl rfl (fun w' x' => x_leq rfl rfl rfl) (fun c632 => ?_) (fun c632 => ?_)
         ·refine q_val (v := .bool true) rfl rfl (fun w' x' => x_move rfl rfl) ?_
          refine q_skip rfl rfl ?_
          refine q_skip rfl rfl ?_
          refine q_skip rfl rfl ?_
          refine q_val (v := .bool true) rfl rfl (fun w' x' => x_pick_t rfl rfl rfl) ?_
          refine q_val (v := .bool true) rfl rfl (fun w' x' => x_move rfl rfl) ?_
          refine q_skip rfl rfl ?_
          refine q_skip rfl rfl ?_
          refine q_skip rfl rfl ?_
          refine q_skip rfl rfl ?_
          refine q_skip rfl rfl ?_
          refine q_skip rfl rfl ?_
          refine q_skip rfl rfl ?_
          refine q_skip rfl rfl ?_
          refine q_skip rfl rfl ?_
          refine q_skip rfl rfl ?_
          refine q_val (v := .bool true) rfl rfl (fun w' x' => x_pick_t rfl rfl rfl) ?_
          refine q_nil (fun w633 x634 => ?_)
          refine t_norm ?_
          refine c_true rfl ?_
          refine c_seq ?_
          refine c_quiet ?_
          refine q_val (v := .bool false) rfl rfl (fun w' x' => x_assign rfl rfl) ?_
          refine q_nil (fun w635 x636 => ?_)
          refine t_norm ?_
          refine c_ret ?_
          refine t_ret ?_
          exact c_done rfl rfl (Ret.b ((rightCmd_head (by simpa using c5) (by clear ha; simp only [empty_len] at *; simp_all [-List.length_eq_zero_iff] <;> first | omega | (intros; omega) | (intros; simp_all [-List.length_eq_zero_iff] <;> omega))).symm) (((((x3.trans x29).trans x617).trans x631).trans x634).trans x636))
         ·refine q_val (v := .bool false) rfl rfl (fun w' x' => x_move rfl rfl) ?_
          refine q_val (v := .pointer (some (⟨w.heap.size, 5, none⟩))) rfl rfl (fun w' x' => x_fieldAddr fld_33_3 rfl rfl rfl) ?_
          refine q_val (v := .int .i64 a.shards) rfl rfl (fun w' x' => x_load rfl rfl (((((b2.ext x29).ext x617).ext x631).ext x').one one_3 rfl)) ?_
          refine q_bool (b := decide (a.shards ≥ 16)) rfl rfl (fun w' x' => x_geq rfl rfl rfl) (fun c637 => ?_) (fun c637 => ?_)
          ·refine q_val (v := .bool true) rfl rfl (fun w' x' => x_pick_f rfl rfl rfl) ?_
           refine q_val (v := .bool true) rfl rfl (fun w' x' => x_move rfl rfl) ?_
           refine q_skip rfl rfl ?_
           refine q_skip rfl rfl ?_
           refine q_skip rfl rfl ?_
           refine q_skip rfl rfl ?_
           refine q_skip rfl rfl ?_
           refine q_skip rfl rfl ?_
           refine q_skip rfl rfl ?_
           refine q_skip rfl rfl ?_
           refine q_skip rfl rfl ?_
           refine q_skip rfl rfl ?_
           refine q_val (v := .bool true) rfl rfl (fun w' x' => x_pick_t rfl rfl rfl) ?_
           refine q_nil (fun w638 x639 => ?_)
           refine t_norm ?_
           refine c_true rfl ?_
           refine c_seq ?_
           refine c_quiet ?_
           refine q_val (v := .bool false) rfl rfl (fun w' x' => x_assign rfl rfl) ?_
           refine q_nil (fun w640 x641 => ?_)
           refine t_norm ?_
           refine c_ret ?_
           refine t_ret ?_
           exact c_done rfl rfl (Ret.b ((rightCmd_head (by simpa using c5) (by clear ha; simp only [empty_len] at *; simp_all [-List.length_eq_zero_iff] <;> first | omega | (intros; omega) | (intros; simp_all [-List.length_eq_zero_iff] <;> omega))).symm) (((((x3.trans x29).trans x617).trans x631).trans x639).trans x641))
          ·refine q_val (v := .bool false) rfl rfl (fun w' x' => x_pick_f rfl rfl rfl) ?_
           refine q_val (v := .bool false) rfl rfl (fun w' x' => x_move rfl rfl) ?_
           refine q_val (v := .pointer (some (⟨w.heap.size, 6, none⟩))) rfl rfl (fun w' x' => x_fieldAddr fld_33_4 rfl rfl rfl) ?_
           refine q_val (v := .slice pa.A a.reads.length pa.n) rfl rfl (fun w' x' => x_load rfl rfl (((((b2.ext x29).ext x617).ext x631).ext x').one one_30 rfl)) ?_
           refine q_val (v := .int .i64 (a.reads.length : Int)) rfl rfl (fun w' x' => x_len_slice sl_30 rfl rfl) ?_
           refine q_bool (b := decide ((a.reads.length : Int) = 0)) rfl rfl (fun w' x' => x_eql rfl rfl rfl) (fun c642 => ?_) (fun c642 => ?_)
           ·refine q_val (v := .bool true) rfl rfl (fun w' x' => x_move rfl rfl) ?_
            refine q_val (v := .pointer (some (⟨w.heap.size, 7, none⟩))) rfl rfl (fun w' x' => x_fieldAddr fld_33_5 rfl rfl rfl) ?_
            refine q_val (v := .slice pa.B a.writes.length pa.m) rfl rfl (fun w' x' => x_load rfl rfl (((((b2.ext x29).ext x617).ext x631).ext x').one one_31 rfl)) ?_
            refine q_val (v := .int .i64 (a.writes.length : Int)) rfl rfl (fun w' x' => x_len_slice sl_31 rfl rfl) ?_
            refine q_bool (b := decide ((a.writes.length : Int) = 0)) rfl rfl (fun w' x' => x_eql rfl rfl rfl) (fun c643 => ?_) (fun c643 => ?_)
            ·refine q_val (v := .bool true) rfl rfl (fun w' x' => x_pick_t rfl rfl rfl) ?_
             refine q_val (v := .bool true) rfl rfl (fun w' x' => x_pick_f rfl rfl rfl) ?_
             refine q_nil (fun w644 x645 => ?_)
             refine t_norm ?_
             refine c_true rfl ?_
             refine c_seq ?_
             refine c_quiet ?_
             refine q_val (v := .bool false) rfl rfl (fun w' x' => x_assign rfl rfl) ?_
             refine q_nil (fun w646 x647 => ?_)
             refine t_norm ?_
             refine c_ret ?_
             refine t_ret ?_
             exact c_done rfl rfl (Ret.b ((rightCmd_head (by simpa using c5) (by clear ha; simp only [empty_len] at *; simp_all [-List.length_eq_zero_iff] <;> first | omega | (intros; omega) | (intros; simp_all [-List.length_eq_zero_iff] <;> omega))).symm) (((((x3.trans x29).trans x617).trans x631).trans x645).trans x647))
            ·refine q_val (v := .bool false) rfl rfl (fun w' x' => x_pick_t rfl rfl rfl) ?_
             refine q_val (v := .bool false) rfl rfl (fun w' x' => x_pick_f rfl rfl rfl) ?_
             refine q_nil (fun w648 x649 => ?_)
             refine t_norm ?_
             refine c_false rfl ?_
             refine c_skip ?_
             refine t_norm ?_
             refine c_seq ?_
             refine c_quiet ?_
             refine q_val (v := .slice none 0 0) rfl rfl (fun w' x' => x_assign rfl rfl) ?_
             refine q_nil (fun w650 x651 => ?_)
             refine t_norm ?_
             refine c_seq ?_
             refine c_seq ?_
             refine c_quiet ?_
             refine q_val (v := .int .i64 0) rfl rfl (fun w' x' => x_assign rfl rfl) ?_
             refine q_nil (fun w652 x653 => ?_)
             refine t_norm ?_
             refine c_block ?_
             refine c_loop (fun ρ w662 => ∃ k654 : Nat, ∃ A657 : Option Addr, ∃ c658 : Nat, k654 ≤ a.reads.length ∧ (a.reads.take k654).all (oldRd a) = true ∧ World.ownsRow w662 w652.heap.size 9 1 (.slice A657 k654 c658) k654 (((a.reads.map (·.key)).take k654).flatMap fStr) ∧ k654 ≤ c658 ∧ c658 ≤ 9223372036854775807 ∧ ρ 1 = .pointer (some (⟨w.heap.size, 0, none⟩)) ∧ ρ 3 = .slice A657 k654 c658 ∧ ρ 4 = .int .i64 (k654 : Int) ∧ Ext w652 w662) (fun ρ _ => a.reads.length - (intOf (ρ 4)).toNat) ⟨0, none, 0, Nat.zero_le _, rfl, own_nil _ _ _ _, Nat.le_refl _, Nat.zero_le _, rfl, rfl, rfl, Ext.refl _⟩ ?_
             rintro ρ w662 ⟨k654, A657, c658, hk655, hi656, ho659, h660, h661, e664, e665, e666, x663⟩
             by_cases hl667 : k654 < a.reads.length
             ·obtain ⟨y668, hx669⟩ := some_of (l := a.reads) (k := k654) (by omega)
              obtain ⟨ad670, cs671, eA672, hK673, hE674⟩ := ha.reads k654 y668 hx669
              have hK673' : cs671 = [.string y668.key, .int .i64 y668.ver.time, .int .i64 y668.ver.client] := hK673
              subst hK673'
              refine c_seq ?_
              refine c_seq ?_
              refine c_quiet ?_
              refine q_val (v := .int .i64 (k654 : Int)) rfl rfl (fun w' x' => x_move rfl e666) ?_
              refine q_val (v := .pointer (some (⟨w.heap.size, 6, none⟩))) rfl rfl (fun w' x' => x_fieldAddr fld_33_4 rfl e664 rfl) ?_
              refine q_val (v := .slice pa.A a.reads.length pa.n) rfl rfl (fun w' x' => x_load rfl rfl (((((((((b2.ext x29).ext x617).ext x631).ext x649).ext x651).ext x653).ext x663).ext x').one one_30 rfl)) ?_
              refine q_val (v := .int .i64 (a.reads.length : Int)) rfl rfl (fun w' x' => x_len_slice sl_30 rfl rfl) ?_
              refine q_val (v := .bool true) rfl rfl (fun w' x' => yb (x_lss rfl rfl rfl) (decide_eq_true (by omega))) ?_
              refine q_nil (fun w676 x677 => ?_)
              refine t_norm ?_
              refine c_true rfl ?_
              refine c_skip ?_
              refine t_norm ?_
              refine c_seq ?_
              refine c_block ?_
              refine c_seq ?_
              refine c_seq ?_
              refine c_draw mixed (by kernel_rfl) ?_
              refine q_val (v := .pointer (some (⟨w.heap.size, 6, none⟩))) rfl rfl (fun w' x' => x_fieldAddr fld_33_4 rfl e664 rfl) ?_
              refine q_val (v := .slice pa.A a.reads.length pa.n) rfl rfl (fun w' x' => x_load rfl rfl ((((((((((b2.ext x29).ext x617).ext x631).ext x649).ext x651).ext x653).ext x663).ext x677).ext x').one one_30 rfl)) ?_
              refine q_val (v := .int .i64 (k654 : Int)) rfl rfl (fun w' x' => x_move rfl e666) ?_
              refine q_val (v := .pointer (some (ad670.add (k654 * 3)))) rfl rfl (fun w' x' => x_indexAddr sl_30 rfl rfl eA672 rfl (by omega) (by omega) rfl) ?_
              refine q_val (v := .pointer (some ((ad670.add (k654 * 3)).add 1))) rfl rfl (fun w' x' => x_fieldAddr fld_64_1 rfl rfl rfl) ?_
              refine q_val (v := .agg #[.int .i64 y668.ver.time, .int .i64 y668.ver.client]) rfl rfl (fun w' x' => x_load rfl rfl (((((((((((hE674.ext x3).ext x29).ext x617).ext x631).ext x649).ext x651).ext x653).ext x663).ext x677).ext x').agg (vs := [.int .i64 y668.ver.time, .int .i64 y668.ver.client]) agg_29_2 1 rfl rfl)) ?_
              refine q_callb (b := rightStp y668.ver) (vs := #[.agg #[.int .i64 y668.ver.time, .int .i64 y668.ver.client]]) fn_40 rfl rfl rfl (args1 rfl) (fun w' x' => D_rightStp _ y668.ver) (fun c678 => ?_) (fun c678 => ?_)
              ·refine q_val (v := .bool false) rfl rfl (fun w' x' => x_not (b := true) rfl rfl) ?_
               refine q_val (v := .bool false) rfl rfl (fun w' x' => x_move rfl rfl) ?_
               refine q_val (v := .pointer (some (⟨w.heap.size, 6, none⟩))) rfl rfl (fun w' x' => x_fieldAddr fld_33_4 rfl e664 rfl) ?_
               refine q_val (v := .slice pa.A a.reads.length pa.n) rfl rfl (fun w' x' => x_load rfl rfl ((((((((((b2.ext x29).ext x617).ext x631).ext x649).ext x651).ext x653).ext x663).ext x677).ext x').one one_30 rfl)) ?_
               refine q_val (v := .int .i64 (k654 : Int)) rfl rfl (fun w' x' => x_move rfl e666) ?_
               refine q_val (v := .pointer (some (ad670.add (k654 * 3)))) rfl rfl (fun w' x' => x_indexAddr sl_30 rfl rfl eA672 rfl (by omega) (by omega) rfl) ?_
               refine q_val (v := .pointer (some ((ad670.add (k654 * 3)).add 1))) rfl rfl (fun w' x' => x_fieldAddr fld_64_1 rfl rfl rfl) ?_
               refine q_val (v := .agg #[.int .i64 y668.ver.time, .int .i64 y668.ver.client]) rfl rfl (fun w' x' => x_load rfl rfl (((((((((((hE674.ext x3).ext x29).ext x617).ext x631).ext x649).ext x651).ext x653).ext x663).ext x677).ext x').agg (vs := [.int .i64 y668.ver.time, .int .i64 y668.ver.client]) agg_29_2 1 rfl rfl)) ?_
               refine q_val (v := .pointer (some (⟨w.heap.size, 3, none⟩))) rfl rfl (fun w' x' => x_fieldAddr fld_33_2 rfl e664 rfl) ?_
               refine q_val (v := .agg #[.int .i64 a.stp.time, .int .i64 a.stp.client]) rfl rfl (fun w' x' => x_load rfl rfl ((((((((((b2.ext x29).ext x617).ext x631).ext x649).ext x651).ext x653).ext x663).ext x677).ext x').agg (vs := [.int .i64 a.stp.time, .int .i64 a.stp.client]) agg_29_2 rfl)) ?_
               refine q_callb (b := decide (cmpStp y668.ver a.stp < 0)) (vs := #[.agg #[.int .i64 y668.ver.time, .int .i64 y668.ver.client], .agg #[.int .i64 a.stp.time, .int .i64 a.stp.client]]) fn_41 rfl rfl rfl (args2 rfl rfl) (fun w' x' => D_before _ y668.ver a.stp) (fun c679 => ?_) (fun c679 => ?_)
               ·refine q_val (v := .bool false) rfl rfl (fun w' x' => x_not (b := true) rfl rfl) ?_
                refine q_val (v := .bool false) rfl rfl (fun w' x' => x_pick_f rfl rfl rfl) ?_
                refine q_nil (fun w680 x681 => ?_)
                refine t_norm ?_
                refine c_false rfl ?_
                refine c_skip ?_
                refine t_norm ?_
                refine c_plain ?_
                refine p_val (v := .slice A657 k654 c658) rfl rfl (x_move rfl e665) ?_
                refine p_val (v := .pointer (some (⟨w.heap.size, 6, none⟩))) rfl rfl (x_fieldAddr fld_33_4 rfl e664 rfl) ?_
                refine p_val (v := .slice pa.A a.reads.length pa.n) rfl rfl (x_load rfl rfl ((((((((((b2.ext x29).ext x617).ext x631).ext x649).ext x651).ext x653).ext x663).ext x677).ext x681).one one_30 rfl)) ?_
                refine p_val (v := .int .i64 (k654 : Int)) rfl rfl (x_move rfl e666) ?_
                refine p_val (v := .pointer (some (ad670.add (k654 * 3)))) rfl rfl (x_indexAddr sl_30 rfl rfl eA672 rfl (by omega) (by omega) rfl) ?_
                refine p_val (v := .pointer (some (ad670.add (k654 * 3)))) rfl rfl (x_fieldAddr fld_64_0 rfl rfl rfl) ?_
                refine p_val (v := .string y668.key) rfl rfl (x_load rfl rfl (((((((((((hE674.ext x3).ext x29).ext x617).ext x631).ext x649).ext x651).ext x653).ext x663).ext x677).ext x681).one one_9 0 rfl rfl)) ?_
                refine p_buildSlice (cs := [.string y668.key]) el_79 rfl rfl rfl (parts1 rfl) (by decide) (by decide) (fill_ok [.string y668.key] [.string y668.key] rfl rfl) (fun w682 b683 x684 z685 => ?_)
                refine p_append (B := w652.heap.size) (k := k654) (m := 1) (cs := (((a.reads.map (·.key)).take k654).flatMap fStr)) (news := [.string y668.key]) (ad := ⟨w680.heap.size, 0, none⟩) el_79 rfl rfl rfl rfl (own_ext ho659 ((x677.trans x681).trans x684)) rfl rfl b683.put rfl (by omega) (by omega) (((x663.trans x677).trans x681).trans x684).size (fun A690 c691 w686 o687 bl688 gr689 h692 h693 => ?_)
                refine p_val (v := .slice A690 (k654 + 1) c691) rfl rfl (x_assign rfl rfl) ?_
                refine p_nil ?_
                refine b_norm (t_norm ?_)
                refine c_quiet ?_
                refine q_val (v := .int .i64 (k654 : Int)) rfl rfl (fun w' x' => x_move rfl e666) ?_
                refine q_val (v := .int .i64 ((k654 : Int) + 1)) rfl rfl (fun w' x' => x_add rfl rfl rfl (wrap_of (by omega) (by omega))) ?_
                refine q_val (v := .int .i64 ((k654 : Int) + 1)) rfl rfl (fun w' x' => x_assign rfl rfl) ?_
                refine q_nil (fun w694 x695 => ?_)
                refine t_norm ?_
                exact ⟨_, rfl, ⟨k654 + 1, A690, c691, by omega, all_step (p := oldRd a) hi656 hx669 (by simp_all [oldRd]), (by rw [← flat_step (map_of (g := fun z => z.key) hx669)]; exact (own_ext o687 x695)), h692, h693, e664, rfl, rfl, (((((x663.trans x677).trans x681).trans x684).below (Nat.le_refl _) bl688).trans x695)⟩, meas_up e666 hl667⟩
               ·refine q_val (v := .bool true) rfl rfl (fun w' x' => x_not (b := false) rfl rfl) ?_
                refine q_val (v := .bool true) rfl rfl (fun w' x' => x_pick_f rfl rfl rfl) ?_
                refine q_nil (fun w696 x697 => ?_)
                refine t_norm ?_
                refine c_true rfl ?_
                refine c_seq ?_
                refine c_quiet ?_
                refine q_val (v := .bool false) rfl rfl (fun w' x' => x_assign rfl rfl) ?_
                refine q_nil (fun w698 x699 => ?_)
                refine t_norm ?_
                refine c_ret ?_
                refine t_ret (b_ret (t_ret (t_ret (b_ret (t_ret ?_)))))
                exact c_done rfl rfl (Ret.b ((rightCmd_reads (by simpa using c5) (all_fail (p := oldRd a) hx669 (by simp only [oldRd]; simp_all))).symm) ((((((((((x3.trans x29).trans x617).trans x631).trans x649).trans x651).trans x653).trans x663).trans x677).trans x697).trans x699))
              ·refine q_val (v := .bool true) rfl rfl (fun w' x' => x_not (b := false) rfl rfl) ?_
               refine q_val (v := .bool true) rfl rfl (fun w' x' => x_move rfl rfl) ?_
               refine q_skip rfl rfl ?_
               refine q_skip rfl rfl ?_
               refine q_skip rfl rfl ?_
               refine q_skip rfl rfl ?_
               refine q_skip rfl rfl ?_
               refine q_skip rfl rfl ?_
               refine q_skip rfl rfl ?_
               refine q_skip rfl rfl ?_
               refine q_skip rfl rfl ?_
               refine q_skip rfl rfl ?_
               refine q_val (v := .bool true) rfl rfl (fun w' x' => x_pick_t rfl rfl rfl) ?_
               refine q_nil (fun w700 x701 => ?_)
               refine t_norm ?_
               refine c_true rfl ?_
               refine c_seq ?_
               refine c_quiet ?_
               refine q_val (v := .bool false) rfl rfl (fun w' x' => x_assign rfl rfl) ?_
               refine q_nil (fun w702 x703 => ?_)
               refine t_norm ?_
               refine c_ret ?_
               refine t_ret (b_ret (t_ret (t_ret (b_ret (t_ret ?_)))))
               exact c_done rfl rfl (Ret.b ((rightCmd_reads (by simpa using c5) (all_fail (p := oldRd a) hx669 (by simp only [oldRd]; simp_all))).symm) ((((((((((x3.trans x29).trans x617).trans x631).trans x649).trans x651).trans x653).trans x663).trans x677).trans x701).trans x703))
             ·have hr704 := own_lies (d := kStr) (xs := a.reads.map (·.key)) (by rw [show (a.reads.map (·.key)) = (a.reads.map (·.key)).take k654 from by rw [List.take_of_length_le (by simp; omega)]]; exact ho659) (by simp; omega) (fun _ => rfl) (fun _ => rfl)
              have he705 : k654 = (a.reads.map (·.key)).length := by simp; omega
              refine c_seq ?_
              refine c_seq ?_
              refine c_quiet ?_
              refine q_val (v := .int .i64 (k654 : Int)) rfl rfl (fun w' x' => x_move rfl e666) ?_
              refine q_val (v := .pointer (some (⟨w.heap.size, 6, none⟩))) rfl rfl (fun w' x' => x_fieldAddr fld_33_4 rfl e664 rfl) ?_
              refine q_val (v := .slice pa.A a.reads.length pa.n) rfl rfl (fun w' x' => x_load rfl rfl (((((((((b2.ext x29).ext x617).ext x631).ext x649).ext x651).ext x653).ext x663).ext x').one one_30 rfl)) ?_
              refine q_val (v := .int .i64 (a.reads.length : Int)) rfl rfl (fun w' x' => x_len_slice sl_30 rfl rfl) ?_
              refine q_val (v := .bool false) rfl rfl (fun w' x' => yb (x_lss rfl rfl rfl) (decide_eq_false (by omega))) ?_
              refine q_nil (fun w706 x707 => ?_)
              refine t_norm ?_
              refine c_false rfl ?_
              refine c_exit ?_
              refine t_exit (t_exit (b_exit (t_norm ?_)))
              refine c_seq ?_
              refine c_quiet ?_
              refine q_val (v := .slice none 0 0) rfl rfl (fun w' x' => x_assign rfl rfl) ?_
              refine q_nil (fun w708 x709 => ?_)
              refine t_norm ?_
              refine c_seq ?_
              refine c_seq ?_
              refine c_quiet ?_
              refine q_val (v := .int .i64 0) rfl rfl (fun w' x' => x_assign rfl rfl) ?_
              refine q_nil (fun w710 x711 => ?_)
              refine t_norm ?_
              refine c_block ?_
              refine c_loop (fun ρ w720 => ∃ k712 : Nat, ∃ A715 : Option Addr, ∃ c716 : Nat, k712 ≤ a.writes.length ∧ (a.writes.take k712).all (fun x : Wr => decide (x.val.size ≤ 8)) = true ∧ World.ownsRow w720 w710.heap.size 9 1 (.slice A715 k712 c716) k712 (((a.writes.map (·.key)).take k712).flatMap fStr) ∧ k712 ≤ c716 ∧ c716 ≤ 9223372036854775807 ∧ ρ 1 = .pointer (some (⟨w.heap.size, 0, none⟩)) ∧ ρ 3 = .slice A657 k654 c658 ∧ ρ 5 = .slice A715 k712 c716 ∧ ρ 6 = .int .i64 (k712 : Int) ∧ Ext w710 w720) (fun ρ _ => a.writes.length - (intOf (ρ 6)).toNat) ⟨0, none, 0, Nat.zero_le _, rfl, own_nil _ _ _ _, Nat.le_refl _, Nat.zero_le _, e664, e665, rfl, rfl, Ext.refl _⟩ ?_
              rintro ρ w720 ⟨k712, A715, c716, hk713, hi714, ho717, h718, h719, e722, e723, e724, e725, x721⟩
              by_cases hl726 : k712 < a.writes.length
              ·obtain ⟨y727, hx728⟩ := some_of (l := a.writes) (k := k712) (by omega)
               obtain ⟨ad729, cs730, eA731, hK732, hE733⟩ := ha.writes k712 y727 hx728
               have hK732' : cs730 = [.string y727.key, .string y727.val] := hK732
               subst hK732'
               refine c_seq ?_
               refine c_seq ?_
               refine c_quiet ?_
               refine q_val (v := .int .i64 (k712 : Int)) rfl rfl (fun w' x' => x_move rfl e725) ?_
               refine q_val (v := .pointer (some (⟨w.heap.size, 7, none⟩))) rfl rfl (fun w' x' => x_fieldAddr fld_33_5 rfl e722 rfl) ?_
               refine q_val (v := .slice pa.B a.writes.length pa.m) rfl rfl (fun w' x' => x_load rfl rfl (((((((((((((b2.ext x29).ext x617).ext x631).ext x649).ext x651).ext x653).ext x663).ext x707).ext x709).ext x711).ext x721).ext x').one one_31 rfl)) ?_
               refine q_val (v := .int .i64 (a.writes.length : Int)) rfl rfl (fun w' x' => x_len_slice sl_31 rfl rfl) ?_
               refine q_val (v := .bool true) rfl rfl (fun w' x' => yb (x_lss rfl rfl rfl) (decide_eq_true (by omega))) ?_
               refine q_nil (fun w735 x736 => ?_)
               refine t_norm ?_
               refine c_true rfl ?_
               refine c_skip ?_
               refine t_norm ?_
               refine c_seq ?_
               refine c_block ?_
               refine c_seq ?_
               refine c_seq ?_
               refine c_quiet ?_
               refine q_val (v := .pointer (some (⟨w.heap.size, 7, none⟩))) rfl rfl (fun w' x' => x_fieldAddr fld_33_5 rfl e722 rfl) ?_
               refine q_val (v := .slice pa.B a.writes.length pa.m) rfl rfl (fun w' x' => x_load rfl rfl ((((((((((((((b2.ext x29).ext x617).ext x631).ext x649).ext x651).ext x653).ext x663).ext x707).ext x709).ext x711).ext x721).ext x736).ext x').one one_31 rfl)) ?_
               refine q_val (v := .int .i64 (k712 : Int)) rfl rfl (fun w' x' => x_move rfl e725) ?_
               refine q_val (v := .pointer (some (ad729.add (k712 * 2)))) rfl rfl (fun w' x' => x_indexAddr sl_31 rfl rfl eA731 rfl (by omega) (by omega) rfl) ?_
               refine q_val (v := .pointer (some ((ad729.add (k712 * 2)).add 1))) rfl rfl (fun w' x' => x_fieldAddr fld_66_1 rfl rfl rfl) ?_
               refine q_val (v := .string y727.val) rfl rfl (fun w' x' => x_load rfl rfl (((((((((((((((hE733.ext x3).ext x29).ext x617).ext x631).ext x649).ext x651).ext x653).ext x663).ext x707).ext x709).ext x711).ext x721).ext x736).ext x').one one_9 1 rfl rfl)) ?_
               refine q_val (v := .int .i64 (y727.val.size : Int)) rfl rfl (fun w' x' => x_len_string str_9 rfl rfl) ?_
               refine q_bool (b := decide ((y727.val.size : Int) > 8)) rfl rfl (fun w' x' => x_gtr rfl rfl rfl) (fun c737 => ?_) (fun c737 => ?_)
               ·refine q_nil (fun w738 x739 => ?_)
                refine t_norm ?_
                refine c_true rfl ?_
                refine c_seq ?_
                refine c_quiet ?_
                refine q_val (v := .bool false) rfl rfl (fun w' x' => x_assign rfl rfl) ?_
                refine q_nil (fun w740 x741 => ?_)
                refine t_norm ?_
                refine c_ret ?_
                refine t_ret (b_ret (t_ret (t_ret (b_ret (t_ret ?_)))))
                exact c_done rfl rfl (Ret.b ((rightCmd_writes (by simpa using c5) (all_fail (p := fun x : Wr => decide (x.val.size ≤ 8)) hx728 (by simp_all <;> omega))).symm) ((((((((((((((x3.trans x29).trans x617).trans x631).trans x649).trans x651).trans x653).trans x663).trans x707).trans x709).trans x711).trans x721).trans x736).trans x739).trans x741))
               ·refine q_nil (fun w742 x743 => ?_)
                refine t_norm ?_
                refine c_false rfl ?_
                refine c_skip ?_
                refine t_norm ?_
                refine c_plain ?_
                refine p_val (v := .slice A715 k712 c716) rfl rfl (x_move rfl e724) ?_
                refine p_val (v := .pointer (some (⟨w.heap.size, 7, none⟩))) rfl rfl (x_fieldAddr fld_33_5 rfl e722 rfl) ?_
                refine p_val (v := .slice pa.B a.writes.length pa.m) rfl rfl (x_load rfl rfl ((((((((((((((b2.ext x29).ext x617).ext x631).ext x649).ext x651).ext x653).ext x663).ext x707).ext x709).ext x711).ext x721).ext x736).ext x743).one one_31 rfl)) ?_
                refine p_val (v := .int .i64 (k712 : Int)) rfl rfl (x_move rfl e725) ?_
                refine p_val (v := .pointer (some (ad729.add (k712 * 2)))) rfl rfl (x_indexAddr sl_31 rfl rfl eA731 rfl (by omega) (by omega) rfl) ?_
                refine p_val (v := .pointer (some (ad729.add (k712 * 2)))) rfl rfl (x_fieldAddr fld_66_0 rfl rfl rfl) ?_
                refine p_val (v := .string y727.key) rfl rfl (x_load rfl rfl (((((((((((((((hE733.ext x3).ext x29).ext x617).ext x631).ext x649).ext x651).ext x653).ext x663).ext x707).ext x709).ext x711).ext x721).ext x736).ext x743).one one_9 0 rfl rfl)) ?_
                refine p_buildSlice (cs := [.string y727.key]) el_79 rfl rfl rfl (parts1 rfl) (by decide) (by decide) (fill_ok [.string y727.key] [.string y727.key] rfl rfl) (fun w744 b745 x746 z747 => ?_)
                refine p_append (B := w710.heap.size) (k := k712) (m := 1) (cs := (((a.writes.map (·.key)).take k712).flatMap fStr)) (news := [.string y727.key]) (ad := ⟨w742.heap.size, 0, none⟩) el_79 rfl rfl rfl rfl (own_ext ho717 ((x736.trans x743).trans x746)) rfl rfl b745.put rfl (by omega) (by omega) (((x721.trans x736).trans x743).trans x746).size (fun A752 c753 w748 o749 bl750 gr751 h754 h755 => ?_)
                refine p_val (v := .slice A752 (k712 + 1) c753) rfl rfl (x_assign rfl rfl) ?_
                refine p_nil ?_
                refine b_norm (t_norm ?_)
                refine c_quiet ?_
                refine q_val (v := .int .i64 (k712 : Int)) rfl rfl (fun w' x' => x_move rfl e725) ?_
                refine q_val (v := .int .i64 ((k712 : Int) + 1)) rfl rfl (fun w' x' => x_add rfl rfl rfl (wrap_of (by omega) (by omega))) ?_
                refine q_val (v := .int .i64 ((k712 : Int) + 1)) rfl rfl (fun w' x' => x_assign rfl rfl) ?_
                refine q_nil (fun w756 x757 => ?_)
                refine t_norm ?_
                exact ⟨_, rfl, ⟨k712 + 1, A752, c753, by omega, all_step (p := fun x : Wr => decide (x.val.size ≤ 8)) hi714 hx728 (by simp_all <;> omega), (by rw [← flat_step (map_of (g := fun z => z.key) hx728)]; exact (own_ext o749 x757)), h754, h755, e722, e723, rfl, rfl, (((((x721.trans x736).trans x743).trans x746).below (Nat.le_refl _) bl750).trans x757)⟩, meas_up e725 hl726⟩
              ·have hr758 := own_lies (d := kStr) (xs := a.writes.map (·.key)) (by rw [show (a.writes.map (·.key)) = (a.writes.map (·.key)).take k712 from by rw [List.take_of_length_le (by simp; omega)]]; exact ho717) (by simp; omega) (fun _ => rfl) (fun _ => rfl)
               have he759 : k712 = (a.writes.map (·.key)).length := by simp; omega
               refine c_seq ?_
               refine c_seq ?_
               refine c_quiet ?_
               refine q_val (v := .int .i64 (k712 : Int)) rfl rfl (fun w' x' => x_move rfl e725) ?_
               refine q_val (v := .pointer (some (⟨w.heap.size, 7, none⟩))) rfl rfl (fun w' x' => x_fieldAddr fld_33_5 rfl e722 rfl) ?_
               refine q_val (v := .slice pa.B a.writes.length pa.m) rfl rfl (fun w' x' => x_load rfl rfl (((((((((((((b2.ext x29).ext x617).ext x631).ext x649).ext x651).ext x653).ext x663).ext x707).ext x709).ext x711).ext x721).ext x').one one_31 rfl)) ?_
               refine q_val (v := .int .i64 (a.writes.length : Int)) rfl rfl (fun w' x' => x_len_slice sl_31 rfl rfl) ?_
               refine q_val (v := .bool false) rfl rfl (fun w' x' => yb (x_lss rfl rfl rfl) (decide_eq_false (by omega))) ?_
               refine q_nil (fun w760 x761 => ?_)
               refine t_norm ?_
               refine c_false rfl ?_
               refine c_exit ?_
               refine t_exit (t_exit (b_exit (t_norm ?_)))
               refine c_seq ?_
               refine c_quiet ?_
               refine q_val (v := .slice A657 k654 c658) rfl rfl (fun w' x' => x_move rfl e723) ?_
               refine q_callb (b := rightKeys (a.reads.map (·.key))) (vs := #[.slice A657 k654 c658]) fn_42 rfl rfl rfl (args1 rfl) (fun w' x' => D_rightKeys _ _ _ _ (a.reads.map (·.key)) he705 ((((((hr704.ext x707).ext x709).ext x711).ext x721).ext x761).ext x') (by simp; omega)) (fun c762 => ?_) (fun c762 => ?_)
               ·refine q_val (v := .bool true) rfl rfl (fun w' x' => x_move rfl rfl) ?_
                refine q_val (v := .slice A715 k712 c716) rfl rfl (fun w' x' => x_move rfl e724) ?_
                refine q_callb (b := rightKeys (a.writes.map (·.key))) (vs := #[.slice A715 k712 c716]) fn_42 rfl rfl rfl (args1 rfl) (fun w' x' => D_rightKeys _ _ _ _ (a.writes.map (·.key)) he759 ((hr758.ext x761).ext x') (by simp; omega)) (fun c763 => ?_) (fun c763 => ?_)
                ·refine q_val (v := .bool true) rfl rfl (fun w' x' => x_pick_t rfl rfl rfl) ?_
                 refine q_val (v := .bool true) rfl rfl (fun w' x' => x_assign rfl rfl) ?_
                 refine q_nil (fun w764 x765 => ?_)
                 refine t_norm ?_
                 refine c_ret ?_
                 exact c_done rfl rfl (Ret.b (rightCmd_end (by simpa using c5) (all_end hi656 hl667) (all_end hi714 hl726) c762 (fun _ => c763) (fun h => by cases h) (by clear ha; simp only [empty_len] at *; simp_all [-List.length_eq_zero_iff] <;> first | omega | (intros; omega) | (intros; simp_all [-List.length_eq_zero_iff] <;> omega))) (((((((((((((x3.trans x29).trans x617).trans x631).trans x649).trans x651).trans x653).trans x663).trans x707).trans x709).trans x711).trans x721).trans x761).trans x765))
                ·refine q_val (v := .bool false) rfl rfl (fun w' x' => x_pick_t rfl rfl rfl) ?_
                 refine q_val (v := .bool false) rfl rfl (fun w' x' => x_assign rfl rfl) ?_
                 refine q_nil (fun w766 x767 => ?_)
                 refine t_norm ?_
                 refine c_ret ?_
                 exact c_done rfl rfl (Ret.b (rightCmd_end (by simpa using c5) (all_end hi656 hl667) (all_end hi714 hl726) c762 (fun _ => c763) (fun h => by cases h) (by clear ha; simp only [empty_len] at *; simp_all [-List.length_eq_zero_iff] <;> first | omega | (intros; omega) | (intros; simp_all [-List.length_eq_zero_iff] <;> omega))) (((((((((((((x3.trans x29).trans x617).trans x631).trans x649).trans x651).trans x653).trans x663).trans x707).trans x709).trans x711).trans x721).trans x761).trans x767))
               ·refine q_val (v := .bool false) rfl rfl (fun w' x' => x_move rfl rfl) ?_
                refine q_skip rfl rfl ?_
                refine q_skip rfl rfl ?_
                refine q_val (v := .bool false) rfl rfl (fun w' x' => x_pick_f rfl rfl rfl) ?_
                refine q_val (v := .bool false) rfl rfl (fun w' x' => x_assign rfl rfl) ?_
                refine q_nil (fun w768 x769 => ?_)
                refine t_norm ?_
                refine c_ret ?_
                exact c_done rfl rfl (Ret.b (rightCmd_end (by simpa using c5) (all_end hi656 hl667) (all_end hi714 hl726) c762 (fun h => by cases h) (fun _ => rfl) (by clear ha; simp only [empty_len] at *; simp_all [-List.length_eq_zero_iff] <;> first | omega | (intros; omega) | (intros; simp_all [-List.length_eq_zero_iff] <;> omega))) (((((((((((((x3.trans x29).trans x617).trans x631).trans x649).trans x651).trans x653).trans x663).trans x707).trans x709).trans x711).trans x721).trans x761).trans x769))
           ·refine q_val (v := .bool false) rfl rfl (fun w' x' => x_move rfl rfl) ?_
            refine q_skip rfl rfl ?_
            refine q_skip rfl rfl ?_
            refine q_skip rfl rfl ?_
            refine q_skip rfl rfl ?_
            refine q_val (v := .bool false) rfl rfl (fun w' x' => x_pick_f rfl rfl rfl) ?_
            refine q_val (v := .bool false) rfl rfl (fun w' x' => x_pick_f rfl rfl rfl) ?_
            refine q_nil (fun w770 x771 => ?_)
            refine t_norm ?_
            refine c_false rfl ?_
            refine c_skip ?_
            refine t_norm ?_
            refine c_seq ?_
            refine c_quiet ?_
            refine q_val (v := .slice none 0 0) rfl rfl (fun w' x' => x_assign rfl rfl) ?_
            refine q_nil (fun w772 x773 => ?_)
            refine t_norm ?_
            refine c_seq ?_
            refine c_seq ?_
            refine c_quiet ?_
            refine q_val (v := .int .i64 0) rfl rfl (fun w' x' => x_assign rfl rfl) ?_
            refine q_nil (fun w774 x775 => ?_)
            refine t_norm ?_
            refine c_block ?_
            refine c_loop (fun ρ w784 => ∃ k776 : Nat, ∃ A779 : Option Addr, ∃ c780 : Nat, k776 ≤ a.reads.length ∧ (a.reads.take k776).all (oldRd a) = true ∧ World.ownsRow w784 w774.heap.size 9 1 (.slice A779 k776 c780) k776 (((a.reads.map (·.key)).take k776).flatMap fStr) ∧ k776 ≤ c780 ∧ c780 ≤ 9223372036854775807 ∧ ρ 1 = .pointer (some (⟨w.heap.size, 0, none⟩)) ∧ ρ 3 = .slice A779 k776 c780 ∧ ρ 4 = .int .i64 (k776 : Int) ∧ Ext w774 w784) (fun ρ _ => a.reads.length - (intOf (ρ 4)).toNat) ⟨0, none, 0, Nat.zero_le _, rfl, own_nil _ _ _ _, Nat.le_refl _, Nat.zero_le _, rfl, rfl, rfl, Ext.refl _⟩ ?_
            rintro ρ w784 ⟨k776, A779, c780, hk777, hi778, ho781, h782, h783, e786, e787, e788, x785⟩
            by_cases hl789 : k776 < a.reads.length
            ·obtain ⟨y790, hx791⟩ := some_of (l := a.reads) (k := k776) (by omega)
             obtain ⟨ad792, cs793, eA794, hK795, hE796⟩ := ha.reads k776 y790 hx791
             have hK795' : cs793 = [.string y790.key, .int .i64 y790.ver.time, .int .i64 y790.ver.client] := hK795
             subst hK795'
             refine c_seq ?_
             refine c_seq ?_
             refine c_quiet ?_
             refine q_val (v := .int .i64 (k776 : Int)) rfl rfl (fun w' x' => x_move rfl e788) ?_
             refine q_val (v := .pointer (some (⟨w.heap.size, 6, none⟩))) rfl rfl (fun w' x' => x_fieldAddr fld_33_4 rfl e786 rfl) ?_
             refine q_val (v := .slice pa.A a.reads.length pa.n) rfl rfl (fun w' x' => x_load rfl rfl (((((((((b2.ext x29).ext x617).ext x631).ext x771).ext x773).ext x775).ext x785).ext x').one one_30 rfl)) ?_
             refine q_val (v := .int .i64 (a.reads.length : Int)) rfl rfl (fun w' x' => x_len_slice sl_30 rfl rfl) ?_
             refine q_val (v := .bool true) rfl rfl (fun w' x' => yb (x_lss rfl rfl rfl) (decide_eq_true (by omega))) ?_
             refine q_nil (fun w798 x799 => ?_)
             refine t_norm ?_
             refine c_true rfl ?_
             refine c_skip ?_
             refine t_norm ?_
             refine c_seq ?_
             refine c_block ?_
             refine c_seq ?_
             refine c_seq ?_
             refine c_draw mixed (by kernel_rfl) ?_
             refine q_val (v := .pointer (some (⟨w.heap.size, 6, none⟩))) rfl rfl (fun w' x' => x_fieldAddr fld_33_4 rfl e786 rfl) ?_
             refine q_val (v := .slice pa.A a.reads.length pa.n) rfl rfl (fun w' x' => x_load rfl rfl ((((((((((b2.ext x29).ext x617).ext x631).ext x771).ext x773).ext x775).ext x785).ext x799).ext x').one one_30 rfl)) ?_
             refine q_val (v := .int .i64 (k776 : Int)) rfl rfl (fun w' x' => x_move rfl e788) ?_
             refine q_val (v := .pointer (some (ad792.add (k776 * 3)))) rfl rfl (fun w' x' => x_indexAddr sl_30 rfl rfl eA794 rfl (by omega) (by omega) rfl) ?_
             refine q_val (v := .pointer (some ((ad792.add (k776 * 3)).add 1))) rfl rfl (fun w' x' => x_fieldAddr fld_64_1 rfl rfl rfl) ?_
             refine q_val (v := .agg #[.int .i64 y790.ver.time, .int .i64 y790.ver.client]) rfl rfl (fun w' x' => x_load rfl rfl (((((((((((hE796.ext x3).ext x29).ext x617).ext x631).ext x771).ext x773).ext x775).ext x785).ext x799).ext x').agg (vs := [.int .i64 y790.ver.time, .int .i64 y790.ver.client]) agg_29_2 1 rfl rfl)) ?_
             refine q_callb (b := rightStp y790.ver) (vs := #[.agg #[.int .i64 y790.ver.time, .int .i64 y790.ver.client]]) fn_40 rfl rfl rfl (args1 rfl) (fun w' x' => D_rightStp _ y790.ver) (fun c800 => ?_) (fun c800 => ?_)
             ·refine q_val (v := .bool false) rfl rfl (fun w' x' => x_not (b := true) rfl rfl) ?_
              refine q_val (v := .bool false) rfl rfl (fun w' x' => x_move rfl rfl) ?_
              refine q_val (v := .pointer (some (⟨w.heap.size, 6, none⟩))) rfl rfl (fun w' x' => x_fieldAddr fld_33_4 rfl e786 rfl) ?_
              refine q_val (v := .slice pa.A a.reads.length pa.n) rfl rfl (fun w' x' => x_load rfl rfl ((((((((((b2.ext x29).ext x617).ext x631).ext x771).ext x773).ext x775).ext x785).ext x799).ext x').one one_30 rfl)) ?_
              refine q_val (v := .int .i64 (k776 : Int)) rfl rfl (fun w' x' => x_move rfl e788) ?_
              refine q_val (v := .pointer (some (ad792.add (k776 * 3)))) rfl rfl (fun w' x' => x_indexAddr sl_30 rfl rfl eA794 rfl (by omega) (by omega) rfl) ?_
              refine q_val (v := .pointer (some ((ad792.add (k776 * 3)).add 1))) rfl rfl (fun w' x' => x_fieldAddr fld_64_1 rfl rfl rfl) ?_
              refine q_val (v := .agg #[.int .i64 y790.ver.time, .int .i64 y790.ver.client]) rfl rfl (fun w' x' => x_load rfl rfl (((((((((((hE796.ext x3).ext x29).ext x617).ext x631).ext x771).ext x773).ext x775).ext x785).ext x799).ext x').agg (vs := [.int .i64 y790.ver.time, .int .i64 y790.ver.client]) agg_29_2 1 rfl rfl)) ?_
              refine q_val (v := .pointer (some (⟨w.heap.size, 3, none⟩))) rfl rfl (fun w' x' => x_fieldAddr fld_33_2 rfl e786 rfl) ?_
              refine q_val (v := .agg #[.int .i64 a.stp.time, .int .i64 a.stp.client]) rfl rfl (fun w' x' => x_load rfl rfl ((((((((((b2.ext x29).ext x617).ext x631).ext x771).ext x773).ext x775).ext x785).ext x799).ext x').agg (vs := [.int .i64 a.stp.time, .int .i64 a.stp.client]) agg_29_2 rfl)) ?_
              refine q_callb (b := decide (cmpStp y790.ver a.stp < 0)) (vs := #[.agg #[.int .i64 y790.ver.time, .int .i64 y790.ver.client], .agg #[.int .i64 a.stp.time, .int .i64 a.stp.client]]) fn_41 rfl rfl rfl (args2 rfl rfl) (fun w' x' => D_before _ y790.ver a.stp) (fun c801 => ?_) (fun c801 => ?_)
              ·refine q_val (v := .bool false) rfl rfl (fun w' x' => x_not (b := true) rfl rfl) ?_
               refine q_val (v := .bool false) rfl rfl (fun w' x' => x_pick_f rfl rfl rfl) ?_
               refine q_nil (fun w802 x803 => ?_)
               refine t_norm ?_
               refine c_false rfl ?_
               refine c_skip ?_
               refine t_norm ?_
               refine c_plain ?_
               refine p_val (v := .slice A779 k776 c780) rfl rfl (x_move rfl e787) ?_
               refine p_val (v := .pointer (some (⟨w.heap.size, 6, none⟩))) rfl rfl (x_fieldAddr fld_33_4 rfl e786 rfl) ?_
               refine p_val (v := .slice pa.A a.reads.length pa.n) rfl rfl (x_load rfl rfl ((((((((((b2.ext x29).ext x617).ext x631).ext x771).ext x773).ext x775).ext x785).ext x799).ext x803).one one_30 rfl)) ?_
               refine p_val (v := .int .i64 (k776 : Int)) rfl rfl (x_move rfl e788) ?_
               refine p_val (v := .pointer (some (ad792.add (k776 * 3)))) rfl rfl (x_indexAddr sl_30 rfl rfl eA794 rfl (by omega) (by omega) rfl) ?_
               refine p_val (v := .pointer (some (ad792.add (k776 * 3)))) rfl rfl (x_fieldAddr fld_64_0 rfl rfl rfl) ?_
               refine p_val (v := .string y790.key) rfl rfl (x_load rfl rfl (((((((((((hE796.ext x3).ext x29).ext x617).ext x631).ext x771).ext x773).ext x775).ext x785).ext x799).ext x803).one one_9 0 rfl rfl)) ?_
               refine p_buildSlice (cs := [.string y790.key]) el_79 rfl rfl rfl (parts1 rfl) (by decide) (by decide) (fill_ok [.string y790.key] [.string y790.key] rfl rfl) (fun w804 b805 x806 z807 => ?_)
               refine p_append (B := w774.heap.size) (k := k776) (m := 1) (cs := (((a.reads.map (·.key)).take k776).flatMap fStr)) (news := [.string y790.key]) (ad := ⟨w802.heap.size, 0, none⟩) el_79 rfl rfl rfl rfl (own_ext ho781 ((x799.trans x803).trans x806)) rfl rfl b805.put rfl (by omega) (by omega) (((x785.trans x799).trans x803).trans x806).size (fun A812 c813 w808 o809 bl810 gr811 h814 h815 => ?_)
               refine p_val (v := .slice A812 (k776 + 1) c813) rfl rfl (x_assign rfl rfl) ?_
               refine p_nil ?_
               refine b_norm (t_norm ?_)
               refine c_quiet ?_
               refine q_val (v := .int .i64 (k776 : Int)) rfl rfl (fun w' x' => x_move rfl e788) ?_
               refine q_val (v := .int .i64 ((k776 : Int) + 1)) rfl rfl (fun w' x' => x_add rfl rfl rfl (wrap_of (by omega) (by omega))) ?_
               refine q_val (v := .int .i64 ((k776 : Int) + 1)) rfl rfl (fun w' x' => x_assign rfl rfl) ?_
               refine q_nil (fun w816 x817 => ?_)
               refine t_norm ?_
               exact ⟨_, rfl, ⟨k776 + 1, A812, c813, by omega, all_step (p := oldRd a) hi778 hx791 (by simp_all [oldRd]), (by rw [← flat_step (map_of (g := fun z => z.key) hx791)]; exact (own_ext o809 x817)), h814, h815, e786, rfl, rfl, (((((x785.trans x799).trans x803).trans x806).below (Nat.le_refl _) bl810).trans x817)⟩, meas_up e788 hl789⟩
              ·refine q_val (v := .bool true) rfl rfl (fun w' x' => x_not (b := false) rfl rfl) ?_
               refine q_val (v := .bool true) rfl rfl (fun w' x' => x_pick_f rfl rfl rfl) ?_
               refine q_nil (fun w818 x819 => ?_)
               refine t_norm ?_
               refine c_true rfl ?_
               refine c_seq ?_
               refine c_quiet ?_
               refine q_val (v := .bool false) rfl rfl (fun w' x' => x_assign rfl rfl) ?_
               refine q_nil (fun w820 x821 => ?_)
               refine t_norm ?_
               refine c_ret ?_
               refine t_ret (b_ret (t_ret (t_ret (b_ret (t_ret ?_)))))
               exact c_done rfl rfl (Ret.b ((rightCmd_reads (by simpa using c5) (all_fail (p := oldRd a) hx791 (by simp only [oldRd]; simp_all))).symm) ((((((((((x3.trans x29).trans x617).trans x631).trans x771).trans x773).trans x775).trans x785).trans x799).trans x819).trans x821))
             ·refine q_val (v := .bool true) rfl rfl (fun w' x' => x_not (b := false) rfl rfl) ?_
              refine q_val (v := .bool true) rfl rfl (fun w' x' => x_move rfl rfl) ?_
              refine q_skip rfl rfl ?_
              refine q_skip rfl rfl ?_
              refine q_skip rfl rfl ?_
              refine q_skip rfl rfl ?_
              refine q_skip rfl rfl ?_
              refine q_skip rfl rfl ?_
              refine q_skip rfl rfl ?_
              refine q_skip rfl rfl ?_
              refine q_skip rfl rfl ?_
              refine q_skip rfl rfl ?_
              refine q_val (v := .bool true) rfl rfl (fun w' x' => x_pick_t rfl rfl rfl) ?_
              refine q_nil (fun w822 x823 => ?_)
              refine t_norm ?_
              refine c_true rfl ?_
              refine c_seq ?_
              refine c_quiet ?_
              refine q_val (v := .bool false) rfl rfl (fun w' x' => x_assign rfl rfl) ?_
              refine q_nil (fun w824 x825 => ?_)
              refine t_norm ?_
              refine c_ret ?_
              refine t_ret (b_ret (t_ret (t_ret (b_ret (t_ret ?_)))))
              exact c_done rfl rfl (Ret.b ((rightCmd_reads (by simpa using c5) (all_fail (p := oldRd a) hx791 (by simp only [oldRd]; simp_all))).symm) ((((((((((x3.trans x29).trans x617).trans x631).trans x771).trans x773).trans x775).trans x785).trans x799).trans x823).trans x825))
            ·have hr826 := own_lies (d := kStr) (xs := a.reads.map (·.key)) (by rw [show (a.reads.map (·.key)) = (a.reads.map (·.key)).take k776 from by rw [List.take_of_length_le (by simp; omega)]]; exact ho781) (by simp; omega) (fun _ => rfl) (fun _ => rfl)
             have he827 : k776 = (a.reads.map (·.key)).length := by simp; omega
             refine c_seq ?_
             refine c_seq ?_
             refine c_quiet ?_
             refine q_val (v := .int .i64 (k776 : Int)) rfl rfl (fun w' x' => x_move rfl e788) ?_
             refine q_val (v := .pointer (some (⟨w.heap.size, 6, none⟩))) rfl rfl (fun w' x' => x_fieldAddr fld_33_4 rfl e786 rfl) ?_
             refine q_val (v := .slice pa.A a.reads.length pa.n) rfl rfl (fun w' x' => x_load rfl rfl (((((((((b2.ext x29).ext x617).ext x631).ext x771).ext x773).ext x775).ext x785).ext x').one one_30 rfl)) ?_
             refine q_val (v := .int .i64 (a.reads.length : Int)) rfl rfl (fun w' x' => x_len_slice sl_30 rfl rfl) ?_
             refine q_val (v := .bool false) rfl rfl (fun w' x' => yb (x_lss rfl rfl rfl) (decide_eq_false (by omega))) ?_
             refine q_nil (fun w828 x829 => ?_)
             refine t_norm ?_
             refine c_false rfl ?_
             refine c_exit ?_
             refine t_exit (t_exit (b_exit (t_norm ?_)))
             refine c_seq ?_
             refine c_quiet ?_
             refine q_val (v := .slice none 0 0) rfl rfl (fun w' x' => x_assign rfl rfl) ?_
             refine q_nil (fun w830 x831 => ?_)
             refine t_norm ?_
             refine c_seq ?_
             refine c_seq ?_
             refine c_quiet ?_
             refine q_val (v := .int .i64 0) rfl rfl (fun w' x' => x_assign rfl rfl) ?_
             refine q_nil (fun w832 x833 => ?_)
             refine t_norm ?_
             refine c_block ?_
             refine c_loop (fun ρ w842 => ∃ k834 : Nat, ∃ A837 : Option Addr, ∃ c838 : Nat, k834 ≤ a.writes.length ∧ (a.writes.take k834).all (fun x : Wr => decide (x.val.size ≤ 8)) = true ∧ World.ownsRow w842 w832.heap.size 9 1 (.slice A837 k834 c838) k834 (((a.writes.map (·.key)).take k834).flatMap fStr) ∧ k834 ≤ c838 ∧ c838 ≤ 9223372036854775807 ∧ ρ 1 = .pointer (some (⟨w.heap.size, 0, none⟩)) ∧ ρ 3 = .slice A779 k776 c780 ∧ ρ 5 = .slice A837 k834 c838 ∧ ρ 6 = .int .i64 (k834 : Int) ∧ Ext w832 w842) (fun ρ _ => a.writes.length - (intOf (ρ 6)).toNat) ⟨0, none, 0, Nat.zero_le _, rfl, own_nil _ _ _ _, Nat.le_refl _, Nat.zero_le _, e786, e787, rfl, rfl, Ext.refl _⟩ ?_
             rintro ρ w842 ⟨k834, A837, c838, hk835, hi836, ho839, h840, h841, e844, e845, e846, e847, x843⟩
             by_cases hl848 : k834 < a.writes.length
             ·obtain ⟨y849, hx850⟩ := some_of (l := a.writes) (k := k834) (by omega)
              obtain ⟨ad851, cs852, eA853, hK854, hE855⟩ := ha.writes k834 y849 hx850
              have hK854' : cs852 = [.string y849.key, .string y849.val] := hK854
              subst hK854'
              refine c_seq ?_
              refine c_seq ?_
              refine c_quiet ?_
              refine q_val (v := .int .i64 (k834 : Int)) rfl rfl (fun w' x' => x_move rfl e847) ?_
              refine q_val (v := .pointer (some (⟨w.heap.size, 7, none⟩))) rfl rfl (fun w' x' => x_fieldAddr fld_33_5 rfl e844 rfl) ?_
              refine q_val (v := .slice pa.B a.writes.length pa.m) rfl rfl (fun w' x' => x_load rfl rfl (((((((((((((b2.ext x29).ext x617).ext x631).ext x771).ext x773).ext x775).ext x785).ext x829).ext x831).ext x833).ext x843).ext x').one one_31 rfl)) ?_
              refine q_val (v := .int .i64 (a.writes.length : Int)) rfl rfl (fun w' x' => x_len_slice sl_31 rfl rfl) ?_
              refine q_val (v := .bool true) rfl rfl (fun w' x' => yb (x_lss rfl rfl rfl) (decide_eq_true (by omega))) ?_
              refine q_nil (fun w857 x858 => ?_)
              refine t_norm ?_
              refine c_true rfl ?_
              refine c_skip ?_
              refine t_norm ?_
              refine c_seq ?_
              refine c_block ?_
              refine c_seq ?_
              refine c_seq ?_
              refine c_quiet ?_
              refine q_val (v := .pointer (some (⟨w.heap.size, 7, none⟩))) rfl rfl (fun w' x' => x_fieldAddr fld_33_5 rfl e844 rfl) ?_
              refine q_val (v := .slice pa.B a.writes.length pa.m) rfl rfl (fun w' x' => x_load rfl rfl ((((((((((((((b2.ext x29).ext x617).ext x631).ext x771).ext x773).ext x775).ext x785).ext x829).ext x831).ext x833).ext x843).ext x858).ext x').one one_31 rfl)) ?_
              refine q_val (v := .int .i64 (k834 : Int)) rfl rfl (fun w' x' => x_move rfl e847) ?_
              refine q_val (v := .pointer (some (ad851.add (k834 * 2)))) rfl rfl (fun w' x' => x_indexAddr sl_31 rfl rfl eA853 rfl (by omega) (by omega) rfl) ?_
              refine q_val (v := .pointer (some ((ad851.add (k834 * 2)).add 1))) rfl rfl (fun w' x' => x_fieldAddr fld_66_1 rfl rfl rfl) ?_
              refine q_val (v := .string y849.val) rfl rfl (fun w' x' => x_load rfl rfl (((((((((((((((hE855.ext x3).ext x29).ext x617).ext x631).ext x771).ext x773).ext x775).ext x785).ext x829).ext x831).ext x833).ext x843).ext x858).ext x').one one_9 1 rfl rfl)) ?_
              refine q_val (v := .int .i64 (y849.val.size : Int)) rfl rfl (fun w' x' => x_len_string str_9 rfl rfl) ?_
              refine q_bool (b := decide ((y849.val.size : Int) > 8)) rfl rfl (fun w' x' => x_gtr rfl rfl rfl) (fun c859 => ?_) (fun c859 => ?_)
              ·refine q_nil (fun w860 x861 => ?_)
               refine t_norm ?_
               refine c_true rfl ?_
               refine c_seq ?_
               refine c_quiet ?_
               refine q_val (v := .bool false) rfl rfl (fun w' x' => x_assign rfl rfl) ?_
               refine q_nil (fun w862 x863 => ?_)
               refine t_norm ?_
               refine c_ret ?_
               refine t_ret (b_ret (t_ret (t_ret (b_ret (t_ret ?_)))))
               exact c_done rfl rfl (Ret.b ((rightCmd_writes (by simpa using c5) (all_fail (p := fun x : Wr => decide (x.val.size ≤ 8)) hx850 (by simp_all <;> omega))).symm) ((((((((((((((x3.trans x29).trans x617).trans x631).trans x771).trans x773).trans x775).trans x785).trans x829).trans x831).trans x833).trans x843).trans x858).trans x861).trans x863))
              ·refine q_nil (fun w864 x865 => ?_)
               refine t_norm ?_
               refine c_false rfl ?_
               refine c_skip ?_
               refine t_norm ?_
               refine c_plain ?_
               refine p_val (v := .slice A837 k834 c838) rfl rfl (x_move rfl e846) ?_
               refine p_val (v := .pointer (some (⟨w.heap.size, 7, none⟩))) rfl rfl (x_fieldAddr fld_33_5 rfl e844 rfl) ?_
               refine p_val (v := .slice pa.B a.writes.length pa.m) rfl rfl (x_load rfl rfl ((((((((((((((b2.ext x29).ext x617).ext x631).ext x771).ext x773).ext x775).ext x785).ext x829).ext x831).ext x833).ext x843).ext x858).ext x865).one one_31 rfl)) ?_
               refine p_val (v := .int .i64 (k834 : Int)) rfl rfl (x_move rfl e847) ?_
               refine p_val (v := .pointer (some (ad851.add (k834 * 2)))) rfl rfl (x_indexAddr sl_31 rfl rfl eA853 rfl (by omega) (by omega) rfl) ?_
               refine p_val (v := .pointer (some (ad851.add (k834 * 2)))) rfl rfl (x_fieldAddr fld_66_0 rfl rfl rfl) ?_
               refine p_val (v := .string y849.key) rfl rfl (x_load rfl rfl (((((((((((((((hE855.ext x3).ext x29).ext x617).ext x631).ext x771).ext x773).ext x775).ext x785).ext x829).ext x831).ext x833).ext x843).ext x858).ext x865).one one_9 0 rfl rfl)) ?_
               refine p_buildSlice (cs := [.string y849.key]) el_79 rfl rfl rfl (parts1 rfl) (by decide) (by decide) (fill_ok [.string y849.key] [.string y849.key] rfl rfl) (fun w866 b867 x868 z869 => ?_)
               refine p_append (B := w832.heap.size) (k := k834) (m := 1) (cs := (((a.writes.map (·.key)).take k834).flatMap fStr)) (news := [.string y849.key]) (ad := ⟨w864.heap.size, 0, none⟩) el_79 rfl rfl rfl rfl (own_ext ho839 ((x858.trans x865).trans x868)) rfl rfl b867.put rfl (by omega) (by omega) (((x843.trans x858).trans x865).trans x868).size (fun A874 c875 w870 o871 bl872 gr873 h876 h877 => ?_)
               refine p_val (v := .slice A874 (k834 + 1) c875) rfl rfl (x_assign rfl rfl) ?_
               refine p_nil ?_
               refine b_norm (t_norm ?_)
               refine c_quiet ?_
               refine q_val (v := .int .i64 (k834 : Int)) rfl rfl (fun w' x' => x_move rfl e847) ?_
               refine q_val (v := .int .i64 ((k834 : Int) + 1)) rfl rfl (fun w' x' => x_add rfl rfl rfl (wrap_of (by omega) (by omega))) ?_
               refine q_val (v := .int .i64 ((k834 : Int) + 1)) rfl rfl (fun w' x' => x_assign rfl rfl) ?_
               refine q_nil (fun w878 x879 => ?_)
               refine t_norm ?_
               exact ⟨_, rfl, ⟨k834 + 1, A874, c875, by omega, all_step (p := fun x : Wr => decide (x.val.size ≤ 8)) hi836 hx850 (by simp_all <;> omega), (by rw [← flat_step (map_of (g := fun z => z.key) hx850)]; exact (own_ext o871 x879)), h876, h877, e844, e845, rfl, rfl, (((((x843.trans x858).trans x865).trans x868).below (Nat.le_refl _) bl872).trans x879)⟩, meas_up e847 hl848⟩
             ·have hr880 := own_lies (d := kStr) (xs := a.writes.map (·.key)) (by rw [show (a.writes.map (·.key)) = (a.writes.map (·.key)).take k834 from by rw [List.take_of_length_le (by simp; omega)]]; exact ho839) (by simp; omega) (fun _ => rfl) (fun _ => rfl)
              have he881 : k834 = (a.writes.map (·.key)).length := by simp; omega
              refine c_seq ?_
              refine c_seq ?_
              refine c_quiet ?_
              refine q_val (v := .int .i64 (k834 : Int)) rfl rfl (fun w' x' => x_move rfl e847) ?_
              refine q_val (v := .pointer (some (⟨w.heap.size, 7, none⟩))) rfl rfl (fun w' x' => x_fieldAddr fld_33_5 rfl e844 rfl) ?_
              refine q_val (v := .slice pa.B a.writes.length pa.m) rfl rfl (fun w' x' => x_load rfl rfl (((((((((((((b2.ext x29).ext x617).ext x631).ext x771).ext x773).ext x775).ext x785).ext x829).ext x831).ext x833).ext x843).ext x').one one_31 rfl)) ?_
              refine q_val (v := .int .i64 (a.writes.length : Int)) rfl rfl (fun w' x' => x_len_slice sl_31 rfl rfl) ?_
              refine q_val (v := .bool false) rfl rfl (fun w' x' => yb (x_lss rfl rfl rfl) (decide_eq_false (by omega))) ?_
              refine q_nil (fun w882 x883 => ?_)
              refine t_norm ?_
              refine c_false rfl ?_
              refine c_exit ?_
              refine t_exit (t_exit (b_exit (t_norm ?_)))
              refine c_seq ?_
              refine c_quiet ?_
              refine q_val (v := .slice A779 k776 c780) rfl rfl (fun w' x' => x_move rfl e845) ?_
              refine q_callb (b := rightKeys (a.reads.map (·.key))) (vs := #[.slice A779 k776 c780]) fn_42 rfl rfl rfl (args1 rfl) (fun w' x' => D_rightKeys _ _ _ _ (a.reads.map (·.key)) he827 ((((((hr826.ext x829).ext x831).ext x833).ext x843).ext x883).ext x') (by simp; omega)) (fun c884 => ?_) (fun c884 => ?_)
              ·refine q_val (v := .bool true) rfl rfl (fun w' x' => x_move rfl rfl) ?_
               refine q_val (v := .slice A837 k834 c838) rfl rfl (fun w' x' => x_move rfl e846) ?_
               refine q_callb (b := rightKeys (a.writes.map (·.key))) (vs := #[.slice A837 k834 c838]) fn_42 rfl rfl rfl (args1 rfl) (fun w' x' => D_rightKeys _ _ _ _ (a.writes.map (·.key)) he881 ((hr880.ext x883).ext x') (by simp; omega)) (fun c885 => ?_) (fun c885 => ?_)
               ·refine q_val (v := .bool true) rfl rfl (fun w' x' => x_pick_t rfl rfl rfl) ?_
                refine q_val (v := .bool true) rfl rfl (fun w' x' => x_assign rfl rfl) ?_
                refine q_nil (fun w886 x887 => ?_)
                refine t_norm ?_
                refine c_ret ?_
                exact c_done rfl rfl (Ret.b (rightCmd_end (by simpa using c5) (all_end hi778 hl789) (all_end hi836 hl848) c884 (fun _ => c885) (fun h => by cases h) (by clear ha; simp only [empty_len] at *; simp_all [-List.length_eq_zero_iff] <;> first | omega | (intros; omega) | (intros; simp_all [-List.length_eq_zero_iff] <;> omega))) (((((((((((((x3.trans x29).trans x617).trans x631).trans x771).trans x773).trans x775).trans x785).trans x829).trans x831).trans x833).trans x843).trans x883).trans x887))
               ·refine q_val (v := .bool false) rfl rfl (fun w' x' => x_pick_t rfl rfl rfl) ?_
                refine q_val (v := .bool false) rfl rfl (fun w' x' => x_assign rfl rfl) ?_
                refine q_nil (fun w888 x889 => ?_)
                refine t_norm ?_
                refine c_ret ?_
                exact c_done rfl rfl (Ret.b (rightCmd_end (by simpa using c5) (all_end hi778 hl789) (all_end hi836 hl848) c884 (fun _ => c885) (fun h => by cases h) (by clear ha; simp only [empty_len] at *; simp_all [-List.length_eq_zero_iff] <;> first | omega | (intros; omega) | (intros; simp_all [-List.length_eq_zero_iff] <;> omega))) (((((((((((((x3.trans x29).trans x617).trans x631).trans x771).trans x773).trans x775).trans x785).trans x829).trans x831).trans x833).trans x843).trans x883).trans x889))
              ·refine q_val (v := .bool false) rfl rfl (fun w' x' => x_move rfl rfl) ?_
               refine q_skip rfl rfl ?_
               refine q_skip rfl rfl ?_
               refine q_val (v := .bool false) rfl rfl (fun w' x' => x_pick_f rfl rfl rfl) ?_
               refine q_val (v := .bool false) rfl rfl (fun w' x' => x_assign rfl rfl) ?_
               refine q_nil (fun w890 x891 => ?_)
               refine t_norm ?_
               refine c_ret ?_
               exact c_done rfl rfl (Ret.b (rightCmd_end (by simpa using c5) (all_end hi778 hl789) (all_end hi836 hl848) c884 (fun h => by cases h) (fun _ => rfl) (by clear ha; simp only [empty_len] at *; simp_all [-List.length_eq_zero_iff] <;> first | omega | (intros; omega) | (intros; simp_all [-List.length_eq_zero_iff] <;> omega))) (((((((((((((x3.trans x29).trans x617).trans x631).trans x771).trans x773).trans x775).trans x785).trans x829).trans x831).trans x833).trans x843).trans x883).trans x891))
      ·refine q_val (v := .bool true) rfl rfl (fun w' x' => x_not (b := false) rfl rfl) ?_
       refine q_val (v := .bool true) rfl rfl (fun w' x' => x_pick_f rfl rfl rfl) ?_
       refine q_val (v := .bool true) rfl rfl (fun w' x' => x_move rfl rfl) ?_
       refine q_skip rfl rfl ?_
       refine q_skip rfl rfl ?_
       refine q_skip rfl rfl ?_
       refine q_skip rfl rfl ?_
       refine q_val (v := .bool true) rfl rfl (fun w' x' => x_pick_t rfl rfl rfl) ?_
       refine q_val (v := .bool true) rfl rfl (fun w' x' => x_move rfl rfl) ?_
       refine q_skip rfl rfl ?_
       refine q_skip rfl rfl ?_
       refine q_skip rfl rfl ?_
       refine q_skip rfl rfl ?_
       refine q_skip rfl rfl ?_
       refine q_skip rfl rfl ?_
       refine q_skip rfl rfl ?_
       refine q_val (v := .bool true) rfl rfl (fun w' x' => x_pick_t rfl rfl rfl) ?_
       refine q_nil (fun w892 x893 => ?_)
       refine t_norm ?_
       refine c_true rfl ?_
       refine c_seq ?_
       refine c_quiet ?_
       refine q_val (v := .bool false) rfl rfl (fun w' x' => x_assign rfl rfl) ?_
       refine q_nil (fun w894 x895 => ?_)
       refine t_norm ?_
       refine c_ret ?_
       refine t_ret ?_
       exact c_done rfl rfl (Ret.b ((rightCmd_head (by simpa using c5) (by clear ha; simp only [empty_len] at *; simp_all [-List.length_eq_zero_iff] <;> first | omega | (intros; omega) | (intros; simp_all [-List.length_eq_zero_iff] <;> omega))).symm) ((((x3.trans x29).trans x617).trans x893).trans x895))
     ·refine q_val (v := .bool true) rfl rfl (fun w' x' => x_not (b := false) rfl rfl) ?_
      refine q_val (v := .bool true) rfl rfl (fun w' x' => x_move rfl rfl) ?_
      refine q_skip rfl rfl ?_
      refine q_skip rfl rfl ?_
      refine q_skip rfl rfl ?_
      refine q_skip rfl rfl ?_
      refine q_val (v := .bool true) rfl rfl (fun w' x' => x_pick_t rfl rfl rfl) ?_
      refine q_val (v := .bool true) rfl rfl (fun w' x' => x_move rfl rfl) ?_
      refine q_skip rfl rfl ?_
      refine q_skip rfl rfl ?_
      refine q_skip rfl rfl ?_
      refine q_skip rfl rfl ?_
      refine q_val (v := .bool true) rfl rfl (fun w' x' => x_pick_t rfl rfl rfl) ?_
      refine q_val (v := .bool true) rfl rfl (fun w' x' => x_move rfl rfl) ?_
      refine q_skip rfl rfl ?_
      refine q_skip rfl rfl ?_
      refine q_skip rfl rfl ?_
      refine q_skip rfl rfl ?_
      refine q_skip rfl rfl ?_
      refine q_skip rfl rfl ?_
      refine q_skip rfl rfl ?_
      refine q_val (v := .bool true) rfl rfl (fun w' x' => x_pick_t rfl rfl rfl) ?_
      refine q_nil (fun w896 x897 => ?_)
      refine t_norm ?_
      refine c_true rfl ?_
      refine c_seq ?_
      refine c_quiet ?_
      refine q_val (v := .bool false) rfl rfl (fun w' x' => x_assign rfl rfl) ?_
      refine q_nil (fun w898 x899 => ?_)
      refine t_norm ?_
      refine c_ret ?_
      refine t_ret ?_
      exact c_done rfl rfl (Ret.b ((rightCmd_head (by simpa using c5) (by clear ha; simp only [empty_len] at *; simp_all [-List.length_eq_zero_iff] <;> first | omega | (intros; omega) | (intros; simp_all [-List.length_eq_zero_iff] <;> omega))).symm) ((((x3.trans x29).trans x617).trans x897).trans x899))
   ·refine q_val (v := .bool false) rfl rfl (fun w' x' => x_move rfl rfl) ?_
    refine q_skip rfl rfl ?_
    refine q_skip rfl rfl ?_
    refine q_val (v := .bool false) rfl rfl (fun w' x' => x_pick_f rfl rfl rfl) ?_
    refine q_val (v := .bool false) rfl rfl (fun w' x' => x_pick_f rfl rfl rfl) ?_
    refine q_nil (fun w900 x901 => ?_)
    refine t_norm ?_
    refine c_false rfl ?_
    refine c_skip ?_
    refine t_norm ?_
    refine c_seq ?_
    refine c_seq ?_
    refine c_quiet ?_
    refine q_val (v := .pointer (some (⟨w.heap.size, 1, none⟩))) rfl rfl (fun w' x' => x_fieldAddr fld_33_1 rfl rfl rfl) ?_
    refine q_val (v := .agg #[.int .i64 a.txn.client, .int .i64 a.txn.number]) rfl rfl (fun w' x' => x_load rfl rfl ((((b2.ext x29).ext x901).ext x').agg (vs := [.int .i64 a.txn.client, .int .i64 a.txn.number]) agg_27_2 rfl)) ?_
    refine q_callb (b := rightTxn a.txn) (vs := #[.agg #[.int .i64 a.txn.client, .int .i64 a.txn.number]]) fn_39 rfl rfl rfl (args1 rfl) (fun w' x' => D_rightTxn _ a.txn) (fun c902 => ?_) (fun c902 => ?_)
    ·refine q_val (v := .bool false) rfl rfl (fun w' x' => x_not (b := true) rfl rfl) ?_
     refine q_val (v := .bool false) rfl rfl (fun w' x' => x_move rfl rfl) ?_
     refine q_val (v := .pointer (some (⟨w.heap.size, 3, none⟩))) rfl rfl (fun w' x' => x_fieldAddr fld_33_2 rfl rfl rfl) ?_
     refine q_val (v := .agg #[.int .i64 a.stp.time, .int .i64 a.stp.client]) rfl rfl (fun w' x' => x_load rfl rfl ((((b2.ext x29).ext x901).ext x').agg (vs := [.int .i64 a.stp.time, .int .i64 a.stp.client]) agg_29_2 rfl)) ?_
     refine q_callb (b := rightStp a.stp) (vs := #[.agg #[.int .i64 a.stp.time, .int .i64 a.stp.client]]) fn_40 rfl rfl rfl (args1 rfl) (fun w' x' => D_rightStp _ a.stp) (fun c903 => ?_) (fun c903 => ?_)
     ·refine q_val (v := .bool false) rfl rfl (fun w' x' => x_not (b := true) rfl rfl) ?_
      refine q_val (v := .bool false) rfl rfl (fun w' x' => x_pick_f rfl rfl rfl) ?_
      refine q_val (v := .bool false) rfl rfl (fun w' x' => x_move rfl rfl) ?_
      refine q_val (v := .pointer (some (⟨w.heap.size, 3, none⟩))) rfl rfl (fun w' x' => x_fieldAddr fld_33_2 rfl rfl rfl) ?_
      refine q_val (v := .pointer (some (⟨w.heap.size, 3, none⟩))) rfl rfl (fun w' x' => x_fieldAddr fld_29_0 rfl rfl rfl) ?_
      refine q_val (v := .int .i64 a.stp.time) rfl rfl (fun w' x' => x_load rfl rfl ((((b2.ext x29).ext x901).ext x').one one_3 rfl)) ?_
      refine q_bool (b := decide (a.stp.time = 0)) rfl rfl (fun w' x' => x_eql rfl rfl rfl) (fun c904 => ?_) (fun c904 => ?_)
      ·refine q_val (v := .bool true) rfl rfl (fun w' x' => x_pick_f rfl rfl rfl) ?_
       refine q_val (v := .bool true) rfl rfl (fun w' x' => x_move rfl rfl) ?_
       refine q_skip rfl rfl ?_
       refine q_skip rfl rfl ?_
       refine q_skip rfl rfl ?_
       refine q_skip rfl rfl ?_
       refine q_skip rfl rfl ?_
       refine q_skip rfl rfl ?_
       refine q_skip rfl rfl ?_
       refine q_val (v := .bool true) rfl rfl (fun w' x' => x_pick_t rfl rfl rfl) ?_
       refine q_nil (fun w905 x906 => ?_)
       refine t_norm ?_
       refine c_true rfl ?_
       refine c_seq ?_
       refine c_quiet ?_
       refine q_val (v := .bool false) rfl rfl (fun w' x' => x_assign rfl rfl) ?_
       refine q_nil (fun w907 x908 => ?_)
       refine t_norm ?_
       refine c_ret ?_
       refine t_ret ?_
       exact c_done rfl rfl (Ret.b ((rightCmd_head (by simpa using c5) (by clear ha; simp only [empty_len] at *; simp_all [-List.length_eq_zero_iff] <;> first | omega | (intros; omega) | (intros; simp_all [-List.length_eq_zero_iff] <;> omega))).symm) ((((x3.trans x29).trans x901).trans x906).trans x908))
      ·refine q_val (v := .bool false) rfl rfl (fun w' x' => x_pick_f rfl rfl rfl) ?_
       refine q_val (v := .bool false) rfl rfl (fun w' x' => x_move rfl rfl) ?_
       refine q_val (v := .pointer (some (⟨w.heap.size, 3, none⟩))) rfl rfl (fun w' x' => x_fieldAddr fld_33_2 rfl rfl rfl) ?_
       refine q_val (v := .pointer (some (⟨w.heap.size, 4, none⟩))) rfl rfl (fun w' x' => x_fieldAddr fld_29_1 rfl rfl rfl) ?_
       refine q_val (v := .int .i64 a.stp.client) rfl rfl (fun w' x' => x_load rfl rfl ((((b2.ext x29).ext x901).ext x').one one_3 rfl)) ?_
       refine q_val (v := .pointer (some (⟨w.heap.size, 1, none⟩))) rfl rfl (fun w' x' => x_fieldAddr fld_33_1 rfl rfl rfl) ?_
       refine q_val (v := .pointer (some (⟨w.heap.size, 1, none⟩))) rfl rfl (fun w' x' => x_fieldAddr fld_27_0 rfl rfl rfl) ?_
       refine q_val (v := .int .i64 a.txn.client) rfl rfl (fun w' x' => x_load rfl rfl ((((b2.ext x29).ext x901).ext x').one one_3 rfl)) ?_
       refine q_bool (b := decide (a.stp.client ≠ a.txn.client)) rfl rfl (fun w' x' => x_neq rfl rfl rfl) (fun c909 => ?_) (fun c909 => ?_)
       ·refine q_val (v := .bool true) rfl rfl (fun w' x' => x_pick_f rfl rfl rfl) ?_
        refine q_nil (fun w910 x911 => ?_)
        refine t_norm ?_
        refine c_true rfl ?_
        refine c_seq ?_
        refine c_quiet ?_
        refine q_val (v := .bool false) rfl rfl (fun w' x' => x_assign rfl rfl) ?_
        refine q_nil (fun w912 x913 => ?_)
        refine t_norm ?_
        refine c_ret ?_
        refine t_ret ?_
        exact c_done rfl rfl (Ret.b ((rightCmd_head (by simpa using c5) (by clear ha; simp only [empty_len] at *; simp_all [-List.length_eq_zero_iff] <;> first | omega | (intros; omega) | (intros; simp_all [-List.length_eq_zero_iff] <;> omega))).symm) ((((x3.trans x29).trans x901).trans x911).trans x913))
       ·refine q_val (v := .bool false) rfl rfl (fun w' x' => x_pick_f rfl rfl rfl) ?_
        refine q_nil (fun w914 x915 => ?_)
        refine t_norm ?_
        refine c_false rfl ?_
        refine c_skip ?_
        refine t_norm ?_
        refine c_seq ?_
        refine c_seq ?_
        refine c_quiet ?_
        refine q_val (v := .pointer (some (⟨w.heap.size, 5, none⟩))) rfl rfl (fun w' x' => x_fieldAddr fld_33_3 rfl rfl rfl) ?_
        refine q_val (v := .int .i64 a.shards) rfl rfl (fun w' x' => x_load rfl rfl (((((b2.ext x29).ext x901).ext x915).ext x').one one_3 rfl)) ?_
        refine q_bool (b := decide (a.shards ≤ 0)) rfl rfl (fun w' x' => x_leq rfl rfl rfl) (fun c916 => ?_) (fun c916 => ?_)
        ·refine q_val (v := .bool true) rfl rfl (fun w' x' => x_move rfl rfl) ?_
         refine q_skip rfl rfl ?_
         refine q_skip rfl rfl ?_
         refine q_skip rfl rfl ?_
         refine q_val (v := .bool true) rfl rfl (fun w' x' => x_pick_t rfl rfl rfl) ?_
         refine q_val (v := .bool true) rfl rfl (fun w' x' => x_move rfl rfl) ?_
         refine q_skip rfl rfl ?_
         refine q_skip rfl rfl ?_
         refine q_skip rfl rfl ?_
         refine q_skip rfl rfl ?_
         refine q_skip rfl rfl ?_
         refine q_skip rfl rfl ?_
         refine q_skip rfl rfl ?_
         refine q_skip rfl rfl ?_
         refine q_skip rfl rfl ?_
         refine q_skip rfl rfl ?_
         refine q_val (v := .bool true) rfl rfl (fun w' x' => x_pick_t rfl rfl rfl) ?_
         refine q_nil (fun w917 x918 => ?_)
         refine t_norm ?_
         refine c_true rfl ?_
         refine c_seq ?_
         refine c_quiet ?_
         refine q_val (v := .bool false) rfl rfl (fun w' x' => x_assign rfl rfl) ?_
         refine q_nil (fun w919 x920 => ?_)
         refine t_norm ?_
         refine c_ret ?_
         refine t_ret ?_
         exact c_done rfl rfl (Ret.b ((rightCmd_head (by simpa using c5) (by clear ha; simp only [empty_len] at *; simp_all [-List.length_eq_zero_iff] <;> first | omega | (intros; omega) | (intros; simp_all [-List.length_eq_zero_iff] <;> omega))).symm) (((((x3.trans x29).trans x901).trans x915).trans x918).trans x920))
        ·refine q_val (v := .bool false) rfl rfl (fun w' x' => x_move rfl rfl) ?_
         refine q_val (v := .pointer (some (⟨w.heap.size, 5, none⟩))) rfl rfl (fun w' x' => x_fieldAddr fld_33_3 rfl rfl rfl) ?_
         refine q_val (v := .int .i64 a.shards) rfl rfl (fun w' x' => x_load rfl rfl (((((b2.ext x29).ext x901).ext x915).ext x').one one_3 rfl)) ?_
         refine q_bool (b := decide (a.shards ≥ 16)) rfl rfl (fun w' x' => x_geq rfl rfl rfl) (fun c921 => ?_) (fun c921 => ?_)
         ·refine q_val (v := .bool true) rfl rfl (fun w' x' => x_pick_f rfl rfl rfl) ?_
          refine q_val (v := .bool true) rfl rfl (fun w' x' => x_move rfl rfl) ?_
          refine q_skip rfl rfl ?_
          refine q_skip rfl rfl ?_
          refine q_skip rfl rfl ?_
          refine q_skip rfl rfl ?_
          refine q_skip rfl rfl ?_
          refine q_skip rfl rfl ?_
          refine q_skip rfl rfl ?_
          refine q_skip rfl rfl ?_
          refine q_skip rfl rfl ?_
          refine q_skip rfl rfl ?_
          refine q_val (v := .bool true) rfl rfl (fun w' x' => x_pick_t rfl rfl rfl) ?_
          refine q_nil (fun w922 x923 => ?_)
          refine t_norm ?_
          refine c_true rfl ?_
          refine c_seq ?_
          refine c_quiet ?_
          refine q_val (v := .bool false) rfl rfl (fun w' x' => x_assign rfl rfl) ?_
          refine q_nil (fun w924 x925 => ?_)
          refine t_norm ?_
          refine c_ret ?_
          refine t_ret ?_
          exact c_done rfl rfl (Ret.b ((rightCmd_head (by simpa using c5) (by clear ha; simp only [empty_len] at *; simp_all [-List.length_eq_zero_iff] <;> first | omega | (intros; omega) | (intros; simp_all [-List.length_eq_zero_iff] <;> omega))).symm) (((((x3.trans x29).trans x901).trans x915).trans x923).trans x925))
         ·refine q_val (v := .bool false) rfl rfl (fun w' x' => x_pick_f rfl rfl rfl) ?_
          refine q_val (v := .bool false) rfl rfl (fun w' x' => x_move rfl rfl) ?_
          refine q_val (v := .pointer (some (⟨w.heap.size, 6, none⟩))) rfl rfl (fun w' x' => x_fieldAddr fld_33_4 rfl rfl rfl) ?_
          refine q_val (v := .slice pa.A a.reads.length pa.n) rfl rfl (fun w' x' => x_load rfl rfl (((((b2.ext x29).ext x901).ext x915).ext x').one one_30 rfl)) ?_
          refine q_val (v := .int .i64 (a.reads.length : Int)) rfl rfl (fun w' x' => x_len_slice sl_30 rfl rfl) ?_
          refine q_bool (b := decide ((a.reads.length : Int) = 0)) rfl rfl (fun w' x' => x_eql rfl rfl rfl) (fun c926 => ?_) (fun c926 => ?_)
          ·refine q_val (v := .bool true) rfl rfl (fun w' x' => x_move rfl rfl) ?_
           refine q_val (v := .pointer (some (⟨w.heap.size, 7, none⟩))) rfl rfl (fun w' x' => x_fieldAddr fld_33_5 rfl rfl rfl) ?_
           refine q_val (v := .slice pa.B a.writes.length pa.m) rfl rfl (fun w' x' => x_load rfl rfl (((((b2.ext x29).ext x901).ext x915).ext x').one one_31 rfl)) ?_
           refine q_val (v := .int .i64 (a.writes.length : Int)) rfl rfl (fun w' x' => x_len_slice sl_31 rfl rfl) ?_
           refine q_bool (b := decide ((a.writes.length : Int) = 0)) rfl rfl (fun w' x' => x_eql rfl rfl rfl) (fun c927 => ?_) (fun c927 => ?_)
           ·refine q_val (v := .bool true) rfl rfl (fun w' x' => x_pick_t rfl rfl rfl) ?_
            refine q_val (v := .bool true) rfl rfl (fun w' x' => x_pick_f rfl rfl rfl) ?_
            refine q_nil (fun w928 x929 => ?_)
            refine t_norm ?_
            refine c_true rfl ?_
            refine c_seq ?_
            refine c_quiet ?_
            refine q_val (v := .bool false) rfl rfl (fun w' x' => x_assign rfl rfl) ?_
            refine q_nil (fun w930 x931 => ?_)
            refine t_norm ?_
            refine c_ret ?_
            refine t_ret ?_
            exact c_done rfl rfl (Ret.b ((rightCmd_head (by simpa using c5) (by clear ha; simp only [empty_len] at *; simp_all [-List.length_eq_zero_iff] <;> first | omega | (intros; omega) | (intros; simp_all [-List.length_eq_zero_iff] <;> omega))).symm) (((((x3.trans x29).trans x901).trans x915).trans x929).trans x931))
           ·refine q_val (v := .bool false) rfl rfl (fun w' x' => x_pick_t rfl rfl rfl) ?_
            refine q_val (v := .bool false) rfl rfl (fun w' x' => x_pick_f rfl rfl rfl) ?_
            refine q_nil (fun w932 x933 => ?_)
            refine t_norm ?_
            refine c_false rfl ?_
            refine c_skip ?_
            refine t_norm ?_
            refine c_seq ?_
            refine c_quiet ?_
            refine q_val (v := .slice none 0 0) rfl rfl (fun w' x' => x_assign rfl rfl) ?_
            refine q_nil (fun w934 x935 => ?_)
            refine t_norm ?_
            refine c_seq ?_
            refine c_seq ?_
            refine c_quiet ?_
            refine q_val (v := .int .i64 0) rfl rfl (fun w' x' => x_assign rfl rfl) ?_
            refine q_nil (fun w936 x937 => ?_)
            refine t_norm ?_
            refine c_block ?_
            refine c_loop (fun ρ w946 => ∃ k938 : Nat, ∃ A941 : Option Addr, ∃ c942 : Nat, k938 ≤ a.reads.length ∧ (a.reads.take k938).all (oldRd a) = true ∧ World.ownsRow w946 w936.heap.size 9 1 (.slice A941 k938 c942) k938 (((a.reads.map (·.key)).take k938).flatMap fStr) ∧ k938 ≤ c942 ∧ c942 ≤ 9223372036854775807 ∧ ρ 1 = .pointer (some (⟨w.heap.size, 0, none⟩)) ∧ ρ 3 = .slice A941 k938 c942 ∧ ρ 4 = .int .i64 (k938 : Int) ∧ Ext w936 w946) (fun ρ _ => a.reads.length - (intOf (ρ 4)).toNat) ⟨0, none, 0, Nat.zero_le _, rfl, own_nil _ _ _ _, Nat.le_refl _, Nat.zero_le _, rfl, rfl, rfl, Ext.refl _⟩ ?_
            rintro ρ w946 ⟨k938, A941, c942, hk939, hi940, ho943, h944, h945, e948, e949, e950, x947⟩
            by_cases hl951 : k938 < a.reads.length
            ·obtain ⟨y952, hx953⟩ := some_of (l := a.reads) (k := k938) (by omega)
             obtain ⟨ad954, cs955, eA956, hK957, hE958⟩ := ha.reads k938 y952 hx953
             have hK957' : cs955 = [.string y952.key, .int .i64 y952.ver.time, .int .i64 y952.ver.client] := hK957
             subst hK957'
             refine c_seq ?_
             refine c_seq ?_
             refine c_quiet ?_
             refine q_val (v := .int .i64 (k938 : Int)) rfl rfl (fun w' x' => x_move rfl e950) ?_
             refine q_val (v := .pointer (some (⟨w.heap.size, 6, none⟩))) rfl rfl (fun w' x' => x_fieldAddr fld_33_4 rfl e948 rfl) ?_
             refine q_val (v := .slice pa.A a.reads.length pa.n) rfl rfl (fun w' x' => x_load rfl rfl (((((((((b2.ext x29).ext x901).ext x915).ext x933).ext x935).ext x937).ext x947).ext x').one one_30 rfl)) ?_
             refine q_val (v := .int .i64 (a.reads.length : Int)) rfl rfl (fun w' x' => x_len_slice sl_30 rfl rfl) ?_
             refine q_val (v := .bool true) rfl rfl (fun w' x' => yb (x_lss rfl rfl rfl) (decide_eq_true (by omega))) ?_
             refine q_nil (fun w960 x961 => ?_)
             refine t_norm ?_
             refine c_true rfl ?_
             refine c_skip ?_
             refine t_norm ?_
             refine c_seq ?_
             refine c_block ?_
             refine c_seq ?_
             refine c_seq ?_
             refine c_draw mixed (by kernel_rfl) ?_
             refine q_val (v := .pointer (some (⟨w.heap.size, 6, none⟩))) rfl rfl (fun w' x' => x_fieldAddr fld_33_4 rfl e948 rfl) ?_
             refine q_val (v := .slice pa.A a.reads.length pa.n) rfl rfl (fun w' x' => x_load rfl rfl ((((((((((b2.ext x29).ext x901).ext x915).ext x933).ext x935).ext x937).ext x947).ext x961).ext x').one one_30 rfl)) ?_
             refine q_val (v := .int .i64 (k938 : Int)) rfl rfl (fun w' x' => x_move rfl e950) ?_
             refine q_val (v := .pointer (some (ad954.add (k938 * 3)))) rfl rfl (fun w' x' => x_indexAddr sl_30 rfl rfl eA956 rfl (by omega) (by omega) rfl) ?_
             refine q_val (v := .pointer (some ((ad954.add (k938 * 3)).add 1))) rfl rfl (fun w' x' => x_fieldAddr fld_64_1 rfl rfl rfl) ?_
             refine q_val (v := .agg #[.int .i64 y952.ver.time, .int .i64 y952.ver.client]) rfl rfl (fun w' x' => x_load rfl rfl (((((((((((hE958.ext x3).ext x29).ext x901).ext x915).ext x933).ext x935).ext x937).ext x947).ext x961).ext x').agg (vs := [.int .i64 y952.ver.time, .int .i64 y952.ver.client]) agg_29_2 1 rfl rfl)) ?_
             refine q_callb (b := rightStp y952.ver) (vs := #[.agg #[.int .i64 y952.ver.time, .int .i64 y952.ver.client]]) fn_40 rfl rfl rfl (args1 rfl) (fun w' x' => D_rightStp _ y952.ver) (fun c962 => ?_) (fun c962 => ?_)
             ·refine q_val (v := .bool false) rfl rfl (fun w' x' => x_not (b := true) rfl rfl) ?_
              refine q_val (v := .bool false) rfl rfl (fun w' x' => x_move rfl rfl) ?_
              refine q_val (v := .pointer (some (⟨w.heap.size, 6, none⟩))) rfl rfl (fun w' x' => x_fieldAddr fld_33_4 rfl e948 rfl) ?_
              refine q_val (v := .slice pa.A a.reads.length pa.n) rfl rfl (fun w' x' => x_load rfl rfl ((((((((((b2.ext x29).ext x901).ext x915).ext x933).ext x935).ext x937).ext x947).ext x961).ext x').one one_30 rfl)) ?_
              refine q_val (v := .int .i64 (k938 : Int)) rfl rfl (fun w' x' => x_move rfl e950) ?_
              refine q_val (v := .pointer (some (ad954.add (k938 * 3)))) rfl rfl (fun w' x' => x_indexAddr sl_30 rfl rfl eA956 rfl (by omega) (by omega) rfl) ?_
              refine q_val (v := .pointer (some ((ad954.add (k938 * 3)).add 1))) rfl rfl (fun w' x' => x_fieldAddr fld_64_1 rfl rfl rfl) ?_
              refine q_val (v := .agg #[.int .i64 y952.ver.time, .int .i64 y952.ver.client]) rfl rfl (fun w' x' => x_load rfl rfl (((((((((((hE958.ext x3).ext x29).ext x901).ext x915).ext x933).ext x935).ext x937).ext x947).ext x961).ext x').agg (vs := [.int .i64 y952.ver.time, .int .i64 y952.ver.client]) agg_29_2 1 rfl rfl)) ?_
              refine q_val (v := .pointer (some (⟨w.heap.size, 3, none⟩))) rfl rfl (fun w' x' => x_fieldAddr fld_33_2 rfl e948 rfl) ?_
              refine q_val (v := .agg #[.int .i64 a.stp.time, .int .i64 a.stp.client]) rfl rfl (fun w' x' => x_load rfl rfl ((((((((((b2.ext x29).ext x901).ext x915).ext x933).ext x935).ext x937).ext x947).ext x961).ext x').agg (vs := [.int .i64 a.stp.time, .int .i64 a.stp.client]) agg_29_2 rfl)) ?_
              refine q_callb (b := decide (cmpStp y952.ver a.stp < 0)) (vs := #[.agg #[.int .i64 y952.ver.time, .int .i64 y952.ver.client], .agg #[.int .i64 a.stp.time, .int .i64 a.stp.client]]) fn_41 rfl rfl rfl (args2 rfl rfl) (fun w' x' => D_before _ y952.ver a.stp) (fun c963 => ?_) (fun c963 => ?_)
              ·refine q_val (v := .bool false) rfl rfl (fun w' x' => x_not (b := true) rfl rfl) ?_
               refine q_val (v := .bool false) rfl rfl (fun w' x' => x_pick_f rfl rfl rfl) ?_
               refine q_nil (fun w964 x965 => ?_)
               refine t_norm ?_
               refine c_false rfl ?_
               refine c_skip ?_
               refine t_norm ?_
               refine c_plain ?_
               refine p_val (v := .slice A941 k938 c942) rfl rfl (x_move rfl e949) ?_
               refine p_val (v := .pointer (some (⟨w.heap.size, 6, none⟩))) rfl rfl (x_fieldAddr fld_33_4 rfl e948 rfl) ?_
               refine p_val (v := .slice pa.A a.reads.length pa.n) rfl rfl (x_load rfl rfl ((((((((((b2.ext x29).ext x901).ext x915).ext x933).ext x935).ext x937).ext x947).ext x961).ext x965).one one_30 rfl)) ?_
               refine p_val (v := .int .i64 (k938 : Int)) rfl rfl (x_move rfl e950) ?_
               refine p_val (v := .pointer (some (ad954.add (k938 * 3)))) rfl rfl (x_indexAddr sl_30 rfl rfl eA956 rfl (by omega) (by omega) rfl) ?_
               refine p_val (v := .pointer (some (ad954.add (k938 * 3)))) rfl rfl (x_fieldAddr fld_64_0 rfl rfl rfl) ?_
               refine p_val (v := .string y952.key) rfl rfl (x_load rfl rfl (((((((((((hE958.ext x3).ext x29).ext x901).ext x915).ext x933).ext x935).ext x937).ext x947).ext x961).ext x965).one one_9 0 rfl rfl)) ?_
               refine p_buildSlice (cs := [.string y952.key]) el_79 rfl rfl rfl (parts1 rfl) (by decide) (by decide) (fill_ok [.string y952.key] [.string y952.key] rfl rfl) (fun w966 b967 x968 z969 => ?_)
               refine p_append (B := w936.heap.size) (k := k938) (m := 1) (cs := (((a.reads.map (·.key)).take k938).flatMap fStr)) (news := [.string y952.key]) (ad := ⟨w964.heap.size, 0, none⟩) el_79 rfl rfl rfl rfl (own_ext ho943 ((x961.trans x965).trans x968)) rfl rfl b967.put rfl (by omega) (by omega) (((x947.trans x961).trans x965).trans x968).size (fun A974 c975 w970 o971 bl972 gr973 h976 h977 => ?_)
               refine p_val (v := .slice A974 (k938 + 1) c975) rfl rfl (x_assign rfl rfl) ?_
               refine p_nil ?_
               refine b_norm (t_norm ?_)
               refine c_quiet ?_
               refine q_val (v := .int .i64 (k938 : Int)) rfl rfl (fun w' x' => x_move rfl e950) ?_
               refine q_val (v := .int .i64 ((k938 : Int) + 1)) rfl rfl (fun w' x' => x_add rfl rfl rfl (wrap_of (by omega) (by omega))) ?_
               refine q_val (v := .int .i64 ((k938 : Int) + 1)) rfl rfl (fun w' x' => x_assign rfl rfl) ?_
               refine q_nil (fun w978 x979 => ?_)
               refine t_norm ?_
               exact ⟨_, rfl, ⟨k938 + 1, A974, c975, by omega, all_step (p := oldRd a) hi940 hx953 (by simp_all [oldRd]), (by rw [← flat_step (map_of (g := fun z => z.key) hx953)]; exact (own_ext o971 x979)), h976, h977, e948, rfl, rfl, (((((x947.trans x961).trans x965).trans x968).below (Nat.le_refl _) bl972).trans x979)⟩, meas_up e950 hl951⟩
              ·refine q_val (v := .bool true) rfl rfl (fun w' x' => x_not (b := false) rfl rfl) ?_
               refine q_val (v := .bool true) rfl rfl (fun w' x' => x_pick_f rfl rfl rfl) ?_
               refine q_nil (fun w980 x981 => ?_)
               refine t_norm ?_
               refine c_true rfl ?_
               refine c_seq ?_
               refine c_quiet ?_
               refine q_val (v := .bool false) rfl rfl (fun w' x' => x_assign rfl rfl) ?_
               refine q_nil (fun w982 x983 => ?_)
               refine t_norm ?_
               refine c_ret ?_
               refine t_ret (b_ret (t_ret (t_ret (b_ret (t_ret ?_)))))
               exact c_done rfl rfl (Ret.b ((rightCmd_reads (by simpa using c5) (all_fail (p := oldRd a) hx953 (by simp only [oldRd]; simp_all))).symm) ((((((((((x3.trans x29).trans x901).trans x915).trans x933).trans x935).trans x937).trans x947).trans x961).trans x981).trans x983))
             ·refine q_val (v := .bool true) rfl rfl (fun w' x' => x_not (b := false) rfl rfl) ?_
              refine q_val (v := .bool true) rfl rfl (fun w' x' => x_move rfl rfl) ?_
              refine q_skip rfl rfl ?_
              refine q_skip rfl rfl ?_
              refine q_skip rfl rfl ?_
              refine q_skip rfl rfl ?_
              refine q_skip rfl rfl ?_
              refine q_skip rfl rfl ?_
              refine q_skip rfl rfl ?_
              refine q_skip rfl rfl ?_
              refine q_skip rfl rfl ?_
              refine q_skip rfl rfl ?_
              refine q_val (v := .bool true) rfl rfl (fun w' x' => x_pick_t rfl rfl rfl) ?_
              refine q_nil (fun w984 x985 => ?_)
              refine t_norm ?_
              refine c_true rfl ?_
              refine c_seq ?_
              refine c_quiet ?_
              refine q_val (v := .bool false) rfl rfl (fun w' x' => x_assign rfl rfl) ?_
              refine q_nil (fun w986 x987 => ?_)
              refine t_norm ?_
              refine c_ret ?_
              refine t_ret (b_ret (t_ret (t_ret (b_ret (t_ret ?_)))))
              exact c_done rfl rfl (Ret.b ((rightCmd_reads (by simpa using c5) (all_fail (p := oldRd a) hx953 (by simp only [oldRd]; simp_all))).symm) ((((((((((x3.trans x29).trans x901).trans x915).trans x933).trans x935).trans x937).trans x947).trans x961).trans x985).trans x987))
            ·have hr988 := own_lies (d := kStr) (xs := a.reads.map (·.key)) (by rw [show (a.reads.map (·.key)) = (a.reads.map (·.key)).take k938 from by rw [List.take_of_length_le (by simp; omega)]]; exact ho943) (by simp; omega) (fun _ => rfl) (fun _ => rfl)
             have he989 : k938 = (a.reads.map (·.key)).length := by simp; omega
             refine c_seq ?_
             refine c_seq ?_
             refine c_quiet ?_
             refine q_val (v := .int .i64 (k938 : Int)) rfl rfl (fun w' x' => x_move rfl e950) ?_
             refine q_val (v := .pointer (some (⟨w.heap.size, 6, none⟩))) rfl rfl (fun w' x' => x_fieldAddr fld_33_4 rfl e948 rfl) ?_
             refine q_val (v := .slice pa.A a.reads.length pa.n) rfl rfl (fun w' x' => x_load rfl rfl (((((((((b2.ext x29).ext x901).ext x915).ext x933).ext x935).ext x937).ext x947).ext x').one one_30 rfl)) ?_
             refine q_val (v := .int .i64 (a.reads.length : Int)) rfl rfl (fun w' x' => x_len_slice sl_30 rfl rfl) ?_
             refine q_val (v := .bool false) rfl rfl (fun w' x' => yb (x_lss rfl rfl rfl) (decide_eq_false (by omega))) ?_
             refine q_nil (fun w990 x991 => ?_)
             refine t_norm ?_
             refine c_false rfl ?_
             refine c_exit ?_
             refine t_exit (t_exit (b_exit (t_norm ?_)))
             refine c_seq ?_
             refine c_quiet ?_
             refine q_val (v := .slice none 0 0) rfl rfl (fun w' x' => x_assign rfl rfl) ?_
             refine q_nil (fun w992 x993 => ?_)
             refine t_norm ?_
             refine c_seq ?_
             refine c_seq ?_
             refine c_quiet ?_
             refine q_val (v := .int .i64 0) rfl rfl (fun w' x' => x_assign rfl rfl) ?_
             refine q_nil (fun w994 x995 => ?_)
             refine t_norm ?_
             refine c_block ?_
             refine c_loop (fun ρ w1004 => ∃ k996 : Nat, ∃ A999 : Option Addr, ∃ c1000 : Nat, k996 ≤ a.writes.length ∧ (a.writes.take k996).all (fun x : Wr => decide (x.val.size ≤ 8)) = true ∧ World.ownsRow w1004 w994.heap.size 9 1 (.slice A999 k996 c1000) k996 (((a.writes.map (·.key)).take k996).flatMap fStr) ∧ k996 ≤ c1000 ∧ c1000 ≤ 9223372036854775807 ∧ ρ 1 = .pointer (some (⟨w.heap.size, 0, none⟩)) ∧ ρ 3 = .slice A941 k938 c942 ∧ ρ 5 = .slice A999 k996 c1000 ∧ ρ 6 = .int .i64 (k996 : Int) ∧ Ext w994 w1004) (fun ρ _ => a.writes.length - (intOf (ρ 6)).toNat) ⟨0, none, 0, Nat.zero_le _, rfl, own_nil _ _ _ _, Nat.le_refl _, Nat.zero_le _, e948, e949, rfl, rfl, Ext.refl _⟩ ?_
             rintro ρ w1004 ⟨k996, A999, c1000, hk997, hi998, ho1001, h1002, h1003, e1006, e1007, e1008, e1009, x1005⟩
             by_cases hl1010 : k996 < a.writes.length
             ·obtain ⟨y1011, hx1012⟩ := some_of (l := a.writes) (k := k996) (by omega)
              obtain ⟨ad1013, cs1014, eA1015, hK1016, hE1017⟩ := ha.writes k996 y1011 hx1012
              have hK1016' : cs1014 = [.string y1011.key, .string y1011.val] := hK1016
              subst hK1016'
              refine c_seq ?_
              refine c_seq ?_
              refine c_quiet ?_
              refine q_val (v := .int .i64 (k996 : Int)) rfl rfl (fun w' x' => x_move rfl e1009) ?_
              refine q_val (v := .pointer (some (⟨w.heap.size, 7, none⟩))) rfl rfl (fun w' x' => x_fieldAddr fld_33_5 rfl e1006 rfl) ?_
              refine q_val (v := .slice pa.B a.writes.length pa.m) rfl rfl (fun w' x' => x_load rfl rfl (((((((((((((b2.ext x29).ext x901).ext x915).ext x933).ext x935).ext x937).ext x947).ext x991).ext x993).ext x995).ext x1005).ext x').one one_31 rfl)) ?_
              refine q_val (v := .int .i64 (a.writes.length : Int)) rfl rfl (fun w' x' => x_len_slice sl_31 rfl rfl) ?_
              refine q_val (v := .bool true) rfl rfl (fun w' x' => yb (x_lss rfl rfl rfl) (decide_eq_true (by omega))) ?_
              refine q_nil (fun w1019 x1020 => ?_)
              refine t_norm ?_
              refine c_true rfl ?_
              refine c_skip ?_
              refine t_norm ?_
              refine c_seq ?_
              refine c_block ?_
              refine c_seq ?_
              refine c_seq ?_
              refine c_quiet ?_
              refine q_val (v := .pointer (some (⟨w.heap.size, 7, none⟩))) rfl rfl (fun w' x' => x_fieldAddr fld_33_5 rfl e1006 rfl) ?_
              refine q_val (v := .slice pa.B a.writes.length pa.m) rfl rfl (fun w' x' => x_load rfl rfl ((((((((((((((b2.ext x29).ext x901).ext x915).ext x933).ext x935).ext x937).ext x947).ext x991).ext x993).ext x995).ext x1005).ext x1020).ext x').one one_31 rfl)) ?_
              refine q_val (v := .int .i64 (k996 : Int)) rfl rfl (fun w' x' => x_move rfl e1009) ?_
              refine q_val (v := .pointer (some (ad1013.add (k996 * 2)))) rfl rfl (fun w' x' => x_indexAddr sl_31 rfl rfl eA1015 rfl (by omega) (by omega) rfl) ?_
              refine q_val (v := .pointer (some ((ad1013.add (k996 * 2)).add 1))) rfl rfl (fun w' x' => x_fieldAddr fld_66_1 rfl rfl rfl) ?_
              refine q_val (v := .string y1011.val) rfl rfl (fun w' x' => x_load rfl rfl (((((((((((((((hE1017.ext x3).ext x29).ext x901).ext x915).ext x933).ext x935).ext x937).ext x947).ext x991).ext x993).ext x995).ext x1005).ext x1020).ext x').one one_9 1 rfl rfl)) ?_
              refine q_val (v := .int .i64 (y1011.val.size : Int)) rfl rfl (fun w' x' => x_len_string str_9 rfl rfl) ?_
              refine q_bool (b := decide ((y1011.val.size : Int) > 8)) rfl rfl (fun w' x' => x_gtr rfl rfl rfl) (fun c1021 => ?_) (fun c1021 => ?_)
              ·refine q_nil (fun w1022 x1023 => ?_)
               refine t_norm ?_
               refine c_true rfl ?_
               refine c_seq ?_
               refine c_quiet ?_
               refine q_val (v := .bool false) rfl rfl (fun w' x' => x_assign rfl rfl) ?_
               refine q_nil (fun w1024 x1025 => ?_)
               refine t_norm ?_
               refine c_ret ?_
               refine t_ret (b_ret (t_ret (t_ret (b_ret (t_ret ?_)))))
               exact c_done rfl rfl (Ret.b ((rightCmd_writes (by simpa using c5) (all_fail (p := fun x : Wr => decide (x.val.size ≤ 8)) hx1012 (by simp_all <;> omega))).symm) ((((((((((((((x3.trans x29).trans x901).trans x915).trans x933).trans x935).trans x937).trans x947).trans x991).trans x993).trans x995).trans x1005).trans x1020).trans x1023).trans x1025))
              ·refine q_nil (fun w1026 x1027 => ?_)
               refine t_norm ?_
               refine c_false rfl ?_
               refine c_skip ?_
               refine t_norm ?_
               refine c_plain ?_
               refine p_val (v := .slice A999 k996 c1000) rfl rfl (x_move rfl e1008) ?_
               refine p_val (v := .pointer (some (⟨w.heap.size, 7, none⟩))) rfl rfl (x_fieldAddr fld_33_5 rfl e1006 rfl) ?_
               refine p_val (v := .slice pa.B a.writes.length pa.m) rfl rfl (x_load rfl rfl ((((((((((((((b2.ext x29).ext x901).ext x915).ext x933).ext x935).ext x937).ext x947).ext x991).ext x993).ext x995).ext x1005).ext x1020).ext x1027).one one_31 rfl)) ?_
               refine p_val (v := .int .i64 (k996 : Int)) rfl rfl (x_move rfl e1009) ?_
               refine p_val (v := .pointer (some (ad1013.add (k996 * 2)))) rfl rfl (x_indexAddr sl_31 rfl rfl eA1015 rfl (by omega) (by omega) rfl) ?_
               refine p_val (v := .pointer (some (ad1013.add (k996 * 2)))) rfl rfl (x_fieldAddr fld_66_0 rfl rfl rfl) ?_
               refine p_val (v := .string y1011.key) rfl rfl (x_load rfl rfl (((((((((((((((hE1017.ext x3).ext x29).ext x901).ext x915).ext x933).ext x935).ext x937).ext x947).ext x991).ext x993).ext x995).ext x1005).ext x1020).ext x1027).one one_9 0 rfl rfl)) ?_
               refine p_buildSlice (cs := [.string y1011.key]) el_79 rfl rfl rfl (parts1 rfl) (by decide) (by decide) (fill_ok [.string y1011.key] [.string y1011.key] rfl rfl) (fun w1028 b1029 x1030 z1031 => ?_)
               refine p_append (B := w994.heap.size) (k := k996) (m := 1) (cs := (((a.writes.map (·.key)).take k996).flatMap fStr)) (news := [.string y1011.key]) (ad := ⟨w1026.heap.size, 0, none⟩) el_79 rfl rfl rfl rfl (own_ext ho1001 ((x1020.trans x1027).trans x1030)) rfl rfl b1029.put rfl (by omega) (by omega) (((x1005.trans x1020).trans x1027).trans x1030).size (fun A1036 c1037 w1032 o1033 bl1034 gr1035 h1038 h1039 => ?_)
               refine p_val (v := .slice A1036 (k996 + 1) c1037) rfl rfl (x_assign rfl rfl) ?_
               refine p_nil ?_
               refine b_norm (t_norm ?_)
               refine c_quiet ?_
               refine q_val (v := .int .i64 (k996 : Int)) rfl rfl (fun w' x' => x_move rfl e1009) ?_
               refine q_val (v := .int .i64 ((k996 : Int) + 1)) rfl rfl (fun w' x' => x_add rfl rfl rfl (wrap_of (by omega) (by omega))) ?_
               refine q_val (v := .int .i64 ((k996 : Int) + 1)) rfl rfl (fun w' x' => x_assign rfl rfl) ?_
               refine q_nil (fun w1040 x1041 => ?_)
               refine t_norm ?_
               exact ⟨_, rfl, ⟨k996 + 1, A1036, c1037, by omega, all_step (p := fun x : Wr => decide (x.val.size ≤ 8)) hi998 hx1012 (by simp_all <;> omega), (by rw [← flat_step (map_of (g := fun z => z.key) hx1012)]; exact (own_ext o1033 x1041)), h1038, h1039, e1006, e1007, rfl, rfl, (((((x1005.trans x1020).trans x1027).trans x1030).below (Nat.le_refl _) bl1034).trans x1041)⟩, meas_up e1009 hl1010⟩
             ·have hr1042 := own_lies (d := kStr) (xs := a.writes.map (·.key)) (by rw [show (a.writes.map (·.key)) = (a.writes.map (·.key)).take k996 from by rw [List.take_of_length_le (by simp; omega)]]; exact ho1001) (by simp; omega) (fun _ => rfl) (fun _ => rfl)
              have he1043 : k996 = (a.writes.map (·.key)).length := by simp; omega
              refine c_seq ?_
              refine c_seq ?_
              refine c_quiet ?_
              refine q_val (v := .int .i64 (k996 : Int)) rfl rfl (fun w' x' => x_move rfl e1009) ?_
              refine q_val (v := .pointer (some (⟨w.heap.size, 7, none⟩))) rfl rfl (fun w' x' => x_fieldAddr fld_33_5 rfl e1006 rfl) ?_
              refine q_val (v := .slice pa.B a.writes.length pa.m) rfl rfl (fun w' x' => x_load rfl rfl (((((((((((((b2.ext x29).ext x901).ext x915).ext x933).ext x935).ext x937).ext x947).ext x991).ext x993).ext x995).ext x1005).ext x').one one_31 rfl)) ?_
              refine q_val (v := .int .i64 (a.writes.length : Int)) rfl rfl (fun w' x' => x_len_slice sl_31 rfl rfl) ?_
              refine q_val (v := .bool false) rfl rfl (fun w' x' => yb (x_lss rfl rfl rfl) (decide_eq_false (by omega))) ?_
              refine q_nil (fun w1044 x1045 => ?_)
              refine t_norm ?_
              refine c_false rfl ?_
              refine c_exit ?_
              refine t_exit (t_exit (b_exit (t_norm ?_)))
              refine c_seq ?_
              refine c_quiet ?_
              refine q_val (v := .slice A941 k938 c942) rfl rfl (fun w' x' => x_move rfl e1007) ?_
              refine q_callb (b := rightKeys (a.reads.map (·.key))) (vs := #[.slice A941 k938 c942]) fn_42 rfl rfl rfl (args1 rfl) (fun w' x' => D_rightKeys _ _ _ _ (a.reads.map (·.key)) he989 ((((((hr988.ext x991).ext x993).ext x995).ext x1005).ext x1045).ext x') (by simp; omega)) (fun c1046 => ?_) (fun c1046 => ?_)
              ·refine q_val (v := .bool true) rfl rfl (fun w' x' => x_move rfl rfl) ?_
               refine q_val (v := .slice A999 k996 c1000) rfl rfl (fun w' x' => x_move rfl e1008) ?_
               refine q_callb (b := rightKeys (a.writes.map (·.key))) (vs := #[.slice A999 k996 c1000]) fn_42 rfl rfl rfl (args1 rfl) (fun w' x' => D_rightKeys _ _ _ _ (a.writes.map (·.key)) he1043 ((hr1042.ext x1045).ext x') (by simp; omega)) (fun c1047 => ?_) (fun c1047 => ?_)
               ·refine q_val (v := .bool true) rfl rfl (fun w' x' => x_pick_t rfl rfl rfl) ?_
                refine q_val (v := .bool true) rfl rfl (fun w' x' => x_assign rfl rfl) ?_
                refine q_nil (fun w1048 x1049 => ?_)
                refine t_norm ?_
                refine c_ret ?_
                exact c_done rfl rfl (Ret.b (rightCmd_end (by simpa using c5) (all_end hi940 hl951) (all_end hi998 hl1010) c1046 (fun _ => c1047) (fun h => by cases h) (by clear ha; simp only [empty_len] at *; simp_all [-List.length_eq_zero_iff] <;> first | omega | (intros; omega) | (intros; simp_all [-List.length_eq_zero_iff] <;> omega))) (((((((((((((x3.trans x29).trans x901).trans x915).trans x933).trans x935).trans x937).trans x947).trans x991).trans x993).trans x995).trans x1005).trans x1045).trans x1049))
               ·refine q_val (v := .bool false) rfl rfl (fun w' x' => x_pick_t rfl rfl rfl) ?_
                refine q_val (v := .bool false) rfl rfl (fun w' x' => x_assign rfl rfl) ?_
                refine q_nil (fun w1050 x1051 => ?_)
                refine t_norm ?_
                refine c_ret ?_
                exact c_done rfl rfl (Ret.b (rightCmd_end (by simpa using c5) (all_end hi940 hl951) (all_end hi998 hl1010) c1046 (fun _ => c1047) (fun h => by cases h) (by clear ha; simp only [empty_len] at *; simp_all [-List.length_eq_zero_iff] <;> first | omega | (intros; omega) | (intros; simp_all [-List.length_eq_zero_iff] <;> omega))) (((((((((((((x3.trans x29).trans x901).trans x915).trans x933).trans x935).trans x937).trans x947).trans x991).trans x993).trans x995).trans x1005).trans x1045).trans x1051))
              ·refine q_val (v := .bool false) rfl rfl (fun w' x' => x_move rfl rfl) ?_
               refine q_skip rfl rfl ?_
               refine q_skip rfl rfl ?_
               refine q_val (v := .bool false) rfl rfl (fun w' x' => x_pick_f rfl rfl rfl) ?_
               refine q_val (v := .bool false) rfl rfl (fun w' x' => x_assign rfl rfl) ?_
               refine q_nil (fun w1052 x1053 => ?_)
               refine t_norm ?_
               refine c_ret ?_
               exact c_done rfl rfl (Ret.b (rightCmd_end (by simpa using c5) (all_end hi940 hl951) (all_end hi998 hl1010) c1046 (fun h => by cases h) (fun _ => rfl) (by clear ha; simp only [empty_len] at *; simp_all [-List.length_eq_zero_iff] <;> first | omega | (intros; omega) | (intros; simp_all [-List.length_eq_zero_iff] <;> omega))) (((((((((((((x3.trans x29).trans x901).trans x915).trans x933).trans x935).trans x937).trans x947).trans x991).trans x993).trans x995).trans x1005).trans x1045).trans x1053))
          ·refine q_val (v := .bool false) rfl rfl (fun w' x' => x_move rfl rfl) ?_
           refine q_skip rfl rfl ?_
           refine q_skip rfl rfl ?_
           refine q_skip rfl rfl ?_
           refine q_skip rfl rfl ?_
           refine q_val (v := .bool false) rfl rfl (fun w' x' => x_pick_f rfl rfl rfl) ?_
           refine q_val (v := .bool false) rfl rfl (fun w' x' => x_pick_f rfl rfl rfl) ?_
           refine q_nil (fun w1054 x1055 => ?_)
           refine t_norm ?_
           refine c_false rfl ?_
           refine c_skip ?_
           refine t_norm ?_
           refine c_seq ?_
           refine c_quiet ?_
           refine q_val (v := .slice none 0 0) rfl rfl (fun w' x' => x_assign rfl rfl) ?_
           refine q_nil (fun w1056 x1057 => ?_)
           refine t_norm ?_
           refine c_seq ?_
           refine c_seq ?_
           refine c_quiet ?_
           refine q_val (v := .int .i64 0) rfl rfl (fun w' x' => x_assign rfl rfl) ?_
           refine q_nil (fun w1058 x1059 => ?_)
           refine t_norm ?_
           refine c_block ?_
           refine c_loop (fun ρ w1068 => ∃ k1060 : Nat, ∃ A1063 : Option Addr, ∃ c1064 : Nat, k1060 ≤ a.reads.length ∧ (a.reads.take k1060).all (oldRd a) = true ∧ World.ownsRow w1068 w1058.heap.size 9 1 (.slice A1063 k1060 c1064) k1060 (((a.reads.map (·.key)).take k1060).flatMap fStr) ∧ k1060 ≤ c1064 ∧ c1064 ≤ 9223372036854775807 ∧ ρ 1 = .pointer (some (⟨w.heap.size, 0, none⟩)) ∧ ρ 3 = .slice A1063 k1060 c1064 ∧ ρ 4 = .int .i64 (k1060 : Int) ∧ Ext w1058 w1068) (fun ρ _ => a.reads.length - (intOf (ρ 4)).toNat) ⟨0, none, 0, Nat.zero_le _, rfl, own_nil _ _ _ _, Nat.le_refl _, Nat.zero_le _, rfl, rfl, rfl, Ext.refl _⟩ ?_
           rintro ρ w1068 ⟨k1060, A1063, c1064, hk1061, hi1062, ho1065, h1066, h1067, e1070, e1071, e1072, x1069⟩
           by_cases hl1073 : k1060 < a.reads.length
           ·obtain ⟨y1074, hx1075⟩ := some_of (l := a.reads) (k := k1060) (by omega)
            obtain ⟨ad1076, cs1077, eA1078, hK1079, hE1080⟩ := ha.reads k1060 y1074 hx1075
            have hK1079' : cs1077 = [.string y1074.key, .int .i64 y1074.ver.time, .int .i64 y1074.ver.client] := hK1079
            subst hK1079'
            refine c_seq ?_
            refine c_seq ?_
            refine c_quiet ?_
            refine q_val (v := .int .i64 (k1060 : Int)) rfl rfl (fun w' x' => x_move rfl e1072) ?_
            refine q_val (v := .pointer (some (⟨w.heap.size, 6, none⟩))) rfl rfl (fun w' x' => x_fieldAddr fld_33_4 rfl e1070 rfl) ?_
            refine q_val (v := .slice pa.A a.reads.length pa.n) rfl rfl (fun w' x' => x_load rfl rfl (((((((((b2.ext x29).ext x901).ext x915).ext x1055).ext x1057).ext x1059).ext x1069).ext x').one one_30 rfl)) ?_
            refine q_val (v := .int .i64 (a.reads.length : Int)) rfl rfl (fun w' x' => x_len_slice sl_30 rfl rfl) ?_
            refine q_val (v := .bool true) rfl rfl (fun w' x' => yb (x_lss rfl rfl rfl) (decide_eq_true (by omega))) ?_
            refine q_nil (fun w1082 x1083 => ?_)
            refine t_norm ?_
            refine c_true rfl ?_
            refine c_skip ?_
            refine t_norm ?_
            refine c_seq ?_
            refine c_block ?_
            refine c_seq ?_
            refine c_seq ?_
            refine c_draw mixed (by kernel_rfl) ?_
            refine q_val (v := .pointer (some (⟨w.heap.size, 6, none⟩))) rfl rfl (fun w' x' => x_fieldAddr fld_33_4 rfl e1070 rfl) ?_
            refine q_val (v := .slice pa.A a.reads.length pa.n) rfl rfl (fun w' x' => x_load rfl rfl ((((((((((b2.ext x29).ext x901).ext x915).ext x1055).ext x1057).ext x1059).ext x1069).ext x1083).ext x').one one_30 rfl)) ?_
            refine q_val (v := .int .i64 (k1060 : Int)) rfl rfl (fun w' x' => x_move rfl e1072) ?_
            refine q_val (v := .pointer (some (ad1076.add (k1060 * 3)))) rfl rfl (fun w' x' => x_indexAddr sl_30 rfl rfl eA1078 rfl (by omega) (by omega) rfl) ?_
            refine q_val (v := .pointer (some ((ad1076.add (k1060 * 3)).add 1))) rfl rfl (fun w' x' => x_fieldAddr fld_64_1 rfl rfl rfl) ?_
            refine q_val (v := .agg #[.int .i64 y1074.ver.time, .int .i64 y1074.ver.client]) rfl rfl (fun w' x' => x_load rfl rfl (((((((((((hE1080.ext x3).ext x29).ext x901).ext x915).ext x1055).ext x1057).ext x1059).ext x1069).ext x1083).ext x').agg (vs := [.int .i64 y1074.ver.time, .int .i64 y1074.ver.client]) agg_29_2 1 rfl rfl)) ?_
            refine q_callb (b := rightStp y1074.ver) (vs := #[.agg #[.int .i64 y1074.ver.time, .int .i64 y1074.ver.client]]) fn_40 rfl rfl rfl (args1 rfl) (fun w' x' => D_rightStp _ y1074.ver) (fun c1084 => ?_) (fun c1084 => ?_)
            ·refine q_val (v := .bool false) rfl rfl (fun w' x' => x_not (b := true) rfl rfl) ?_
             refine q_val (v := .bool false) rfl rfl (fun w' x' => x_move rfl rfl) ?_
             refine q_val (v := .pointer (some (⟨w.heap.size, 6, none⟩))) rfl rfl (fun w' x' => x_fieldAddr fld_33_4 rfl e1070 rfl) ?_
             refine q_val (v := .slice pa.A a.reads.length pa.n) rfl rfl (fun w' x' => x_load rfl rfl ((((((((((b2.ext x29).ext x901).ext x915).ext x1055).ext x1057).ext x1059).ext x1069).ext x1083).ext x').one one_30 rfl)) ?_
             refine q_val (v := .int .i64 (k1060 : Int)) rfl rfl (fun w' x' => x_move rfl e1072) ?_
             refine q_val (v := .pointer (some (ad1076.add (k1060 * 3)))) rfl rfl (fun w' x' => x_indexAddr sl_30 rfl rfl eA1078 rfl (by omega) (by omega) rfl) ?_
             refine q_val (v := .pointer (some ((ad1076.add (k1060 * 3)).add 1))) rfl rfl (fun w' x' => x_fieldAddr fld_64_1 rfl rfl rfl) ?_
             refine q_val (v := .agg #[.int .i64 y1074.ver.time, .int .i64 y1074.ver.client]) rfl rfl (fun w' x' => x_load rfl rfl (((((((((((hE1080.ext x3).ext x29).ext x901).ext x915).ext x1055).ext x1057).ext x1059).ext x1069).ext x1083).ext x').agg (vs := [.int .i64 y1074.ver.time, .int .i64 y1074.ver.client]) agg_29_2 1 rfl rfl)) ?_
             refine q_val (v := .pointer (some (⟨w.heap.size, 3, none⟩))) rfl rfl (fun w' x' => x_fieldAddr fld_33_2 rfl e1070 rfl) ?_
             refine q_val (v := .agg #[.int .i64 a.stp.time, .int .i64 a.stp.client]) rfl rfl (fun w' x' => x_load rfl rfl ((((((((((b2.ext x29).ext x901).ext x915).ext x1055).ext x1057).ext x1059).ext x1069).ext x1083).ext x').agg (vs := [.int .i64 a.stp.time, .int .i64 a.stp.client]) agg_29_2 rfl)) ?_
             refine q_callb (b := decide (cmpStp y1074.ver a.stp < 0)) (vs := #[.agg #[.int .i64 y1074.ver.time, .int .i64 y1074.ver.client], .agg #[.int .i64 a.stp.time, .int .i64 a.stp.client]]) fn_41 rfl rfl rfl (args2 rfl rfl) (fun w' x' => D_before _ y1074.ver a.stp) (fun c1085 => ?_) (fun c1085 => ?_)
             ·refine q_val (v := .bool false) rfl rfl (fun w' x' => x_not (b := true) rfl rfl) ?_
              refine q_val (v := .bool false) rfl rfl (fun w' x' => x_pick_f rfl rfl rfl) ?_
              refine q_nil (fun w1086 x1087 => ?_)
              refine t_norm ?_
              refine c_false rfl ?_
              refine c_skip ?_
              refine t_norm ?_
              refine c_plain ?_
              refine p_val (v := .slice A1063 k1060 c1064) rfl rfl (x_move rfl e1071) ?_
              refine p_val (v := .pointer (some (⟨w.heap.size, 6, none⟩))) rfl rfl (x_fieldAddr fld_33_4 rfl e1070 rfl) ?_
              refine p_val (v := .slice pa.A a.reads.length pa.n) rfl rfl (x_load rfl rfl ((((((((((b2.ext x29).ext x901).ext x915).ext x1055).ext x1057).ext x1059).ext x1069).ext x1083).ext x1087).one one_30 rfl)) ?_
              refine p_val (v := .int .i64 (k1060 : Int)) rfl rfl (x_move rfl e1072) ?_
              refine p_val (v := .pointer (some (ad1076.add (k1060 * 3)))) rfl rfl (x_indexAddr sl_30 rfl rfl eA1078 rfl (by omega) (by omega) rfl) ?_
              refine p_val (v := .pointer (some (ad1076.add (k1060 * 3)))) rfl rfl (x_fieldAddr fld_64_0 rfl rfl rfl) ?_
              refine p_val (v := .string y1074.key) rfl rfl (x_load rfl rfl (((((((((((hE1080.ext x3).ext x29).ext x901).ext x915).ext x1055).ext x1057).ext x1059).ext x1069).ext x1083).ext x1087).one one_9 0 rfl rfl)) ?_
              refine p_buildSlice (cs := [.string y1074.key]) el_79 rfl rfl rfl (parts1 rfl) (by decide) (by decide) (fill_ok [.string y1074.key] [.string y1074.key] rfl rfl) (fun w1088 b1089 x1090 z1091 => ?_)
              refine p_append (B := w1058.heap.size) (k := k1060) (m := 1) (cs := (((a.reads.map (·.key)).take k1060).flatMap fStr)) (news := [.string y1074.key]) (ad := ⟨w1086.heap.size, 0, none⟩) el_79 rfl rfl rfl rfl (own_ext ho1065 ((x1083.trans x1087).trans x1090)) rfl rfl b1089.put rfl (by omega) (by omega) (((x1069.trans x1083).trans x1087).trans x1090).size (fun A1096 c1097 w1092 o1093 bl1094 gr1095 h1098 h1099 => ?_)
              refine p_val (v := .slice A1096 (k1060 + 1) c1097) rfl rfl (x_assign rfl rfl) ?_
              refine p_nil ?_
              refine b_norm (t_norm ?_)
              refine c_quiet ?_
              refine q_val (v := .int .i64 (k1060 : Int)) rfl rfl (fun w' x' => x_move rfl e1072) ?_
              refine q_val (v := .int .i64 ((k1060 : Int) + 1)) rfl rfl (fun w' x' => x_add rfl rfl rfl (wrap_of (by omega) (by omega))) ?_
              refine q_val (v := .int .i64 ((k1060 : Int) + 1)) rfl rfl (fun w' x' => x_assign rfl rfl) ?_
              refine q_nil (fun w1100 x1101 => ?_)
              refine t_norm ?_
              exact ⟨_, rfl, ⟨k1060 + 1, A1096, c1097, by omega, all_step (p := oldRd a) hi1062 hx1075 (by simp_all [oldRd]), (by rw [← flat_step (map_of (g := fun z => z.key) hx1075)]; exact (own_ext o1093 x1101)), h1098, h1099, e1070, rfl, rfl, (((((x1069.trans x1083).trans x1087).trans x1090).below (Nat.le_refl _) bl1094).trans x1101)⟩, meas_up e1072 hl1073⟩
             ·refine q_val (v := .bool true) rfl rfl (fun w' x' => x_not (b := false) rfl rfl) ?_
              refine q_val (v := .bool true) rfl rfl (fun w' x' => x_pick_f rfl rfl rfl) ?_
              refine q_nil (fun w1102 x1103 => ?_)
              refine t_norm ?_
              refine c_true rfl ?_
              refine c_seq ?_
              refine c_quiet ?_
              refine q_val (v := .bool false) rfl rfl (fun w' x' => x_assign rfl rfl) ?_
              refine q_nil (fun w1104 x1105 => ?_)
              refine t_norm ?_
              refine c_ret ?_
              refine t_ret (b_ret (t_ret (t_ret (b_ret (t_ret ?_)))))
              exact c_done rfl rfl (Ret.b ((rightCmd_reads (by simpa using c5) (all_fail (p := oldRd a) hx1075 (by simp only [oldRd]; simp_all))).symm) ((((((((((x3.trans x29).trans x901).trans x915).trans x1055).trans x1057).trans x1059).trans x1069).trans x1083).trans x1103).trans x1105))
            ·refine q_val (v := .bool true) rfl rfl (fun w' x' => x_not (b := false) rfl rfl) ?_
             refine q_val (v := .bool true) rfl rfl (fun w' x' => x_move rfl rfl) ?_
             refine q_skip rfl rfl ?_
             refine q_skip rfl rfl ?_
             refine q_skip rfl rfl ?_
             refine q_skip rfl rfl ?_
             refine q_skip rfl rfl ?_
             refine q_skip rfl rfl ?_
             refine q_skip rfl rfl ?_
             refine q_skip rfl rfl ?_
             refine q_skip rfl rfl ?_
             refine q_skip rfl rfl ?_
             refine q_val (v := .bool true) rfl rfl (fun w' x' => x_pick_t rfl rfl rfl) ?_
             refine q_nil (fun w1106 x1107 => ?_)
             refine t_norm ?_
             refine c_true rfl ?_
             refine c_seq ?_
             refine c_quiet ?_
             refine q_val (v := .bool false) rfl rfl (fun w' x' => x_assign rfl rfl) ?_
             refine q_nil (fun w1108 x1109 => ?_)
             refine t_norm ?_
             refine c_ret ?_
             refine t_ret (b_ret (t_ret (t_ret (b_ret (t_ret ?_)))))
             exact c_done rfl rfl (Ret.b ((rightCmd_reads (by simpa using c5) (all_fail (p := oldRd a) hx1075 (by simp only [oldRd]; simp_all))).symm) ((((((((((x3.trans x29).trans x901).trans x915).trans x1055).trans x1057).trans x1059).trans x1069).trans x1083).trans x1107).trans x1109))
           ·have hr1110 := own_lies (d := kStr) (xs := a.reads.map (·.key)) (by rw [show (a.reads.map (·.key)) = (a.reads.map (·.key)).take k1060 from by rw [List.take_of_length_le (by simp; omega)]]; exact ho1065) (by simp; omega) (fun _ => rfl) (fun _ => rfl)
            have he1111 : k1060 = (a.reads.map (·.key)).length := by simp; omega
            refine c_seq ?_
            refine c_seq ?_
            refine c_quiet ?_
            refine q_val (v := .int .i64 (k1060 : Int)) rfl rfl (fun w' x' => x_move rfl e1072) ?_
            refine q_val (v := .pointer (some (⟨w.heap.size, 6, none⟩))) rfl rfl (fun w' x' => x_fieldAddr fld_33_4 rfl e1070 rfl) ?_
            refine q_val (v := .slice pa.A a.reads.length pa.n) rfl rfl (fun w' x' => x_load rfl rfl (((((((((b2.ext x29).ext x901).ext x915).ext x1055).ext x1057).ext x1059).ext x1069).ext x').one one_30 rfl)) ?_
            refine q_val (v := .int .i64 (a.reads.length : Int)) rfl rfl (fun w' x' => x_len_slice sl_30 rfl rfl) ?_
            refine q_val (v := .bool false) rfl rfl (fun w' x' => yb (x_lss rfl rfl rfl) (decide_eq_false (by omega))) ?_
            refine q_nil (fun w1112 x1113 => ?_)
            refine t_norm ?_
            refine c_false rfl ?_
            refine c_exit ?_
            refine t_exit (t_exit (b_exit (t_norm ?_)))
            refine c_seq ?_
            refine c_quiet ?_
            refine q_val (v := .slice none 0 0) rfl rfl (fun w' x' => x_assign rfl rfl) ?_
            refine q_nil (fun w1114 x1115 => ?_)
            refine t_norm ?_
            refine c_seq ?_
            refine c_seq ?_
            refine c_quiet ?_
            refine q_val (v := .int .i64 0) rfl rfl (fun w' x' => x_assign rfl rfl) ?_
            refine q_nil (fun w1116 x1117 => ?_)
            refine t_norm ?_
            refine c_block ?_
            refine c_loop (fun ρ w1126 => ∃ k1118 : Nat, ∃ A1121 : Option Addr, ∃ c1122 : Nat, k1118 ≤ a.writes.length ∧ (a.writes.take k1118).all (fun x : Wr => decide (x.val.size ≤ 8)) = true ∧ World.ownsRow w1126 w1116.heap.size 9 1 (.slice A1121 k1118 c1122) k1118 (((a.writes.map (·.key)).take k1118).flatMap fStr) ∧ k1118 ≤ c1122 ∧ c1122 ≤ 9223372036854775807 ∧ ρ 1 = .pointer (some (⟨w.heap.size, 0, none⟩)) ∧ ρ 3 = .slice A1063 k1060 c1064 ∧ ρ 5 = .slice A1121 k1118 c1122 ∧ ρ 6 = .int .i64 (k1118 : Int) ∧ Ext w1116 w1126) (fun ρ _ => a.writes.length - (intOf (ρ 6)).toNat) ⟨0, none, 0, Nat.zero_le _, rfl, own_nil _ _ _ _, Nat.le_refl _, Nat.zero_le _, e1070, e1071, rfl, rfl, Ext.refl _⟩ ?_
            rintro ρ w1126 ⟨k1118, A1121, c1122, hk1119, hi1120, ho1123, h1124, h1125, e1128, e1129, e1130, e1131, x1127⟩
            by_cases hl1132 : k1118 < a.writes.length
            ·obtain ⟨y1133, hx1134⟩ := some_of (l := a.writes) (k := k1118) (by omega)
             obtain ⟨ad1135, cs1136, eA1137, hK1138, hE1139⟩ := ha.writes k1118 y1133 hx1134
             have hK1138' : cs1136 = [.string y1133.key, .string y1133.val] := hK1138
             subst hK1138'
             refine c_seq ?_
             refine c_seq ?_
             refine c_quiet ?_
             refine q_val (v := .int .i64 (k1118 : Int)) rfl rfl (fun w' x' => x_move rfl e1131) ?_
             refine q_val (v := .pointer (some (⟨w.heap.size, 7, none⟩))) rfl rfl (fun w' x' => x_fieldAddr fld_33_5 rfl e1128 rfl) ?_
             refine q_val (v := .slice pa.B a.writes.length pa.m) rfl rfl (fun w' x' => x_load rfl rfl (((((((((((((b2.ext x29).ext x901).ext x915).ext x1055).ext x1057).ext x1059).ext x1069).ext x1113).ext x1115).ext x1117).ext x1127).ext x').one one_31 rfl)) ?_
             refine q_val (v := .int .i64 (a.writes.length : Int)) rfl rfl (fun w' x' => x_len_slice sl_31 rfl rfl) ?_
             refine q_val (v := .bool true) rfl rfl (fun w' x' => yb (x_lss rfl rfl rfl) (decide_eq_true (by omega))) ?_
             refine q_nil (fun w1141 x1142 => ?_)
             refine t_norm ?_
             refine c_true rfl ?_
             refine c_skip ?_
             refine t_norm ?_
             refine c_seq ?_
             refine c_block ?_
             refine c_seq ?_
             refine c_seq ?_
             refine c_quiet ?_
             refine q_val (v := .pointer (some (⟨w.heap.size, 7, none⟩))) rfl rfl (fun w' x' => x_fieldAddr fld_33_5 rfl e1128 rfl) ?_
             refine q_val (v := .slice pa.B a.writes.length pa.m) rfl rfl (fun w' x' => x_load rfl rfl ((((((((((((((b2.ext x29).ext x901).ext x915).ext x1055).ext x1057).ext x1059).ext x1069).ext x1113).ext x1115).ext x1117).ext x1127).ext x1142).ext x').one one_31 rfl)) ?_
             refine q_val (v := .int .i64 (k1118 : Int)) rfl rfl (fun w' x' => x_move rfl e1131) ?_
             refine q_val (v := .pointer (some (ad1135.add (k1118 * 2)))) rfl rfl (fun w' x' => x_indexAddr sl_31 rfl rfl eA1137 rfl (by omega) (by omega) rfl) ?_
             refine q_val (v := .pointer (some ((ad1135.add (k1118 * 2)).add 1))) rfl rfl (fun w' x' => x_fieldAddr fld_66_1 rfl rfl rfl) ?_
             refine q_val (v := .string y1133.val) rfl rfl (fun w' x' => x_load rfl rfl (((((((((((((((hE1139.ext x3).ext x29).ext x901).ext x915).ext x1055).ext x1057).ext x1059).ext x1069).ext x1113).ext x1115).ext x1117).ext x1127).ext x1142).ext x').one one_9 1 rfl rfl)) ?_
             refine q_val (v := .int .i64 (y1133.val.size : Int)) rfl rfl (fun w' x' => x_len_string str_9 rfl rfl) ?_
             refine q_bool (b := decide ((y1133.val.size : Int) > 8)) rfl rfl (fun w' x' => x_gtr rfl rfl rfl) (fun c1143 => ?_) (fun c1143 => ?_)
             ·refine q_nil (fun w1144 x1145 => ?_)
              refine t_norm ?_
              refine c_true rfl ?_
              refine c_seq ?_
              refine c_quiet ?_
              refine q_val (v := .bool false) rfl rfl (fun w' x' => x_assign rfl rfl) ?_
              refine q_nil (fun w1146 x1147 => ?_)
              refine t_norm ?_
              refine c_ret ?_
              refine t_ret (b_ret (t_ret (t_ret (b_ret (t_ret ?_)))))
              exact c_done rfl rfl (Ret.b ((rightCmd_writes (by simpa using c5) (all_fail (p := fun x : Wr => decide (x.val.size ≤ 8)) hx1134 (by simp_all <;> omega))).symm) ((((((((((((((x3.trans x29).trans x901).trans x915).trans x1055).trans x1057).trans x1059).trans x1069).trans x1113).trans x1115).trans x1117).trans x1127).trans x1142).trans x1145).trans x1147))
             ·refine q_nil (fun w1148 x1149 => ?_)
              refine t_norm ?_
              refine c_false rfl ?_
              refine c_skip ?_
              refine t_norm ?_
              refine c_plain ?_
              refine p_val (v := .slice A1121 k1118 c1122) rfl rfl (x_move rfl e1130) ?_
              refine p_val (v := .pointer (some (⟨w.heap.size, 7, none⟩))) rfl rfl (x_fieldAddr fld_33_5 rfl e1128 rfl) ?_
              refine p_val (v := .slice pa.B a.writes.length pa.m) rfl rfl (x_load rfl rfl ((((((((((((((b2.ext x29).ext x901).ext x915).ext x1055).ext x1057).ext x1059).ext x1069).ext x1113).ext x1115).ext x1117).ext x1127).ext x1142).ext x1149).one one_31 rfl)) ?_
              refine p_val (v := .int .i64 (k1118 : Int)) rfl rfl (x_move rfl e1131) ?_
              refine p_val (v := .pointer (some (ad1135.add (k1118 * 2)))) rfl rfl (x_indexAddr sl_31 rfl rfl eA1137 rfl (by omega) (by omega) rfl) ?_
              refine p_val (v := .pointer (some (ad1135.add (k1118 * 2)))) rfl rfl (x_fieldAddr fld_66_0 rfl rfl rfl) ?_
              refine p_val (v := .string y1133.key) rfl rfl (x_load rfl rfl (((((((((((((((hE1139.ext x3).ext x29).ext x901).ext x915).ext x1055).ext x1057).ext x1059).ext x1069).ext x1113).ext x1115).ext x1117).ext x1127).ext x1142).ext x1149).one one_9 0 rfl rfl)) ?_
              refine p_buildSlice (cs := [.string y1133.key]) el_79 rfl rfl rfl (parts1 rfl) (by decide) (by decide) (fill_ok [.string y1133.key] [.string y1133.key] rfl rfl) (fun w1150 b1151 x1152 z1153 => ?_)
              refine p_append (B := w1116.heap.size) (k := k1118) (m := 1) (cs := (((a.writes.map (·.key)).take k1118).flatMap fStr)) (news := [.string y1133.key]) (ad := ⟨w1148.heap.size, 0, none⟩) el_79 rfl rfl rfl rfl (own_ext ho1123 ((x1142.trans x1149).trans x1152)) rfl rfl b1151.put rfl (by omega) (by omega) (((x1127.trans x1142).trans x1149).trans x1152).size (fun A1158 c1159 w1154 o1155 bl1156 gr1157 h1160 h1161 => ?_)
              refine p_val (v := .slice A1158 (k1118 + 1) c1159) rfl rfl (x_assign rfl rfl) ?_
              refine p_nil ?_
              refine b_norm (t_norm ?_)
              refine c_quiet ?_
              refine q_val (v := .int .i64 (k1118 : Int)) rfl rfl (fun w' x' => x_move rfl e1131) ?_
              refine q_val (v := .int .i64 ((k1118 : Int) + 1)) rfl rfl (fun w' x' => x_add rfl rfl rfl (wrap_of (by omega) (by omega))) ?_
              refine q_val (v := .int .i64 ((k1118 : Int) + 1)) rfl rfl (fun w' x' => x_assign rfl rfl) ?_
              refine q_nil (fun w1162 x1163 => ?_)
              refine t_norm ?_
              exact ⟨_, rfl, ⟨k1118 + 1, A1158, c1159, by omega, all_step (p := fun x : Wr => decide (x.val.size ≤ 8)) hi1120 hx1134 (by simp_all <;> omega), (by rw [← flat_step (map_of (g := fun z => z.key) hx1134)]; exact (own_ext o1155 x1163)), h1160, h1161, e1128, e1129, rfl, rfl, (((((x1127.trans x1142).trans x1149).trans x1152).below (Nat.le_refl _) bl1156).trans x1163)⟩, meas_up e1131 hl1132⟩
            ·have hr1164 := own_lies (d := kStr) (xs := a.writes.map (·.key)) (by rw [show (a.writes.map (·.key)) = (a.writes.map (·.key)).take k1118 from by rw [List.take_of_length_le (by simp; omega)]]; exact ho1123) (by simp; omega) (fun _ => rfl) (fun _ => rfl)
             have he1165 : k1118 = (a.writes.map (·.key)).length := by simp; omega
             refine c_seq ?_
             refine c_seq ?_
             refine c_quiet ?_
             refine q_val (v := .int .i64 (k1118 : Int)) rfl rfl (fun w' x' => x_move rfl e1131) ?_
             refine q_val (v := .pointer (some (⟨w.heap.size, 7, none⟩))) rfl rfl (fun w' x' => x_fieldAddr fld_33_5 rfl e1128 rfl) ?_
             refine q_val (v := .slice pa.B a.writes.length pa.m) rfl rfl (fun w' x' => x_load rfl rfl (((((((((((((b2.ext x29).ext x901).ext x915).ext x1055).ext x1057).ext x1059).ext x1069).ext x1113).ext x1115).ext x1117).ext x1127).ext x').one one_31 rfl)) ?_
             refine q_val (v := .int .i64 (a.writes.length : Int)) rfl rfl (fun w' x' => x_len_slice sl_31 rfl rfl) ?_
             refine q_val (v := .bool false) rfl rfl (fun w' x' => yb (x_lss rfl rfl rfl) (decide_eq_false (by omega))) ?_
             refine q_nil (fun w1166 x1167 => ?_)
             refine t_norm ?_
             refine c_false rfl ?_
             refine c_exit ?_
             refine t_exit (t_exit (b_exit (t_norm ?_)))
             refine c_seq ?_
             refine c_quiet ?_
             refine q_val (v := .slice A1063 k1060 c1064) rfl rfl (fun w' x' => x_move rfl e1129) ?_
             refine q_callb (b := rightKeys (a.reads.map (·.key))) (vs := #[.slice A1063 k1060 c1064]) fn_42 rfl rfl rfl (args1 rfl) (fun w' x' => D_rightKeys _ _ _ _ (a.reads.map (·.key)) he1111 ((((((hr1110.ext x1113).ext x1115).ext x1117).ext x1127).ext x1167).ext x') (by simp; omega)) (fun c1168 => ?_) (fun c1168 => ?_)
             ·refine q_val (v := .bool true) rfl rfl (fun w' x' => x_move rfl rfl) ?_
              refine q_val (v := .slice A1121 k1118 c1122) rfl rfl (fun w' x' => x_move rfl e1130) ?_
              refine q_callb (b := rightKeys (a.writes.map (·.key))) (vs := #[.slice A1121 k1118 c1122]) fn_42 rfl rfl rfl (args1 rfl) (fun w' x' => D_rightKeys _ _ _ _ (a.writes.map (·.key)) he1165 ((hr1164.ext x1167).ext x') (by simp; omega)) (fun c1169 => ?_) (fun c1169 => ?_)
              ·refine q_val (v := .bool true) rfl rfl (fun w' x' => x_pick_t rfl rfl rfl) ?_
               refine q_val (v := .bool true) rfl rfl (fun w' x' => x_assign rfl rfl) ?_
               refine q_nil (fun w1170 x1171 => ?_)
               refine t_norm ?_
               refine c_ret ?_
               exact c_done rfl rfl (Ret.b (rightCmd_end (by simpa using c5) (all_end hi1062 hl1073) (all_end hi1120 hl1132) c1168 (fun _ => c1169) (fun h => by cases h) (by clear ha; simp only [empty_len] at *; simp_all [-List.length_eq_zero_iff] <;> first | omega | (intros; omega) | (intros; simp_all [-List.length_eq_zero_iff] <;> omega))) (((((((((((((x3.trans x29).trans x901).trans x915).trans x1055).trans x1057).trans x1059).trans x1069).trans x1113).trans x1115).trans x1117).trans x1127).trans x1167).trans x1171))
              ·refine q_val (v := .bool false) rfl rfl (fun w' x' => x_pick_t rfl rfl rfl) ?_
               refine q_val (v := .bool false) rfl rfl (fun w' x' => x_assign rfl rfl) ?_
               refine q_nil (fun w1172 x1173 => ?_)
               refine t_norm ?_
               refine c_ret ?_
               exact c_done rfl rfl (Ret.b (rightCmd_end (by simpa using c5) (all_end hi1062 hl1073) (all_end hi1120 hl1132) c1168 (fun _ => c1169) (fun h => by cases h) (by clear ha; simp only [empty_len] at *; simp_all [-List.length_eq_zero_iff] <;> first | omega | (intros; omega) | (intros; simp_all [-List.length_eq_zero_iff] <;> omega))) (((((((((((((x3.trans x29).trans x901).trans x915).trans x1055).trans x1057).trans x1059).trans x1069).trans x1113).trans x1115).trans x1117).trans x1127).trans x1167).trans x1173))
             ·refine q_val (v := .bool false) rfl rfl (fun w' x' => x_move rfl rfl) ?_
              refine q_skip rfl rfl ?_
              refine q_skip rfl rfl ?_
              refine q_val (v := .bool false) rfl rfl (fun w' x' => x_pick_f rfl rfl rfl) ?_
              refine q_val (v := .bool false) rfl rfl (fun w' x' => x_assign rfl rfl) ?_
              refine q_nil (fun w1174 x1175 => ?_)
              refine t_norm ?_
              refine c_ret ?_
              exact c_done rfl rfl (Ret.b (rightCmd_end (by simpa using c5) (all_end hi1062 hl1073) (all_end hi1120 hl1132) c1168 (fun h => by cases h) (fun _ => rfl) (by clear ha; simp only [empty_len] at *; simp_all [-List.length_eq_zero_iff] <;> first | omega | (intros; omega) | (intros; simp_all [-List.length_eq_zero_iff] <;> omega))) (((((((((((((x3.trans x29).trans x901).trans x915).trans x1055).trans x1057).trans x1059).trans x1069).trans x1113).trans x1115).trans x1117).trans x1127).trans x1167).trans x1175))
     ·refine q_val (v := .bool true) rfl rfl (fun w' x' => x_not (b := false) rfl rfl) ?_
      refine q_val (v := .bool true) rfl rfl (fun w' x' => x_pick_f rfl rfl rfl) ?_
      refine q_val (v := .bool true) rfl rfl (fun w' x' => x_move rfl rfl) ?_
      refine q_skip rfl rfl ?_
      refine q_skip rfl rfl ?_
      refine q_skip rfl rfl ?_
      refine q_skip rfl rfl ?_
      refine q_val (v := .bool true) rfl rfl (fun w' x' => x_pick_t rfl rfl rfl) ?_
      refine q_val (v := .bool true) rfl rfl (fun w' x' => x_move rfl rfl) ?_
      refine q_skip rfl rfl ?_
      refine q_skip rfl rfl ?_
      refine q_skip rfl rfl ?_
      refine q_skip rfl rfl ?_
      refine q_skip rfl rfl ?_
      refine q_skip rfl rfl ?_
      refine q_skip rfl rfl ?_
      refine q_val (v := .bool true) rfl rfl (fun w' x' => x_pick_t rfl rfl rfl) ?_
      refine q_nil (fun w1176 x1177 => ?_)
      refine t_norm ?_
      refine c_true rfl ?_
      refine c_seq ?_
      refine c_quiet ?_
      refine q_val (v := .bool false) rfl rfl (fun w' x' => x_assign rfl rfl) ?_
      refine q_nil (fun w1178 x1179 => ?_)
      refine t_norm ?_
      refine c_ret ?_
      refine t_ret ?_
      exact c_done rfl rfl (Ret.b ((rightCmd_head (by simpa using c5) (by clear ha; simp only [empty_len] at *; simp_all [-List.length_eq_zero_iff] <;> first | omega | (intros; omega) | (intros; simp_all [-List.length_eq_zero_iff] <;> omega))).symm) ((((x3.trans x29).trans x901).trans x1177).trans x1179))
    ·refine q_val (v := .bool true) rfl rfl (fun w' x' => x_not (b := false) rfl rfl) ?_
     refine q_val (v := .bool true) rfl rfl (fun w' x' => x_move rfl rfl) ?_
     refine q_skip rfl rfl ?_
     refine q_skip rfl rfl ?_
     refine q_skip rfl rfl ?_
     refine q_skip rfl rfl ?_
     refine q_val (v := .bool true) rfl rfl (fun w' x' => x_pick_t rfl rfl rfl) ?_
     refine q_val (v := .bool true) rfl rfl (fun w' x' => x_move rfl rfl) ?_
     refine q_skip rfl rfl ?_
     refine q_skip rfl rfl ?_
     refine q_skip rfl rfl ?_
     refine q_skip rfl rfl ?_
     refine q_val (v := .bool true) rfl rfl (fun w' x' => x_pick_t rfl rfl rfl) ?_
     refine q_val (v := .bool true) rfl rfl (fun w' x' => x_move rfl rfl) ?_
     refine q_skip rfl rfl ?_
     refine q_skip rfl rfl ?_
     refine q_skip rfl rfl ?_
     refine q_skip rfl rfl ?_
     refine q_skip rfl rfl ?_
     refine q_skip rfl rfl ?_
     refine q_skip rfl rfl ?_
     refine q_val (v := .bool true) rfl rfl (fun w' x' => x_pick_t rfl rfl rfl) ?_
     refine q_nil (fun w1180 x1181 => ?_)
     refine t_norm ?_
     refine c_true rfl ?_
     refine c_seq ?_
     refine c_quiet ?_
     refine q_val (v := .bool false) rfl rfl (fun w' x' => x_assign rfl rfl) ?_
     refine q_nil (fun w1182 x1183 => ?_)
     refine t_norm ?_
     refine c_ret ?_
     refine t_ret ?_
     exact c_done rfl rfl (Ret.b ((rightCmd_head (by simpa using c5) (by clear ha; simp only [empty_len] at *; simp_all [-List.length_eq_zero_iff] <;> first | omega | (intros; omega) | (intros; simp_all [-List.length_eq_zero_iff] <;> omega))).symm) ((((x3.trans x29).trans x901).trans x1181).trans x1183))

end Go.Proofs.Ytibhkdomoknnfaa
