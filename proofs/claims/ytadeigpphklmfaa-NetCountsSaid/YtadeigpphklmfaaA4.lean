/- A walk through the code of layers below, or of layer 10. -/
import Derived.Test.YtadeigpphklmfaaDos
import Derived.Test.YtadeigpphklmfaaDrs
import Derived.Test.YtadeigpphklmfaaPan
import Derived.Test.YtadeigpphklmfaaA3
namespace Go.Proofs.Ytadeigpphklmfaa
open Go.RowKit Go.Eng
set_option linter.unusedVariables false
set_option linter.unusedSimpArgs false
theorem C_sameCmd (w : World) (a : Cmd) (pa : Ptr) (ha : CmdAt w a pa) (b : Cmd) (pb : Ptr) (hb : CmdAt w b pb) :
    Calls Try.prog 63 #[vCmd a pa, vCmd b pb] w (Ret w (.bool (decide (a = b)))) := by
 refine c_enter (n := 52) Try.func63 rfl rfl rfl ?_
 refine c_seq (c_plain (p_box rfl rfl rfl rfl (fun w1 b2 x3 z4 => ?_)))
 refine p_box rfl rfl rfl rfl (fun w5 b6 x7 z8 => ?_)
 refine pv (.bool false) (x_assign rfl rfl) ?_
 refine p_nil (t_norm (c_seq (c_quiet (qv (pJ w.heap.size) (fun _ x' => x_fieldAddr fld_37_0 rfl rfl rfl) ?_))))
 refine qv (iJ a.kind) (fun _ x' => x_load rfl rfl (((b2.ext x7).ext x').one one_3 rfl)) ?_
 refine qv (pJ w1.heap.size) (fun _ x' => x_fieldAddr fld_37_0 rfl rfl rfl) ?_
 refine qv (iJ b.kind) (fun _ x' => x_load rfl rfl ((b6.ext x').one one_3 rfl)) ?_
 refine q_bool (b := decide (a.kind = b.kind)) rfl rfl (fun _ x' => x_eql rfl rfl rfl) (fun c9 => ?_) (fun c9 => ?_)
 ·refine qv (.bool true) (fun _ x' => x_move rfl rfl) ?_
  refine qv (.pointer (some (⟨w.heap.size, 1, none⟩))) (fun _ x' => x_fieldAddr fld_37_1 rfl rfl rfl) ?_
  refine qv (.agg #[iJ a.txn.client, iJ a.txn.number]) (fun _ x' => x_load rfl rfl (((b2.ext x7).ext x').agg (vs := [iJ a.txn.client, iJ a.txn.number]) agg_31_2 rfl)) ?_
  refine qv (.pointer (some (⟨w1.heap.size, 1, none⟩))) (fun _ x' => x_fieldAddr fld_37_1 rfl rfl rfl) ?_
  refine qv (.agg #[iJ b.txn.client, iJ b.txn.number]) (fun _ x' => x_load rfl rfl ((b6.ext x').agg (vs := [iJ b.txn.client, iJ b.txn.number]) agg_31_2 rfl)) ?_
  refine q_bool (b := decide (a.txn = b.txn)) rfl rfl (fun _ x' => x_eqTxn ints2_31 rfl rfl rfl) (fun c10 => ?_) (fun c10 => ?_)
  ·refine qv (.bool true) (fun _ x' => x_pick_t rfl rfl rfl) ?_
   refine qv (.bool true) (fun _ x' => x_move rfl rfl) ?_
   refine qv (.pointer (some (⟨w.heap.size, 3, none⟩))) (fun _ x' => x_fieldAddr fld_37_2 rfl rfl rfl) ?_
   refine qv (.agg #[iJ a.stp.time, iJ a.stp.client]) (fun _ x' => x_load rfl rfl (((b2.ext x7).ext x').agg (vs := [iJ a.stp.time, iJ a.stp.client]) agg_33_2 rfl)) ?_
   refine qv (.pointer (some (⟨w1.heap.size, 3, none⟩))) (fun _ x' => x_fieldAddr fld_37_2 rfl rfl rfl) ?_
   refine qv (.agg #[iJ b.stp.time, iJ b.stp.client]) (fun _ x' => x_load rfl rfl ((b6.ext x').agg (vs := [iJ b.stp.time, iJ b.stp.client]) agg_33_2 rfl)) ?_
   refine q_bool (b := decide (a.stp = b.stp)) rfl rfl (fun _ x' => x_eqStp ints2_33 rfl rfl rfl) (fun c11 => ?_) (fun c11 => ?_)
   ·refine qv (.bool true) (fun _ x' => x_pick_t rfl rfl rfl) ?_
    refine qv (.bool true) (fun _ x' => x_move rfl rfl) ?_
    refine qv (.pointer (some (⟨w.heap.size, 5, none⟩))) (fun _ x' => x_fieldAddr fld_37_3 rfl rfl rfl) ?_
    refine qv (iJ a.shards) (fun _ x' => x_load rfl rfl (((b2.ext x7).ext x').one one_3 rfl)) ?_
    refine qv (.pointer (some (⟨w1.heap.size, 5, none⟩))) (fun _ x' => x_fieldAddr fld_37_3 rfl rfl rfl) ?_
    refine qv (iJ b.shards) (fun _ x' => x_load rfl rfl ((b6.ext x').one one_3 rfl)) ?_
    refine q_bool (b := decide (a.shards = b.shards)) rfl rfl (fun _ x' => x_eql rfl rfl rfl) (fun c12 => ?_) (fun c12 => ?_)
    ·refine qv (.bool true) (fun _ x' => x_pick_t rfl rfl rfl) ?_
     refine qv (.bool true) (fun _ x' => x_move rfl rfl) ?_
     refine qv (.pointer (some (⟨w.heap.size, 8, none⟩))) (fun _ x' => x_fieldAddr fld_37_6 rfl rfl rfl) ?_
     refine q_bool (b := a.commit) rfl rfl (fun _ x' => x_load rfl rfl (((b2.ext x7).ext x').one one_4 rfl)) (fun c13 => ?_) (fun c13 => ?_)
     ·refine qv (.pointer (some (⟨w1.heap.size, 8, none⟩))) (fun _ x' => x_fieldAddr fld_37_6 rfl rfl rfl) ?_
      refine q_bool (b := b.commit) rfl rfl (fun _ x' => x_load rfl rfl ((b6.ext x').one one_4 rfl)) (fun c14 => ?_) (fun c14 => ?_)
      ·refine qv (.bool true) (fun _ x' => yb (x_beql (a := true) (b := true) bool_4 rfl rfl rfl) rfl) ?_
       refine qv (.bool true) (fun _ x' => x_pick_t rfl rfl rfl) ?_
       refine qv (.bool true) (fun _ x' => x_move rfl rfl) ?_
       refine qv (.pointer (some (⟨w.heap.size, 6, none⟩))) (fun _ x' => x_fieldAddr fld_37_4 rfl rfl rfl) ?_
       refine qv (.slice pa.A a.reads.length pa.n) (fun _ x' => x_load rfl rfl (((b2.ext x7).ext x').one one_34 rfl)) ?_
       refine qv (.pointer (some (⟨w1.heap.size, 6, none⟩))) (fun _ x' => x_fieldAddr fld_37_4 rfl rfl rfl) ?_
       refine qv (.slice pb.A b.reads.length pb.n) (fun _ x' => x_load rfl rfl ((b6.ext x').one one_34 rfl)) ?_
       refine q_callb (b := decide (a.reads = b.reads)) (vs := #[.slice pa.A a.reads.length pa.n, .slice pb.A b.reads.length pb.n]) fn_73 rfl rfl rfl (args2 rfl rfl) (fun _ x' => C_eqRd _ _ _ _ _ _ _ (((ha.reads.ext x3).ext x7).ext x') (((hb.reads.ext x3).ext x7).ext x') (Nat.le_trans ha.rn ha.rm)) (fun c15 => ?_) (fun c15 => ?_)
       ·refine qv (.bool true) (fun _ x' => x_pick_t rfl rfl rfl) ?_
        refine qv (.bool true) (fun _ x' => x_move rfl rfl) ?_
        refine qv (.pointer (some (⟨w.heap.size, 7, none⟩))) (fun _ x' => x_fieldAddr fld_37_5 rfl rfl rfl) ?_
        refine qv (.slice pa.B a.writes.length pa.m) (fun _ x' => x_load rfl rfl (((b2.ext x7).ext x').one one_35 rfl)) ?_
        refine qv (.pointer (some (⟨w1.heap.size, 7, none⟩))) (fun _ x' => x_fieldAddr fld_37_5 rfl rfl rfl) ?_
        refine qv (.slice pb.B b.writes.length pb.m) (fun _ x' => x_load rfl rfl ((b6.ext x').one one_35 rfl)) ?_
        refine q_callb (b := decide (a.writes = b.writes)) (vs := #[.slice pa.B a.writes.length pa.m, .slice pb.B b.writes.length pb.m]) fn_74 rfl rfl rfl (args2 rfl rfl) (fun _ x' => C_eqWr _ _ _ _ _ _ _ (((ha.writes.ext x3).ext x7).ext x') (((hb.writes.ext x3).ext x7).ext x') (Nat.le_trans ha.wn ha.wm)) (fun c16 => ?_) (fun c16 => ?_)
        ·refine qv (.bool true) (fun _ x' => x_pick_t rfl rfl rfl) ?_
         refine qv (.bool true) (fun _ x' => x_assign rfl rfl) ?_
         exact q_nil (fun w17 x18 => t_norm (c_ret (c_done rfl rfl (Ret.b (by obtain ⟨a0, a1, a2, a3, a4, a5, a6⟩ := a; obtain ⟨b0, b1, b2, b3, b4, b5, b6⟩ := b; simp_all) ((x3.trans x7).trans x18)))))
        refine qv (.bool false) (fun _ x' => x_pick_t rfl rfl rfl) ?_
        refine qv (.bool false) (fun _ x' => x_assign rfl rfl) ?_
        exact q_nil (fun w19 x20 => t_norm (c_ret (c_done rfl rfl (Ret.b ((decide_eq_false (fun h => by subst h; simp_all)).symm) ((x3.trans x7).trans x20)))))
       refine qv (.bool false) (fun _ x' => x_pick_t rfl rfl rfl) ?_
       refine qv (.bool false) (fun _ x' => x_move rfl rfl) ?_
       refine qk rfl rfl (qk rfl rfl (qk rfl rfl (qk rfl rfl (qk rfl rfl (qv (.bool false) (fun _ x' => x_pick_f rfl rfl rfl) ?_)))))
       refine qv (.bool false) (fun _ x' => x_assign rfl rfl) ?_
       exact q_nil (fun w21 x22 => t_norm (c_ret (c_done rfl rfl (Ret.b ((decide_eq_false (fun h => by subst h; simp_all)).symm) ((x3.trans x7).trans x22)))))
      refine qv (.bool false) (fun _ x' => yb (x_beql (a := true) (b := false) bool_4 rfl rfl rfl) rfl) ?_
      refine qv (.bool false) (fun _ x' => x_pick_t rfl rfl rfl) ?_
      refine qv (.bool false) (fun _ x' => x_move rfl rfl) ?_
      refine qk rfl rfl (qk rfl rfl (qk rfl rfl (qk rfl rfl (qk rfl rfl (qv (.bool false) (fun _ x' => x_pick_f rfl rfl rfl) ?_)))))
      refine qv (.bool false) (fun _ x' => x_move rfl rfl) ?_
      refine qk rfl rfl (qk rfl rfl (qk rfl rfl (qk rfl rfl (qk rfl rfl (qv (.bool false) (fun _ x' => x_pick_f rfl rfl rfl) ?_)))))
      refine qv (.bool false) (fun _ x' => x_assign rfl rfl) ?_
      exact q_nil (fun w23 x24 => t_norm (c_ret (c_done rfl rfl (Ret.b ((decide_eq_false (fun h => by subst h; simp_all)).symm) ((x3.trans x7).trans x24)))))
     refine qv (.pointer (some (⟨w1.heap.size, 8, none⟩))) (fun _ x' => x_fieldAddr fld_37_6 rfl rfl rfl) ?_
     refine q_bool (b := b.commit) rfl rfl (fun _ x' => x_load rfl rfl ((b6.ext x').one one_4 rfl)) (fun c25 => ?_) (fun c25 => ?_)
     ·refine qv (.bool false) (fun _ x' => yb (x_beql (a := false) (b := true) bool_4 rfl rfl rfl) rfl) ?_
      refine qv (.bool false) (fun _ x' => x_pick_t rfl rfl rfl) ?_
      refine qv (.bool false) (fun _ x' => x_move rfl rfl) ?_
      refine qk rfl rfl (qk rfl rfl (qk rfl rfl (qk rfl rfl (qk rfl rfl (qv (.bool false) (fun _ x' => x_pick_f rfl rfl rfl) ?_)))))
      refine qv (.bool false) (fun _ x' => x_move rfl rfl) ?_
      refine qk rfl rfl (qk rfl rfl (qk rfl rfl (qk rfl rfl (qk rfl rfl (qv (.bool false) (fun _ x' => x_pick_f rfl rfl rfl) ?_)))))
      refine qv (.bool false) (fun _ x' => x_assign rfl rfl) ?_
      exact q_nil (fun w26 x27 => t_norm (c_ret (c_done rfl rfl (Ret.b ((decide_eq_false (fun h => by subst h; simp_all)).symm) ((x3.trans x7).trans x27)))))
     refine qv (.bool true) (fun _ x' => yb (x_beql (a := false) (b := false) bool_4 rfl rfl rfl) rfl) ?_
     refine qv (.bool true) (fun _ x' => x_pick_t rfl rfl rfl) ?_
     refine qv (.bool true) (fun _ x' => x_move rfl rfl) ?_
     refine qv (.pointer (some (⟨w.heap.size, 6, none⟩))) (fun _ x' => x_fieldAddr fld_37_4 rfl rfl rfl) ?_
     refine qv (.slice pa.A a.reads.length pa.n) (fun _ x' => x_load rfl rfl (((b2.ext x7).ext x').one one_34 rfl)) ?_
     refine qv (.pointer (some (⟨w1.heap.size, 6, none⟩))) (fun _ x' => x_fieldAddr fld_37_4 rfl rfl rfl) ?_
     refine qv (.slice pb.A b.reads.length pb.n) (fun _ x' => x_load rfl rfl ((b6.ext x').one one_34 rfl)) ?_
     refine q_callb (b := decide (a.reads = b.reads)) (vs := #[.slice pa.A a.reads.length pa.n, .slice pb.A b.reads.length pb.n]) fn_73 rfl rfl rfl (args2 rfl rfl) (fun _ x' => C_eqRd _ _ _ _ _ _ _ (((ha.reads.ext x3).ext x7).ext x') (((hb.reads.ext x3).ext x7).ext x') (Nat.le_trans ha.rn ha.rm)) (fun c28 => ?_) (fun c28 => ?_)
     ·refine qv (.bool true) (fun _ x' => x_pick_t rfl rfl rfl) ?_
      refine qv (.bool true) (fun _ x' => x_move rfl rfl) ?_
      refine qv (.pointer (some (⟨w.heap.size, 7, none⟩))) (fun _ x' => x_fieldAddr fld_37_5 rfl rfl rfl) ?_
      refine qv (.slice pa.B a.writes.length pa.m) (fun _ x' => x_load rfl rfl (((b2.ext x7).ext x').one one_35 rfl)) ?_
      refine qv (.pointer (some (⟨w1.heap.size, 7, none⟩))) (fun _ x' => x_fieldAddr fld_37_5 rfl rfl rfl) ?_
      refine qv (.slice pb.B b.writes.length pb.m) (fun _ x' => x_load rfl rfl ((b6.ext x').one one_35 rfl)) ?_
      refine q_callb (b := decide (a.writes = b.writes)) (vs := #[.slice pa.B a.writes.length pa.m, .slice pb.B b.writes.length pb.m]) fn_74 rfl rfl rfl (args2 rfl rfl) (fun _ x' => C_eqWr _ _ _ _ _ _ _ (((ha.writes.ext x3).ext x7).ext x') (((hb.writes.ext x3).ext x7).ext x') (Nat.le_trans ha.wn ha.wm)) (fun c29 => ?_) (fun c29 => ?_)
      ·refine qv (.bool true) (fun _ x' => x_pick_t rfl rfl rfl) ?_
       refine qv (.bool true) (fun _ x' => x_assign rfl rfl) ?_
       exact q_nil (fun w30 x31 => t_norm (c_ret (c_done rfl rfl (Ret.b (by obtain ⟨a0, a1, a2, a3, a4, a5, a6⟩ := a; obtain ⟨b0, b1, b2, b3, b4, b5, b6⟩ := b; simp_all) ((x3.trans x7).trans x31)))))
      refine qv (.bool false) (fun _ x' => x_pick_t rfl rfl rfl) ?_
      refine qv (.bool false) (fun _ x' => x_assign rfl rfl) ?_
      exact q_nil (fun w32 x33 => t_norm (c_ret (c_done rfl rfl (Ret.b ((decide_eq_false (fun h => by subst h; simp_all)).symm) ((x3.trans x7).trans x33)))))
     refine qv (.bool false) (fun _ x' => x_pick_t rfl rfl rfl) ?_
     refine qv (.bool false) (fun _ x' => x_move rfl rfl) ?_
     refine qk rfl rfl (qk rfl rfl (qk rfl rfl (qk rfl rfl (qk rfl rfl (qv (.bool false) (fun _ x' => x_pick_f rfl rfl rfl) ?_)))))
     refine qv (.bool false) (fun _ x' => x_assign rfl rfl) ?_
     exact q_nil (fun w34 x35 => t_norm (c_ret (c_done rfl rfl (Ret.b ((decide_eq_false (fun h => by subst h; simp_all)).symm) ((x3.trans x7).trans x35)))))
    refine qv (.bool false) (fun _ x' => x_pick_t rfl rfl rfl) ?_
    refine qv (.bool false) (fun _ x' => x_move rfl rfl) ?_
    refine qk rfl rfl (qk rfl rfl (qk rfl rfl (qk rfl rfl (qk rfl rfl (qv (.bool false) (fun _ x' => x_pick_f rfl rfl rfl) ?_)))))
    refine qv (.bool false) (fun _ x' => x_move rfl rfl) ?_
    refine qk rfl rfl (qk rfl rfl (qk rfl rfl (qk rfl rfl (qk rfl rfl (qv (.bool false) (fun _ x' => x_pick_f rfl rfl rfl) ?_)))))
    refine qv (.bool false) (fun _ x' => x_move rfl rfl) ?_
    refine qk rfl rfl (qk rfl rfl (qk rfl rfl (qk rfl rfl (qk rfl rfl (qv (.bool false) (fun _ x' => x_pick_f rfl rfl rfl) ?_)))))
    refine qv (.bool false) (fun _ x' => x_assign rfl rfl) ?_
    exact q_nil (fun w36 x37 => t_norm (c_ret (c_done rfl rfl (Ret.b ((decide_eq_false (fun h => by subst h; simp_all)).symm) ((x3.trans x7).trans x37)))))
   refine qv (.bool false) (fun _ x' => x_pick_t rfl rfl rfl) ?_
   refine qv (.bool false) (fun _ x' => x_move rfl rfl) ?_
   refine qk rfl rfl (qk rfl rfl (qk rfl rfl (qk rfl rfl (qk rfl rfl (qv (.bool false) (fun _ x' => x_pick_f rfl rfl rfl) ?_)))))
   refine qv (.bool false) (fun _ x' => x_move rfl rfl) ?_
   refine qk rfl rfl (qk rfl rfl (qk rfl rfl (qk rfl rfl (qk rfl rfl (qv (.bool false) (fun _ x' => x_pick_f rfl rfl rfl) ?_)))))
   refine qv (.bool false) (fun _ x' => x_move rfl rfl) ?_
   refine qk rfl rfl (qk rfl rfl (qk rfl rfl (qk rfl rfl (qk rfl rfl (qv (.bool false) (fun _ x' => x_pick_f rfl rfl rfl) ?_)))))
   refine qv (.bool false) (fun _ x' => x_move rfl rfl) ?_
   refine qk rfl rfl (qk rfl rfl (qk rfl rfl (qk rfl rfl (qk rfl rfl (qv (.bool false) (fun _ x' => x_pick_f rfl rfl rfl) ?_)))))
   refine qv (.bool false) (fun _ x' => x_assign rfl rfl) ?_
   exact q_nil (fun w38 x39 => t_norm (c_ret (c_done rfl rfl (Ret.b ((decide_eq_false (fun h => by subst h; simp_all)).symm) ((x3.trans x7).trans x39)))))
  refine qv (.bool false) (fun _ x' => x_pick_t rfl rfl rfl) ?_
  refine qv (.bool false) (fun _ x' => x_move rfl rfl) ?_
  refine qk rfl rfl (qk rfl rfl (qk rfl rfl (qk rfl rfl (qk rfl rfl (qv (.bool false) (fun _ x' => x_pick_f rfl rfl rfl) ?_)))))
  refine qv (.bool false) (fun _ x' => x_move rfl rfl) ?_
  refine qk rfl rfl (qk rfl rfl (qk rfl rfl (qk rfl rfl (qk rfl rfl (qv (.bool false) (fun _ x' => x_pick_f rfl rfl rfl) ?_)))))
  refine qv (.bool false) (fun _ x' => x_move rfl rfl) ?_
  refine qk rfl rfl (qk rfl rfl (qk rfl rfl (qk rfl rfl (qk rfl rfl (qv (.bool false) (fun _ x' => x_pick_f rfl rfl rfl) ?_)))))
  refine qv (.bool false) (fun _ x' => x_move rfl rfl) ?_
  refine qk rfl rfl (qk rfl rfl (qk rfl rfl (qk rfl rfl (qk rfl rfl (qv (.bool false) (fun _ x' => x_pick_f rfl rfl rfl) ?_)))))
  refine qv (.bool false) (fun _ x' => x_move rfl rfl) ?_
  refine qk rfl rfl (qk rfl rfl (qk rfl rfl (qk rfl rfl (qk rfl rfl (qv (.bool false) (fun _ x' => x_pick_f rfl rfl rfl) ?_)))))
  refine qv (.bool false) (fun _ x' => x_assign rfl rfl) ?_
  exact q_nil (fun w40 x41 => t_norm (c_ret (c_done rfl rfl (Ret.b ((decide_eq_false (fun h => by subst h; simp_all)).symm) ((x3.trans x7).trans x41)))))
 refine qv (.bool false) (fun _ x' => x_move rfl rfl) ?_
 refine qk rfl rfl (qk rfl rfl (qk rfl rfl (qk rfl rfl (qk rfl rfl (qv (.bool false) (fun _ x' => x_pick_f rfl rfl rfl) ?_)))))
 refine qv (.bool false) (fun _ x' => x_move rfl rfl) ?_
 refine qk rfl rfl (qk rfl rfl (qk rfl rfl (qk rfl rfl (qk rfl rfl (qv (.bool false) (fun _ x' => x_pick_f rfl rfl rfl) ?_)))))
 refine qv (.bool false) (fun _ x' => x_move rfl rfl) ?_
 refine qk rfl rfl (qk rfl rfl (qk rfl rfl (qk rfl rfl (qk rfl rfl (qv (.bool false) (fun _ x' => x_pick_f rfl rfl rfl) ?_)))))
 refine qv (.bool false) (fun _ x' => x_move rfl rfl) ?_
 refine qk rfl rfl (qk rfl rfl (qk rfl rfl (qk rfl rfl (qk rfl rfl (qv (.bool false) (fun _ x' => x_pick_f rfl rfl rfl) ?_)))))
 refine qv (.bool false) (fun _ x' => x_move rfl rfl) ?_
 refine qk rfl rfl (qk rfl rfl (qk rfl rfl (qk rfl rfl (qk rfl rfl (qv (.bool false) (fun _ x' => x_pick_f rfl rfl rfl) ?_)))))
 refine qv (.bool false) (fun _ x' => x_move rfl rfl) ?_
 refine qk rfl rfl (qk rfl rfl (qk rfl rfl (qk rfl rfl (qk rfl rfl (qv (.bool false) (fun _ x' => x_pick_f rfl rfl rfl) ?_)))))
 refine qv (.bool false) (fun _ x' => x_assign rfl rfl) ?_
 exact q_nil (fun w42 x43 => t_norm (c_ret (c_done rfl rfl (Ret.b ((decide_eq_false (fun h => by subst h; simp_all)).symm) ((x3.trans x7).trans x43)))))
theorem D_sameCmd (w : World) (a : Cmd) (pa : Ptr) (ha : CmdAt w a pa) (b : Cmd) (pb : Ptr) (hb : CmdAt w b pb) :
    Calls Try.prog 44 #[vCmd a pa, vCmd b pb] w (Ret w (.bool (decide (a = b)))) := by
 have hna := Nat.le_trans ha.rn ha.rm
 have hnb := Nat.le_trans ha.wn ha.wm
 refine c_enter (n := 94) Try.func44 rfl rfl rfl ?_
 refine c_seq (c_plain (p_box rfl rfl rfl rfl (fun w1 b2 x3 z4 => ?_)))
 refine p_box rfl rfl rfl rfl (fun w5 b6 x7 z8 => ?_)
 refine pv (.bool false) (x_assign rfl rfl) ?_
 refine p_nil (t_norm (c_seq (c_seq (c_quiet (qv (pJ w.heap.size) (fun _ x' => x_fieldAddr fld_37_0 rfl rfl rfl) ?_)))))
 refine qv (iJ a.kind) (fun _ x' => x_load rfl rfl (((b2.ext x7).ext x').one one_3 rfl)) ?_
 refine qv (pJ w1.heap.size) (fun _ x' => x_fieldAddr fld_37_0 rfl rfl rfl) ?_
 refine qv (iJ b.kind) (fun _ x' => x_load rfl rfl ((b6.ext x').one one_3 rfl)) ?_
 refine q_bool (b := decide (a.kind ≠ b.kind)) rfl rfl (fun _ x' => x_neq rfl rfl rfl) (fun c9 => ?_) (fun c9 => ?_)
 ·refine qv (.bool true) (fun _ x' => x_move rfl rfl) ?_
  refine qk rfl rfl (qk rfl rfl (qk rfl rfl (qk rfl rfl (qk rfl rfl (qv (.bool true) (fun _ x' => x_pick_t rfl rfl rfl) ?_)))))
  refine qv (.bool true) (fun _ x' => x_move rfl rfl) ?_
  refine qk rfl rfl (qk rfl rfl (qk rfl rfl (qk rfl rfl (qk rfl rfl (qv (.bool true) (fun _ x' => x_pick_t rfl rfl rfl) ?_)))))
  refine qv (.bool true) (fun _ x' => x_move rfl rfl) ?_
  refine qk rfl rfl (qk rfl rfl (qk rfl rfl (qk rfl rfl (qk rfl rfl (qv (.bool true) (fun _ x' => x_pick_t rfl rfl rfl) ?_)))))
  refine qv (.bool true) (fun _ x' => x_move rfl rfl) ?_
  refine qk rfl rfl (qk rfl rfl (qk rfl rfl (qk rfl rfl (qk rfl rfl (qv (.bool true) (fun _ x' => x_pick_t rfl rfl rfl) ?_)))))
  refine qv (.bool true) (fun _ x' => x_move rfl rfl) ?_
  refine qk rfl rfl (qk rfl rfl (qk rfl rfl (qk rfl rfl (qk rfl rfl (qk rfl rfl (qk rfl rfl (qv (.bool true) (fun _ x' => x_pick_t rfl rfl rfl) ?_)))))))
  refine qv (.bool true) (fun _ x' => x_move rfl rfl) ?_
  refine qk rfl rfl (qk rfl rfl (qk rfl rfl (qk rfl rfl (qk rfl rfl (qk rfl rfl (qk rfl rfl (qv (.bool true) (fun _ x' => x_pick_t rfl rfl rfl) ?_)))))))
  refine q_nil (fun w10 x11 => t_norm (c_true rfl (c_seq (c_quiet (qv (.bool false) (fun _ x' => x_assign rfl rfl) ?_)))))
  exact q_nil (fun w12 x13 => t_norm (c_ret (t_ret (c_done rfl rfl (Ret.b ((decide_eq_false (fun h => by subst h; simp_all)).symm) (((x3.trans x7).trans x11).trans x13))))))
 refine qv (.bool false) (fun _ x' => x_move rfl rfl) ?_
 refine qv (.pointer (some (⟨w.heap.size, 1, none⟩))) (fun _ x' => x_fieldAddr fld_37_1 rfl rfl rfl) ?_
 refine qv (.agg #[iJ a.txn.client, iJ a.txn.number]) (fun _ x' => x_load rfl rfl (((b2.ext x7).ext x').agg (vs := [iJ a.txn.client, iJ a.txn.number]) agg_31_2 rfl)) ?_
 refine qv (.pointer (some (⟨w1.heap.size, 1, none⟩))) (fun _ x' => x_fieldAddr fld_37_1 rfl rfl rfl) ?_
 refine qv (.agg #[iJ b.txn.client, iJ b.txn.number]) (fun _ x' => x_load rfl rfl ((b6.ext x').agg (vs := [iJ b.txn.client, iJ b.txn.number]) agg_31_2 rfl)) ?_
 refine q_bool (b := !decide (a.txn = b.txn)) rfl rfl (fun _ x' => x_neTxn ints2_31 rfl rfl rfl) (fun c14 => ?_) (fun c14 => ?_)
 ·refine qv (.bool true) (fun _ x' => x_pick_f rfl rfl rfl) ?_
  refine qv (.bool true) (fun _ x' => x_move rfl rfl) ?_
  refine qk rfl rfl (qk rfl rfl (qk rfl rfl (qk rfl rfl (qk rfl rfl (qv (.bool true) (fun _ x' => x_pick_t rfl rfl rfl) ?_)))))
  refine qv (.bool true) (fun _ x' => x_move rfl rfl) ?_
  refine qk rfl rfl (qk rfl rfl (qk rfl rfl (qk rfl rfl (qk rfl rfl (qv (.bool true) (fun _ x' => x_pick_t rfl rfl rfl) ?_)))))
  refine qv (.bool true) (fun _ x' => x_move rfl rfl) ?_
  refine qk rfl rfl (qk rfl rfl (qk rfl rfl (qk rfl rfl (qk rfl rfl (qv (.bool true) (fun _ x' => x_pick_t rfl rfl rfl) ?_)))))
  refine qv (.bool true) (fun _ x' => x_move rfl rfl) ?_
  refine qk rfl rfl (qk rfl rfl (qk rfl rfl (qk rfl rfl (qk rfl rfl (qk rfl rfl (qk rfl rfl (qv (.bool true) (fun _ x' => x_pick_t rfl rfl rfl) ?_)))))))
  refine qv (.bool true) (fun _ x' => x_move rfl rfl) ?_
  refine qk rfl rfl (qk rfl rfl (qk rfl rfl (qk rfl rfl (qk rfl rfl (qk rfl rfl (qk rfl rfl (qv (.bool true) (fun _ x' => x_pick_t rfl rfl rfl) ?_)))))))
  refine q_nil (fun w15 x16 => t_norm (c_true rfl (c_seq (c_quiet (qv (.bool false) (fun _ x' => x_assign rfl rfl) ?_)))))
  exact q_nil (fun w17 x18 => t_norm (c_ret (t_ret (c_done rfl rfl (Ret.b ((decide_eq_false (fun h => by subst h; simp_all)).symm) (((x3.trans x7).trans x16).trans x18))))))
 refine qv (.bool false) (fun _ x' => x_pick_f rfl rfl rfl) ?_
 refine qv (.bool false) (fun _ x' => x_move rfl rfl) ?_
 refine qv (.pointer (some (⟨w.heap.size, 3, none⟩))) (fun _ x' => x_fieldAddr fld_37_2 rfl rfl rfl) ?_
 refine qv (.agg #[iJ a.stp.time, iJ a.stp.client]) (fun _ x' => x_load rfl rfl (((b2.ext x7).ext x').agg (vs := [iJ a.stp.time, iJ a.stp.client]) agg_33_2 rfl)) ?_
 refine qv (.pointer (some (⟨w1.heap.size, 3, none⟩))) (fun _ x' => x_fieldAddr fld_37_2 rfl rfl rfl) ?_
 refine qv (.agg #[iJ b.stp.time, iJ b.stp.client]) (fun _ x' => x_load rfl rfl ((b6.ext x').agg (vs := [iJ b.stp.time, iJ b.stp.client]) agg_33_2 rfl)) ?_
 refine q_bool (b := !decide (a.stp = b.stp)) rfl rfl (fun _ x' => x_neStp ints2_33 rfl rfl rfl) (fun c19 => ?_) (fun c19 => ?_)
 ·refine qv (.bool true) (fun _ x' => x_pick_f rfl rfl rfl) ?_
  refine qv (.bool true) (fun _ x' => x_move rfl rfl) ?_
  refine qk rfl rfl (qk rfl rfl (qk rfl rfl (qk rfl rfl (qk rfl rfl (qv (.bool true) (fun _ x' => x_pick_t rfl rfl rfl) ?_)))))
  refine qv (.bool true) (fun _ x' => x_move rfl rfl) ?_
  refine qk rfl rfl (qk rfl rfl (qk rfl rfl (qk rfl rfl (qk rfl rfl (qv (.bool true) (fun _ x' => x_pick_t rfl rfl rfl) ?_)))))
  refine qv (.bool true) (fun _ x' => x_move rfl rfl) ?_
  refine qk rfl rfl (qk rfl rfl (qk rfl rfl (qk rfl rfl (qk rfl rfl (qk rfl rfl (qk rfl rfl (qv (.bool true) (fun _ x' => x_pick_t rfl rfl rfl) ?_)))))))
  refine qv (.bool true) (fun _ x' => x_move rfl rfl) ?_
  refine qk rfl rfl (qk rfl rfl (qk rfl rfl (qk rfl rfl (qk rfl rfl (qk rfl rfl (qk rfl rfl (qv (.bool true) (fun _ x' => x_pick_t rfl rfl rfl) ?_)))))))
  refine q_nil (fun w20 x21 => t_norm (c_true rfl (c_seq (c_quiet (qv (.bool false) (fun _ x' => x_assign rfl rfl) ?_)))))
  exact q_nil (fun w22 x23 => t_norm (c_ret (t_ret (c_done rfl rfl (Ret.b ((decide_eq_false (fun h => by subst h; simp_all)).symm) (((x3.trans x7).trans x21).trans x23))))))
 refine qv (.bool false) (fun _ x' => x_pick_f rfl rfl rfl) ?_
 refine qv (.bool false) (fun _ x' => x_move rfl rfl) ?_
 refine qv (.pointer (some (⟨w.heap.size, 5, none⟩))) (fun _ x' => x_fieldAddr fld_37_3 rfl rfl rfl) ?_
 refine qv (iJ a.shards) (fun _ x' => x_load rfl rfl (((b2.ext x7).ext x').one one_3 rfl)) ?_
 refine qv (.pointer (some (⟨w1.heap.size, 5, none⟩))) (fun _ x' => x_fieldAddr fld_37_3 rfl rfl rfl) ?_
 refine qv (iJ b.shards) (fun _ x' => x_load rfl rfl ((b6.ext x').one one_3 rfl)) ?_
 refine q_bool (b := decide (a.shards ≠ b.shards)) rfl rfl (fun _ x' => x_neq rfl rfl rfl) (fun c24 => ?_) (fun c24 => ?_)
 ·refine qv (.bool true) (fun _ x' => x_pick_f rfl rfl rfl) ?_
  refine qv (.bool true) (fun _ x' => x_move rfl rfl) ?_
  refine qk rfl rfl (qk rfl rfl (qk rfl rfl (qk rfl rfl (qk rfl rfl (qv (.bool true) (fun _ x' => x_pick_t rfl rfl rfl) ?_)))))
  refine qv (.bool true) (fun _ x' => x_move rfl rfl) ?_
  refine qk rfl rfl (qk rfl rfl (qk rfl rfl (qk rfl rfl (qk rfl rfl (qk rfl rfl (qk rfl rfl (qv (.bool true) (fun _ x' => x_pick_t rfl rfl rfl) ?_)))))))
  refine qv (.bool true) (fun _ x' => x_move rfl rfl) ?_
  refine qk rfl rfl (qk rfl rfl (qk rfl rfl (qk rfl rfl (qk rfl rfl (qk rfl rfl (qk rfl rfl (qv (.bool true) (fun _ x' => x_pick_t rfl rfl rfl) ?_)))))))
  refine q_nil (fun w25 x26 => t_norm (c_true rfl (c_seq (c_quiet (qv (.bool false) (fun _ x' => x_assign rfl rfl) ?_)))))
  exact q_nil (fun w27 x28 => t_norm (c_ret (t_ret (c_done rfl rfl (Ret.b ((decide_eq_false (fun h => by subst h; simp_all)).symm) (((x3.trans x7).trans x26).trans x28))))))
 refine qv (.bool false) (fun _ x' => x_pick_f rfl rfl rfl) ?_
 refine qv (.bool false) (fun _ x' => x_move rfl rfl) ?_
 refine qv (.pointer (some (⟨w.heap.size, 8, none⟩))) (fun _ x' => x_fieldAddr fld_37_6 rfl rfl rfl) ?_
 refine q_bool (b := a.commit) rfl rfl (fun _ x' => x_load rfl rfl (((b2.ext x7).ext x').one one_4 rfl)) (fun c29 => ?_) (fun c29 => ?_)
 ·refine qv (.pointer (some (⟨w1.heap.size, 8, none⟩))) (fun _ x' => x_fieldAddr fld_37_6 rfl rfl rfl) ?_
  refine q_bool (b := b.commit) rfl rfl (fun _ x' => x_load rfl rfl ((b6.ext x').one one_4 rfl)) (fun c30 => ?_) (fun c30 => ?_)
  ·refine qv (.bool false) (fun _ x' => yb (x_bneq (a := true) (b := true) bool_4 rfl rfl rfl) rfl) ?_
   refine qv (.bool false) (fun _ x' => x_pick_f rfl rfl rfl) ?_
   refine qv (.bool false) (fun _ x' => x_move rfl rfl) ?_
   refine qv (.pointer (some (⟨w.heap.size, 6, none⟩))) (fun _ x' => x_fieldAddr fld_37_4 rfl rfl rfl) ?_
   refine qv (.slice pa.A a.reads.length pa.n) (fun _ x' => x_load rfl rfl (((b2.ext x7).ext x').one one_34 rfl)) ?_
   refine qv (iJ (a.reads.length : Int)) (fun _ x' => x_len_slice sl_34 rfl rfl) ?_
   refine qv (.pointer (some (⟨w1.heap.size, 6, none⟩))) (fun _ x' => x_fieldAddr fld_37_4 rfl rfl rfl) ?_
   refine qv (.slice pb.A b.reads.length pb.n) (fun _ x' => x_load rfl rfl ((b6.ext x').one one_34 rfl)) ?_
   refine qv (iJ (b.reads.length : Int)) (fun _ x' => x_len_slice sl_34 rfl rfl) ?_
   refine q_bool (b := decide ((a.reads.length : Int) ≠ (b.reads.length : Int))) rfl rfl (fun _ x' => x_neq rfl rfl rfl) (fun c31 => ?_) (fun c31 => ?_)
   ·refine qv (.bool true) (fun _ x' => x_pick_f rfl rfl rfl) ?_
    refine qv (.bool true) (fun _ x' => x_move rfl rfl) ?_
    refine qk rfl rfl (qk rfl rfl (qk rfl rfl (qk rfl rfl (qk rfl rfl (qk rfl rfl (qk rfl rfl (qv (.bool true) (fun _ x' => x_pick_t rfl rfl rfl) ?_)))))))
    refine q_nil (fun w32 x33 => t_norm (c_true rfl (c_seq (c_quiet (qv (.bool false) (fun _ x' => x_assign rfl rfl) ?_)))))
    exact q_nil (fun w34 x35 => t_norm (c_ret (t_ret (c_done rfl rfl (Ret.b ((decide_eq_false (fun h => by subst h; simp_all)).symm) (((x3.trans x7).trans x33).trans x35))))))
   refine qv (.bool false) (fun _ x' => x_pick_f rfl rfl rfl) ?_
   refine qv (.bool false) (fun _ x' => x_move rfl rfl) ?_
   refine qv (.pointer (some (⟨w.heap.size, 7, none⟩))) (fun _ x' => x_fieldAddr fld_37_5 rfl rfl rfl) ?_
   refine qv (.slice pa.B a.writes.length pa.m) (fun _ x' => x_load rfl rfl (((b2.ext x7).ext x').one one_35 rfl)) ?_
   refine qv (iJ (a.writes.length : Int)) (fun _ x' => x_len_slice sl_35 rfl rfl) ?_
   refine qv (.pointer (some (⟨w1.heap.size, 7, none⟩))) (fun _ x' => x_fieldAddr fld_37_5 rfl rfl rfl) ?_
   refine qv (.slice pb.B b.writes.length pb.m) (fun _ x' => x_load rfl rfl ((b6.ext x').one one_35 rfl)) ?_
   refine qv (iJ (b.writes.length : Int)) (fun _ x' => x_len_slice sl_35 rfl rfl) ?_
   refine q_bool (b := decide ((a.writes.length : Int) ≠ (b.writes.length : Int))) rfl rfl (fun _ x' => x_neq rfl rfl rfl) (fun c36 => ?_) (fun c36 => ?_)
   ·refine qv (.bool true) (fun _ x' => x_pick_f rfl rfl rfl) ?_
    refine q_nil (fun w37 x38 => t_norm (c_true rfl (c_seq (c_quiet (qv (.bool false) (fun _ x' => x_assign rfl rfl) ?_)))))
    exact q_nil (fun w39 x40 => t_norm (c_ret (t_ret (c_done rfl rfl (Ret.b ((decide_eq_false (fun h => by subst h; simp_all)).symm) (((x3.trans x7).trans x38).trans x40))))))
   refine qv (.bool false) (fun _ x' => x_pick_f rfl rfl rfl) ?_
   refine q_nil (fun w41 x42 => t_norm (c_false rfl (c_skip (t_norm (c_seq (c_seq (c_quiet (qv (iJ 0) (fun _ x' => x_assign rfl rfl) ?_))))))))
   refine q_nil (fun w43 x44 => t_norm (c_block (c_loop (fun ρ w48 => ∃ k45 : Nat, k45 ≤ a.reads.length ∧ a.reads.take k45 = b.reads.take k45 ∧ ρ 2 = pJ w.heap.size ∧ ρ 3 = pJ w1.heap.size ∧ ρ 5 = iJ (k45 : Int) ∧ Ext w43 w48) (fun ρ _ => a.reads.length - (intOf (ρ 5)).toNat) ⟨0, Nat.zero_le _, rfl, rfl, rfl, rfl, Ext.refl _⟩ ?_)))
   rintro ρ w48 ⟨k45, hk46, hi47, e50, e51, e52, x49⟩
   have hlr := len_eq c31
   by_cases hl53 : k45 < a.reads.length
   ·obtain ⟨y54, hx55⟩ := some_of (l := a.reads) (k := k45) (by omega)
    obtain ⟨ad56, cs57, eA58, hK59, hE60⟩ := ha.reads k45 y54 hx55
    have hK59' : cs57 = [.string y54.key, iJ y54.ver.time, iJ y54.ver.client] := hK59
    subst hK59'
    obtain ⟨y62, hx63⟩ := some_of (l := b.reads) (k := k45) (by omega)
    obtain ⟨ad64, cs65, eA66, hK67, hE68⟩ := hb.reads k45 y62 hx63
    have hK67' : cs65 = [.string y62.key, iJ y62.ver.time, iJ y62.ver.client] := hK67
    subst hK67'
    refine c_seq (c_seq (c_quiet (qv (iJ (k45 : Int)) (fun _ x' => x_move rfl e52) ?_)))
    refine qv (.pointer (some (⟨w.heap.size, 6, none⟩))) (fun _ x' => x_fieldAddr fld_37_4 rfl e50 rfl) ?_
    refine qv (.slice pa.A a.reads.length pa.n) (fun _ x' => x_load rfl rfl ((((((b2.ext x7).ext x42).ext x44).ext x49).ext x').one one_34 rfl)) ?_
    refine qv (iJ (a.reads.length : Int)) (fun _ x' => x_len_slice sl_34 rfl rfl) ?_
    refine qv (.bool true) (fun _ x' => yb (x_lss rfl rfl rfl) (decide_eq_true (by omega))) ?_
    refine q_nil (fun w70 x71 => t_norm (c_true rfl (c_skip (t_norm (c_seq (c_block (c_seq (c_draw mixed (by kernel_rfl) (qv (.pointer (some (⟨w.heap.size, 6, none⟩))) (fun _ x' => x_fieldAddr fld_37_4 rfl e50 rfl) ?_)))))))))
    refine qv (.slice pa.A a.reads.length pa.n) (fun _ x' => x_load rfl rfl (((((((b2.ext x7).ext x42).ext x44).ext x49).ext x71).ext x').one one_34 rfl)) ?_
    refine qv (iJ (k45 : Int)) (fun _ x' => x_move rfl e52) ?_
    refine qv (.pointer (some (ad56.add (k45 * 3)))) (fun _ x' => x_indexAddr sl_34 rfl rfl eA58 rfl (by omega) (by omega) rfl) ?_
    refine qv (vRd y54) (fun _ x' => x_load rfl rfl ((((((((hE60.ext x3).ext x7).ext x42).ext x44).ext x49).ext x71).ext x').agg (vs := [.string y54.key, iJ y54.ver.time, iJ y54.ver.client]) agg_78_3 0 rfl rfl)) ?_
    refine qv (.pointer (some (⟨w1.heap.size, 6, none⟩))) (fun _ x' => x_fieldAddr fld_37_4 rfl e51 rfl) ?_
    refine qv (.slice pb.A b.reads.length pb.n) (fun _ x' => x_load rfl rfl ((((((b6.ext x42).ext x44).ext x49).ext x71).ext x').one one_34 rfl)) ?_
    refine qv (iJ (k45 : Int)) (fun _ x' => x_move rfl e52) ?_
    refine qv (.pointer (some (ad64.add (k45 * 3)))) (fun _ x' => x_indexAddr sl_34 rfl rfl eA66 rfl (by omega) (by omega) rfl) ?_
    refine qv (vRd y62) (fun _ x' => x_load rfl rfl ((((((((hE68.ext x3).ext x7).ext x42).ext x44).ext x49).ext x71).ext x').agg (vs := [.string y62.key, iJ y62.ver.time, iJ y62.ver.client]) agg_78_3 0 rfl rfl)) ?_
    refine q_bool (b := !decide (y54 = y62)) rfl rfl (fun _ x' => x_neRd rdT_78 rfl rfl rfl) (fun c72 => ?_) (fun c72 => ?_)
    ·refine q_nil (fun w73 x74 => t_norm (c_true rfl (c_seq (c_quiet (qv (.bool false) (fun _ x' => x_assign rfl rfl) ?_)))))
     exact q_nil (fun w75 x76 => t_norm (c_ret (b_ret (t_ret (t_ret (b_ret (t_ret (c_done rfl rfl (Ret.b ((decide_eq_false (fun h => eq_fail hx55 hx63 (by simpa using c72) (by rw [h]))).symm) (((((((x3.trans x7).trans x42).trans x44).trans x49).trans x71).trans x74).trans x76))))))))))
    refine q_nil (fun w77 x78 => t_norm (c_false rfl (c_skip (b_norm (t_norm (c_quiet (qv (iJ (k45 : Int)) (fun _ x' => x_move rfl e52) ?_)))))))
    refine qv (iJ ((k45 : Int) + 1)) (fun _ x' => x_add rfl rfl rfl (wrap_of (by omega) (by omega))) ?_
    refine qv (iJ ((k45 : Int) + 1)) (fun _ x' => x_assign rfl rfl) ?_
    exact q_nil (fun w79 x80 => t_norm (⟨_, rfl, ⟨k45 + 1, by omega, eq_step hi47 hx55 hx63 (by simpa using c72), e50, e51, rfl, (((x49.trans x71).trans x78).trans x80)⟩, meas_up e52 hl53⟩))
   refine c_seq (c_seq (c_quiet (qv (iJ (k45 : Int)) (fun _ x' => x_move rfl e52) ?_)))
   refine qv (.pointer (some (⟨w.heap.size, 6, none⟩))) (fun _ x' => x_fieldAddr fld_37_4 rfl e50 rfl) ?_
   refine qv (.slice pa.A a.reads.length pa.n) (fun _ x' => x_load rfl rfl ((((((b2.ext x7).ext x42).ext x44).ext x49).ext x').one one_34 rfl)) ?_
   refine qv (iJ (a.reads.length : Int)) (fun _ x' => x_len_slice sl_34 rfl rfl) ?_
   refine qv (.bool false) (fun _ x' => yb (x_lss rfl rfl rfl) (decide_eq_false (by omega))) ?_
   refine q_nil (fun w81 x82 => t_norm (c_false rfl (c_exit (t_exit (t_exit (b_exit (t_norm (c_seq (c_seq (c_quiet (qv (iJ 0) (fun _ x' => x_assign rfl rfl) ?_)))))))))))
   refine q_nil (fun w83 x84 => t_norm (c_block (c_loop (fun ρ w88 => ∃ k85 : Nat, k85 ≤ a.writes.length ∧ a.writes.take k85 = b.writes.take k85 ∧ ρ 2 = pJ w.heap.size ∧ ρ 3 = pJ w1.heap.size ∧ ρ 6 = iJ (k85 : Int) ∧ Ext w83 w88) (fun ρ _ => a.writes.length - (intOf (ρ 6)).toNat) ⟨0, Nat.zero_le _, rfl, e50, e51, rfl, Ext.refl _⟩ ?_)))
   rintro ρ w88 ⟨k85, hk86, hi87, e90, e91, e92, x89⟩
   have hz := hl53
   have hlw := len_eq c36
   by_cases hl93 : k85 < a.writes.length
   ·obtain ⟨y94, hx95⟩ := some_of (l := a.writes) (k := k85) (by omega)
    obtain ⟨ad96, cs97, eA98, hK99, hE100⟩ := ha.writes k85 y94 hx95
    have hK99' : cs97 = [.string y94.key, .string y94.val] := hK99
    subst hK99'
    obtain ⟨y102, hx103⟩ := some_of (l := b.writes) (k := k85) (by omega)
    obtain ⟨ad104, cs105, eA106, hK107, hE108⟩ := hb.writes k85 y102 hx103
    have hK107' : cs105 = [.string y102.key, .string y102.val] := hK107
    subst hK107'
    refine c_seq (c_seq (c_quiet (qv (iJ (k85 : Int)) (fun _ x' => x_move rfl e92) ?_)))
    refine qv (.pointer (some (⟨w.heap.size, 7, none⟩))) (fun _ x' => x_fieldAddr fld_37_5 rfl e90 rfl) ?_
    refine qv (.slice pa.B a.writes.length pa.m) (fun _ x' => x_load rfl rfl (((((((((b2.ext x7).ext x42).ext x44).ext x49).ext x82).ext x84).ext x89).ext x').one one_35 rfl)) ?_
    refine qv (iJ (a.writes.length : Int)) (fun _ x' => x_len_slice sl_35 rfl rfl) ?_
    refine qv (.bool true) (fun _ x' => yb (x_lss rfl rfl rfl) (decide_eq_true (by omega))) ?_
    refine q_nil (fun w110 x111 => t_norm (c_true rfl (c_skip (t_norm (c_seq (c_block (c_seq (c_draw mixed (by kernel_rfl) (qv (.pointer (some (⟨w.heap.size, 7, none⟩))) (fun _ x' => x_fieldAddr fld_37_5 rfl e90 rfl) ?_)))))))))
    refine qv (.slice pa.B a.writes.length pa.m) (fun _ x' => x_load rfl rfl ((((((((((b2.ext x7).ext x42).ext x44).ext x49).ext x82).ext x84).ext x89).ext x111).ext x').one one_35 rfl)) ?_
    refine qv (iJ (k85 : Int)) (fun _ x' => x_move rfl e92) ?_
    refine qv (.pointer (some (ad96.add (k85 * 2)))) (fun _ x' => x_indexAddr sl_35 rfl rfl eA98 rfl (by omega) (by omega) rfl) ?_
    refine qv (vWr y94) (fun _ x' => x_load rfl rfl (((((((((((hE100.ext x3).ext x7).ext x42).ext x44).ext x49).ext x82).ext x84).ext x89).ext x111).ext x').agg (vs := [.string y94.key, .string y94.val]) agg_80_2 0 rfl rfl)) ?_
    refine qv (.pointer (some (⟨w1.heap.size, 7, none⟩))) (fun _ x' => x_fieldAddr fld_37_5 rfl e91 rfl) ?_
    refine qv (.slice pb.B b.writes.length pb.m) (fun _ x' => x_load rfl rfl (((((((((b6.ext x42).ext x44).ext x49).ext x82).ext x84).ext x89).ext x111).ext x').one one_35 rfl)) ?_
    refine qv (iJ (k85 : Int)) (fun _ x' => x_move rfl e92) ?_
    refine qv (.pointer (some (ad104.add (k85 * 2)))) (fun _ x' => x_indexAddr sl_35 rfl rfl eA106 rfl (by omega) (by omega) rfl) ?_
    refine qv (vWr y102) (fun _ x' => x_load rfl rfl (((((((((((hE108.ext x3).ext x7).ext x42).ext x44).ext x49).ext x82).ext x84).ext x89).ext x111).ext x').agg (vs := [.string y102.key, .string y102.val]) agg_80_2 0 rfl rfl)) ?_
    refine q_bool (b := !decide (y94 = y102)) rfl rfl (fun _ x' => x_neWr strs2T_80 rfl rfl rfl) (fun c112 => ?_) (fun c112 => ?_)
    ·refine q_nil (fun w113 x114 => t_norm (c_true rfl (c_seq (c_quiet (qv (.bool false) (fun _ x' => x_assign rfl rfl) ?_)))))
     exact q_nil (fun w115 x116 => t_norm (c_ret (b_ret (t_ret (t_ret (b_ret (t_ret (c_done rfl rfl (Ret.b ((decide_eq_false (fun h => eq_fail hx95 hx103 (by simpa using c112) (by rw [h]))).symm) ((((((((((x3.trans x7).trans x42).trans x44).trans x49).trans x82).trans x84).trans x89).trans x111).trans x114).trans x116))))))))))
    refine q_nil (fun w117 x118 => t_norm (c_false rfl (c_skip (b_norm (t_norm (c_quiet (qv (iJ (k85 : Int)) (fun _ x' => x_move rfl e92) ?_)))))))
    refine qv (iJ ((k85 : Int) + 1)) (fun _ x' => x_add rfl rfl rfl (wrap_of (by omega) (by omega))) ?_
    refine qv (iJ ((k85 : Int) + 1)) (fun _ x' => x_assign rfl rfl) ?_
    exact q_nil (fun w119 x120 => t_norm (⟨_, rfl, ⟨k85 + 1, by omega, eq_step hi87 hx95 hx103 (by simpa using c112), e90, e91, rfl, (((x89.trans x111).trans x118).trans x120)⟩, meas_up e92 hl93⟩))
   refine c_seq (c_seq (c_quiet (qv (iJ (k85 : Int)) (fun _ x' => x_move rfl e92) ?_)))
   refine qv (.pointer (some (⟨w.heap.size, 7, none⟩))) (fun _ x' => x_fieldAddr fld_37_5 rfl e90 rfl) ?_
   refine qv (.slice pa.B a.writes.length pa.m) (fun _ x' => x_load rfl rfl (((((((((b2.ext x7).ext x42).ext x44).ext x49).ext x82).ext x84).ext x89).ext x').one one_35 rfl)) ?_
   refine qv (iJ (a.writes.length : Int)) (fun _ x' => x_len_slice sl_35 rfl rfl) ?_
   refine qv (.bool false) (fun _ x' => yb (x_lss rfl rfl rfl) (decide_eq_false (by omega))) ?_
   refine q_nil (fun w121 x122 => t_norm (c_false rfl (c_exit (t_exit (t_exit (b_exit (t_norm (c_seq (c_quiet (qv (.bool true) (fun _ x' => x_assign rfl rfl) ?_))))))))))
   exact q_nil (fun w123 x124 => t_norm (c_ret (c_done rfl rfl (Ret.b (by have hr := eq_end hi47 hlr hz; have hw := eq_end hi87 hlw hl93; obtain ⟨a0, a1, a2, a3, a4, a5, a6⟩ := a; obtain ⟨b0, b1, b2, b3, b4, b5, b6⟩ := b; simp_all) (((((((((x3.trans x7).trans x42).trans x44).trans x49).trans x82).trans x84).trans x89).trans x122).trans x124)))))
  refine qv (.bool true) (fun _ x' => yb (x_bneq (a := true) (b := false) bool_4 rfl rfl rfl) rfl) ?_
  refine qv (.bool true) (fun _ x' => x_pick_f rfl rfl rfl) ?_
  refine qv (.bool true) (fun _ x' => x_move rfl rfl) ?_
  refine qk rfl rfl (qk rfl rfl (qk rfl rfl (qk rfl rfl (qk rfl rfl (qk rfl rfl (qk rfl rfl (qv (.bool true) (fun _ x' => x_pick_t rfl rfl rfl) ?_)))))))
  refine qv (.bool true) (fun _ x' => x_move rfl rfl) ?_
  refine qk rfl rfl (qk rfl rfl (qk rfl rfl (qk rfl rfl (qk rfl rfl (qk rfl rfl (qk rfl rfl (qv (.bool true) (fun _ x' => x_pick_t rfl rfl rfl) ?_)))))))
  refine q_nil (fun w125 x126 => t_norm (c_true rfl (c_seq (c_quiet (qv (.bool false) (fun _ x' => x_assign rfl rfl) ?_)))))
  exact q_nil (fun w127 x128 => t_norm (c_ret (t_ret (c_done rfl rfl (Ret.b ((decide_eq_false (fun h => by subst h; simp_all)).symm) (((x3.trans x7).trans x126).trans x128))))))
 refine qv (.pointer (some (⟨w1.heap.size, 8, none⟩))) (fun _ x' => x_fieldAddr fld_37_6 rfl rfl rfl) ?_
 refine q_bool (b := b.commit) rfl rfl (fun _ x' => x_load rfl rfl ((b6.ext x').one one_4 rfl)) (fun c129 => ?_) (fun c129 => ?_)
 ·refine qv (.bool true) (fun _ x' => yb (x_bneq (a := false) (b := true) bool_4 rfl rfl rfl) rfl) ?_
  refine qv (.bool true) (fun _ x' => x_pick_f rfl rfl rfl) ?_
  refine qv (.bool true) (fun _ x' => x_move rfl rfl) ?_
  refine qk rfl rfl (qk rfl rfl (qk rfl rfl (qk rfl rfl (qk rfl rfl (qk rfl rfl (qk rfl rfl (qv (.bool true) (fun _ x' => x_pick_t rfl rfl rfl) ?_)))))))
  refine qv (.bool true) (fun _ x' => x_move rfl rfl) ?_
  refine qk rfl rfl (qk rfl rfl (qk rfl rfl (qk rfl rfl (qk rfl rfl (qk rfl rfl (qk rfl rfl (qv (.bool true) (fun _ x' => x_pick_t rfl rfl rfl) ?_)))))))
  refine q_nil (fun w130 x131 => t_norm (c_true rfl (c_seq (c_quiet (qv (.bool false) (fun _ x' => x_assign rfl rfl) ?_)))))
  exact q_nil (fun w132 x133 => t_norm (c_ret (t_ret (c_done rfl rfl (Ret.b ((decide_eq_false (fun h => by subst h; simp_all)).symm) (((x3.trans x7).trans x131).trans x133))))))
 refine qv (.bool false) (fun _ x' => yb (x_bneq (a := false) (b := false) bool_4 rfl rfl rfl) rfl) ?_
 refine qv (.bool false) (fun _ x' => x_pick_f rfl rfl rfl) ?_
 refine qv (.bool false) (fun _ x' => x_move rfl rfl) ?_
 refine qv (.pointer (some (⟨w.heap.size, 6, none⟩))) (fun _ x' => x_fieldAddr fld_37_4 rfl rfl rfl) ?_
 refine qv (.slice pa.A a.reads.length pa.n) (fun _ x' => x_load rfl rfl (((b2.ext x7).ext x').one one_34 rfl)) ?_
 refine qv (iJ (a.reads.length : Int)) (fun _ x' => x_len_slice sl_34 rfl rfl) ?_
 refine qv (.pointer (some (⟨w1.heap.size, 6, none⟩))) (fun _ x' => x_fieldAddr fld_37_4 rfl rfl rfl) ?_
 refine qv (.slice pb.A b.reads.length pb.n) (fun _ x' => x_load rfl rfl ((b6.ext x').one one_34 rfl)) ?_
 refine qv (iJ (b.reads.length : Int)) (fun _ x' => x_len_slice sl_34 rfl rfl) ?_
 refine q_bool (b := decide ((a.reads.length : Int) ≠ (b.reads.length : Int))) rfl rfl (fun _ x' => x_neq rfl rfl rfl) (fun c134 => ?_) (fun c134 => ?_)
 ·refine qv (.bool true) (fun _ x' => x_pick_f rfl rfl rfl) ?_
  refine qv (.bool true) (fun _ x' => x_move rfl rfl) ?_
  refine qk rfl rfl (qk rfl rfl (qk rfl rfl (qk rfl rfl (qk rfl rfl (qk rfl rfl (qk rfl rfl (qv (.bool true) (fun _ x' => x_pick_t rfl rfl rfl) ?_)))))))
  refine q_nil (fun w135 x136 => t_norm (c_true rfl (c_seq (c_quiet (qv (.bool false) (fun _ x' => x_assign rfl rfl) ?_)))))
  exact q_nil (fun w137 x138 => t_norm (c_ret (t_ret (c_done rfl rfl (Ret.b ((decide_eq_false (fun h => by subst h; simp_all)).symm) (((x3.trans x7).trans x136).trans x138))))))
 refine qv (.bool false) (fun _ x' => x_pick_f rfl rfl rfl) ?_
 refine qv (.bool false) (fun _ x' => x_move rfl rfl) ?_
 refine qv (.pointer (some (⟨w.heap.size, 7, none⟩))) (fun _ x' => x_fieldAddr fld_37_5 rfl rfl rfl) ?_
 refine qv (.slice pa.B a.writes.length pa.m) (fun _ x' => x_load rfl rfl (((b2.ext x7).ext x').one one_35 rfl)) ?_
 refine qv (iJ (a.writes.length : Int)) (fun _ x' => x_len_slice sl_35 rfl rfl) ?_
 refine qv (.pointer (some (⟨w1.heap.size, 7, none⟩))) (fun _ x' => x_fieldAddr fld_37_5 rfl rfl rfl) ?_
 refine qv (.slice pb.B b.writes.length pb.m) (fun _ x' => x_load rfl rfl ((b6.ext x').one one_35 rfl)) ?_
 refine qv (iJ (b.writes.length : Int)) (fun _ x' => x_len_slice sl_35 rfl rfl) ?_
 refine q_bool (b := decide ((a.writes.length : Int) ≠ (b.writes.length : Int))) rfl rfl (fun _ x' => x_neq rfl rfl rfl) (fun c139 => ?_) (fun c139 => ?_)
 ·refine qv (.bool true) (fun _ x' => x_pick_f rfl rfl rfl) ?_
  refine q_nil (fun w140 x141 => t_norm (c_true rfl (c_seq (c_quiet (qv (.bool false) (fun _ x' => x_assign rfl rfl) ?_)))))
  exact q_nil (fun w142 x143 => t_norm (c_ret (t_ret (c_done rfl rfl (Ret.b ((decide_eq_false (fun h => by subst h; simp_all)).symm) (((x3.trans x7).trans x141).trans x143))))))
 refine qv (.bool false) (fun _ x' => x_pick_f rfl rfl rfl) ?_
 refine q_nil (fun w144 x145 => t_norm (c_false rfl (c_skip (t_norm (c_seq (c_seq (c_quiet (qv (iJ 0) (fun _ x' => x_assign rfl rfl) ?_))))))))
 refine q_nil (fun w146 x147 => t_norm (c_block (c_loop (fun ρ w151 => ∃ k148 : Nat, k148 ≤ a.reads.length ∧ a.reads.take k148 = b.reads.take k148 ∧ ρ 2 = pJ w.heap.size ∧ ρ 3 = pJ w1.heap.size ∧ ρ 5 = iJ (k148 : Int) ∧ Ext w146 w151) (fun ρ _ => a.reads.length - (intOf (ρ 5)).toNat) ⟨0, Nat.zero_le _, rfl, rfl, rfl, rfl, Ext.refl _⟩ ?_)))
 rintro ρ w151 ⟨k148, hk149, hi150, e153, e154, e155, x152⟩
 have hlr := len_eq c134
 by_cases hl156 : k148 < a.reads.length
 ·obtain ⟨y157, hx158⟩ := some_of (l := a.reads) (k := k148) (by omega)
  obtain ⟨ad159, cs160, eA161, hK162, hE163⟩ := ha.reads k148 y157 hx158
  have hK162' : cs160 = [.string y157.key, iJ y157.ver.time, iJ y157.ver.client] := hK162
  subst hK162'
  obtain ⟨y165, hx166⟩ := some_of (l := b.reads) (k := k148) (by omega)
  obtain ⟨ad167, cs168, eA169, hK170, hE171⟩ := hb.reads k148 y165 hx166
  have hK170' : cs168 = [.string y165.key, iJ y165.ver.time, iJ y165.ver.client] := hK170
  subst hK170'
  refine c_seq (c_seq (c_quiet (qv (iJ (k148 : Int)) (fun _ x' => x_move rfl e155) ?_)))
  refine qv (.pointer (some (⟨w.heap.size, 6, none⟩))) (fun _ x' => x_fieldAddr fld_37_4 rfl e153 rfl) ?_
  refine qv (.slice pa.A a.reads.length pa.n) (fun _ x' => x_load rfl rfl ((((((b2.ext x7).ext x145).ext x147).ext x152).ext x').one one_34 rfl)) ?_
  refine qv (iJ (a.reads.length : Int)) (fun _ x' => x_len_slice sl_34 rfl rfl) ?_
  refine qv (.bool true) (fun _ x' => yb (x_lss rfl rfl rfl) (decide_eq_true (by omega))) ?_
  refine q_nil (fun w173 x174 => t_norm (c_true rfl (c_skip (t_norm (c_seq (c_block (c_seq (c_draw mixed (by kernel_rfl) (qv (.pointer (some (⟨w.heap.size, 6, none⟩))) (fun _ x' => x_fieldAddr fld_37_4 rfl e153 rfl) ?_)))))))))
  refine qv (.slice pa.A a.reads.length pa.n) (fun _ x' => x_load rfl rfl (((((((b2.ext x7).ext x145).ext x147).ext x152).ext x174).ext x').one one_34 rfl)) ?_
  refine qv (iJ (k148 : Int)) (fun _ x' => x_move rfl e155) ?_
  refine qv (.pointer (some (ad159.add (k148 * 3)))) (fun _ x' => x_indexAddr sl_34 rfl rfl eA161 rfl (by omega) (by omega) rfl) ?_
  refine qv (vRd y157) (fun _ x' => x_load rfl rfl ((((((((hE163.ext x3).ext x7).ext x145).ext x147).ext x152).ext x174).ext x').agg (vs := [.string y157.key, iJ y157.ver.time, iJ y157.ver.client]) agg_78_3 0 rfl rfl)) ?_
  refine qv (.pointer (some (⟨w1.heap.size, 6, none⟩))) (fun _ x' => x_fieldAddr fld_37_4 rfl e154 rfl) ?_
  refine qv (.slice pb.A b.reads.length pb.n) (fun _ x' => x_load rfl rfl ((((((b6.ext x145).ext x147).ext x152).ext x174).ext x').one one_34 rfl)) ?_
  refine qv (iJ (k148 : Int)) (fun _ x' => x_move rfl e155) ?_
  refine qv (.pointer (some (ad167.add (k148 * 3)))) (fun _ x' => x_indexAddr sl_34 rfl rfl eA169 rfl (by omega) (by omega) rfl) ?_
  refine qv (vRd y165) (fun _ x' => x_load rfl rfl ((((((((hE171.ext x3).ext x7).ext x145).ext x147).ext x152).ext x174).ext x').agg (vs := [.string y165.key, iJ y165.ver.time, iJ y165.ver.client]) agg_78_3 0 rfl rfl)) ?_
  refine q_bool (b := !decide (y157 = y165)) rfl rfl (fun _ x' => x_neRd rdT_78 rfl rfl rfl) (fun c175 => ?_) (fun c175 => ?_)
  ·refine q_nil (fun w176 x177 => t_norm (c_true rfl (c_seq (c_quiet (qv (.bool false) (fun _ x' => x_assign rfl rfl) ?_)))))
   exact q_nil (fun w178 x179 => t_norm (c_ret (b_ret (t_ret (t_ret (b_ret (t_ret (c_done rfl rfl (Ret.b ((decide_eq_false (fun h => eq_fail hx158 hx166 (by simpa using c175) (by rw [h]))).symm) (((((((x3.trans x7).trans x145).trans x147).trans x152).trans x174).trans x177).trans x179))))))))))
  refine q_nil (fun w180 x181 => t_norm (c_false rfl (c_skip (b_norm (t_norm (c_quiet (qv (iJ (k148 : Int)) (fun _ x' => x_move rfl e155) ?_)))))))
  refine qv (iJ ((k148 : Int) + 1)) (fun _ x' => x_add rfl rfl rfl (wrap_of (by omega) (by omega))) ?_
  refine qv (iJ ((k148 : Int) + 1)) (fun _ x' => x_assign rfl rfl) ?_
  exact q_nil (fun w182 x183 => t_norm (⟨_, rfl, ⟨k148 + 1, by omega, eq_step hi150 hx158 hx166 (by simpa using c175), e153, e154, rfl, (((x152.trans x174).trans x181).trans x183)⟩, meas_up e155 hl156⟩))
 refine c_seq (c_seq (c_quiet (qv (iJ (k148 : Int)) (fun _ x' => x_move rfl e155) ?_)))
 refine qv (.pointer (some (⟨w.heap.size, 6, none⟩))) (fun _ x' => x_fieldAddr fld_37_4 rfl e153 rfl) ?_
 refine qv (.slice pa.A a.reads.length pa.n) (fun _ x' => x_load rfl rfl ((((((b2.ext x7).ext x145).ext x147).ext x152).ext x').one one_34 rfl)) ?_
 refine qv (iJ (a.reads.length : Int)) (fun _ x' => x_len_slice sl_34 rfl rfl) ?_
 refine qv (.bool false) (fun _ x' => yb (x_lss rfl rfl rfl) (decide_eq_false (by omega))) ?_
 refine q_nil (fun w184 x185 => t_norm (c_false rfl (c_exit (t_exit (t_exit (b_exit (t_norm (c_seq (c_seq (c_quiet (qv (iJ 0) (fun _ x' => x_assign rfl rfl) ?_)))))))))))
 refine q_nil (fun w186 x187 => t_norm (c_block (c_loop (fun ρ w191 => ∃ k188 : Nat, k188 ≤ a.writes.length ∧ a.writes.take k188 = b.writes.take k188 ∧ ρ 2 = pJ w.heap.size ∧ ρ 3 = pJ w1.heap.size ∧ ρ 6 = iJ (k188 : Int) ∧ Ext w186 w191) (fun ρ _ => a.writes.length - (intOf (ρ 6)).toNat) ⟨0, Nat.zero_le _, rfl, e153, e154, rfl, Ext.refl _⟩ ?_)))
 rintro ρ w191 ⟨k188, hk189, hi190, e193, e194, e195, x192⟩
 have hz := hl156
 have hlw := len_eq c139
 by_cases hl196 : k188 < a.writes.length
 ·obtain ⟨y197, hx198⟩ := some_of (l := a.writes) (k := k188) (by omega)
  obtain ⟨ad199, cs200, eA201, hK202, hE203⟩ := ha.writes k188 y197 hx198
  have hK202' : cs200 = [.string y197.key, .string y197.val] := hK202
  subst hK202'
  obtain ⟨y205, hx206⟩ := some_of (l := b.writes) (k := k188) (by omega)
  obtain ⟨ad207, cs208, eA209, hK210, hE211⟩ := hb.writes k188 y205 hx206
  have hK210' : cs208 = [.string y205.key, .string y205.val] := hK210
  subst hK210'
  refine c_seq (c_seq (c_quiet (qv (iJ (k188 : Int)) (fun _ x' => x_move rfl e195) ?_)))
  refine qv (.pointer (some (⟨w.heap.size, 7, none⟩))) (fun _ x' => x_fieldAddr fld_37_5 rfl e193 rfl) ?_
  refine qv (.slice pa.B a.writes.length pa.m) (fun _ x' => x_load rfl rfl (((((((((b2.ext x7).ext x145).ext x147).ext x152).ext x185).ext x187).ext x192).ext x').one one_35 rfl)) ?_
  refine qv (iJ (a.writes.length : Int)) (fun _ x' => x_len_slice sl_35 rfl rfl) ?_
  refine qv (.bool true) (fun _ x' => yb (x_lss rfl rfl rfl) (decide_eq_true (by omega))) ?_
  refine q_nil (fun w213 x214 => t_norm (c_true rfl (c_skip (t_norm (c_seq (c_block (c_seq (c_draw mixed (by kernel_rfl) (qv (.pointer (some (⟨w.heap.size, 7, none⟩))) (fun _ x' => x_fieldAddr fld_37_5 rfl e193 rfl) ?_)))))))))
  refine qv (.slice pa.B a.writes.length pa.m) (fun _ x' => x_load rfl rfl ((((((((((b2.ext x7).ext x145).ext x147).ext x152).ext x185).ext x187).ext x192).ext x214).ext x').one one_35 rfl)) ?_
  refine qv (iJ (k188 : Int)) (fun _ x' => x_move rfl e195) ?_
  refine qv (.pointer (some (ad199.add (k188 * 2)))) (fun _ x' => x_indexAddr sl_35 rfl rfl eA201 rfl (by omega) (by omega) rfl) ?_
  refine qv (vWr y197) (fun _ x' => x_load rfl rfl (((((((((((hE203.ext x3).ext x7).ext x145).ext x147).ext x152).ext x185).ext x187).ext x192).ext x214).ext x').agg (vs := [.string y197.key, .string y197.val]) agg_80_2 0 rfl rfl)) ?_
  refine qv (.pointer (some (⟨w1.heap.size, 7, none⟩))) (fun _ x' => x_fieldAddr fld_37_5 rfl e194 rfl) ?_
  refine qv (.slice pb.B b.writes.length pb.m) (fun _ x' => x_load rfl rfl (((((((((b6.ext x145).ext x147).ext x152).ext x185).ext x187).ext x192).ext x214).ext x').one one_35 rfl)) ?_
  refine qv (iJ (k188 : Int)) (fun _ x' => x_move rfl e195) ?_
  refine qv (.pointer (some (ad207.add (k188 * 2)))) (fun _ x' => x_indexAddr sl_35 rfl rfl eA209 rfl (by omega) (by omega) rfl) ?_
  refine qv (vWr y205) (fun _ x' => x_load rfl rfl (((((((((((hE211.ext x3).ext x7).ext x145).ext x147).ext x152).ext x185).ext x187).ext x192).ext x214).ext x').agg (vs := [.string y205.key, .string y205.val]) agg_80_2 0 rfl rfl)) ?_
  refine q_bool (b := !decide (y197 = y205)) rfl rfl (fun _ x' => x_neWr strs2T_80 rfl rfl rfl) (fun c215 => ?_) (fun c215 => ?_)
  ·refine q_nil (fun w216 x217 => t_norm (c_true rfl (c_seq (c_quiet (qv (.bool false) (fun _ x' => x_assign rfl rfl) ?_)))))
   exact q_nil (fun w218 x219 => t_norm (c_ret (b_ret (t_ret (t_ret (b_ret (t_ret (c_done rfl rfl (Ret.b ((decide_eq_false (fun h => eq_fail hx198 hx206 (by simpa using c215) (by rw [h]))).symm) ((((((((((x3.trans x7).trans x145).trans x147).trans x152).trans x185).trans x187).trans x192).trans x214).trans x217).trans x219))))))))))
  refine q_nil (fun w220 x221 => t_norm (c_false rfl (c_skip (b_norm (t_norm (c_quiet (qv (iJ (k188 : Int)) (fun _ x' => x_move rfl e195) ?_)))))))
  refine qv (iJ ((k188 : Int) + 1)) (fun _ x' => x_add rfl rfl rfl (wrap_of (by omega) (by omega))) ?_
  refine qv (iJ ((k188 : Int) + 1)) (fun _ x' => x_assign rfl rfl) ?_
  exact q_nil (fun w222 x223 => t_norm (⟨_, rfl, ⟨k188 + 1, by omega, eq_step hi190 hx198 hx206 (by simpa using c215), e193, e194, rfl, (((x192.trans x214).trans x221).trans x223)⟩, meas_up e195 hl196⟩))
 refine c_seq (c_seq (c_quiet (qv (iJ (k188 : Int)) (fun _ x' => x_move rfl e195) ?_)))
 refine qv (.pointer (some (⟨w.heap.size, 7, none⟩))) (fun _ x' => x_fieldAddr fld_37_5 rfl e193 rfl) ?_
 refine qv (.slice pa.B a.writes.length pa.m) (fun _ x' => x_load rfl rfl (((((((((b2.ext x7).ext x145).ext x147).ext x152).ext x185).ext x187).ext x192).ext x').one one_35 rfl)) ?_
 refine qv (iJ (a.writes.length : Int)) (fun _ x' => x_len_slice sl_35 rfl rfl) ?_
 refine qv (.bool false) (fun _ x' => yb (x_lss rfl rfl rfl) (decide_eq_false (by omega))) ?_
 refine q_nil (fun w224 x225 => t_norm (c_false rfl (c_exit (t_exit (t_exit (b_exit (t_norm (c_seq (c_quiet (qv (.bool true) (fun _ x' => x_assign rfl rfl) ?_))))))))))
 exact q_nil (fun w226 x227 => t_norm (c_ret (c_done rfl rfl (Ret.b (by have hr := eq_end hi150 hlr hz; have hw := eq_end hi190 hlw hl196; obtain ⟨a0, a1, a2, a3, a4, a5, a6⟩ := a; obtain ⟨b0, b1, b2, b3, b4, b5, b6⟩ := b; simp_all) (((((((((x3.trans x7).trans x145).trans x147).trans x152).trans x185).trans x187).trans x192).trans x225).trans x227)))))
end Go.Proofs.Ytadeigpphklmfaa
