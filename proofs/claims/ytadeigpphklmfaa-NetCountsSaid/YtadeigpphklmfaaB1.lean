/- A walk through the code of layers below, or of layer 10. -/
import Derived.Test.YtadeigpphklmfaaDos
import Derived.Test.YtadeigpphklmfaaDrs
import Derived.Test.YtadeigpphklmfaaPan
import Derived.Test.YtadeigpphklmfaaA8
namespace Go.Proofs.Ytadeigpphklmfaa
open Go.RowKit Go.Eng
set_option linter.unusedVariables false
set_option linter.unusedSimpArgs false
theorem C_new (w : World) (room : Int) :
    Calls Try.prog 9 #[.int .i64 room] w (fun e w' => Ext w w' ∧ (((room < 1 ∨ room > 256) ∧ e = .returned (.pointer none)) ∨ ((1 ≤ room ∧ room ≤ 256) ∧ ∃ g : Nat, e = .returned (.pointer (some ⟨g, 0, none⟩)) ∧ w.heap.size ≤ g ∧ NetIn 74 w' g (newP room) none 0 []))) := by
 refine c_enter (n := 12) Try.func9 rfl rfl rfl ?_
 refine c_seq (c_quiet (qv (.pointer none) (fun _ x' => x_assign rfl rfl) ?_))
 refine q_nil (fun w1 x2 => t_norm (c_seq (c_seq (c_quiet (qv (iJ room) (fun _ x' => x_move rfl rfl) ?_)))))
 refine q_bool (b := decide (room < 1)) rfl rfl (fun _ x' => x_lss rfl rfl rfl) (fun c3 => ?_) (fun c3 => ?_)
 ·refine qv (.bool true) (fun _ x' => x_move rfl rfl) ?_
  refine qk rfl rfl (qk rfl rfl (qv (.bool true) (fun _ x' => x_pick_t rfl rfl rfl) ?_))
  refine q_nil (fun w4 x5 => t_norm (c_true rfl (c_seq (c_quiet (qv (.pointer none) (fun _ x' => x_assign rfl rfl) ?_)))))
  exact q_nil (fun w6 x7 => t_norm (c_ret (t_ret (c_done rfl rfl ⟨((x2.trans x5).trans x7), .inl ⟨.inl (of_decide_eq_true c3), rfl⟩⟩))))
 refine qv (.bool false) (fun _ x' => x_move rfl rfl) ?_
 refine qv (iJ room) (fun _ x' => x_move rfl rfl) ?_
 refine q_bool (b := decide (room > 256)) rfl rfl (fun _ x' => x_gtr rfl rfl rfl) (fun c8 => ?_) (fun c8 => ?_)
 ·refine qv (.bool true) (fun _ x' => x_pick_f rfl rfl rfl) ?_
  refine q_nil (fun w9 x10 => t_norm (c_true rfl (c_seq (c_quiet (qv (.pointer none) (fun _ x' => x_assign rfl rfl) ?_)))))
  exact q_nil (fun w11 x12 => t_norm (c_ret (t_ret (c_done rfl rfl ⟨((x2.trans x10).trans x12), .inl ⟨.inr (of_decide_eq_true c8), rfl⟩⟩))))
 refine qv (.bool false) (fun _ x' => x_pick_f rfl rfl rfl) ?_
 refine q_nil (fun w13 x14 => t_norm (c_false rfl (c_skip (t_norm (c_seq (c_plain (pv (iJ room) (x_move rfl rfl) ?_)))))))
 refine pv (.agg #[iJ 0, iJ 0, iJ 0, .slice none 0 0, iJ room]) (x_build (z := [iJ 0, iJ 0, iJ 0, .slice none 0 0, iJ 0]) (r := [iJ 0, iJ 0, iJ 0, .slice none 0 0, iJ room]) zero_74 pl_74 rfl (partsI1 rfl) (fill_cons (vs := [iJ room]) (cs' := [iJ 0, iJ 0, iJ 0, .slice none 0 0, iJ room]) rfl rfl rfl rfl rfl (fill_nil))) ?_
 refine p_box rfl rfl rfl rfl (fun w15 b16 x17 z18 => ?_)
 refine pv (pJ w13.heap.size) (x_assign rfl rfl) ?_
 exact p_nil (t_norm (c_ret (c_done rfl rfl ⟨((x2.trans x14).trans x17), .inr ⟨⟨(by have q := of_decide_eq_false c3; omega), (by have q := of_decide_eq_false c8; omega)⟩, _, rfl, (Nat.le_trans x2.size x14.size), new_in b16 (by have q := of_decide_eq_false c3; omega) (by have q := of_decide_eq_false c8; omega)⟩⟩)))
theorem N_len (w : World) :
    Calls Try.prog 15 #[.pointer none] w (Ret w (.int .i64 0)) := by
 refine c_enter (n := 10) Try.func15 rfl rfl rfl ?_
 refine c_seq (c_quiet (qv (iJ 0) (fun _ x' => x_assign rfl rfl) ?_))
 refine q_nil (fun w1 x2 => t_norm (c_seq (c_seq (c_quiet (qv (.pointer none) (fun _ x' => x_move rfl rfl) ?_)))))
 refine qv (.bool true) (fun _ x' => x_peqN ptr_23 rfl rfl rfl) ?_
 refine q_nil (fun w3 x4 => t_norm (c_true rfl (c_seq (c_quiet (qv (iJ 0) (fun _ x' => x_assign rfl rfl) ?_)))))
 exact q_nil (fun w5 x6 => t_norm (c_ret (t_ret (c_done rfl rfl (Ret.i (rfl) ((x2.trans x4).trans x6))))))
theorem C_len (w : World) (g : Nat) (s : PN) (A : Option Addr) (c : Nat) (zs : List (Msg × Ptr)) (hN : NetIn 74 w g s A c zs) :
    Calls Try.prog 15 #[.pointer (some (⟨g, 0, none⟩))] w (Ret w (.int .i64 (s.l.length : Int))) := by
 refine c_enter (n := 10) Try.func15 rfl rfl rfl ?_
 refine c_seq (c_quiet (qv (iJ 0) (fun _ x' => x_assign rfl rfl) ?_))
 refine q_nil (fun w1 x2 => t_norm (c_seq (c_seq (c_quiet (qv (pJ g) (fun _ x' => x_move rfl rfl) ?_)))))
 refine qv (.bool false) (fun _ x' => x_peqS ptr_23 rfl rfl rfl) ?_
 refine q_nil (fun w3 x4 => t_norm (c_false rfl (c_skip (t_norm (c_seq (c_quiet (qv (pJ g) (fun _ x' => x_move rfl rfl) ?_)))))))
 refine qv (pJ g) (fun _ x' => x_nilCheck rfl rfl) ?_
 refine qv (.pointer (some (⟨g, 3, none⟩))) (fun _ x' => x_fieldAddr fld_74_1 rfl rfl rfl) ?_
 refine qv (.slice A zs.length c) (fun _ x' => x_load rfl rfl ((((hN.box.ext x2).ext x4).ext x').one one_22 rfl)) ?_
 refine qv (iJ (zs.length : Int)) (fun _ x' => x_len_slice sl_22 rfl rfl) ?_
 refine qv (iJ (zs.length : Int)) (fun _ x' => x_assign rfl rfl) ?_
 exact q_nil (fun w5 x6 => t_norm (c_ret (c_done rfl rfl (Ret.i (by rw [hN.len]) ((x2.trans x4).trans x6)))))
theorem N_is (w : World) (k : Int) :
    Calls Try.prog 33 #[.pointer none, .int .i64 k] w (Ret w (.int .i64 1)) := by
 refine c_enter (n := 20) Try.func33 rfl rfl rfl ?_
 refine c_seq (c_quiet (qv (iJ 0) (fun _ x' => x_assign rfl rfl) ?_))
 refine q_nil (fun w1 x2 => t_norm (c_seq (c_block (c_seq (c_quiet (qv (.pointer none) (fun _ x' => x_move rfl rfl) ?_))))))
 refine qv (.bool true) (fun _ x' => x_peqN ptr_23 rfl rfl rfl) ?_
 refine qv (.bool true) (fun _ x' => x_assign rfl rfl) ?_
 refine q_nil (fun w3 x4 => t_norm (c_true rfl (c_seq (c_quiet (qv (iJ 1) (fun _ x' => x_assign rfl rfl) ?_)))))
 exact q_nil (fun w5 x6 => t_norm (c_ret (b_ret (t_ret (c_done rfl rfl (Ret.i (rfl) ((x2.trans x4).trans x6)))))))
theorem C_is (w : World) (g : Nat) (s : PN) (A : Option Addr) (c : Nat) (zs : List (Msg × Ptr)) (hN : NetIn 74 w g s A c zs) (k : Int) :
    Calls Try.prog 33 #[.pointer (some (⟨g, 0, none⟩)), .int .i64 k] w (Ret w (.int .i64 (isP s k))) := by
 refine c_enter (n := 20) Try.func33 rfl rfl rfl ?_
 refine c_seq (c_quiet (qv (iJ 0) (fun _ x' => x_assign rfl rfl) ?_))
 refine q_nil (fun w1 x2 => t_norm (c_seq (c_block (c_seq (c_quiet (qv (pJ g) (fun _ x' => x_move rfl rfl) ?_))))))
 refine qv (.bool false) (fun _ x' => x_peqS ptr_23 rfl rfl rfl) ?_
 refine qv (.bool false) (fun _ x' => x_assign rfl rfl) ?_
 refine q_nil (fun w3 x4 => t_norm (c_false rfl (c_seq (c_quiet (qv (iJ k) (fun _ x' => x_move rfl rfl) ?_)))))
 refine q_bool (b := decide (k < 0)) rfl rfl (fun _ x' => x_lss rfl rfl rfl) (fun c5 => ?_) (fun c5 => ?_)
 ·refine qv (.bool true) (fun _ x' => x_move rfl rfl) ?_
  refine qk rfl rfl (qk rfl rfl (qk rfl rfl (qk rfl rfl (qk rfl rfl (qk rfl rfl (qk rfl rfl (qv (.bool true) (fun _ x' => x_pick_t rfl rfl rfl) ?_)))))))
  refine qv (.bool true) (fun _ x' => x_assign rfl rfl) ?_
  refine q_nil (fun w6 x7 => t_norm (c_true rfl (c_seq (c_quiet (qv (iJ 10) (fun _ x' => x_assign rfl rfl) ?_)))))
  exact q_nil (fun w8 x9 => t_norm (c_ret (b_ret (t_ret (c_done rfl rfl (Ret.i (by unfold isP; rw [← hN.len]; simp at *; (try split) <;> omega) (((x2.trans x4).trans x7).trans x9)))))))
 refine qv (.bool false) (fun _ x' => x_move rfl rfl) ?_
 refine qv (iJ k) (fun _ x' => x_move rfl rfl) ?_
 refine qv (pJ g) (fun _ x' => x_move rfl rfl) ?_
 refine qv (pJ g) (fun _ x' => x_nilCheck rfl rfl) ?_
 refine qv (.pointer (some (⟨g, 3, none⟩))) (fun _ x' => x_fieldAddr fld_74_1 rfl rfl rfl) ?_
 refine qv (.slice A zs.length c) (fun _ x' => x_load rfl rfl ((((hN.box.ext x2).ext x4).ext x').one one_22 rfl)) ?_
 refine qv (iJ (zs.length : Int)) (fun _ x' => x_len_slice sl_22 rfl rfl) ?_
 refine q_bool (b := decide (k ≥ (zs.length : Int))) rfl rfl (fun _ x' => x_geq rfl rfl rfl) (fun c10 => ?_) (fun c10 => ?_)
 ·refine qv (.bool true) (fun _ x' => x_pick_f rfl rfl rfl) ?_
  refine qv (.bool true) (fun _ x' => x_assign rfl rfl) ?_
  refine q_nil (fun w11 x12 => t_norm (c_true rfl (c_seq (c_quiet (qv (iJ 10) (fun _ x' => x_assign rfl rfl) ?_)))))
  exact q_nil (fun w13 x14 => t_norm (c_ret (b_ret (t_ret (c_done rfl rfl (Ret.i (by unfold isP; rw [← hN.len]; simp at *; (try split) <;> omega) (((x2.trans x4).trans x12).trans x14)))))))
 refine qv (.bool false) (fun _ x' => x_pick_f rfl rfl rfl) ?_
 refine qv (.bool false) (fun _ x' => x_assign rfl rfl) ?_
 refine q_nil (fun w15 x16 => t_norm (c_false rfl (c_skip (b_norm (t_norm (c_seq (c_quiet (qv (iJ 0) (fun _ x' => x_assign rfl rfl) ?_))))))))
 exact q_nil (fun w17 x18 => t_norm (c_ret (c_done rfl rfl (Ret.i (by unfold isP; rw [← hN.len]; simp at *; (try split) <;> omega) (((x2.trans x4).trans x16).trans x18)))))
theorem C_tally0 (w : World) (g : Nat) (s : PN) (A : Option Addr) (c : Nat) (zs : List (Msg × Ptr)) (hN : NetIn 74 w g s A c zs) :
    Calls Try.prog 39 #[.pointer (some (⟨g, 0, none⟩))] w (Ret w (.agg #[.int .i64 s.sent, .int .i64 s.came, .int .i64 s.lost])) := by
 refine c_enter (n := 10) Try.func39 rfl rfl rfl ?_
 refine c_seq (c_plain (p_alloc (cs := [iJ 0, iJ 0, iJ 0]) rfl rfl rfl zero_66 rfl (fun w1 b2 x3 z4 => ?_)))
 refine p_nil (t_norm (c_seq (c_seq (c_quiet (qv (pJ g) (fun _ x' => x_move rfl rfl) ?_)))))
 refine qv (.bool false) (fun _ x' => x_peqS ptr_98 rfl rfl rfl) ?_
 refine q_nil (fun w5 x6 => t_norm (c_false rfl (c_skip (t_norm (c_seq (c_plain (pv (pJ g) (x_move rfl rfl) ?_)))))))
 refine pv (pJ g) (x_nilCheck rfl rfl) ?_
 refine pv (pJ g) (x_fieldAddr fld_72_0 rfl rfl rfl) ?_
 refine pv (.agg #[iJ s.sent, iJ s.came, iJ s.lost]) (x_load rfl rfl (((hN.box.ext x3).ext x6).agg (vs := [iJ s.sent, iJ s.came, iJ s.lost]) agg_66_3 rfl)) ?_
 refine p_store (v := .agg #[iJ s.sent, iJ s.came, iJ s.lost]) (vs := [iJ s.sent, iJ s.came, iJ s.lost]) (cs' := [iJ s.sent, iJ s.came, iJ s.lost]) rfl rfl rfl rfl rfl rfl (b2.ext x6) size_66 rfl rfl rfl (fun w7 b8 s9 => ?_)
 exact p_nil (t_norm (c_ret (c_doneC rfl rfl (b8.agg (vs := [iJ s.sent, iJ s.came, iJ s.lost]) agg_66_3 rfl) ⟨rfl, ((x3.trans x6).stored (Nat.le_refl _) s9)⟩)))
theorem N_tally (w : World) :
    Calls Try.prog 22 #[.pointer none] w (Ret w (.agg #[.int .i64 0, .int .i64 0, .int .i64 0])) := by
 refine c_enter (n := 10) Try.func22 rfl rfl rfl ?_
 refine c_seq (c_plain (p_alloc (cs := [iJ 0, iJ 0, iJ 0]) rfl rfl rfl zero_66 rfl (fun w1 b2 x3 z4 => ?_)))
 refine p_nil (t_norm (c_seq (c_seq (c_quiet (qv (.pointer none) (fun _ x' => x_move rfl rfl) ?_)))))
 refine qv (.bool true) (fun _ x' => x_peqN ptr_23 rfl rfl rfl) ?_
 refine q_nil (fun w5 x6 => t_norm (c_true rfl (c_seq (c_plain (pv (.agg #[iJ 0, iJ 0, iJ 0]) (x_build0 zero_66 bld_66 rfl) ?_)))))
 refine p_store (v := .agg #[iJ 0, iJ 0, iJ 0]) (vs := [iJ 0, iJ 0, iJ 0]) (cs' := [iJ 0, iJ 0, iJ 0]) rfl rfl rfl rfl rfl rfl (b2.ext x6) size_66 rfl rfl rfl (fun w7 b8 s9 => ?_)
 exact p_nil (t_norm (c_ret (t_ret (c_doneC rfl rfl (b8.agg (vs := [iJ 0, iJ 0, iJ 0]) agg_66_3 rfl) ⟨rfl, ((x3.trans x6).stored (Nat.le_refl _) s9)⟩))))
theorem C_tally (w : World) (g : Nat) (s : PN) (A : Option Addr) (c : Nat) (zs : List (Msg × Ptr)) (hN : NetIn 74 w g s A c zs) :
    Calls Try.prog 22 #[.pointer (some (⟨g, 0, none⟩))] w (Ret w (.agg #[.int .i64 s.sent, .int .i64 s.came, .int .i64 s.lost])) := by
 refine c_enter (n := 10) Try.func22 rfl rfl rfl ?_
 refine c_seq (c_plain (p_alloc (cs := [iJ 0, iJ 0, iJ 0]) rfl rfl rfl zero_66 rfl (fun w1 b2 x3 z4 => ?_)))
 refine p_nil (t_norm (c_seq (c_seq (c_quiet (qv (pJ g) (fun _ x' => x_move rfl rfl) ?_)))))
 refine qv (.bool false) (fun _ x' => x_peqS ptr_23 rfl rfl rfl) ?_
 refine q_nil (fun w5 x6 => t_norm (c_false rfl (c_skip (t_norm (c_seq (c_plain (pv (pJ g) (x_move rfl rfl) ?_)))))))
 refine pv (pJ g) (x_nilCheck rfl rfl) ?_
 refine pv (pJ g) (x_fieldAddr fld_74_0 rfl rfl rfl) ?_
 refine p_call (vs := #[pJ g]) fn_39 rfl rfl rfl (args1 rfl) ?_
 refine (C_tally0 _ g s A c zs (hN.ext (x3.trans x6))).mono ?_
 rintro e w7 ⟨rfl, x8⟩
 refine ⟨_, rfl, ?_⟩
 refine p_store (v := .agg #[iJ s.sent, iJ s.came, iJ s.lost]) (vs := [iJ s.sent, iJ s.came, iJ s.lost]) (cs' := [iJ s.sent, iJ s.came, iJ s.lost]) rfl rfl rfl rfl rfl rfl ((b2.ext x6).ext x8) size_66 rfl rfl rfl (fun w9 b10 s11 => ?_)
 exact p_nil (t_norm (c_ret (c_doneC rfl rfl (b10.agg (vs := [iJ s.sent, iJ s.came, iJ s.lost]) agg_66_3 rfl) ⟨rfl, (((x3.trans x6).trans x8).stored (Nat.le_refl _) s11)⟩)))
end Go.Proofs.Ytadeigpphklmfaa
