/- A walk through the code of layers below, or of layer 10. -/
import Derived.Test.YtadeigpphklmfaaDos
import Derived.Test.YtadeigpphklmfaaDrs
import Derived.Test.YtadeigpphklmfaaPan
import Derived.Test.YtadeigpphklmfaaA1
namespace Go.Proofs.Ytadeigpphklmfaa
open Go.RowKit Go.Eng
set_option linter.unusedVariables false
set_option linter.unusedSimpArgs false
theorem D_strLt (w : World) (a b : ByteArray) (ha0 : a.size ≤ 9223372036854775807) (hb0 : b.size ≤ 9223372036854775807) :
    Calls Try.prog 72 #[.string a, .string b] w (Ret w (.bool (strLt a b))) := by
 refine c_enter (n := 30) Try.func72 rfl rfl rfl ?_
 refine c_seq (c_quiet (qv (.bool false) (fun _ x' => x_assign rfl rfl) ?_))
 refine q_nil (fun w1 x2 => t_norm (c_seq (c_seq (c_quiet (qv (iJ 0) (fun _ x' => x_assign rfl rfl) ?_)))))
 refine q_nil (fun w3 x4 => t_norm (c_block (c_loop (fun ρ w5 => ∃ k : Nat, k ≤ b.size ∧ k ≤ a.size ∧ Op.bytesLess (a.toList.drop k) (b.toList.drop k) = strLt a b ∧ ρ 0 = .string a ∧ ρ 1 = .string b ∧ ρ 5 = iJ (k : Int) ∧ Ext w3 w5) (fun ρ _ => b.size - (intOf (ρ 5)).toNat) ⟨0, Nat.zero_le _, Nat.zero_le _, by simp [strLt], rfl, rfl, rfl, Ext.refl _⟩ ?_)))
 rintro ρ w5 ⟨k, hk, hk2, hi, e7, e8, e9, x6⟩
 by_cases hb : k < b.size
 ·obtain ⟨y, hy⟩ := byte_of hb
  by_cases ha : k < a.size
  ·obtain ⟨x, hx⟩ := byte_of ha
   refine c_seq (c_seq (c_quiet (qv (iJ (k : Int)) (fun _ x' => x_move rfl e9) ?_)))
   refine qv (.string b) (fun _ x' => x_move rfl e8) ?_
   refine qv (iJ (b.size : Int)) (fun _ x' => x_len_string str_9 rfl rfl) ?_
   refine qv (.bool true) (fun _ x' => yb (x_lss rfl rfl rfl) (decide_eq_true (by omega))) ?_
   refine q_nil (fun w10 x11 => t_norm (c_true rfl (c_skip (t_norm (c_seq (c_block (c_seq (c_seq (c_quiet (qv (iJ (k : Int)) (fun _ x' => x_move rfl e9) ?_))))))))))
   refine qv (.string a) (fun _ x' => x_move rfl e7) ?_
   refine qv (iJ (a.size : Int)) (fun _ x' => x_len_string str_9 rfl rfl) ?_
   refine qv (.bool false) (fun _ x' => yb (x_eql rfl rfl rfl) (decide_eq_false (by omega))) ?_
   refine q_nil (fun w12 x13 => t_norm (c_false rfl (c_skip (t_norm (c_seq (c_draw mixed (by kernel_rfl) (qv (.string a) (fun _ x' => x_move rfl e7) ?_)))))))
   refine qv (iJ (k : Int)) (fun _ x' => x_move rfl e9) ?_
   refine qv (.int .u8 (x.toNat : Int)) (fun _ x' => x_index_string str_9 rfl rfl rfl (by omega) hx) ?_
   refine qv (.string b) (fun _ x' => x_move rfl e8) ?_
   refine qv (iJ (k : Int)) (fun _ x' => x_move rfl e9) ?_
   refine qv (.int .u8 (y.toNat : Int)) (fun _ x' => x_index_string str_9 rfl rfl rfl (by omega) hy) ?_
   refine q_bool (b := decide ((x.toNat : Int) ≠ (y.toNat : Int))) rfl rfl (fun _ x' => x_neq rfl rfl rfl) (fun c14 => ?_) (fun c14 => ?_)
   ·refine q_nil (fun w15 x16 => t_norm (c_true rfl (c_seq (c_draw mixed (by kernel_rfl) (qv (.string a) (fun _ x' => x_move rfl e7) ?_)))))
    refine qv (iJ (k : Int)) (fun _ x' => x_move rfl e9) ?_
    refine qv (.int .u8 (x.toNat : Int)) (fun _ x' => x_index_string str_9 rfl rfl rfl (by omega) hx) ?_
    refine qv (.string b) (fun _ x' => x_move rfl e8) ?_
    refine qv (iJ (k : Int)) (fun _ x' => x_move rfl e9) ?_
    refine qv (.int .u8 (y.toNat : Int)) (fun _ x' => x_index_string str_9 rfl rfl rfl (by omega) hy) ?_
    refine q_bool (b := decide ((x.toNat : Int) < (y.toNat : Int))) rfl rfl (fun _ x' => x_lss rfl rfl rfl) (fun c17 => ?_) (fun c17 => ?_)
    ·refine qv (.bool true) (fun _ x' => x_assign rfl rfl) ?_
     exact q_nil (fun w18 x19 => t_norm (c_ret (b_ret (t_ret (t_ret (b_ret (t_ret (c_done rfl rfl (Ret.b (by rw [less_ne hi hx hy (u8_ne c14)]; exact (c17).symm) ((((((x2.trans x4).trans x6).trans x11).trans x13).trans x16).trans x19))))))))))
    refine qv (.bool false) (fun _ x' => x_assign rfl rfl) ?_
    exact q_nil (fun w20 x21 => t_norm (c_ret (b_ret (t_ret (t_ret (b_ret (t_ret (c_done rfl rfl (Ret.b (by rw [less_ne hi hx hy (u8_ne c14)]; exact (c17).symm) ((((((x2.trans x4).trans x6).trans x11).trans x13).trans x16).trans x21))))))))))
   refine q_nil (fun w22 x23 => t_norm (c_false rfl (c_skip (b_norm (t_norm (c_quiet (qv (iJ (k : Int)) (fun _ x' => x_move rfl e9) ?_)))))))
   refine qv (iJ ((k : Int) + 1)) (fun _ x' => x_add rfl rfl rfl (wrap_of (by omega) (by omega))) ?_
   refine qv (iJ ((k : Int) + 1)) (fun _ x' => x_assign rfl rfl) ?_
   exact q_nil (fun w24 x25 => t_norm (⟨_, rfl, ⟨k + 1, by omega, by omega, less_step hi hx hy (u8_eq c14), e7, e8, rfl, ((((x6.trans x11).trans x13).trans x23).trans x25)⟩, meas_up e9 hb⟩))
  refine c_seq (c_seq (c_quiet (qv (iJ (k : Int)) (fun _ x' => x_move rfl e9) ?_)))
  refine qv (.string b) (fun _ x' => x_move rfl e8) ?_
  refine qv (iJ (b.size : Int)) (fun _ x' => x_len_string str_9 rfl rfl) ?_
  refine qv (.bool true) (fun _ x' => yb (x_lss rfl rfl rfl) (decide_eq_true (by omega))) ?_
  refine q_nil (fun w26 x27 => t_norm (c_true rfl (c_skip (t_norm (c_seq (c_block (c_seq (c_seq (c_quiet (qv (iJ (k : Int)) (fun _ x' => x_move rfl e9) ?_))))))))))
  refine qv (.string a) (fun _ x' => x_move rfl e7) ?_
  refine qv (iJ (a.size : Int)) (fun _ x' => x_len_string str_9 rfl rfl) ?_
  refine qv (.bool true) (fun _ x' => yb (x_eql rfl rfl rfl) (decide_eq_true (by omega))) ?_
  refine q_nil (fun w28 x29 => t_norm (c_true rfl (c_seq (c_quiet (qv (.bool true) (fun _ x' => x_assign rfl rfl) ?_)))))
  exact q_nil (fun w30 x31 => t_norm (c_ret (t_ret (b_ret (t_ret (t_ret (b_ret (t_ret (c_done rfl rfl (Ret.b ((less_short hi ha hy).symm) (((((x2.trans x4).trans x6).trans x27).trans x29).trans x31)))))))))))
 refine c_seq (c_seq (c_quiet (qv (iJ (k : Int)) (fun _ x' => x_move rfl e9) ?_)))
 refine qv (.string b) (fun _ x' => x_move rfl e8) ?_
 refine qv (iJ (b.size : Int)) (fun _ x' => x_len_string str_9 rfl rfl) ?_
 refine qv (.bool false) (fun _ x' => yb (x_lss rfl rfl rfl) (decide_eq_false (by omega))) ?_
 refine q_nil (fun w32 x33 => t_norm (c_false rfl (c_exit (t_exit (t_exit (b_exit (t_norm (c_seq (c_quiet (qv (.bool false) (fun _ x' => x_assign rfl rfl) ?_))))))))))
 exact q_nil (fun w34 x35 => t_norm (c_ret (c_done rfl rfl (Ret.b ((less_end hi hb).symm) ((((x2.trans x4).trans x6).trans x33).trans x35)))))
theorem C_rightKeys0 (w : World) (A : Option Addr) (c : Nat) (l : List ByteArray) (hR : Lies kStr w A l) (hn : l.length ≤ 9223372036854775807) :
    Calls Try.prog 68 #[.slice A l.length c] w (Ret w (.bool (rightKeys l))) := by
 refine c_enter (n := 32) Try.func68 rfl rfl rfl ?_
 refine c_seq (c_quiet (qv (.bool false) (fun _ x' => x_assign rfl rfl) ?_))
 refine q_nil (fun w1 x2 => t_norm (c_seq (c_seq (c_quiet (qv (.slice A l.length c) (fun _ x' => x_move rfl rfl) ?_)))))
 refine qv (iJ (l.length : Int)) (fun _ x' => x_len_slice sl_104 rfl rfl) ?_
 refine qv (iJ 0) (fun _ x' => x_move rfl rfl) ?_
 refine q_nil (fun w3 x4 => t_norm (c_block (c_loop (fun ρ w8 => ∃ k5 : Nat, k5 ≤ l.length ∧ keysTo l k5 = true ∧ ρ 0 = .slice A l.length c ∧ ρ 5 = .slice A l.length c ∧ ρ 6 = iJ (l.length : Int) ∧ ρ 7 = iJ (k5 : Int) ∧ Ext w3 w8) (fun ρ _ => l.length - (intOf (ρ 7)).toNat) ⟨0, Nat.zero_le _, rfl, rfl, rfl, rfl, rfl, Ext.refl _⟩ ?_)))
 rintro ρ w8 ⟨k5, hk6, hi7, e10, e11, e12, e13, x9⟩
 by_cases hl14 : k5 < l.length
 ·obtain ⟨y15, hx16⟩ := some_of (l := l) (k := k5) (by omega)
  obtain ⟨ad17, cs18, eA19, hK20, hE21⟩ := hR k5 y15 hx16
  have hK20' : cs18 = [.string y15] := hK20
  subst hK20'
  by_cases h023 : k5 = 0
  ·refine c_seq (c_quiet (qv (.bool true) (fun _ x' => yb (x_lss rfl e13 e12) (decide_eq_true (by omega))) ?_))
   refine q_nil (fun w24 x25 => t_norm (c_seq (c_true rfl (c_skip (t_norm (c_seq (c_block (c_seq (c_quiet (qv (iJ (k5 : Int)) (fun _ x' => x_move rfl e13) ?_))))))))))
   refine qv (.pointer (some (ad17.add (k5 * 1)))) (fun _ x' => x_indexAddr sl_104 rfl e11 eA19 e13 (by omega) (by omega) rfl) ?_
   refine qv (.string y15) (fun _ x' => x_load rfl rfl ((((((hE21.ext x2).ext x4).ext x9).ext x25).ext x').one one_9 0 rfl rfl)) ?_
   refine qv (iJ (k5 : Int)) (fun _ x' => x_assign rfl rfl) ?_
   refine qv (.string y15) (fun _ x' => x_assign rfl rfl) ?_
   refine q_nil (fun w26 x27 => t_norm (c_seq (c_quiet (qv (.string y15) (fun _ x' => x_move rfl rfl) ?_))))
   refine q_callb (b := rightKey y15) (vs := #[.string y15]) fn_75 rfl rfl rfl (args1 rfl) (fun _ x' => C_rightKey _ y15) (fun c28 => ?_) (fun c28 => ?_)
   ·refine qv (.bool false) (fun _ x' => x_not (b := true) rfl rfl) ?_
    refine qv (.bool false) (fun _ x' => x_move rfl rfl) ?_
    refine qv (iJ (k5 : Int)) (fun _ x' => x_move rfl rfl) ?_
    refine qv (.bool false) (fun _ x' => yb (x_gtr rfl rfl rfl) (decide_eq_false (by omega))) ?_
    refine qv (.bool false) (fun _ x' => x_move rfl rfl) ?_
    refine qk rfl rfl (qk rfl rfl (qk rfl rfl (qk rfl rfl (qk rfl rfl (qk rfl rfl (qk rfl rfl (qv (.bool false) (fun _ x' => x_pick_f rfl rfl rfl) ?_)))))))
    refine qv (.bool false) (fun _ x' => x_pick_f rfl rfl rfl) ?_
    refine q_nil (fun w29 x30 => t_norm (c_false rfl (c_skip (b_norm (t_norm (c_quiet (qv (iJ ((k5 : Int) + 1)) (fun _ x' => x_add rfl e13 rfl (wrap_of (by omega) (by omega))) ?_)))))))
    refine qv (iJ ((k5 : Int) + 1)) (fun _ x' => x_move rfl rfl) ?_
    exact q_nil (fun w31 x32 => t_norm (⟨_, rfl, ⟨k5 + 1, by omega, range_step hi7 (by simp only [keyOk, getD_of hx16]; simp_all), e10, e11, e12, rfl, ((((x9.trans x25).trans x27).trans x30).trans x32)⟩, meas_up e13 hl14⟩))
   refine qv (.bool true) (fun _ x' => x_not (b := false) rfl rfl) ?_
   refine qv (.bool true) (fun _ x' => x_move rfl rfl) ?_
   refine qk rfl rfl (qk rfl rfl (qk rfl rfl (qk rfl rfl (qk rfl rfl (qk rfl rfl (qk rfl rfl (qk rfl rfl (qk rfl rfl (qk rfl rfl (qk rfl rfl (qv (.bool true) (fun _ x' => x_pick_t rfl rfl rfl) ?_)))))))))))
   refine q_nil (fun w33 x34 => t_norm (c_true rfl (c_seq (c_quiet (qv (.bool false) (fun _ x' => x_assign rfl rfl) ?_)))))
   exact q_nil (fun w35 x36 => t_norm (c_ret (b_ret (t_ret (t_ret (b_ret (t_ret (c_done rfl rfl (Ret.b (by rw [rightKeys, show keysTo l l.length = false from range_fail hl14 (by simp only [keyOk, getD_of hx16]; simp_all)]; rfl) ((((((x2.trans x4).trans x9).trans x25).trans x27).trans x34).trans x36))))))))))
  obtain ⟨y37, hx38⟩ := some_of (l := l) (k := k5 - 1) (by omega)
  obtain ⟨ad39, cs40, eA41, hK42, hE43⟩ := hR (k5 - 1) y37 hx38
  have hK42' : cs40 = [.string y37] := hK42
  subst hK42'
  have h845 := keys_prev hi7 (show k5 - 1 < k5 by omega) hx38
  refine c_seq (c_quiet (qv (.bool true) (fun _ x' => yb (x_lss rfl e13 e12) (decide_eq_true (by omega))) ?_))
  refine q_nil (fun w46 x47 => t_norm (c_seq (c_true rfl (c_skip (t_norm (c_seq (c_block (c_seq (c_quiet (qv (iJ (k5 : Int)) (fun _ x' => x_move rfl e13) ?_))))))))))
  refine qv (.pointer (some (ad17.add (k5 * 1)))) (fun _ x' => x_indexAddr sl_104 rfl e11 eA19 e13 (by omega) (by omega) rfl) ?_
  refine qv (.string y15) (fun _ x' => x_load rfl rfl ((((((hE21.ext x2).ext x4).ext x9).ext x47).ext x').one one_9 0 rfl rfl)) ?_
  refine qv (iJ (k5 : Int)) (fun _ x' => x_assign rfl rfl) ?_
  refine qv (.string y15) (fun _ x' => x_assign rfl rfl) ?_
  refine q_nil (fun w48 x49 => t_norm (c_seq (c_quiet (qv (.string y15) (fun _ x' => x_move rfl rfl) ?_))))
  refine q_callb (b := rightKey y15) (vs := #[.string y15]) fn_75 rfl rfl rfl (args1 rfl) (fun _ x' => C_rightKey _ y15) (fun c50 => ?_) (fun c50 => ?_)
  ·refine qv (.bool false) (fun _ x' => x_not (b := true) rfl rfl) ?_
   refine qv (.bool false) (fun _ x' => x_move rfl rfl) ?_
   refine qv (iJ (k5 : Int)) (fun _ x' => x_move rfl rfl) ?_
   refine qv (.bool true) (fun _ x' => yb (x_gtr rfl rfl rfl) (decide_eq_true (by omega))) ?_
   refine qv (.bool true) (fun _ x' => x_move rfl rfl) ?_
   refine qv (.slice A l.length c) (fun _ x' => x_move rfl e10) ?_
   refine qv (iJ (k5 : Int)) (fun _ x' => x_move rfl rfl) ?_
   refine qv (iJ ((k5 : Int) - 1)) (fun _ x' => x_sub rfl rfl rfl (wrap_of (by omega) (by omega))) ?_
   refine qv (.pointer (some (ad39.add ((k5 - 1) * 1)))) (fun _ x' => x_indexAddr sl_104 rfl rfl eA41 rfl (by omega) (by omega) (by rw [show ((k5 : Int) - 1).toNat = k5 - 1 from by omega])) ?_
   refine qv (.string y37) (fun _ x' => x_load rfl rfl (((((((hE43.ext x2).ext x4).ext x9).ext x47).ext x49).ext x').one one_9 0 rfl rfl)) ?_
   refine qv (.string y15) (fun _ x' => x_move rfl rfl) ?_
   refine q_bool (b := !strLt y37 y15) rfl rfl (fun _ x' => x_sgeq rfl rfl rfl) (fun c51 => ?_) (fun c51 => ?_)
   ·refine qv (.bool true) (fun _ x' => x_pick_t rfl rfl rfl) ?_
    refine qv (.bool true) (fun _ x' => x_pick_f rfl rfl rfl) ?_
    refine q_nil (fun w52 x53 => t_norm (c_true rfl (c_seq (c_quiet (qv (.bool false) (fun _ x' => x_assign rfl rfl) ?_)))))
    exact q_nil (fun w54 x55 => t_norm (c_ret (b_ret (t_ret (t_ret (b_ret (t_ret (c_done rfl rfl (Ret.b (by rw [rightKeys, show keysTo l l.length = false from range_fail hl14 (by simp only [keyOk, getD_of hx16, getD_of hx38]; simp_all)]; rfl) ((((((x2.trans x4).trans x9).trans x47).trans x49).trans x53).trans x55))))))))))
   refine qv (.bool false) (fun _ x' => x_pick_t rfl rfl rfl) ?_
   refine qv (.bool false) (fun _ x' => x_pick_f rfl rfl rfl) ?_
   refine q_nil (fun w56 x57 => t_norm (c_false rfl (c_skip (b_norm (t_norm (c_quiet (qv (iJ ((k5 : Int) + 1)) (fun _ x' => x_add rfl e13 rfl (wrap_of (by omega) (by omega))) ?_)))))))
   refine qv (iJ ((k5 : Int) + 1)) (fun _ x' => x_move rfl rfl) ?_
   exact q_nil (fun w58 x59 => t_norm (⟨_, rfl, ⟨k5 + 1, by omega, range_step hi7 (by simp only [keyOk, getD_of hx16, getD_of hx38]; simp_all), e10, e11, e12, rfl, ((((x9.trans x47).trans x49).trans x57).trans x59)⟩, meas_up e13 hl14⟩))
  refine qv (.bool true) (fun _ x' => x_not (b := false) rfl rfl) ?_
  refine qv (.bool true) (fun _ x' => x_move rfl rfl) ?_
  refine qk rfl rfl (qk rfl rfl (qk rfl rfl (qk rfl rfl (qk rfl rfl (qk rfl rfl (qk rfl rfl (qk rfl rfl (qk rfl rfl (qk rfl rfl (qk rfl rfl (qv (.bool true) (fun _ x' => x_pick_t rfl rfl rfl) ?_)))))))))))
  refine q_nil (fun w60 x61 => t_norm (c_true rfl (c_seq (c_quiet (qv (.bool false) (fun _ x' => x_assign rfl rfl) ?_)))))
  exact q_nil (fun w62 x63 => t_norm (c_ret (b_ret (t_ret (t_ret (b_ret (t_ret (c_done rfl rfl (Ret.b (by rw [rightKeys, show keysTo l l.length = false from range_fail hl14 (by simp only [keyOk, getD_of hx16, getD_of hx38]; simp_all)]; rfl) ((((((x2.trans x4).trans x9).trans x47).trans x49).trans x61).trans x63))))))))))
 refine c_seq (c_quiet (qv (.bool false) (fun _ x' => yb (x_lss rfl e13 e12) (decide_eq_false (by omega))) ?_))
 refine q_nil (fun w64 x65 => t_norm (c_seq (c_false rfl (c_exit (t_exit (t_exit (b_exit (t_norm (c_seq (c_quiet (qv (.slice A l.length c) (fun _ x' => x_move rfl e10) ?_)))))))))))
 refine qv (iJ (l.length : Int)) (fun _ x' => x_len_slice sl_104 rfl rfl) ?_
 refine q_bool (b := decide ((l.length : Int) ≤ 8)) rfl rfl (fun _ x' => x_leq rfl rfl rfl) (fun c66 => ?_) (fun c66 => ?_)
 ·refine qv (.bool true) (fun _ x' => x_assign rfl rfl) ?_
  exact q_nil (fun w67 x68 => t_norm (c_ret (c_done rfl rfl (Ret.b (by have hk : keysTo l l.length = true := (by rw [show l.length = k5 from by omega]; exact hi7); simp_all [rightKeys] <;> omega) ((((x2.trans x4).trans x9).trans x65).trans x68)))))
 refine qv (.bool false) (fun _ x' => x_assign rfl rfl) ?_
 exact q_nil (fun w69 x70 => t_norm (c_ret (c_done rfl rfl (Ret.b (by have hk : keysTo l l.length = true := (by rw [show l.length = k5 from by omega]; exact hi7); simp_all [rightKeys] <;> omega) ((((x2.trans x4).trans x9).trans x65).trans x70)))))
theorem C_rightKeys (w : World) (A : Option Addr) (n c : Nat) (l : List ByteArray) (he : n = l.length) (hR : Lies kStr w A l) (hn : l.length ≤ 9223372036854775807) : Calls Try.prog 68 #[.slice A n c] w (Ret w (.bool (rightKeys l))) := by subst he; exact C_rightKeys0 w A c l hR hn
theorem D_rightKeys0 (w : World) (A : Option Addr) (c : Nat) (l : List ByteArray) (hR : Lies kStr w A l) (hn : l.length ≤ 9223372036854775807) :
    Calls Try.prog 61 #[.slice A l.length c] w (Ret w (.bool (rightKeys l))) := by
 refine c_enter (n := 36) Try.func61 rfl rfl rfl ?_
 refine c_seq (c_quiet (qv (.bool false) (fun _ x' => x_assign rfl rfl) ?_))
 refine q_nil (fun w1 x2 => t_norm (c_seq (c_seq (c_quiet (qv (iJ 0) (fun _ x' => x_assign rfl rfl) ?_)))))
 refine q_nil (fun w3 x4 => t_norm (c_block (c_loop (fun ρ w8 => ∃ k5 : Nat, k5 ≤ l.length ∧ keysTo l k5 = true ∧ ρ 0 = .slice A l.length c ∧ ρ 3 = iJ (k5 : Int) ∧ Ext w3 w8) (fun ρ _ => l.length - (intOf (ρ 3)).toNat) ⟨0, Nat.zero_le _, rfl, rfl, rfl, Ext.refl _⟩ ?_)))
 rintro ρ w8 ⟨k5, hk6, hi7, e10, e11, x9⟩
 by_cases hl12 : k5 < l.length
 ·obtain ⟨y13, hx14⟩ := some_of (l := l) (k := k5) (by omega)
  obtain ⟨ad15, cs16, eA17, hK18, hE19⟩ := hR k5 y13 hx14
  have hK18' : cs16 = [.string y13] := hK18
  subst hK18'
  by_cases h021 : k5 = 0
  ·refine c_seq (c_seq (c_quiet (qv (iJ (k5 : Int)) (fun _ x' => x_move rfl e11) ?_)))
   refine qv (.slice A l.length c) (fun _ x' => x_move rfl e10) ?_
   refine qv (iJ (l.length : Int)) (fun _ x' => x_len_slice sl_104 rfl rfl) ?_
   refine qv (.bool true) (fun _ x' => yb (x_lss rfl rfl rfl) (decide_eq_true (by omega))) ?_
   refine q_nil (fun w22 x23 => t_norm (c_true rfl (c_skip (t_norm (c_seq (c_block (c_seq (c_draw mixed (by kernel_rfl) (qv (.slice A l.length c) (fun _ x' => x_move rfl e10) ?_)))))))))
   refine qv (iJ (k5 : Int)) (fun _ x' => x_move rfl e11) ?_
   refine qv (.pointer (some (ad15.add (k5 * 1)))) (fun _ x' => x_indexAddr sl_104 rfl rfl eA17 rfl (by omega) (by omega) rfl) ?_
   refine qv (.string y13) (fun _ x' => x_load rfl rfl ((((((hE19.ext x2).ext x4).ext x9).ext x23).ext x').one one_9 0 rfl rfl)) ?_
   refine q_callb (b := rightKey y13) (vs := #[.string y13]) fn_71 rfl rfl rfl (args1 rfl) (fun _ x' => D_rightKey _ y13) (fun c24 => ?_) (fun c24 => ?_)
   ·refine qv (.bool false) (fun _ x' => x_not (b := true) rfl rfl) ?_
    refine qv (.bool false) (fun _ x' => x_move rfl rfl) ?_
    refine qv (iJ (k5 : Int)) (fun _ x' => x_move rfl e11) ?_
    refine qv (.bool false) (fun _ x' => yb (x_gtr rfl rfl rfl) (decide_eq_false (by omega))) ?_
    refine qv (.bool false) (fun _ x' => x_move rfl rfl) ?_
    refine qk rfl rfl (qk rfl rfl (qk rfl rfl (qk rfl rfl (qk rfl rfl (qk rfl rfl (qk rfl rfl (qk rfl rfl (qk rfl rfl (qk rfl rfl (qk rfl rfl (qv (.bool false) (fun _ x' => x_pick_f rfl rfl rfl) ?_)))))))))))
    refine qv (.bool false) (fun _ x' => x_pick_f rfl rfl rfl) ?_
    refine q_nil (fun w25 x26 => t_norm (c_false rfl (c_skip (b_norm (t_norm (c_quiet (qv (iJ (k5 : Int)) (fun _ x' => x_move rfl e11) ?_)))))))
    refine qv (iJ ((k5 : Int) + 1)) (fun _ x' => x_add rfl rfl rfl (wrap_of (by omega) (by omega))) ?_
    refine qv (iJ ((k5 : Int) + 1)) (fun _ x' => x_assign rfl rfl) ?_
    exact q_nil (fun w27 x28 => t_norm (⟨_, rfl, ⟨k5 + 1, by omega, range_step hi7 (by simp only [keyOk, getD_of hx14]; simp_all), e10, rfl, (((x9.trans x23).trans x26).trans x28)⟩, meas_up e11 hl12⟩))
   refine qv (.bool true) (fun _ x' => x_not (b := false) rfl rfl) ?_
   refine qv (.bool true) (fun _ x' => x_move rfl rfl) ?_
   refine qk rfl rfl (qk rfl rfl (qk rfl rfl (qk rfl rfl (qk rfl rfl (qk rfl rfl (qk rfl rfl (qk rfl rfl (qk rfl rfl (qk rfl rfl (qk rfl rfl (qk rfl rfl (qk rfl rfl (qk rfl rfl (qk rfl rfl (qv (.bool true) (fun _ x' => x_pick_t rfl rfl rfl) ?_)))))))))))))))
   refine q_nil (fun w29 x30 => t_norm (c_true rfl (c_seq (c_quiet (qv (.bool false) (fun _ x' => x_assign rfl rfl) ?_)))))
   exact q_nil (fun w31 x32 => t_norm (c_ret (b_ret (t_ret (t_ret (b_ret (t_ret (c_done rfl rfl (Ret.b (by rw [rightKeys, show keysTo l l.length = false from range_fail hl12 (by simp only [keyOk, getD_of hx14]; simp_all)]; rfl) (((((x2.trans x4).trans x9).trans x23).trans x30).trans x32))))))))))
  obtain ⟨y33, hx34⟩ := some_of (l := l) (k := k5 - 1) (by omega)
  obtain ⟨ad35, cs36, eA37, hK38, hE39⟩ := hR (k5 - 1) y33 hx34
  have hK38' : cs36 = [.string y33] := hK38
  subst hK38'
  have h841 := keys_prev hi7 (show k5 - 1 < k5 by omega) hx34
  refine c_seq (c_seq (c_quiet (qv (iJ (k5 : Int)) (fun _ x' => x_move rfl e11) ?_)))
  refine qv (.slice A l.length c) (fun _ x' => x_move rfl e10) ?_
  refine qv (iJ (l.length : Int)) (fun _ x' => x_len_slice sl_104 rfl rfl) ?_
  refine qv (.bool true) (fun _ x' => yb (x_lss rfl rfl rfl) (decide_eq_true (by omega))) ?_
  refine q_nil (fun w42 x43 => t_norm (c_true rfl (c_skip (t_norm (c_seq (c_block (c_seq (c_draw mixed (by kernel_rfl) (qv (.slice A l.length c) (fun _ x' => x_move rfl e10) ?_)))))))))
  refine qv (iJ (k5 : Int)) (fun _ x' => x_move rfl e11) ?_
  refine qv (.pointer (some (ad15.add (k5 * 1)))) (fun _ x' => x_indexAddr sl_104 rfl rfl eA17 rfl (by omega) (by omega) rfl) ?_
  refine qv (.string y13) (fun _ x' => x_load rfl rfl ((((((hE19.ext x2).ext x4).ext x9).ext x43).ext x').one one_9 0 rfl rfl)) ?_
  refine q_callb (b := rightKey y13) (vs := #[.string y13]) fn_71 rfl rfl rfl (args1 rfl) (fun _ x' => D_rightKey _ y13) (fun c44 => ?_) (fun c44 => ?_)
  ·refine qv (.bool false) (fun _ x' => x_not (b := true) rfl rfl) ?_
   refine qv (.bool false) (fun _ x' => x_move rfl rfl) ?_
   refine qv (iJ (k5 : Int)) (fun _ x' => x_move rfl e11) ?_
   refine qv (.bool true) (fun _ x' => yb (x_gtr rfl rfl rfl) (decide_eq_true (by omega))) ?_
   refine qv (.bool true) (fun _ x' => x_move rfl rfl) ?_
   refine qv (.slice A l.length c) (fun _ x' => x_move rfl e10) ?_
   refine qv (iJ (k5 : Int)) (fun _ x' => x_move rfl e11) ?_
   refine qv (iJ ((k5 : Int) - 1)) (fun _ x' => x_sub rfl rfl rfl (wrap_of (by omega) (by omega))) ?_
   refine qv (.pointer (some (ad35.add ((k5 - 1) * 1)))) (fun _ x' => x_indexAddr sl_104 rfl rfl eA37 rfl (by omega) (by omega) (by rw [show ((k5 : Int) - 1).toNat = k5 - 1 from by omega])) ?_
   refine qv (.string y33) (fun _ x' => x_load rfl rfl ((((((hE39.ext x2).ext x4).ext x9).ext x43).ext x').one one_9 0 rfl rfl)) ?_
   refine qv (.slice A l.length c) (fun _ x' => x_move rfl e10) ?_
   refine qv (iJ (k5 : Int)) (fun _ x' => x_move rfl e11) ?_
   refine qv (.pointer (some (ad15.add (k5 * 1)))) (fun _ x' => x_indexAddr sl_104 rfl rfl eA17 rfl (by omega) (by omega) rfl) ?_
   refine qv (.string y13) (fun _ x' => x_load rfl rfl ((((((hE19.ext x2).ext x4).ext x9).ext x43).ext x').one one_9 0 rfl rfl)) ?_
   refine q_callb (b := strLt y33 y13) (vs := #[.string y33, .string y13]) fn_72 rfl rfl rfl (args2 rfl rfl) (fun _ x' => D_strLt _ y33 y13 (right_size h841) (right_size c44)) (fun c45 => ?_) (fun c45 => ?_)
   ·refine qv (.bool false) (fun _ x' => x_not (b := true) rfl rfl) ?_
    refine qv (.bool false) (fun _ x' => x_pick_t rfl rfl rfl) ?_
    refine qv (.bool false) (fun _ x' => x_pick_f rfl rfl rfl) ?_
    refine q_nil (fun w46 x47 => t_norm (c_false rfl (c_skip (b_norm (t_norm (c_quiet (qv (iJ (k5 : Int)) (fun _ x' => x_move rfl e11) ?_)))))))
    refine qv (iJ ((k5 : Int) + 1)) (fun _ x' => x_add rfl rfl rfl (wrap_of (by omega) (by omega))) ?_
    refine qv (iJ ((k5 : Int) + 1)) (fun _ x' => x_assign rfl rfl) ?_
    exact q_nil (fun w48 x49 => t_norm (⟨_, rfl, ⟨k5 + 1, by omega, range_step hi7 (by simp only [keyOk, getD_of hx14, getD_of hx34]; simp_all), e10, rfl, (((x9.trans x43).trans x47).trans x49)⟩, meas_up e11 hl12⟩))
   refine qv (.bool true) (fun _ x' => x_not (b := false) rfl rfl) ?_
   refine qv (.bool true) (fun _ x' => x_pick_t rfl rfl rfl) ?_
   refine qv (.bool true) (fun _ x' => x_pick_f rfl rfl rfl) ?_
   refine q_nil (fun w50 x51 => t_norm (c_true rfl (c_seq (c_quiet (qv (.bool false) (fun _ x' => x_assign rfl rfl) ?_)))))
   exact q_nil (fun w52 x53 => t_norm (c_ret (b_ret (t_ret (t_ret (b_ret (t_ret (c_done rfl rfl (Ret.b (by rw [rightKeys, show keysTo l l.length = false from range_fail hl12 (by simp only [keyOk, getD_of hx14, getD_of hx34]; simp_all)]; rfl) (((((x2.trans x4).trans x9).trans x43).trans x51).trans x53))))))))))
  refine qv (.bool true) (fun _ x' => x_not (b := false) rfl rfl) ?_
  refine qv (.bool true) (fun _ x' => x_move rfl rfl) ?_
  refine qk rfl rfl (qk rfl rfl (qk rfl rfl (qk rfl rfl (qk rfl rfl (qk rfl rfl (qk rfl rfl (qk rfl rfl (qk rfl rfl (qk rfl rfl (qk rfl rfl (qk rfl rfl (qk rfl rfl (qk rfl rfl (qk rfl rfl (qv (.bool true) (fun _ x' => x_pick_t rfl rfl rfl) ?_)))))))))))))))
  refine q_nil (fun w54 x55 => t_norm (c_true rfl (c_seq (c_quiet (qv (.bool false) (fun _ x' => x_assign rfl rfl) ?_)))))
  exact q_nil (fun w56 x57 => t_norm (c_ret (b_ret (t_ret (t_ret (b_ret (t_ret (c_done rfl rfl (Ret.b (by rw [rightKeys, show keysTo l l.length = false from range_fail hl12 (by simp only [keyOk, getD_of hx14, getD_of hx34]; simp_all)]; rfl) (((((x2.trans x4).trans x9).trans x43).trans x55).trans x57))))))))))
 refine c_seq (c_seq (c_quiet (qv (iJ (k5 : Int)) (fun _ x' => x_move rfl e11) ?_)))
 refine qv (.slice A l.length c) (fun _ x' => x_move rfl e10) ?_
 refine qv (iJ (l.length : Int)) (fun _ x' => x_len_slice sl_104 rfl rfl) ?_
 refine qv (.bool false) (fun _ x' => yb (x_lss rfl rfl rfl) (decide_eq_false (by omega))) ?_
 refine q_nil (fun w58 x59 => t_norm (c_false rfl (c_exit (t_exit (t_exit (b_exit (t_norm (c_seq (c_quiet (qv (.slice A l.length c) (fun _ x' => x_move rfl e10) ?_))))))))))
 refine qv (iJ (l.length : Int)) (fun _ x' => x_len_slice sl_104 rfl rfl) ?_
 refine q_bool (b := decide ((l.length : Int) ≤ 8)) rfl rfl (fun _ x' => x_leq rfl rfl rfl) (fun c60 => ?_) (fun c60 => ?_)
 ·refine qv (.bool true) (fun _ x' => x_assign rfl rfl) ?_
  exact q_nil (fun w61 x62 => t_norm (c_ret (c_done rfl rfl (Ret.b (by have hk : keysTo l l.length = true := (by rw [show l.length = k5 from by omega]; exact hi7); simp_all [rightKeys] <;> omega) ((((x2.trans x4).trans x9).trans x59).trans x62)))))
 refine qv (.bool false) (fun _ x' => x_assign rfl rfl) ?_
 exact q_nil (fun w63 x64 => t_norm (c_ret (c_done rfl rfl (Ret.b (by have hk : keysTo l l.length = true := (by rw [show l.length = k5 from by omega]; exact hi7); simp_all [rightKeys] <;> omega) ((((x2.trans x4).trans x9).trans x59).trans x64)))))
theorem D_rightKeys (w : World) (A : Option Addr) (n c : Nat) (l : List ByteArray) (he : n = l.length) (hR : Lies kStr w A l) (hn : l.length ≤ 9223372036854775807) : Calls Try.prog 61 #[.slice A n c] w (Ret w (.bool (rightKeys l))) := by subst he; exact D_rightKeys0 w A c l hR hn
end Go.Proofs.Ytadeigpphklmfaa
