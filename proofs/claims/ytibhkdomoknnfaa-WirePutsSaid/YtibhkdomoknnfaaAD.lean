/- The reference of the bytes. -/
import Derived.Test.YtibhkdomoknnfaaEnc
import Derived.Test.YtibhkdomoknnfaaA9
namespace Go.Proofs.Ytibhkdomoknnfaa
open Go.RowKit Go.Eng
set_option linter.unusedVariables false
set_option linter.unusedSimpArgs false
theorem D_number0 (w : World) (m : Int) (hm0 : 0 ≤ m) (hm1 : m ≤ 9223372036854775807) (ih : ∀ (w : World) (q : Int), 0 ≤ q → q < m → q ≤ 9223372036854775807 → Calls Try.prog 45 #[.int .i64 q] w (fun e w' => ∃ A' c', e = .returned (.slice A' (encInt q).length c') ∧ Byt w' w.heap.size 5 A' c' (encInt q) ∧ Ext w w')) :
    Calls Try.prog 45 #[.int .i64 m] w (fun e w' => ∃ A' c', e = .returned (.slice A' (encInt m).length c') ∧ Byt w' w.heap.size 5 A' c' (encInt m) ∧ Ext w w') := by
 have hq := encInt_len (x := m / 128) (by omega)
 refine c_enter (n := 17) Try.func45 rfl rfl rfl ?_
 refine c_seq ?_
 refine c_quiet ?_
 refine q_val (v := .slice none 0 0) rfl rfl (fun w' x' => x_assign rfl rfl) ?_
 refine q_nil (fun w1 x2 => ?_)
 refine t_norm ?_
 refine c_seq ?_
 refine c_seq ?_
 refine c_quiet ?_
 refine q_val (v := .int .i64 m) rfl rfl (fun w' x' => x_move rfl rfl) ?_
 refine q_bool (b := decide (m < 128)) rfl rfl (fun w' x' => x_lss rfl rfl rfl) (fun c3 => ?_) (fun c3 => ?_)
 ·have c3' := of_decide_eq_true c3
  refine q_nil (fun w4 x5 => ?_)
  refine t_norm ?_
  refine c_true rfl ?_
  refine c_seq ?_
  refine c_plain ?_
  refine p_val (v := .int .i64 m) rfl rfl (x_move rfl rfl) ?_
  refine p_val (v := .int .u8 m) rfl rfl (x_convert cv_5_u8 un_3 rfl rfl (wrap_u8 (by omega) (by omega))) ?_
  refine p_buildSlice (cs := [.int .u8 m]) el_46 rfl rfl rfl (parts1 rfl) (by decide) (by decide) (fill_ok [.int .u8 m] [.int .u8 m] rfl rfl) (fun w6 b7 x8 z9 => ?_)
  refine p_val (v := .slice (some ⟨w4.heap.size, 0, none⟩) 1 1) rfl rfl (x_assign rfl rfl) ?_
  refine p_nil ?_
  refine t_norm ?_
  refine c_ret ?_
  refine t_ret ?_
  have he10 : [UInt8.ofNat m.toNat] = encInt m := (enc_lo hm0 (by omega)).symm
  exact c_done rfl (v := .slice (some ⟨w4.heap.size, 0, none⟩) (List.length (α := UInt8) (encInt m)) 1) (by rw [← he10]; exact rfl) ⟨some ⟨w4.heap.size, 0, none⟩, 1, rfl, by rw [← he10]; exact (Byt.box (bs := [UInt8.ofNat m.toNat]) b7 (by simp only [cB, List.map_cons, List.map_nil, u8_lo hm0 (by omega)]) (x2.trans x5).size (by simp)), ((x2.trans x5).trans x8)⟩
 ·have c3' := of_decide_eq_false c3
  refine q_nil (fun w11 x12 => ?_)
  refine t_norm ?_
  refine c_false rfl ?_
  refine c_skip ?_
  refine t_norm ?_
  refine c_seq ?_
  refine c_plain ?_
  refine p_val (v := .int .i64 m) rfl rfl (x_move rfl rfl) ?_
  refine p_val (v := .int .i64 (m % 128)) rfl rfl (x_rem rfl rfl rfl (by omega) (rem_of (by omega))) ?_
  refine p_val (v := .int .i64 ((m % 128) + 128)) rfl rfl (x_add rfl rfl rfl (wrap_of (by omega) (by omega))) ?_
  refine p_val (v := .int .u8 ((m % 128) + 128)) rfl rfl (x_convert cv_5_u8 un_3 rfl rfl (wrap_u8 (by omega) (by omega))) ?_
  refine p_buildSlice (cs := [.int .u8 ((m % 128) + 128)]) el_46 rfl rfl rfl (parts1 rfl) (by decide) (by decide) (fill_ok [.int .u8 ((m % 128) + 128)] [.int .u8 ((m % 128) + 128)] rfl rfl) (fun w13 b14 x15 z16 => ?_)
  refine p_val (v := .int .i64 m) rfl rfl (x_move rfl rfl) ?_
  refine p_val (v := .int .i64 (m / 128)) rfl rfl (x_quo rfl rfl rfl (by omega) (quo_of (by omega) (by omega) (by omega))) ?_
  refine p_call (vs := #[.int .i64 (m / 128)]) fn_45 rfl rfl rfl (args1 rfl) ?_
  refine (ih _ (m / 128) (by omega) (by omega) (by omega)).mono ?_
  rintro e w17 ⟨A20, c21, rfl, hb18, x19⟩
  refine ⟨_, rfl, ?_⟩
  refine p_appendY (B := w.heap.size) (bs := [UInt8.ofNat (m.toNat % 128 + 128)]) (nb := (encInt (m / 128))) el_46 rfl rfl rfl rfl (Byt.box (bs := [UInt8.ofNat (m.toNat % 128 + 128)]) (b14.ext x19) (by simp only [cB, List.map_cons, List.map_nil, u8_hi hm0]) (x2.trans x12).size (by simp)) rfl (hb18.mono ((x2.trans x12).trans x15).size) (by first | omega | (simp only [List.length_append, List.length_cons, List.length_nil]; omega)) (by first | omega | (simp only [List.length_append, List.length_cons, List.length_nil]; omega)) (((x2.trans x12).trans x15).trans x19).size (fun A25 c26 w22 hb23 kp24 => ?_)
  refine p_val (v := .slice A25 (List.length (α := UInt8) ([UInt8.ofNat (m.toNat % 128 + 128)] ++ (encInt (m / 128)))) c26) rfl rfl (x_assign rfl rfl) ?_
  refine p_nil ?_
  refine t_norm ?_
  refine c_ret ?_
  have he27 : [UInt8.ofNat (m.toNat % 128 + 128)] ++ (encInt (m / 128)) = encInt m := (enc_hi (by omega)).symm
  exact c_done rfl (v := .slice A25 (List.length (α := UInt8) (encInt m)) c26) (by rw [← he27]; exact rfl) ⟨A25, c26, rfl, by rw [← he27]; exact hb23, ((((x2.trans x12).trans x15).trans x19).below (Nat.le_refl _) kp24.below)⟩

theorem D_number (w : World) (m : Int) (hm0 : 0 ≤ m) (hm1 : m ≤ 9223372036854775807) : Calls Try.prog 45 #[.int .i64 m] w (fun e w' => ∃ A' c', e = .returned (.slice A' (encInt m).length c') ∧ Byt w' w.heap.size 5 A' c' (encInt m) ∧ Ext w w') := by
  induction hk : m.toNat using Nat.strongRecOn generalizing w m with
  | ind k ih => exact D_number0 w m hm0 hm1 (fun w q h0 h1 h2 => ih q.toNat (by omega) w q h0 h2 rfl)
set_option maxHeartbeats 1000000 in
theorem D_numbers0 (w : World) (A : Option Addr) (c : Nat) (l : List Int) (hR : Lies kInt w A l) (hp : ∀ x ∈ l, 0 ≤ x ∧ x ≤ 9223372036854775807) (hn : l.length ≤ 1000) :
    Calls Try.prog 43 #[.slice A l.length c] w (fun e w' => ∃ A' c', e = .returned (.slice A' (encInts l).length c') ∧ Byt w' w.heap.size 5 A' c' (encInts l) ∧ Ext w w') := by
 refine c_enter (n := 19) Try.func43 rfl rfl rfl ?_
 refine c_seq ?_
 refine c_quiet ?_
 refine q_val (v := .slice none 0 0) rfl rfl (fun w' x' => x_assign rfl rfl) ?_
 refine q_nil (fun w1 x2 => ?_)
 refine t_norm ?_
 refine c_seq ?_
 refine c_quiet ?_
 refine q_val (v := .slice none 0 0) rfl rfl (fun w' x' => x_assign rfl rfl) ?_
 refine q_nil (fun w3 x4 => ?_)
 refine t_norm ?_
 refine c_seq ?_
 refine c_seq ?_
 refine c_quiet ?_
 refine q_val (v := .int .i64 0) rfl rfl (fun w' x' => x_assign rfl rfl) ?_
 refine q_nil (fun w5 x6 => ?_)
 refine t_norm ?_
 refine c_block ?_
 refine c_loop (fun ρ w12 => ∃ k7 : Nat, ∃ A9 : Option Addr, ∃ c10 : Nat, k7 ≤ l.length ∧ Byt w12 w.heap.size 5 A9 c10 (encInts (l.take k7)) ∧ ρ 0 = .slice A l.length c ∧ ρ 2 = .slice none 0 0 ∧ ρ 3 = .slice A9 ((encInts (l.take k7)).length) c10 ∧ ρ 4 = .int .i64 (k7 : Int) ∧ Kept w.heap.size 5 w5 w12) (fun ρ _ => l.length - (intOf (ρ 4)).toNat) ⟨0, none, 0, Nat.zero_le _, (by rw [show encInts (l.take 0) = ([] : List UInt8) from (by simp [encInts])]; exact (Byt.nil _ _ _)), rfl, rfl, (by rw [show encInts (l.take 0) = ([] : List UInt8) from (by simp [encInts])]; exact rfl), rfl, Kept.refl _ _ _⟩ ?_
 rintro ρ w12 ⟨k7, A9, c10, hk8, hb11, e14, e15, e16, e17, x13⟩
 by_cases hl18 : k7 < l.length
 ·obtain ⟨y19, hx20⟩ := some_of (l := l) (k := k7) (by omega)
  obtain ⟨ad21, cs22, eA23, hK24, hE25⟩ := hR k7 y19 hx20
  have hK24' : cs22 = [.int .i64 y19] := hK24
  subst hK24'
  have hpx := hp y19 (List.mem_of_getElem? hx20)
  have htl := encTake_len l k7 (fun x hx => (hp x hx).2)
  have hql := encInt_len hpx.2
  refine c_seq ?_
  refine c_seq ?_
  refine c_quiet ?_
  refine q_val (v := .int .i64 (k7 : Int)) rfl rfl (fun w' x' => x_move rfl e17) ?_
  refine q_val (v := .slice A l.length c) rfl rfl (fun w' x' => x_move rfl e14) ?_
  refine q_val (v := .int .i64 (l.length : Int)) rfl rfl (fun w' x' => x_len_slice sl_83 rfl rfl) ?_
  refine q_val (v := .bool true) rfl rfl (fun w' x' => yb (x_lss rfl rfl rfl) (decide_eq_true (by omega))) ?_
  refine q_nil (fun w27 x28 => ?_)
  refine t_norm ?_
  refine c_true rfl ?_
  refine c_skip ?_
  refine t_norm ?_
  refine c_seq ?_
  refine c_block ?_
  refine c_plain ?_
  refine p_val (v := .slice A9 ((encInts (l.take k7)).length) c10) rfl rfl (x_move rfl e16) ?_
  refine p_val (v := .slice A l.length c) rfl rfl (x_move rfl e14) ?_
  refine p_val (v := .int .i64 (k7 : Int)) rfl rfl (x_move rfl e17) ?_
  refine p_val (v := .pointer (some (ad21.add (k7 * 1)))) rfl rfl (x_indexAddr sl_83 rfl rfl eA23 rfl (by omega) (by omega) rfl) ?_
  refine p_val (v := .int .i64 y19) rfl rfl (x_load rfl rfl ((hE25.ext ((((x2.trans x4).trans x6).below (Nat.le_refl _) x13.below).trans x28)).one one_3 0 rfl rfl)) ?_
  refine p_call (vs := #[.int .i64 y19]) fn_45 rfl rfl rfl (args1 rfl) ?_
  refine (D_number _ y19 hpx.1 hpx.2).mono ?_
  rintro e w29 ⟨A32, c33, rfl, hb30, x31⟩
  refine ⟨_, rfl, ?_⟩
  refine p_appendY (B := w.heap.size) (bs := (encInts (l.take k7))) (nb := (encInt y19)) el_46 rfl rfl rfl rfl ((hb11.ext x28).ext x31) rfl (hb30.mono ((((x2.trans x4).trans x6).below (Nat.le_refl _) x13.below).trans x28).size) (by first | omega | (simp only [List.length_append, List.length_cons, List.length_nil]; omega)) (by first | omega | (simp only [List.length_append, List.length_cons, List.length_nil]; omega)) (((((x2.trans x4).trans x6).below (Nat.le_refl _) x13.below).trans x28).trans x31).size (fun A37 c38 w34 hb35 kp36 => ?_)
  refine p_val (v := .slice A37 (List.length (α := UInt8) ((encInts (l.take k7)) ++ (encInt y19))) c38) rfl rfl (x_assign rfl rfl) ?_
  refine p_nil ?_
  refine b_norm (t_norm ?_)
  refine c_quiet ?_
  refine q_val (v := .int .i64 (k7 : Int)) rfl rfl (fun w' x' => x_move rfl e17) ?_
  refine q_val (v := .int .i64 ((k7 : Int) + 1)) rfl rfl (fun w' x' => x_add rfl rfl rfl (wrap_of (by omega) (by omega))) ?_
  refine q_val (v := .int .i64 ((k7 : Int) + 1)) rfl rfl (fun w' x' => x_assign rfl rfl) ?_
  refine q_nil (fun w39 x40 => ?_)
  refine t_norm ?_
  exact ⟨_, rfl, ⟨k7 + 1, A37, c38, by omega, (by rw [(show encInts (l.take (k7 + 1)) = (encInts (l.take k7)) ++ (encInt y19) from encInts_take hx20)]; exact (hb35.ext x40)), e14, e15, (by rw [(show encInts (l.take (k7 + 1)) = (encInts (l.take k7)) ++ (encInt y19) from encInts_take hx20)]; exact rfl), rfl, ((((((Kept.refl _ _ _).trans x13).ext x28 (((x2.trans x4).trans x6).below (Nat.le_refl _) x13.below).size).ext x31 ((((x2.trans x4).trans x6).below (Nat.le_refl _) x13.below).trans x28).size).trans kp36).ext x40 ((((((x2.trans x4).trans x6).below (Nat.le_refl _) x13.below).trans x28).trans x31).below (Nat.le_refl _) kp36.below).size)⟩, meas_up e17 hl18⟩
 ·refine c_seq ?_
  refine c_seq ?_
  refine c_quiet ?_
  refine q_val (v := .int .i64 (k7 : Int)) rfl rfl (fun w' x' => x_move rfl e17) ?_
  refine q_val (v := .slice A l.length c) rfl rfl (fun w' x' => x_move rfl e14) ?_
  refine q_val (v := .int .i64 (l.length : Int)) rfl rfl (fun w' x' => x_len_slice sl_83 rfl rfl) ?_
  refine q_val (v := .bool false) rfl rfl (fun w' x' => yb (x_lss rfl rfl rfl) (decide_eq_false (by omega))) ?_
  refine q_nil (fun w41 x42 => ?_)
  refine t_norm ?_
  refine c_false rfl ?_
  refine c_exit ?_
  refine t_exit (t_exit (b_exit (t_norm ?_)))
  refine c_seq ?_
  refine c_quiet ?_
  refine q_val (v := .slice A9 ((encInts (l.take k7)).length) c10) rfl rfl (fun w' x' => x_move rfl e16) ?_
  refine q_val (v := .slice A9 ((encInts (l.take k7)).length) c10) rfl rfl (fun w' x' => x_assign rfl rfl) ?_
  refine q_nil (fun w43 x44 => ?_)
  refine t_norm ?_
  refine c_ret ?_
  have he45 : (encInts (l.take k7)) = encInts l := by rw [List.take_of_length_le (by omega)]
  exact c_done rfl (v := .slice A9 (List.length (α := UInt8) (encInts l)) c10) (by rw [← he45]; exact rfl) ⟨A9, c10, rfl, by rw [← he45]; exact ((hb11.ext x42).ext x44), (((((x2.trans x4).trans x6).below (Nat.le_refl _) x13.below).trans x42).trans x44)⟩

theorem D_numbers (w : World) (A : Option Addr) (m c : Nat) (l : List Int) (hm : l.length = m) (hR : Lies kInt w A l) (hp : ∀ x ∈ l, 0 ≤ x ∧ x ≤ 9223372036854775807) (hn : l.length ≤ 1000) : Calls Try.prog 43 #[.slice A m c] w (fun e w' => ∃ A' c', e = .returned (.slice A' (encInts l).length c') ∧ Byt w' w.heap.size 5 A' c' (encInts l) ∧ Ext w w') := by subst hm; exact D_numbers0 w A c l hR hp hn
theorem D_text (w : World) (z : ByteArray) (hz : z.size ≤ 1000) :
    Calls Try.prog 44 #[.string z] w (fun e w' => ∃ A' c', e = .returned (.slice A' (encStr z).length c') ∧ Byt w' w.heap.size 5 A' c' (encStr z) ∧ Ext w w') := by
 have hq := encInt_len (x := (z.size : Int)) (by omega)
 refine c_enter (n := 9) Try.func44 rfl rfl rfl ?_
 refine c_seq ?_
 refine c_quiet ?_
 refine q_val (v := .slice none 0 0) rfl rfl (fun w' x' => x_assign rfl rfl) ?_
 refine q_nil (fun w1 x2 => ?_)
 refine t_norm ?_
 refine c_seq ?_
 refine c_plain ?_
 refine p_val (v := .string z) rfl rfl (x_move rfl rfl) ?_
 refine p_val (v := .int .i64 (z.size : Int)) rfl rfl (x_len_string str_9 rfl rfl) ?_
 refine p_call (vs := #[.int .i64 (z.size : Int)]) fn_45 rfl rfl rfl (args1 rfl) ?_
 refine (D_number _ (z.size : Int) (by omega) (by omega)).mono ?_
 rintro e w3 ⟨A6, c7, rfl, hb4, x5⟩
 refine ⟨_, rfl, ?_⟩
 refine p_val (v := .string z) rfl rfl (x_move rfl rfl) ?_
 refine p_convB bt_9_46 rfl rfl rfl rfl (fun c8 w9 hb10 x11 z12 => ?_)
 refine p_appendB (B := w.heap.size) (bs := (encInt (z.size : Int))) (nb := z.toList) (m := z.size) (ad := ⟨w3.heap.size, 0, none⟩) el_46 rfl rfl rfl rfl ((hb4.mono x2.size).ext x11) rfl (toList_len _) hb10 (by first | omega | (simp only [List.length_append, List.length_cons, List.length_nil]; omega)) (by first | omega | (simp only [List.length_append, List.length_cons, List.length_nil]; omega)) ((x2.trans x5).trans x11).size (fun A16 c17 w13 hb14 kp15 => ?_)
 refine p_val (v := .slice A16 (List.length (α := UInt8) ((encInt (z.size : Int)) ++ z.toList)) c17) rfl rfl (x_assign rfl rfl) ?_
 refine p_nil ?_
 refine t_norm ?_
 refine c_ret ?_
 have he18 : (encInt (z.size : Int)) ++ z.toList = encStr z := by simp [encStr, encInt]
 exact c_done rfl (v := .slice A16 (List.length (α := UInt8) (encStr z)) c17) (by rw [← he18]; exact rfl) ⟨A16, c17, rfl, by rw [← he18]; exact hb14, (((x2.trans x5).trans x11).below (Nat.le_refl _) kp15.below)⟩

set_option maxHeartbeats 4000000 in
theorem D_Command (w : World) (c : Cmd) (p : Ptr) (hc : CmdAt w c p) (hg : GoodCmd c) :
    Calls Try.prog 18 #[vCmd c p] w (fun e w' => ∃ A' c', e = .returned (.slice A' (encCmd c).length c') ∧ Byt w' w.heap.size 5 A' c' (encCmd c) ∧ Ext w w') := by
 have hn := hg.nums
 have hr8 := hg.rn
 have hw8 := hg.wn
 have hh := head_len hg
 have hcl := encInt_len (x := (c.writes.length : Int)) (by omega)
 have hrl := reads_len hg c.reads.length
 rw [List.take_length] at hrl
 have hwl := writes_len hg c.writes.length
 rw [List.take_length] at hwl
 refine c_enter (n := 102) Try.func18 rfl rfl rfl ?_
 refine c_seq ?_
 refine c_plain ?_
 refine p_box rfl rfl rfl rfl (fun w1 b2 x3 z4 => ?_)
 refine p_val (v := .slice none 0 0) rfl rfl (x_assign rfl rfl) ?_
 refine p_nil ?_
 refine t_norm ?_
 refine c_seq ?_
 refine c_plain ?_
 refine p_buildSlice (cs := [.int .u8 1]) el_46 rfl rfl rfl (parts1 rfl) (by decide) (by decide) (fill_ok [.int .u8 1] [.int .u8 1] rfl rfl) (fun w5 b6 x7 z8 => ?_)
 refine p_val (v := .pointer (some (⟨w.heap.size, 0, none⟩))) rfl rfl (x_fieldAddr fld_33_0 rfl rfl rfl) ?_
 refine p_val (v := .int .i64 c.kind) rfl rfl (x_load rfl rfl ((b2.ext x7).one one_3 rfl)) ?_
 refine p_val (v := .pointer (some (⟨w.heap.size, 1, none⟩))) rfl rfl (x_fieldAddr fld_33_1 rfl rfl rfl) ?_
 refine p_val (v := .pointer (some (⟨w.heap.size, 1, none⟩))) rfl rfl (x_fieldAddr fld_27_0 rfl rfl rfl) ?_
 refine p_val (v := .int .i64 c.txn.client) rfl rfl (x_load rfl rfl ((b2.ext x7).one one_3 rfl)) ?_
 refine p_val (v := .pointer (some (⟨w.heap.size, 1, none⟩))) rfl rfl (x_fieldAddr fld_33_1 rfl rfl rfl) ?_
 refine p_val (v := .pointer (some (⟨w.heap.size, 2, none⟩))) rfl rfl (x_fieldAddr fld_27_1 rfl rfl rfl) ?_
 refine p_val (v := .int .i64 c.txn.number) rfl rfl (x_load rfl rfl ((b2.ext x7).one one_3 rfl)) ?_
 refine p_val (v := .pointer (some (⟨w.heap.size, 3, none⟩))) rfl rfl (x_fieldAddr fld_33_2 rfl rfl rfl) ?_
 refine p_val (v := .pointer (some (⟨w.heap.size, 3, none⟩))) rfl rfl (x_fieldAddr fld_29_0 rfl rfl rfl) ?_
 refine p_val (v := .int .i64 c.stp.time) rfl rfl (x_load rfl rfl ((b2.ext x7).one one_3 rfl)) ?_
 refine p_val (v := .pointer (some (⟨w.heap.size, 3, none⟩))) rfl rfl (x_fieldAddr fld_33_2 rfl rfl rfl) ?_
 refine p_val (v := .pointer (some (⟨w.heap.size, 4, none⟩))) rfl rfl (x_fieldAddr fld_29_1 rfl rfl rfl) ?_
 refine p_val (v := .int .i64 c.stp.client) rfl rfl (x_load rfl rfl ((b2.ext x7).one one_3 rfl)) ?_
 refine p_val (v := .pointer (some (⟨w.heap.size, 5, none⟩))) rfl rfl (x_fieldAddr fld_33_3 rfl rfl rfl) ?_
 refine p_val (v := .int .i64 c.shards) rfl rfl (x_load rfl rfl ((b2.ext x7).one one_3 rfl)) ?_
 refine p_val (v := .pointer (some (⟨w.heap.size, 6, none⟩))) rfl rfl (x_fieldAddr fld_33_4 rfl rfl rfl) ?_
 refine p_val (v := .slice p.A c.reads.length p.n) rfl rfl (x_load rfl rfl ((b2.ext x7).one one_30 rfl)) ?_
 refine p_val (v := .int .i64 (c.reads.length : Int)) rfl rfl (x_len_slice sl_30 rfl rfl) ?_
 refine p_buildSlice (cs := [.int .i64 c.kind, .int .i64 c.txn.client, .int .i64 c.txn.number, .int .i64 c.stp.time, .int .i64 c.stp.client, .int .i64 c.shards, .int .i64 (c.reads.length : Int)]) el_83 rfl rfl rfl (parts7 rfl rfl rfl rfl rfl rfl rfl) (by decide) (by decide) (fill_ok [.int .i64 c.kind, .int .i64 c.txn.client, .int .i64 c.txn.number, .int .i64 c.stp.time, .int .i64 c.stp.client, .int .i64 c.shards, .int .i64 (c.reads.length : Int)] [.int .i64 c.kind, .int .i64 c.txn.client, .int .i64 c.txn.number, .int .i64 c.stp.time, .int .i64 c.stp.client, .int .i64 c.shards, .int .i64 (c.reads.length : Int)] rfl rfl) (fun w9 b10 x11 z12 => ?_)
 refine p_call (vs := #[.slice (some ⟨w5.heap.size, 0, none⟩) 7 7]) fn_43 rfl rfl rfl (args1 rfl) ?_
 refine (D_numbers _ (some ⟨w5.heap.size, 0, none⟩) 7 7 [c.kind, c.txn.client, c.txn.number, c.stp.time, c.stp.client, c.shards, (c.reads.length : Int)] rfl (lies_in (off := 0) (l := [c.kind, c.txn.client, c.txn.number, c.stp.time, c.stp.client, c.shards, (c.reads.length : Int)]) b10 (ints_at rfl)) (by intro x hx; simp only [List.mem_cons, List.not_mem_nil, or_false] at hx; omega) (by simp)).mono ?_
 rintro e w13 ⟨A16, c17, rfl, hb14, x15⟩
 refine ⟨_, rfl, ?_⟩
 refine p_appendY (B := w.heap.size) (bs := ([1] : List UInt8)) (nb := (encInts ([c.kind, c.txn.client, c.txn.number, c.stp.time, c.stp.client, c.shards, (c.reads.length : Int)]))) el_46 rfl rfl rfl rfl (Byt.box (bs := ([1] : List UInt8)) ((b6.ext x11).ext x15) rfl x3.size (by simp)) rfl (hb14.mono ((x3.trans x7).trans x11).size) (by first | omega | (simp only [List.length_append, List.length_cons, List.length_nil]; omega)) (by first | omega | (simp only [List.length_append, List.length_cons, List.length_nil]; omega)) (((x3.trans x7).trans x11).trans x15).size (fun A21 c22 w18 hb19 kp20 => ?_)
 refine p_val (v := .slice A21 (List.length (α := UInt8) (([1] : List UInt8) ++ (encInts ([c.kind, c.txn.client, c.txn.number, c.stp.time, c.stp.client, c.shards, (c.reads.length : Int)])))) c22) rfl rfl (x_assign rfl rfl) ?_
 refine p_nil ?_
 refine t_norm ?_
 refine c_seq ?_
 refine c_seq ?_
 refine c_quiet ?_
 refine q_val (v := .int .i64 0) rfl rfl (fun w' x' => x_assign rfl rfl) ?_
 refine q_nil (fun w23 x24 => ?_)
 refine t_norm ?_
 refine c_block ?_
 refine c_loop (fun ρ w30 => ∃ k25 : Nat, ∃ A27 : Option Addr, ∃ c28 : Nat, k25 ≤ c.reads.length ∧ Byt w30 w.heap.size 5 A27 c28 (([1] : List UInt8) ++ encInts [c.kind, c.txn.client, c.txn.number, c.stp.time, c.stp.client, c.shards, (c.reads.length : Int)] ++ (c.reads.take k25).flatMap encRd) ∧ ρ 1 = .pointer (some (⟨w.heap.size, 0, none⟩)) ∧ ρ 2 = .slice none 0 0 ∧ ρ 3 = .slice A27 (List.length (α := UInt8) (([1] : List UInt8) ++ encInts [c.kind, c.txn.client, c.txn.number, c.stp.time, c.stp.client, c.shards, (c.reads.length : Int)] ++ (c.reads.take k25).flatMap encRd)) c28 ∧ ρ 4 = .int .i64 (k25 : Int) ∧ Kept w.heap.size 5 w23 w30) (fun ρ _ => c.reads.length - (intOf (ρ 4)).toNat) ⟨0, A21, c22, Nat.zero_le _, (by rw [show ([1] : List UInt8) ++ encInts [c.kind, c.txn.client, c.txn.number, c.stp.time, c.stp.client, c.shards, (c.reads.length : Int)] ++ (c.reads.take 0).flatMap encRd = ([1] : List UInt8) ++ (encInts ([c.kind, c.txn.client, c.txn.number, c.stp.time, c.stp.client, c.shards, (c.reads.length : Int)])) from (by simp)]; exact (hb19.ext x24)), rfl, rfl, (by rw [show ([1] : List UInt8) ++ encInts [c.kind, c.txn.client, c.txn.number, c.stp.time, c.stp.client, c.shards, (c.reads.length : Int)] ++ (c.reads.take 0).flatMap encRd = ([1] : List UInt8) ++ (encInts ([c.kind, c.txn.client, c.txn.number, c.stp.time, c.stp.client, c.shards, (c.reads.length : Int)])) from (by simp)]; exact rfl), rfl, Kept.refl _ _ _⟩ ?_
 rintro ρ w30 ⟨k25, A27, c28, hk26, hb29, e32, e33, e34, e35, x31⟩
 by_cases hl36 : k25 < c.reads.length
 ·obtain ⟨y37, hx38⟩ := some_of (l := c.reads) (k := k25) (by omega)
  obtain ⟨ad39, cs40, eA41, hK42, hE43⟩ := hc.reads k25 y37 hx38
  have hK42' : cs40 = [.string y37.key, .int .i64 y37.ver.time, .int .i64 y37.ver.client] := hK42
  subst hK42'
  have q45 := hg.reads y37 (List.mem_of_getElem? hx38)
  have q45l := reads_len hg k25
  have q45s := encStr_len q45.1
  have q45t := encInts_len [y37.ver.time, y37.ver.client] (by intro x hx; simp only [List.mem_cons, List.not_mem_nil, or_false] at hx; omega)
  simp only [List.length_cons, List.length_nil] at q45t
  refine c_seq ?_
  refine c_seq ?_
  refine c_quiet ?_
  refine q_val (v := .int .i64 (k25 : Int)) rfl rfl (fun w' x' => x_move rfl e35) ?_
  refine q_val (v := .pointer (some (⟨w.heap.size, 6, none⟩))) rfl rfl (fun w' x' => x_fieldAddr fld_33_4 rfl e32 rfl) ?_
  refine q_val (v := .slice p.A c.reads.length p.n) rfl rfl (fun w' x' => x_load rfl rfl ((((((((b2.ext x7).ext x11).ext x15).kept kp20 (by decide)).ext x24).kept x31 (by decide)).ext x').one one_30 rfl)) ?_
  refine q_val (v := .int .i64 (c.reads.length : Int)) rfl rfl (fun w' x' => x_len_slice sl_30 rfl rfl) ?_
  refine q_val (v := .bool true) rfl rfl (fun w' x' => yb (x_lss rfl rfl rfl) (decide_eq_true (by omega))) ?_
  refine q_nil (fun w46 x47 => ?_)
  refine t_norm ?_
  refine c_true rfl ?_
  refine c_skip ?_
  refine t_norm ?_
  refine c_seq ?_
  refine c_block ?_
  refine c_seq ?_
  refine c_plain ?_
  refine p_val (v := .slice A27 (List.length (α := UInt8) (([1] : List UInt8) ++ encInts [c.kind, c.txn.client, c.txn.number, c.stp.time, c.stp.client, c.shards, (c.reads.length : Int)] ++ (c.reads.take k25).flatMap encRd)) c28) rfl rfl (x_move rfl e34) ?_
  refine p_val (v := .pointer (some (⟨w.heap.size, 6, none⟩))) rfl rfl (x_fieldAddr fld_33_4 rfl e32 rfl) ?_
  refine p_val (v := .slice p.A c.reads.length p.n) rfl rfl (x_load rfl rfl ((((((((b2.ext x7).ext x11).ext x15).kept kp20 (by decide)).ext x24).kept x31 (by decide)).ext x47).one one_30 rfl)) ?_
  refine p_val (v := .int .i64 (k25 : Int)) rfl rfl (x_move rfl e35) ?_
  refine p_val (v := .pointer (some (ad39.add (k25 * 3)))) rfl rfl (x_indexAddr sl_30 rfl rfl eA41 rfl (by omega) (by omega) rfl) ?_
  refine p_val (v := .pointer (some (ad39.add (k25 * 3)))) rfl rfl (x_fieldAddr fld_64_0 rfl rfl rfl) ?_
  refine p_val (v := .string y37.key) rfl rfl (x_load rfl rfl ((hE43.ext (((((((x3.trans x7).trans x11).trans x15).below (Nat.le_refl _) kp20.below).trans x24).below (Nat.le_refl _) x31.below).trans x47)).one one_9 0 rfl rfl)) ?_
  refine p_call (vs := #[.string y37.key]) fn_44 rfl rfl rfl (args1 rfl) ?_
  refine (D_text _ y37.key (by omega)).mono ?_
  rintro e w48 ⟨A51, c52, rfl, hb49, x50⟩
  refine ⟨_, rfl, ?_⟩
  refine p_appendY (B := w.heap.size) (bs := (([1] : List UInt8) ++ encInts [c.kind, c.txn.client, c.txn.number, c.stp.time, c.stp.client, c.shards, (c.reads.length : Int)] ++ (c.reads.take k25).flatMap encRd)) (nb := (encStr y37.key)) el_46 rfl rfl rfl rfl ((hb29.ext x47).ext x50) rfl (hb49.mono (((((((x3.trans x7).trans x11).trans x15).below (Nat.le_refl _) kp20.below).trans x24).below (Nat.le_refl _) x31.below).trans x47).size) (by first | omega | (simp only [List.length_append, List.length_cons, List.length_nil]; omega)) (by first | omega | (simp only [List.length_append, List.length_cons, List.length_nil]; omega)) ((((((((x3.trans x7).trans x11).trans x15).below (Nat.le_refl _) kp20.below).trans x24).below (Nat.le_refl _) x31.below).trans x47).trans x50).size (fun A56 c57 w53 hb54 kp55 => ?_)
  refine p_val (v := .slice A56 (List.length (α := UInt8) ((([1] : List UInt8) ++ encInts [c.kind, c.txn.client, c.txn.number, c.stp.time, c.stp.client, c.shards, (c.reads.length : Int)] ++ (c.reads.take k25).flatMap encRd) ++ (encStr y37.key))) c57) rfl rfl (x_assign rfl rfl) ?_
  refine p_nil ?_
  refine t_norm ?_
  refine c_drawn mixed (by kernel_rfl) (fun _ _ _ _ _ h => h) (fun v1 v2 => Kept w.heap.size 5 v1 v2) 19 rfl (fun w58 x59 z60 => ?_)
  refine d_take (v := .slice A56 (List.length (α := UInt8) ((([1] : List UInt8) ++ encInts [c.kind, c.txn.client, c.txn.number, c.stp.time, c.stp.client, c.shards, (c.reads.length : Int)] ++ (c.reads.take k25).flatMap encRd) ++ (encStr y37.key))) c57) (i := 0) (d := 45) (L' := [true, false, false, false, false, false, false, false, false, false, false, false, false, false, false, false, false, false, false]) rfl (by kernel_rfl) rfl (Kept.refl _ _ _) (fun w' s' => x_move rfl rfl) ?_
  refine d_take (v := .pointer (some (⟨w.heap.size, 6, none⟩))) (i := 1) (d := 46) (L' := [true, true, false, false, false, false, false, false, false, false, false, false, false, false, false, false, false, false, false]) rfl (by kernel_rfl) rfl (Kept.refl _ _ _) (fun w' s' => x_fieldAddr fld_33_4 rfl e32 rfl) ?_
  refine d_take (v := .slice p.A c.reads.length p.n) (i := 2) (d := 47) (L' := [true, true, true, false, false, false, false, false, false, false, false, false, false, false, false, false, false, false, false]) rfl (by kernel_rfl) rfl (Kept.refl _ _ _) (fun w' s' => x_load rfl rfl ((((((((((((b2.ext x7).ext x11).ext x15).kept kp20 (by decide)).ext x24).kept x31 (by decide)).ext x47).ext x50).kept kp55 (by decide)).ext x59).kept s' (by decide)).one one_30 rfl)) ?_
  refine d_take (v := .int .i64 (k25 : Int)) (i := 3) (d := 48) (L' := [true, true, true, true, false, false, false, false, false, false, false, false, false, false, false, false, false, false, false]) rfl (by kernel_rfl) rfl (Kept.refl _ _ _) (fun w' s' => x_move rfl e35) ?_
  refine d_take (v := .pointer (some (ad39.add (k25 * 3)))) (i := 4) (d := 49) (L' := [true, true, true, true, true, false, false, false, false, false, false, false, false, false, false, false, false, false, false]) rfl (by kernel_rfl) rfl (Kept.refl _ _ _) (fun w' s' => x_indexAddr sl_30 rfl rfl eA41 rfl (by omega) (by omega) rfl) ?_
  refine d_take (v := .pointer (some ((ad39.add (k25 * 3)).add 1))) (i := 5) (d := 50) (L' := [true, true, true, true, true, true, false, false, false, false, false, false, false, false, false, false, false, false, false]) rfl (by kernel_rfl) rfl (Kept.refl _ _ _) (fun w' s' => x_fieldAddr fld_64_1 rfl rfl rfl) ?_
  refine d_take (v := .pointer (some ((ad39.add (k25 * 3)).add 1))) (i := 6) (d := 51) (L' := [true, true, true, true, true, true, true, false, false, false, false, false, false, false, false, false, false, false, false]) rfl (by kernel_rfl) rfl (Kept.refl _ _ _) (fun w' s' => x_fieldAddr fld_29_0 rfl rfl rfl) ?_
  refine d_take (v := .int .i64 y37.ver.time) (i := 7) (d := 52) (L' := [true, true, true, true, true, true, true, true, false, false, false, false, false, false, false, false, false, false, false]) rfl (by kernel_rfl) rfl (Kept.refl _ _ _) (fun w' s' => x_load rfl rfl ((hE43.ext (((((((((((x3.trans x7).trans x11).trans x15).below (Nat.le_refl _) kp20.below).trans x24).below (Nat.le_refl _) x31.below).trans x47).trans x50).below (Nat.le_refl _) kp55.below).trans x59).below (Nat.le_refl _) s'.below)).one one_3 1 rfl rfl)) ?_
  refine d_take (v := .pointer (some (⟨w.heap.size, 6, none⟩))) (i := 8) (d := 53) (L' := [true, true, true, true, true, true, true, true, true, false, false, false, false, false, false, false, false, false, false]) rfl (by kernel_rfl) rfl (Kept.refl _ _ _) (fun w' s' => x_fieldAddr fld_33_4 rfl e32 rfl) ?_
  refine d_take (v := .slice p.A c.reads.length p.n) (i := 9) (d := 54) (L' := [true, true, true, true, true, true, true, true, true, true, false, false, false, false, false, false, false, false, false]) rfl (by kernel_rfl) rfl (Kept.refl _ _ _) (fun w' s' => x_load rfl rfl ((((((((((((b2.ext x7).ext x11).ext x15).kept kp20 (by decide)).ext x24).kept x31 (by decide)).ext x47).ext x50).kept kp55 (by decide)).ext x59).kept s' (by decide)).one one_30 rfl)) ?_
  refine d_take (v := .int .i64 (k25 : Int)) (i := 10) (d := 55) (L' := [true, true, true, true, true, true, true, true, true, true, true, false, false, false, false, false, false, false, false]) rfl (by kernel_rfl) rfl (Kept.refl _ _ _) (fun w' s' => x_move rfl e35) ?_
  refine d_take (v := .pointer (some (ad39.add (k25 * 3)))) (i := 11) (d := 56) (L' := [true, true, true, true, true, true, true, true, true, true, true, true, false, false, false, false, false, false, false]) rfl (by kernel_rfl) rfl (Kept.refl _ _ _) (fun w' s' => x_indexAddr sl_30 rfl rfl eA41 rfl (by omega) (by omega) rfl) ?_
  refine d_take (v := .pointer (some ((ad39.add (k25 * 3)).add 1))) (i := 12) (d := 57) (L' := [true, true, true, true, true, true, true, true, true, true, true, true, true, false, false, false, false, false, false]) rfl (by kernel_rfl) rfl (Kept.refl _ _ _) (fun w' s' => x_fieldAddr fld_64_1 rfl rfl rfl) ?_
  refine d_take (v := .pointer (some (((ad39.add (k25 * 3)).add 1).add 1))) (i := 13) (d := 58) (L' := [true, true, true, true, true, true, true, true, true, true, true, true, true, true, false, false, false, false, false]) rfl (by kernel_rfl) rfl (Kept.refl _ _ _) (fun w' s' => x_fieldAddr fld_29_1 rfl rfl rfl) ?_
  refine d_take (v := .int .i64 y37.ver.client) (i := 14) (d := 59) (L' := [true, true, true, true, true, true, true, true, true, true, true, true, true, true, true, false, false, false, false]) rfl (by kernel_rfl) rfl (Kept.refl _ _ _) (fun w' s' => x_load rfl rfl ((hE43.ext (((((((((((x3.trans x7).trans x11).trans x15).below (Nat.le_refl _) kp20.below).trans x24).below (Nat.le_refl _) x31.below).trans x47).trans x50).below (Nat.le_refl _) kp55.below).trans x59).below (Nat.le_refl _) s'.below)).one one_3 2 rfl rfl)) ?_
  refine d_act1 (i := 15) (L' := [true, true, true, true, true, true, true, true, true, true, true, true, true, true, true, true, false, false, false]) (by kernel_rfl) rfl rfl ?_
  refine p_buildSlice (cs := [.int .i64 y37.ver.time, .int .i64 y37.ver.client]) el_83 rfl rfl rfl (parts2 rfl rfl) (by decide) (by decide) (fill_ok [.int .i64 y37.ver.time, .int .i64 y37.ver.client] [.int .i64 y37.ver.time, .int .i64 y37.ver.client] rfl rfl) (fun w61 b62 x63 z64 => ?_)
  refine d_next ((Kept.refl _ _ _).ext x63 ((((((((((x3.trans x7).trans x11).trans x15).below (Nat.le_refl _) kp20.below).trans x24).below (Nat.le_refl _) x31.below).trans x47).trans x50).below (Nat.le_refl _) kp55.below).trans x59).size) ?_
  refine d_act1 (i := 16) (L' := [true, true, true, true, true, true, true, true, true, true, true, true, true, true, true, true, true, false, false]) (by kernel_rfl) rfl rfl ?_
  refine p_call (vs := #[.slice (some ⟨w58.heap.size, 0, none⟩) 2 2]) fn_43 rfl rfl rfl (args1 rfl) ?_
  refine (D_numbers _ (some ⟨w58.heap.size, 0, none⟩) 2 2 [y37.ver.time, y37.ver.client] rfl (lies_in (off := 0) (l := [y37.ver.time, y37.ver.client]) b62 (ints_at rfl)) (by intro x hx; simp only [List.mem_cons, List.not_mem_nil, or_false] at hx; omega) (by simp)).mono ?_
  rintro e w65 ⟨A68, c69, rfl, hb66, x67⟩
  refine ⟨_, rfl, ?_⟩
  refine d_next (((Kept.refl _ _ _).ext x63 ((((((((((x3.trans x7).trans x11).trans x15).below (Nat.le_refl _) kp20.below).trans x24).below (Nat.le_refl _) x31.below).trans x47).trans x50).below (Nat.le_refl _) kp55.below).trans x59).size).ext x67 (((((((((((x3.trans x7).trans x11).trans x15).below (Nat.le_refl _) kp20.below).trans x24).below (Nat.le_refl _) x31.below).trans x47).trans x50).below (Nat.le_refl _) kp55.below).trans x59).trans x63).size) ?_
  refine d_act1 (i := 17) (L' := [true, true, true, true, true, true, true, true, true, true, true, true, true, true, true, true, true, true, false]) (by kernel_rfl) rfl rfl ?_
  refine p_appendY (B := w.heap.size) (bs := (([1] : List UInt8) ++ encInts [c.kind, c.txn.client, c.txn.number, c.stp.time, c.stp.client, c.shards, (c.reads.length : Int)] ++ (c.reads.take k25).flatMap encRd) ++ (encStr y37.key)) (nb := (encInts ([y37.ver.time, y37.ver.client]))) el_46 rfl rfl rfl rfl (((hb54.ext x59).ext x63).ext x67) rfl (hb66.mono (((((((((((x3.trans x7).trans x11).trans x15).below (Nat.le_refl _) kp20.below).trans x24).below (Nat.le_refl _) x31.below).trans x47).trans x50).below (Nat.le_refl _) kp55.below).trans x59).trans x63).size) (by first | omega | (simp only [List.length_append, List.length_cons, List.length_nil]; omega)) (by first | omega | (simp only [List.length_append, List.length_cons, List.length_nil]; omega)) ((((((((((((x3.trans x7).trans x11).trans x15).below (Nat.le_refl _) kp20.below).trans x24).below (Nat.le_refl _) x31.below).trans x47).trans x50).below (Nat.le_refl _) kp55.below).trans x59).trans x63).trans x67).size (fun A73 c74 w70 hb71 kp72 => ?_)
  refine d_next ((((Kept.refl _ _ _).ext x63 ((((((((((x3.trans x7).trans x11).trans x15).below (Nat.le_refl _) kp20.below).trans x24).below (Nat.le_refl _) x31.below).trans x47).trans x50).below (Nat.le_refl _) kp55.below).trans x59).size).ext x67 (((((((((((x3.trans x7).trans x11).trans x15).below (Nat.le_refl _) kp20.below).trans x24).below (Nat.le_refl _) x31.below).trans x47).trans x50).below (Nat.le_refl _) kp55.below).trans x59).trans x63).size).trans kp72) ?_
  refine d_take (v := .slice A73 (List.length (α := UInt8) ((([1] : List UInt8) ++ encInts [c.kind, c.txn.client, c.txn.number, c.stp.time, c.stp.client, c.shards, (c.reads.length : Int)] ++ (c.reads.take k25).flatMap encRd) ++ (encStr y37.key) ++ (encInts ([y37.ver.time, y37.ver.client])))) c74) (i := 18) (d := 3) (L' := [true, true, true, true, true, true, true, true, true, true, true, true, true, true, true, true, true, true, true]) rfl (by kernel_rfl) rfl ((((Kept.refl _ _ _).ext x63 ((((((((((x3.trans x7).trans x11).trans x15).below (Nat.le_refl _) kp20.below).trans x24).below (Nat.le_refl _) x31.below).trans x47).trans x50).below (Nat.le_refl _) kp55.below).trans x59).size).ext x67 (((((((((((x3.trans x7).trans x11).trans x15).below (Nat.le_refl _) kp20.below).trans x24).below (Nat.le_refl _) x31.below).trans x47).trans x50).below (Nat.le_refl _) kp55.below).trans x59).trans x63).size).trans kp72) (fun w' s' => x_assign rfl rfl) ?_
  refine d_end (by kernel_rfl) ?_
  refine b_norm (t_norm ?_)
  refine c_quiet ?_
  refine q_val (v := .int .i64 (k25 : Int)) rfl rfl (fun w' x' => x_move rfl e35) ?_
  refine q_val (v := .int .i64 ((k25 : Int) + 1)) rfl rfl (fun w' x' => x_add rfl rfl rfl (wrap_of (by omega) (by omega))) ?_
  refine q_val (v := .int .i64 ((k25 : Int) + 1)) rfl rfl (fun w' x' => x_assign rfl rfl) ?_
  refine q_nil (fun w75 x76 => ?_)
  refine t_norm ?_
  exact ⟨_, rfl, ⟨k25 + 1, A73, c74, by omega, (by rw [(show ([1] : List UInt8) ++ encInts [c.kind, c.txn.client, c.txn.number, c.stp.time, c.stp.client, c.shards, (c.reads.length : Int)] ++ (c.reads.take (k25 + 1)).flatMap encRd = (([1] : List UInt8) ++ encInts [c.kind, c.txn.client, c.txn.number, c.stp.time, c.stp.client, c.shards, (c.reads.length : Int)] ++ (c.reads.take k25).flatMap encRd) ++ (encStr y37.key) ++ (encInts ([y37.ver.time, y37.ver.client])) from (by rw [take_of hx38, List.flatMap_append]; simp [encRd]))]; exact (hb71.ext x76)), e32, e33, (by rw [(show ([1] : List UInt8) ++ encInts [c.kind, c.txn.client, c.txn.number, c.stp.time, c.stp.client, c.shards, (c.reads.length : Int)] ++ (c.reads.take (k25 + 1)).flatMap encRd = (([1] : List UInt8) ++ encInts [c.kind, c.txn.client, c.txn.number, c.stp.time, c.stp.client, c.shards, (c.reads.length : Int)] ++ (c.reads.take k25).flatMap encRd) ++ (encStr y37.key) ++ (encInts ([y37.ver.time, y37.ver.client])) from (by rw [take_of hx38, List.flatMap_append]; simp [encRd]))]; exact rfl), rfl, ((((((((((Kept.refl _ _ _).trans x31).ext x47 ((((((x3.trans x7).trans x11).trans x15).below (Nat.le_refl _) kp20.below).trans x24).below (Nat.le_refl _) x31.below).size).ext x50 (((((((x3.trans x7).trans x11).trans x15).below (Nat.le_refl _) kp20.below).trans x24).below (Nat.le_refl _) x31.below).trans x47).size).trans kp55).ext x59 (((((((((x3.trans x7).trans x11).trans x15).below (Nat.le_refl _) kp20.below).trans x24).below (Nat.le_refl _) x31.below).trans x47).trans x50).below (Nat.le_refl _) kp55.below).size).ext x63 ((((((((((x3.trans x7).trans x11).trans x15).below (Nat.le_refl _) kp20.below).trans x24).below (Nat.le_refl _) x31.below).trans x47).trans x50).below (Nat.le_refl _) kp55.below).trans x59).size).ext x67 (((((((((((x3.trans x7).trans x11).trans x15).below (Nat.le_refl _) kp20.below).trans x24).below (Nat.le_refl _) x31.below).trans x47).trans x50).below (Nat.le_refl _) kp55.below).trans x59).trans x63).size).trans kp72).ext x76 (((((((((((((x3.trans x7).trans x11).trans x15).below (Nat.le_refl _) kp20.below).trans x24).below (Nat.le_refl _) x31.below).trans x47).trans x50).below (Nat.le_refl _) kp55.below).trans x59).trans x63).trans x67).below (Nat.le_refl _) kp72.below).size)⟩, meas_up e35 hl36⟩
 ·have he77 : c.reads.take k25 = c.reads := List.take_of_length_le (by omega)
  rw [he77] at hb29 e34
  refine c_seq ?_
  refine c_seq ?_
  refine c_quiet ?_
  refine q_val (v := .int .i64 (k25 : Int)) rfl rfl (fun w' x' => x_move rfl e35) ?_
  refine q_val (v := .pointer (some (⟨w.heap.size, 6, none⟩))) rfl rfl (fun w' x' => x_fieldAddr fld_33_4 rfl e32 rfl) ?_
  refine q_val (v := .slice p.A c.reads.length p.n) rfl rfl (fun w' x' => x_load rfl rfl ((((((((b2.ext x7).ext x11).ext x15).kept kp20 (by decide)).ext x24).kept x31 (by decide)).ext x').one one_30 rfl)) ?_
  refine q_val (v := .int .i64 (c.reads.length : Int)) rfl rfl (fun w' x' => x_len_slice sl_30 rfl rfl) ?_
  refine q_val (v := .bool false) rfl rfl (fun w' x' => yb (x_lss rfl rfl rfl) (decide_eq_false (by omega))) ?_
  refine q_nil (fun w78 x79 => ?_)
  refine t_norm ?_
  refine c_false rfl ?_
  refine c_exit ?_
  refine t_exit (t_exit (b_exit (t_norm ?_)))
  refine c_seq ?_
  refine c_plain ?_
  refine p_val (v := .slice A27 (List.length (α := UInt8) ((([1] : List UInt8) ++ encInts [c.kind, c.txn.client, c.txn.number, c.stp.time, c.stp.client, c.shards, (c.reads.length : Int)] ++ c.reads.flatMap encRd))) c28) rfl rfl (x_move rfl e34) ?_
  refine p_val (v := .pointer (some (⟨w.heap.size, 7, none⟩))) rfl rfl (x_fieldAddr fld_33_5 rfl e32 rfl) ?_
  refine p_val (v := .slice p.B c.writes.length p.m) rfl rfl (x_load rfl rfl ((((((((b2.ext x7).ext x11).ext x15).kept kp20 (by decide)).ext x24).kept x31 (by decide)).ext x79).one one_31 rfl)) ?_
  refine p_val (v := .int .i64 (c.writes.length : Int)) rfl rfl (x_len_slice sl_31 rfl rfl) ?_
  refine p_call (vs := #[.int .i64 (c.writes.length : Int)]) fn_45 rfl rfl rfl (args1 rfl) ?_
  refine (D_number _ (c.writes.length : Int) (by omega) (by omega)).mono ?_
  rintro e w80 ⟨A83, c84, rfl, hb81, x82⟩
  refine ⟨_, rfl, ?_⟩
  refine p_appendY (B := w.heap.size) (bs := (([1] : List UInt8) ++ encInts [c.kind, c.txn.client, c.txn.number, c.stp.time, c.stp.client, c.shards, (c.reads.length : Int)] ++ c.reads.flatMap encRd)) (nb := (encInt (c.writes.length : Int))) el_46 rfl rfl rfl rfl ((hb29.ext x79).ext x82) rfl (hb81.mono (((((((x3.trans x7).trans x11).trans x15).below (Nat.le_refl _) kp20.below).trans x24).below (Nat.le_refl _) x31.below).trans x79).size) (by first | omega | (simp only [List.length_append, List.length_cons, List.length_nil]; omega)) (by first | omega | (simp only [List.length_append, List.length_cons, List.length_nil]; omega)) ((((((((x3.trans x7).trans x11).trans x15).below (Nat.le_refl _) kp20.below).trans x24).below (Nat.le_refl _) x31.below).trans x79).trans x82).size (fun A88 c89 w85 hb86 kp87 => ?_)
  refine p_val (v := .slice A88 (List.length (α := UInt8) ((([1] : List UInt8) ++ encInts [c.kind, c.txn.client, c.txn.number, c.stp.time, c.stp.client, c.shards, (c.reads.length : Int)] ++ c.reads.flatMap encRd) ++ (encInt (c.writes.length : Int)))) c89) rfl rfl (x_assign rfl rfl) ?_
  refine p_nil ?_
  refine t_norm ?_
  refine c_seq ?_
  refine c_seq ?_
  refine c_quiet ?_
  refine q_val (v := .int .i64 0) rfl rfl (fun w' x' => x_assign rfl rfl) ?_
  refine q_nil (fun w90 x91 => ?_)
  refine t_norm ?_
  refine c_block ?_
  refine c_loop (fun ρ w97 => ∃ k92 : Nat, ∃ A94 : Option Addr, ∃ c95 : Nat, k92 ≤ c.writes.length ∧ Byt w97 w.heap.size 5 A94 c95 (([1] : List UInt8) ++ encInts [c.kind, c.txn.client, c.txn.number, c.stp.time, c.stp.client, c.shards, (c.reads.length : Int)] ++ c.reads.flatMap encRd ++ encInt (c.writes.length : Int) ++ (c.writes.take k92).flatMap encWr) ∧ ρ 1 = .pointer (some (⟨w.heap.size, 0, none⟩)) ∧ ρ 2 = .slice none 0 0 ∧ ρ 3 = .slice A94 (List.length (α := UInt8) (([1] : List UInt8) ++ encInts [c.kind, c.txn.client, c.txn.number, c.stp.time, c.stp.client, c.shards, (c.reads.length : Int)] ++ c.reads.flatMap encRd ++ encInt (c.writes.length : Int) ++ (c.writes.take k92).flatMap encWr)) c95 ∧ ρ 5 = .int .i64 (k92 : Int) ∧ Kept w.heap.size 5 w90 w97) (fun ρ _ => c.writes.length - (intOf (ρ 5)).toNat) ⟨0, A88, c89, Nat.zero_le _, (by rw [show ([1] : List UInt8) ++ encInts [c.kind, c.txn.client, c.txn.number, c.stp.time, c.stp.client, c.shards, (c.reads.length : Int)] ++ c.reads.flatMap encRd ++ encInt (c.writes.length : Int) ++ (c.writes.take 0).flatMap encWr = (([1] : List UInt8) ++ encInts [c.kind, c.txn.client, c.txn.number, c.stp.time, c.stp.client, c.shards, (c.reads.length : Int)] ++ c.reads.flatMap encRd) ++ (encInt (c.writes.length : Int)) from (by simp)]; exact (hb86.ext x91)), e32, e33, (by rw [show ([1] : List UInt8) ++ encInts [c.kind, c.txn.client, c.txn.number, c.stp.time, c.stp.client, c.shards, (c.reads.length : Int)] ++ c.reads.flatMap encRd ++ encInt (c.writes.length : Int) ++ (c.writes.take 0).flatMap encWr = (([1] : List UInt8) ++ encInts [c.kind, c.txn.client, c.txn.number, c.stp.time, c.stp.client, c.shards, (c.reads.length : Int)] ++ c.reads.flatMap encRd) ++ (encInt (c.writes.length : Int)) from (by simp)]; exact rfl), rfl, Kept.refl _ _ _⟩ ?_
  rintro ρ w97 ⟨k92, A94, c95, hk93, hb96, e99, e100, e101, e102, x98⟩
  by_cases hl103 : k92 < c.writes.length
  ·obtain ⟨y104, hx105⟩ := some_of (l := c.writes) (k := k92) (by omega)
   obtain ⟨ad106, cs107, eA108, hK109, hE110⟩ := hc.writes k92 y104 hx105
   have hK109' : cs107 = [.string y104.key, .string y104.val] := hK109
   subst hK109'
   have q112 := hg.writes y104 (List.mem_of_getElem? hx105)
   have q112l := writes_len hg k92
   have q112s := encStr_len q112.1
   have q112t := encStr_len q112.2
   refine c_seq ?_
   refine c_seq ?_
   refine c_quiet ?_
   refine q_val (v := .int .i64 (k92 : Int)) rfl rfl (fun w' x' => x_move rfl e102) ?_
   refine q_val (v := .pointer (some (⟨w.heap.size, 7, none⟩))) rfl rfl (fun w' x' => x_fieldAddr fld_33_5 rfl e99 rfl) ?_
   refine q_val (v := .slice p.B c.writes.length p.m) rfl rfl (fun w' x' => x_load rfl rfl (((((((((((((b2.ext x7).ext x11).ext x15).kept kp20 (by decide)).ext x24).kept x31 (by decide)).ext x79).ext x82).kept kp87 (by decide)).ext x91).kept x98 (by decide)).ext x').one one_31 rfl)) ?_
   refine q_val (v := .int .i64 (c.writes.length : Int)) rfl rfl (fun w' x' => x_len_slice sl_31 rfl rfl) ?_
   refine q_val (v := .bool true) rfl rfl (fun w' x' => yb (x_lss rfl rfl rfl) (decide_eq_true (by omega))) ?_
   refine q_nil (fun w113 x114 => ?_)
   refine t_norm ?_
   refine c_true rfl ?_
   refine c_skip ?_
   refine t_norm ?_
   refine c_seq ?_
   refine c_block ?_
   refine c_seq ?_
   refine c_plain ?_
   refine p_val (v := .slice A94 (List.length (α := UInt8) (([1] : List UInt8) ++ encInts [c.kind, c.txn.client, c.txn.number, c.stp.time, c.stp.client, c.shards, (c.reads.length : Int)] ++ c.reads.flatMap encRd ++ encInt (c.writes.length : Int) ++ (c.writes.take k92).flatMap encWr)) c95) rfl rfl (x_move rfl e101) ?_
   refine p_val (v := .pointer (some (⟨w.heap.size, 7, none⟩))) rfl rfl (x_fieldAddr fld_33_5 rfl e99 rfl) ?_
   refine p_val (v := .slice p.B c.writes.length p.m) rfl rfl (x_load rfl rfl (((((((((((((b2.ext x7).ext x11).ext x15).kept kp20 (by decide)).ext x24).kept x31 (by decide)).ext x79).ext x82).kept kp87 (by decide)).ext x91).kept x98 (by decide)).ext x114).one one_31 rfl)) ?_
   refine p_val (v := .int .i64 (k92 : Int)) rfl rfl (x_move rfl e102) ?_
   refine p_val (v := .pointer (some (ad106.add (k92 * 2)))) rfl rfl (x_indexAddr sl_31 rfl rfl eA108 rfl (by omega) (by omega) rfl) ?_
   refine p_val (v := .pointer (some (ad106.add (k92 * 2)))) rfl rfl (x_fieldAddr fld_66_0 rfl rfl rfl) ?_
   refine p_val (v := .string y104.key) rfl rfl (x_load rfl rfl ((hE110.ext ((((((((((((x3.trans x7).trans x11).trans x15).below (Nat.le_refl _) kp20.below).trans x24).below (Nat.le_refl _) x31.below).trans x79).trans x82).below (Nat.le_refl _) kp87.below).trans x91).below (Nat.le_refl _) x98.below).trans x114)).one one_9 0 rfl rfl)) ?_
   refine p_call (vs := #[.string y104.key]) fn_44 rfl rfl rfl (args1 rfl) ?_
   refine (D_text _ y104.key (by omega)).mono ?_
   rintro e w115 ⟨A118, c119, rfl, hb116, x117⟩
   refine ⟨_, rfl, ?_⟩
   refine p_appendY (B := w.heap.size) (bs := (([1] : List UInt8) ++ encInts [c.kind, c.txn.client, c.txn.number, c.stp.time, c.stp.client, c.shards, (c.reads.length : Int)] ++ c.reads.flatMap encRd ++ encInt (c.writes.length : Int) ++ (c.writes.take k92).flatMap encWr)) (nb := (encStr y104.key)) el_46 rfl rfl rfl rfl ((hb96.ext x114).ext x117) rfl (hb116.mono ((((((((((((x3.trans x7).trans x11).trans x15).below (Nat.le_refl _) kp20.below).trans x24).below (Nat.le_refl _) x31.below).trans x79).trans x82).below (Nat.le_refl _) kp87.below).trans x91).below (Nat.le_refl _) x98.below).trans x114).size) (by first | omega | (simp only [List.length_append, List.length_cons, List.length_nil]; omega)) (by first | omega | (simp only [List.length_append, List.length_cons, List.length_nil]; omega)) (((((((((((((x3.trans x7).trans x11).trans x15).below (Nat.le_refl _) kp20.below).trans x24).below (Nat.le_refl _) x31.below).trans x79).trans x82).below (Nat.le_refl _) kp87.below).trans x91).below (Nat.le_refl _) x98.below).trans x114).trans x117).size (fun A123 c124 w120 hb121 kp122 => ?_)
   refine p_val (v := .slice A123 (List.length (α := UInt8) ((([1] : List UInt8) ++ encInts [c.kind, c.txn.client, c.txn.number, c.stp.time, c.stp.client, c.shards, (c.reads.length : Int)] ++ c.reads.flatMap encRd ++ encInt (c.writes.length : Int) ++ (c.writes.take k92).flatMap encWr) ++ (encStr y104.key))) c124) rfl rfl (x_assign rfl rfl) ?_
   refine p_nil ?_
   refine t_norm ?_
   refine c_plain ?_
   refine p_val (v := .slice A123 (List.length (α := UInt8) ((([1] : List UInt8) ++ encInts [c.kind, c.txn.client, c.txn.number, c.stp.time, c.stp.client, c.shards, (c.reads.length : Int)] ++ c.reads.flatMap encRd ++ encInt (c.writes.length : Int) ++ (c.writes.take k92).flatMap encWr) ++ (encStr y104.key))) c124) rfl rfl (x_move rfl rfl) ?_
   refine p_val (v := .pointer (some (⟨w.heap.size, 7, none⟩))) rfl rfl (x_fieldAddr fld_33_5 rfl e99 rfl) ?_
   refine p_val (v := .slice p.B c.writes.length p.m) rfl rfl (x_load rfl rfl (((((((((((((((b2.ext x7).ext x11).ext x15).kept kp20 (by decide)).ext x24).kept x31 (by decide)).ext x79).ext x82).kept kp87 (by decide)).ext x91).kept x98 (by decide)).ext x114).ext x117).kept kp122 (by decide)).one one_31 rfl)) ?_
   refine p_val (v := .int .i64 (k92 : Int)) rfl rfl (x_move rfl e102) ?_
   refine p_val (v := .pointer (some (ad106.add (k92 * 2)))) rfl rfl (x_indexAddr sl_31 rfl rfl eA108 rfl (by omega) (by omega) rfl) ?_
   refine p_val (v := .pointer (some ((ad106.add (k92 * 2)).add 1))) rfl rfl (x_fieldAddr fld_66_1 rfl rfl rfl) ?_
   refine p_val (v := .string y104.val) rfl rfl (x_load rfl rfl ((hE110.ext ((((((((((((((x3.trans x7).trans x11).trans x15).below (Nat.le_refl _) kp20.below).trans x24).below (Nat.le_refl _) x31.below).trans x79).trans x82).below (Nat.le_refl _) kp87.below).trans x91).below (Nat.le_refl _) x98.below).trans x114).trans x117).below (Nat.le_refl _) kp122.below)).one one_9 1 rfl rfl)) ?_
   refine p_call (vs := #[.string y104.val]) fn_44 rfl rfl rfl (args1 rfl) ?_
   refine (D_text _ y104.val (by omega)).mono ?_
   rintro e w125 ⟨A128, c129, rfl, hb126, x127⟩
   refine ⟨_, rfl, ?_⟩
   refine p_appendY (B := w.heap.size) (bs := (([1] : List UInt8) ++ encInts [c.kind, c.txn.client, c.txn.number, c.stp.time, c.stp.client, c.shards, (c.reads.length : Int)] ++ c.reads.flatMap encRd ++ encInt (c.writes.length : Int) ++ (c.writes.take k92).flatMap encWr) ++ (encStr y104.key)) (nb := (encStr y104.val)) el_46 rfl rfl rfl rfl (hb121.ext x127) rfl (hb126.mono ((((((((((((((x3.trans x7).trans x11).trans x15).below (Nat.le_refl _) kp20.below).trans x24).below (Nat.le_refl _) x31.below).trans x79).trans x82).below (Nat.le_refl _) kp87.below).trans x91).below (Nat.le_refl _) x98.below).trans x114).trans x117).below (Nat.le_refl _) kp122.below).size) (by first | omega | (simp only [List.length_append, List.length_cons, List.length_nil]; omega)) (by first | omega | (simp only [List.length_append, List.length_cons, List.length_nil]; omega)) (((((((((((((((x3.trans x7).trans x11).trans x15).below (Nat.le_refl _) kp20.below).trans x24).below (Nat.le_refl _) x31.below).trans x79).trans x82).below (Nat.le_refl _) kp87.below).trans x91).below (Nat.le_refl _) x98.below).trans x114).trans x117).below (Nat.le_refl _) kp122.below).trans x127).size (fun A133 c134 w130 hb131 kp132 => ?_)
   refine p_val (v := .slice A133 (List.length (α := UInt8) ((([1] : List UInt8) ++ encInts [c.kind, c.txn.client, c.txn.number, c.stp.time, c.stp.client, c.shards, (c.reads.length : Int)] ++ c.reads.flatMap encRd ++ encInt (c.writes.length : Int) ++ (c.writes.take k92).flatMap encWr) ++ (encStr y104.key) ++ (encStr y104.val))) c134) rfl rfl (x_assign rfl rfl) ?_
   refine p_nil ?_
   refine b_norm (t_norm ?_)
   refine c_quiet ?_
   refine q_val (v := .int .i64 (k92 : Int)) rfl rfl (fun w' x' => x_move rfl e102) ?_
   refine q_val (v := .int .i64 ((k92 : Int) + 1)) rfl rfl (fun w' x' => x_add rfl rfl rfl (wrap_of (by omega) (by omega))) ?_
   refine q_val (v := .int .i64 ((k92 : Int) + 1)) rfl rfl (fun w' x' => x_assign rfl rfl) ?_
   refine q_nil (fun w135 x136 => ?_)
   refine t_norm ?_
   exact ⟨_, rfl, ⟨k92 + 1, A133, c134, by omega, (by rw [(show ([1] : List UInt8) ++ encInts [c.kind, c.txn.client, c.txn.number, c.stp.time, c.stp.client, c.shards, (c.reads.length : Int)] ++ c.reads.flatMap encRd ++ encInt (c.writes.length : Int) ++ (c.writes.take (k92 + 1)).flatMap encWr = (([1] : List UInt8) ++ encInts [c.kind, c.txn.client, c.txn.number, c.stp.time, c.stp.client, c.shards, (c.reads.length : Int)] ++ c.reads.flatMap encRd ++ encInt (c.writes.length : Int) ++ (c.writes.take k92).flatMap encWr) ++ (encStr y104.key) ++ (encStr y104.val) from (by rw [take_of hx105, List.flatMap_append]; simp [encWr]))]; exact (hb131.ext x136)), e99, e100, (by rw [(show ([1] : List UInt8) ++ encInts [c.kind, c.txn.client, c.txn.number, c.stp.time, c.stp.client, c.shards, (c.reads.length : Int)] ++ c.reads.flatMap encRd ++ encInt (c.writes.length : Int) ++ (c.writes.take (k92 + 1)).flatMap encWr = (([1] : List UInt8) ++ encInts [c.kind, c.txn.client, c.txn.number, c.stp.time, c.stp.client, c.shards, (c.reads.length : Int)] ++ c.reads.flatMap encRd ++ encInt (c.writes.length : Int) ++ (c.writes.take k92).flatMap encWr) ++ (encStr y104.key) ++ (encStr y104.val) from (by rw [take_of hx105, List.flatMap_append]; simp [encWr]))]; exact rfl), rfl, ((((((((Kept.refl _ _ _).trans x98).ext x114 (((((((((((x3.trans x7).trans x11).trans x15).below (Nat.le_refl _) kp20.below).trans x24).below (Nat.le_refl _) x31.below).trans x79).trans x82).below (Nat.le_refl _) kp87.below).trans x91).below (Nat.le_refl _) x98.below).size).ext x117 ((((((((((((x3.trans x7).trans x11).trans x15).below (Nat.le_refl _) kp20.below).trans x24).below (Nat.le_refl _) x31.below).trans x79).trans x82).below (Nat.le_refl _) kp87.below).trans x91).below (Nat.le_refl _) x98.below).trans x114).size).trans kp122).ext x127 ((((((((((((((x3.trans x7).trans x11).trans x15).below (Nat.le_refl _) kp20.below).trans x24).below (Nat.le_refl _) x31.below).trans x79).trans x82).below (Nat.le_refl _) kp87.below).trans x91).below (Nat.le_refl _) x98.below).trans x114).trans x117).below (Nat.le_refl _) kp122.below).size).trans kp132).ext x136 ((((((((((((((((x3.trans x7).trans x11).trans x15).below (Nat.le_refl _) kp20.below).trans x24).below (Nat.le_refl _) x31.below).trans x79).trans x82).below (Nat.le_refl _) kp87.below).trans x91).below (Nat.le_refl _) x98.below).trans x114).trans x117).below (Nat.le_refl _) kp122.below).trans x127).below (Nat.le_refl _) kp132.below).size)⟩, meas_up e102 hl103⟩
  ·have he137 : c.writes.take k92 = c.writes := List.take_of_length_le (by omega)
   rw [he137] at hb96 e101
   refine c_seq ?_
   refine c_seq ?_
   refine c_quiet ?_
   refine q_val (v := .int .i64 (k92 : Int)) rfl rfl (fun w' x' => x_move rfl e102) ?_
   refine q_val (v := .pointer (some (⟨w.heap.size, 7, none⟩))) rfl rfl (fun w' x' => x_fieldAddr fld_33_5 rfl e99 rfl) ?_
   refine q_val (v := .slice p.B c.writes.length p.m) rfl rfl (fun w' x' => x_load rfl rfl (((((((((((((b2.ext x7).ext x11).ext x15).kept kp20 (by decide)).ext x24).kept x31 (by decide)).ext x79).ext x82).kept kp87 (by decide)).ext x91).kept x98 (by decide)).ext x').one one_31 rfl)) ?_
   refine q_val (v := .int .i64 (c.writes.length : Int)) rfl rfl (fun w' x' => x_len_slice sl_31 rfl rfl) ?_
   refine q_val (v := .bool false) rfl rfl (fun w' x' => yb (x_lss rfl rfl rfl) (decide_eq_false (by omega))) ?_
   refine q_nil (fun w138 x139 => ?_)
   refine t_norm ?_
   refine c_false rfl ?_
   refine c_exit ?_
   refine t_exit (t_exit (b_exit (t_norm ?_)))
   refine c_seq ?_
   refine c_seq ?_
   refine c_quiet ?_
   refine q_val (v := .pointer (some (⟨w.heap.size, 8, none⟩))) rfl rfl (fun w' x' => x_fieldAddr fld_33_6 rfl e99 rfl) ?_
   refine q_bool (b := c.commit) rfl rfl (fun w' x' => x_load rfl rfl ((((((((((((((b2.ext x7).ext x11).ext x15).kept kp20 (by decide)).ext x24).kept x31 (by decide)).ext x79).ext x82).kept kp87 (by decide)).ext x91).kept x98 (by decide)).ext x139).ext x').one one_4 rfl)) (fun c140 => ?_) (fun c140 => ?_)
   ·refine q_nil (fun w141 x142 => ?_)
    refine t_norm ?_
    refine c_true rfl ?_
    refine c_seq ?_
    refine c_plain ?_
    refine p_val (v := .slice A94 (List.length (α := UInt8) ((([1] : List UInt8) ++ encInts [c.kind, c.txn.client, c.txn.number, c.stp.time, c.stp.client, c.shards, (c.reads.length : Int)] ++ c.reads.flatMap encRd ++ encInt (c.writes.length : Int) ++ c.writes.flatMap encWr))) c95) rfl rfl (x_move rfl e101) ?_
    refine p_buildSlice (cs := [.int .u8 1]) el_46 rfl rfl rfl (parts1 rfl) (by decide) (by decide) (fill_ok [.int .u8 1] [.int .u8 1] rfl rfl) (fun w143 b144 x145 z146 => ?_)
    refine p_appendB (B := w.heap.size) (bs := (([1] : List UInt8) ++ encInts [c.kind, c.txn.client, c.txn.number, c.stp.time, c.stp.client, c.shards, (c.reads.length : Int)] ++ c.reads.flatMap encRd ++ encInt (c.writes.length : Int) ++ c.writes.flatMap encWr)) (nb := ([1] : List UInt8)) (m := 1) (ad := ⟨w141.heap.size, 0, none⟩) el_46 rfl rfl rfl rfl (((hb96.ext x139).ext x142).ext x145) rfl rfl (Box.puts b144 rfl) (by first | omega | (simp only [List.length_append, List.length_cons, List.length_nil]; omega)) (by first | omega | (simp only [List.length_append, List.length_cons, List.length_nil]; omega)) ((((((((((((((x3.trans x7).trans x11).trans x15).below (Nat.le_refl _) kp20.below).trans x24).below (Nat.le_refl _) x31.below).trans x79).trans x82).below (Nat.le_refl _) kp87.below).trans x91).below (Nat.le_refl _) x98.below).trans x139).trans x142).trans x145).size (fun A150 c151 w147 hb148 kp149 => ?_)
    refine p_val (v := .slice A150 (List.length (α := UInt8) ((([1] : List UInt8) ++ encInts [c.kind, c.txn.client, c.txn.number, c.stp.time, c.stp.client, c.shards, (c.reads.length : Int)] ++ c.reads.flatMap encRd ++ encInt (c.writes.length : Int) ++ c.writes.flatMap encWr) ++ ([1] : List UInt8))) c151) rfl rfl (x_assign rfl rfl) ?_
    refine p_nil ?_
    refine t_norm ?_
    refine c_ret ?_
    refine t_ret ?_
    have he152 : (([1] : List UInt8) ++ encInts [c.kind, c.txn.client, c.txn.number, c.stp.time, c.stp.client, c.shards, (c.reads.length : Int)] ++ c.reads.flatMap encRd ++ encInt (c.writes.length : Int) ++ c.writes.flatMap encWr) ++ ([1] : List UInt8) = encCmd c := (by simp [encCmd, encBool, encInts, c140])
    exact c_done rfl (v := .slice A150 (List.length (α := UInt8) (encCmd c)) c151) (by rw [← he152]; exact rfl) ⟨A150, c151, rfl, by rw [← he152]; exact hb148, (((((((((((((((x3.trans x7).trans x11).trans x15).below (Nat.le_refl _) kp20.below).trans x24).below (Nat.le_refl _) x31.below).trans x79).trans x82).below (Nat.le_refl _) kp87.below).trans x91).below (Nat.le_refl _) x98.below).trans x139).trans x142).trans x145).below (Nat.le_refl _) kp149.below)⟩
   ·refine q_nil (fun w153 x154 => ?_)
    refine t_norm ?_
    refine c_false rfl ?_
    refine c_skip ?_
    refine t_norm ?_
    refine c_seq ?_
    refine c_plain ?_
    refine p_val (v := .slice A94 (List.length (α := UInt8) ((([1] : List UInt8) ++ encInts [c.kind, c.txn.client, c.txn.number, c.stp.time, c.stp.client, c.shards, (c.reads.length : Int)] ++ c.reads.flatMap encRd ++ encInt (c.writes.length : Int) ++ c.writes.flatMap encWr))) c95) rfl rfl (x_move rfl e101) ?_
    refine p_buildSlice (cs := [.int .u8 0]) el_46 rfl rfl rfl (parts1 rfl) (by decide) (by decide) (fill_ok [.int .u8 0] [.int .u8 0] rfl rfl) (fun w155 b156 x157 z158 => ?_)
    refine p_appendB (B := w.heap.size) (bs := (([1] : List UInt8) ++ encInts [c.kind, c.txn.client, c.txn.number, c.stp.time, c.stp.client, c.shards, (c.reads.length : Int)] ++ c.reads.flatMap encRd ++ encInt (c.writes.length : Int) ++ c.writes.flatMap encWr)) (nb := ([0] : List UInt8)) (m := 1) (ad := ⟨w153.heap.size, 0, none⟩) el_46 rfl rfl rfl rfl (((hb96.ext x139).ext x154).ext x157) rfl rfl (Box.puts b156 rfl) (by first | omega | (simp only [List.length_append, List.length_cons, List.length_nil]; omega)) (by first | omega | (simp only [List.length_append, List.length_cons, List.length_nil]; omega)) ((((((((((((((x3.trans x7).trans x11).trans x15).below (Nat.le_refl _) kp20.below).trans x24).below (Nat.le_refl _) x31.below).trans x79).trans x82).below (Nat.le_refl _) kp87.below).trans x91).below (Nat.le_refl _) x98.below).trans x139).trans x154).trans x157).size (fun A162 c163 w159 hb160 kp161 => ?_)
    refine p_val (v := .slice A162 (List.length (α := UInt8) ((([1] : List UInt8) ++ encInts [c.kind, c.txn.client, c.txn.number, c.stp.time, c.stp.client, c.shards, (c.reads.length : Int)] ++ c.reads.flatMap encRd ++ encInt (c.writes.length : Int) ++ c.writes.flatMap encWr) ++ ([0] : List UInt8))) c163) rfl rfl (x_assign rfl rfl) ?_
    refine p_nil ?_
    refine t_norm ?_
    refine c_ret ?_
    have he164 : (([1] : List UInt8) ++ encInts [c.kind, c.txn.client, c.txn.number, c.stp.time, c.stp.client, c.shards, (c.reads.length : Int)] ++ c.reads.flatMap encRd ++ encInt (c.writes.length : Int) ++ c.writes.flatMap encWr) ++ ([0] : List UInt8) = encCmd c := (by simp [encCmd, encBool, encInts, c140])
    exact c_done rfl (v := .slice A162 (List.length (α := UInt8) (encCmd c)) c163) (by rw [← he164]; exact rfl) ⟨A162, c163, rfl, by rw [← he164]; exact hb160, (((((((((((((((x3.trans x7).trans x11).trans x15).below (Nat.le_refl _) kp20.below).trans x24).below (Nat.le_refl _) x31.below).trans x79).trans x82).below (Nat.le_refl _) kp87.below).trans x91).below (Nat.le_refl _) x98.below).trans x139).trans x154).trans x157).below (Nat.le_refl _) kp161.below)⟩

set_option maxHeartbeats 4000000 in
theorem D_Record (w : World) (r : Rec) (p : Ptr) (hc : CmdAt w r.cmd p) (hg : GoodRec r) :
    Calls Try.prog 19 #[vRec r p] w (fun e w' => ∃ A' c', e = .returned (.slice A' (encRec r).length c') ∧ Byt w' w.heap.size 5 A' c' (encRec r) ∧ Ext w w') := by
 have hn := hg.nums
 have hd := hg.deps
 have h15 := encInts_len [r.inst.replica, r.inst.slot, r.status, r.promise.number, r.promise.replica, r.ballot.number, r.ballot.replica, r.seq, r.deps.d0, r.deps.d1, r.deps.d2, r.deps.d3, r.deps.d4, r.deps.d5, r.deps.d6] (by intro x hx; simp only [List.mem_cons, List.not_mem_nil, or_false] at hx; omega)
 simp only [List.length_cons, List.length_nil] at h15
 have hcl := encCmd_len hg.cmd
 refine c_enter (n := 57) Try.func19 rfl rfl rfl ?_
 refine c_seq ?_
 refine c_plain ?_
 refine p_box rfl rfl rfl rfl (fun w1 b2 x3 z4 => ?_)
 refine p_val (v := .slice none 0 0) rfl rfl (x_assign rfl rfl) ?_
 refine p_nil ?_
 refine t_norm ?_
 refine c_seq ?_
 refine c_plain ?_
 refine p_val (v := .pointer (some (⟨w.heap.size, 0, none⟩))) rfl rfl (x_fieldAddr fld_37_0 rfl rfl rfl) ?_
 refine p_val (v := .pointer (some (⟨w.heap.size, 0, none⟩))) rfl rfl (x_fieldAddr fld_23_0 rfl rfl rfl) ?_
 refine p_val (v := .int .i64 r.inst.replica) rfl rfl (x_load rfl rfl (b2.one one_3 rfl)) ?_
 refine p_val (v := .pointer (some (⟨w.heap.size, 0, none⟩))) rfl rfl (x_fieldAddr fld_37_0 rfl rfl rfl) ?_
 refine p_val (v := .pointer (some (⟨w.heap.size, 1, none⟩))) rfl rfl (x_fieldAddr fld_23_1 rfl rfl rfl) ?_
 refine p_val (v := .int .i64 r.inst.slot) rfl rfl (x_load rfl rfl (b2.one one_3 rfl)) ?_
 refine p_val (v := .pointer (some (⟨w.heap.size, 2, none⟩))) rfl rfl (x_fieldAddr fld_37_1 rfl rfl rfl) ?_
 refine p_val (v := .int .i64 r.status) rfl rfl (x_load rfl rfl (b2.one one_3 rfl)) ?_
 refine p_val (v := .pointer (some (⟨w.heap.size, 3, none⟩))) rfl rfl (x_fieldAddr fld_37_2 rfl rfl rfl) ?_
 refine p_val (v := .pointer (some (⟨w.heap.size, 3, none⟩))) rfl rfl (x_fieldAddr fld_25_0 rfl rfl rfl) ?_
 refine p_val (v := .int .i64 r.promise.number) rfl rfl (x_load rfl rfl (b2.one one_3 rfl)) ?_
 refine p_val (v := .pointer (some (⟨w.heap.size, 3, none⟩))) rfl rfl (x_fieldAddr fld_37_2 rfl rfl rfl) ?_
 refine p_val (v := .pointer (some (⟨w.heap.size, 4, none⟩))) rfl rfl (x_fieldAddr fld_25_1 rfl rfl rfl) ?_
 refine p_val (v := .int .i64 r.promise.replica) rfl rfl (x_load rfl rfl (b2.one one_3 rfl)) ?_
 refine p_val (v := .pointer (some (⟨w.heap.size, 5, none⟩))) rfl rfl (x_fieldAddr fld_37_3 rfl rfl rfl) ?_
 refine p_val (v := .pointer (some (⟨w.heap.size, 5, none⟩))) rfl rfl (x_fieldAddr fld_25_0 rfl rfl rfl) ?_
 refine p_val (v := .int .i64 r.ballot.number) rfl rfl (x_load rfl rfl (b2.one one_3 rfl)) ?_
 refine p_val (v := .pointer (some (⟨w.heap.size, 5, none⟩))) rfl rfl (x_fieldAddr fld_37_3 rfl rfl rfl) ?_
 refine p_val (v := .pointer (some (⟨w.heap.size, 6, none⟩))) rfl rfl (x_fieldAddr fld_25_1 rfl rfl rfl) ?_
 refine p_val (v := .int .i64 r.ballot.replica) rfl rfl (x_load rfl rfl (b2.one one_3 rfl)) ?_
 refine p_val (v := .pointer (some (⟨w.heap.size, 16, none⟩))) rfl rfl (x_fieldAddr fld_37_5 rfl rfl rfl) ?_
 refine p_val (v := .int .i64 r.seq) rfl rfl (x_load rfl rfl (b2.one one_3 rfl)) ?_
 refine p_buildSlice (cs := [.int .i64 r.inst.replica, .int .i64 r.inst.slot, .int .i64 r.status, .int .i64 r.promise.number, .int .i64 r.promise.replica, .int .i64 r.ballot.number, .int .i64 r.ballot.replica, .int .i64 r.seq]) el_83 rfl rfl rfl (parts8 rfl rfl rfl rfl rfl rfl rfl rfl) (by decide) (by decide) (fill_ok [.int .i64 r.inst.replica, .int .i64 r.inst.slot, .int .i64 r.status, .int .i64 r.promise.number, .int .i64 r.promise.replica, .int .i64 r.ballot.number, .int .i64 r.ballot.replica, .int .i64 r.seq] [.int .i64 r.inst.replica, .int .i64 r.inst.slot, .int .i64 r.status, .int .i64 r.promise.number, .int .i64 r.promise.replica, .int .i64 r.ballot.number, .int .i64 r.ballot.replica, .int .i64 r.seq] rfl rfl) (fun w5 b6 x7 z8 => ?_)
 refine p_val (v := .slice (some ⟨w1.heap.size, 0, none⟩) 8 8) rfl rfl (x_assign rfl rfl) ?_
 refine p_nil ?_
 refine t_norm ?_
 refine c_seq ?_
 refine c_seq ?_
 refine c_quiet ?_
 refine q_val (v := .int .i64 0) rfl rfl (fun w' x' => x_assign rfl rfl) ?_
 refine q_nil (fun w9 x10 => ?_)
 refine t_norm ?_
 refine c_block ?_
 refine wp_loop_rounds 8 ?_
 refine r_round ?_
 refine c_seq ?_
 refine c_seq ?_
 refine c_quiet ?_
 refine q_val (v := .int .i64 0) rfl rfl (fun w' x' => x_move rfl rfl) ?_
 refine q_val (v := .bool true) rfl rfl (fun w' x' => yb (x_lss rfl rfl rfl) rfl) ?_
 refine q_nil (fun w11 x12 => ?_)
 refine t_norm ?_
 refine c_true rfl ?_
 refine c_skip ?_
 refine t_norm ?_
 refine c_seq ?_
 refine c_block ?_
 refine c_plain ?_
 refine p_val (v := .slice (some ⟨w1.heap.size, 0, none⟩) 8 8) rfl rfl (x_move rfl rfl) ?_
 refine p_val (v := .int .i64 0) rfl rfl (x_move rfl rfl) ?_
 refine p_val (v := .pointer (some (⟨w.heap.size, 17, none⟩))) rfl rfl (x_fieldAddr fld_37_6 rfl rfl rfl) ?_
 refine p_val (v := .pointer (some (⟨w.heap.size, 17, none⟩))) rfl rfl (x_indexAddr_array arr_35 rfl rfl rfl (by decide) (by decide) rfl) ?_
 refine p_val (v := .int .i64 r.deps.d0) rfl rfl (x_load rfl rfl ((((b2.ext x7).ext x10).ext x12).one one_3 rfl)) ?_
 refine p_buildSlice (cs := [.int .i64 r.deps.d0]) el_83 rfl rfl rfl (parts1 rfl) (by decide) (by decide) (fill_ok [.int .i64 r.deps.d0] [.int .i64 r.deps.d0] rfl rfl) (fun w13 b14 x15 z16 => ?_)
 refine p_appendK (B := w.heap.size) (k := 8) (m := 1) (cs := [.int .i64 r.inst.replica, .int .i64 r.inst.slot, .int .i64 r.status, .int .i64 r.promise.number, .int .i64 r.promise.replica, .int .i64 r.ballot.number, .int .i64 r.ballot.replica, .int .i64 r.seq]) (news := [.int .i64 r.deps.d0]) (ad := ⟨w11.heap.size, 0, none⟩) el_83 rfl rfl rfl rfl (own_box (((b6.ext x10).ext x12).ext x15) x3.size rfl (by decide)) rfl rfl b14.put rfl (by omega) (by omega) ((((x3.trans x7).trans x10).trans x12).trans x15).size (fun A20 c21 w17 o18 kp19 h22 h23 => ?_)
 refine p_val (v := .slice A20 9 c21) rfl rfl (x_assign rfl rfl) ?_
 refine p_nil ?_
 refine b_norm (t_norm ?_)
 refine c_quiet ?_
 refine q_val (v := .int .i64 0) rfl rfl (fun w' x' => x_move rfl rfl) ?_
 refine q_val (v := .int .i64 1) rfl rfl (fun w' x' => x_add rfl rfl rfl (wrap_eq (by decide) (by decide) (by decide))) ?_
 refine q_val (v := .int .i64 1) rfl rfl (fun w' x' => x_assign rfl rfl) ?_
 refine q_nil (fun w24 x25 => ?_)
 refine t_norm ?_
 refine r_round ?_
 refine c_seq ?_
 refine c_seq ?_
 refine c_quiet ?_
 refine q_val (v := .int .i64 1) rfl rfl (fun w' x' => x_move rfl rfl) ?_
 refine q_val (v := .bool true) rfl rfl (fun w' x' => yb (x_lss rfl rfl rfl) rfl) ?_
 refine q_nil (fun w26 x27 => ?_)
 refine t_norm ?_
 refine c_true rfl ?_
 refine c_skip ?_
 refine t_norm ?_
 refine c_seq ?_
 refine c_block ?_
 refine c_plain ?_
 refine p_val (v := .slice A20 9 c21) rfl rfl (x_move rfl rfl) ?_
 refine p_val (v := .int .i64 1) rfl rfl (x_move rfl rfl) ?_
 refine p_val (v := .pointer (some (⟨w.heap.size, 17, none⟩))) rfl rfl (x_fieldAddr fld_37_6 rfl rfl rfl) ?_
 refine p_val (v := .pointer (some (⟨w.heap.size, 18, none⟩))) rfl rfl (x_indexAddr_array arr_35 rfl rfl rfl (by decide) (by decide) rfl) ?_
 refine p_val (v := .int .i64 r.deps.d1) rfl rfl (x_load rfl rfl ((((((((b2.ext x7).ext x10).ext x12).ext x15).kept kp19 (by decide)).ext x25).ext x27).one one_3 rfl)) ?_
 refine p_buildSlice (cs := [.int .i64 r.deps.d1]) el_83 rfl rfl rfl (parts1 rfl) (by decide) (by decide) (fill_ok [.int .i64 r.deps.d1] [.int .i64 r.deps.d1] rfl rfl) (fun w28 b29 x30 z31 => ?_)
 refine p_appendK (B := w.heap.size) (k := 9) (m := 1) (cs := ([.int .i64 r.inst.replica, .int .i64 r.inst.slot, .int .i64 r.status, .int .i64 r.promise.number, .int .i64 r.promise.replica, .int .i64 r.ballot.number, .int .i64 r.ballot.replica, .int .i64 r.seq] ++ [.int .i64 r.deps.d0])) (news := [.int .i64 r.deps.d1]) (ad := ⟨w26.heap.size, 0, none⟩) el_83 rfl rfl rfl rfl (own_ext o18 ((x25.trans x27).trans x30)) rfl rfl b29.put rfl (by omega) (by omega) ((((((((x3.trans x7).trans x10).trans x12).trans x15).below (Nat.le_refl _) kp19.below).trans x25).trans x27).trans x30).size (fun A35 c36 w32 o33 kp34 h37 h38 => ?_)
 refine p_val (v := .slice A35 10 c36) rfl rfl (x_assign rfl rfl) ?_
 refine p_nil ?_
 refine b_norm (t_norm ?_)
 refine c_quiet ?_
 refine q_val (v := .int .i64 1) rfl rfl (fun w' x' => x_move rfl rfl) ?_
 refine q_val (v := .int .i64 2) rfl rfl (fun w' x' => x_add rfl rfl rfl (wrap_eq (by decide) (by decide) (by decide))) ?_
 refine q_val (v := .int .i64 2) rfl rfl (fun w' x' => x_assign rfl rfl) ?_
 refine q_nil (fun w39 x40 => ?_)
 refine t_norm ?_
 refine r_round ?_
 refine c_seq ?_
 refine c_seq ?_
 refine c_quiet ?_
 refine q_val (v := .int .i64 2) rfl rfl (fun w' x' => x_move rfl rfl) ?_
 refine q_val (v := .bool true) rfl rfl (fun w' x' => yb (x_lss rfl rfl rfl) rfl) ?_
 refine q_nil (fun w41 x42 => ?_)
 refine t_norm ?_
 refine c_true rfl ?_
 refine c_skip ?_
 refine t_norm ?_
 refine c_seq ?_
 refine c_block ?_
 refine c_plain ?_
 refine p_val (v := .slice A35 10 c36) rfl rfl (x_move rfl rfl) ?_
 refine p_val (v := .int .i64 2) rfl rfl (x_move rfl rfl) ?_
 refine p_val (v := .pointer (some (⟨w.heap.size, 17, none⟩))) rfl rfl (x_fieldAddr fld_37_6 rfl rfl rfl) ?_
 refine p_val (v := .pointer (some (⟨w.heap.size, 19, none⟩))) rfl rfl (x_indexAddr_array arr_35 rfl rfl rfl (by decide) (by decide) rfl) ?_
 refine p_val (v := .int .i64 r.deps.d2) rfl rfl (x_load rfl rfl ((((((((((((b2.ext x7).ext x10).ext x12).ext x15).kept kp19 (by decide)).ext x25).ext x27).ext x30).kept kp34 (by decide)).ext x40).ext x42).one one_3 rfl)) ?_
 refine p_buildSlice (cs := [.int .i64 r.deps.d2]) el_83 rfl rfl rfl (parts1 rfl) (by decide) (by decide) (fill_ok [.int .i64 r.deps.d2] [.int .i64 r.deps.d2] rfl rfl) (fun w43 b44 x45 z46 => ?_)
 refine p_appendK (B := w.heap.size) (k := 10) (m := 1) (cs := (([.int .i64 r.inst.replica, .int .i64 r.inst.slot, .int .i64 r.status, .int .i64 r.promise.number, .int .i64 r.promise.replica, .int .i64 r.ballot.number, .int .i64 r.ballot.replica, .int .i64 r.seq] ++ [.int .i64 r.deps.d0]) ++ [.int .i64 r.deps.d1])) (news := [.int .i64 r.deps.d2]) (ad := ⟨w41.heap.size, 0, none⟩) el_83 rfl rfl rfl rfl (own_ext o33 ((x40.trans x42).trans x45)) rfl rfl b44.put rfl (by omega) (by omega) ((((((((((((x3.trans x7).trans x10).trans x12).trans x15).below (Nat.le_refl _) kp19.below).trans x25).trans x27).trans x30).below (Nat.le_refl _) kp34.below).trans x40).trans x42).trans x45).size (fun A50 c51 w47 o48 kp49 h52 h53 => ?_)
 refine p_val (v := .slice A50 11 c51) rfl rfl (x_assign rfl rfl) ?_
 refine p_nil ?_
 refine b_norm (t_norm ?_)
 refine c_quiet ?_
 refine q_val (v := .int .i64 2) rfl rfl (fun w' x' => x_move rfl rfl) ?_
 refine q_val (v := .int .i64 3) rfl rfl (fun w' x' => x_add rfl rfl rfl (wrap_eq (by decide) (by decide) (by decide))) ?_
 refine q_val (v := .int .i64 3) rfl rfl (fun w' x' => x_assign rfl rfl) ?_
 refine q_nil (fun w54 x55 => ?_)
 refine t_norm ?_
 refine r_round ?_
 refine c_seq ?_
 refine c_seq ?_
 refine c_quiet ?_
 refine q_val (v := .int .i64 3) rfl rfl (fun w' x' => x_move rfl rfl) ?_
 refine q_val (v := .bool true) rfl rfl (fun w' x' => yb (x_lss rfl rfl rfl) rfl) ?_
 refine q_nil (fun w56 x57 => ?_)
 refine t_norm ?_
 refine c_true rfl ?_
 refine c_skip ?_
 refine t_norm ?_
 refine c_seq ?_
 refine c_block ?_
 refine c_plain ?_
 refine p_val (v := .slice A50 11 c51) rfl rfl (x_move rfl rfl) ?_
 refine p_val (v := .int .i64 3) rfl rfl (x_move rfl rfl) ?_
 refine p_val (v := .pointer (some (⟨w.heap.size, 17, none⟩))) rfl rfl (x_fieldAddr fld_37_6 rfl rfl rfl) ?_
 refine p_val (v := .pointer (some (⟨w.heap.size, 20, none⟩))) rfl rfl (x_indexAddr_array arr_35 rfl rfl rfl (by decide) (by decide) rfl) ?_
 refine p_val (v := .int .i64 r.deps.d3) rfl rfl (x_load rfl rfl ((((((((((((((((b2.ext x7).ext x10).ext x12).ext x15).kept kp19 (by decide)).ext x25).ext x27).ext x30).kept kp34 (by decide)).ext x40).ext x42).ext x45).kept kp49 (by decide)).ext x55).ext x57).one one_3 rfl)) ?_
 refine p_buildSlice (cs := [.int .i64 r.deps.d3]) el_83 rfl rfl rfl (parts1 rfl) (by decide) (by decide) (fill_ok [.int .i64 r.deps.d3] [.int .i64 r.deps.d3] rfl rfl) (fun w58 b59 x60 z61 => ?_)
 refine p_appendK (B := w.heap.size) (k := 11) (m := 1) (cs := ((([.int .i64 r.inst.replica, .int .i64 r.inst.slot, .int .i64 r.status, .int .i64 r.promise.number, .int .i64 r.promise.replica, .int .i64 r.ballot.number, .int .i64 r.ballot.replica, .int .i64 r.seq] ++ [.int .i64 r.deps.d0]) ++ [.int .i64 r.deps.d1]) ++ [.int .i64 r.deps.d2])) (news := [.int .i64 r.deps.d3]) (ad := ⟨w56.heap.size, 0, none⟩) el_83 rfl rfl rfl rfl (own_ext o48 ((x55.trans x57).trans x60)) rfl rfl b59.put rfl (by omega) (by omega) ((((((((((((((((x3.trans x7).trans x10).trans x12).trans x15).below (Nat.le_refl _) kp19.below).trans x25).trans x27).trans x30).below (Nat.le_refl _) kp34.below).trans x40).trans x42).trans x45).below (Nat.le_refl _) kp49.below).trans x55).trans x57).trans x60).size (fun A65 c66 w62 o63 kp64 h67 h68 => ?_)
 refine p_val (v := .slice A65 12 c66) rfl rfl (x_assign rfl rfl) ?_
 refine p_nil ?_
 refine b_norm (t_norm ?_)
 refine c_quiet ?_
 refine q_val (v := .int .i64 3) rfl rfl (fun w' x' => x_move rfl rfl) ?_
 refine q_val (v := .int .i64 4) rfl rfl (fun w' x' => x_add rfl rfl rfl (wrap_eq (by decide) (by decide) (by decide))) ?_
 refine q_val (v := .int .i64 4) rfl rfl (fun w' x' => x_assign rfl rfl) ?_
 refine q_nil (fun w69 x70 => ?_)
 refine t_norm ?_
 refine r_round ?_
 refine c_seq ?_
 refine c_seq ?_
 refine c_quiet ?_
 refine q_val (v := .int .i64 4) rfl rfl (fun w' x' => x_move rfl rfl) ?_
 refine q_val (v := .bool true) rfl rfl (fun w' x' => yb (x_lss rfl rfl rfl) rfl) ?_
 refine q_nil (fun w71 x72 => ?_)
 refine t_norm ?_
 refine c_true rfl ?_
 refine c_skip ?_
 refine t_norm ?_
 refine c_seq ?_
 refine c_block ?_
 refine c_plain ?_
 refine p_val (v := .slice A65 12 c66) rfl rfl (x_move rfl rfl) ?_
 refine p_val (v := .int .i64 4) rfl rfl (x_move rfl rfl) ?_
 refine p_val (v := .pointer (some (⟨w.heap.size, 17, none⟩))) rfl rfl (x_fieldAddr fld_37_6 rfl rfl rfl) ?_
 refine p_val (v := .pointer (some (⟨w.heap.size, 21, none⟩))) rfl rfl (x_indexAddr_array arr_35 rfl rfl rfl (by decide) (by decide) rfl) ?_
 refine p_val (v := .int .i64 r.deps.d4) rfl rfl (x_load rfl rfl ((((((((((((((((((((b2.ext x7).ext x10).ext x12).ext x15).kept kp19 (by decide)).ext x25).ext x27).ext x30).kept kp34 (by decide)).ext x40).ext x42).ext x45).kept kp49 (by decide)).ext x55).ext x57).ext x60).kept kp64 (by decide)).ext x70).ext x72).one one_3 rfl)) ?_
 refine p_buildSlice (cs := [.int .i64 r.deps.d4]) el_83 rfl rfl rfl (parts1 rfl) (by decide) (by decide) (fill_ok [.int .i64 r.deps.d4] [.int .i64 r.deps.d4] rfl rfl) (fun w73 b74 x75 z76 => ?_)
 refine p_appendK (B := w.heap.size) (k := 12) (m := 1) (cs := (((([.int .i64 r.inst.replica, .int .i64 r.inst.slot, .int .i64 r.status, .int .i64 r.promise.number, .int .i64 r.promise.replica, .int .i64 r.ballot.number, .int .i64 r.ballot.replica, .int .i64 r.seq] ++ [.int .i64 r.deps.d0]) ++ [.int .i64 r.deps.d1]) ++ [.int .i64 r.deps.d2]) ++ [.int .i64 r.deps.d3])) (news := [.int .i64 r.deps.d4]) (ad := ⟨w71.heap.size, 0, none⟩) el_83 rfl rfl rfl rfl (own_ext o63 ((x70.trans x72).trans x75)) rfl rfl b74.put rfl (by omega) (by omega) ((((((((((((((((((((x3.trans x7).trans x10).trans x12).trans x15).below (Nat.le_refl _) kp19.below).trans x25).trans x27).trans x30).below (Nat.le_refl _) kp34.below).trans x40).trans x42).trans x45).below (Nat.le_refl _) kp49.below).trans x55).trans x57).trans x60).below (Nat.le_refl _) kp64.below).trans x70).trans x72).trans x75).size (fun A80 c81 w77 o78 kp79 h82 h83 => ?_)
 refine p_val (v := .slice A80 13 c81) rfl rfl (x_assign rfl rfl) ?_
 refine p_nil ?_
 refine b_norm (t_norm ?_)
 refine c_quiet ?_
 refine q_val (v := .int .i64 4) rfl rfl (fun w' x' => x_move rfl rfl) ?_
 refine q_val (v := .int .i64 5) rfl rfl (fun w' x' => x_add rfl rfl rfl (wrap_eq (by decide) (by decide) (by decide))) ?_
 refine q_val (v := .int .i64 5) rfl rfl (fun w' x' => x_assign rfl rfl) ?_
 refine q_nil (fun w84 x85 => ?_)
 refine t_norm ?_
 refine r_round ?_
 refine c_seq ?_
 refine c_seq ?_
 refine c_quiet ?_
 refine q_val (v := .int .i64 5) rfl rfl (fun w' x' => x_move rfl rfl) ?_
 refine q_val (v := .bool true) rfl rfl (fun w' x' => yb (x_lss rfl rfl rfl) rfl) ?_
 refine q_nil (fun w86 x87 => ?_)
 refine t_norm ?_
 refine c_true rfl ?_
 refine c_skip ?_
 refine t_norm ?_
 refine c_seq ?_
 refine c_block ?_
 refine c_plain ?_
 refine p_val (v := .slice A80 13 c81) rfl rfl (x_move rfl rfl) ?_
 refine p_val (v := .int .i64 5) rfl rfl (x_move rfl rfl) ?_
 refine p_val (v := .pointer (some (⟨w.heap.size, 17, none⟩))) rfl rfl (x_fieldAddr fld_37_6 rfl rfl rfl) ?_
 refine p_val (v := .pointer (some (⟨w.heap.size, 22, none⟩))) rfl rfl (x_indexAddr_array arr_35 rfl rfl rfl (by decide) (by decide) rfl) ?_
 refine p_val (v := .int .i64 r.deps.d5) rfl rfl (x_load rfl rfl ((((((((((((((((((((((((b2.ext x7).ext x10).ext x12).ext x15).kept kp19 (by decide)).ext x25).ext x27).ext x30).kept kp34 (by decide)).ext x40).ext x42).ext x45).kept kp49 (by decide)).ext x55).ext x57).ext x60).kept kp64 (by decide)).ext x70).ext x72).ext x75).kept kp79 (by decide)).ext x85).ext x87).one one_3 rfl)) ?_
 refine p_buildSlice (cs := [.int .i64 r.deps.d5]) el_83 rfl rfl rfl (parts1 rfl) (by decide) (by decide) (fill_ok [.int .i64 r.deps.d5] [.int .i64 r.deps.d5] rfl rfl) (fun w88 b89 x90 z91 => ?_)
 refine p_appendK (B := w.heap.size) (k := 13) (m := 1) (cs := ((((([.int .i64 r.inst.replica, .int .i64 r.inst.slot, .int .i64 r.status, .int .i64 r.promise.number, .int .i64 r.promise.replica, .int .i64 r.ballot.number, .int .i64 r.ballot.replica, .int .i64 r.seq] ++ [.int .i64 r.deps.d0]) ++ [.int .i64 r.deps.d1]) ++ [.int .i64 r.deps.d2]) ++ [.int .i64 r.deps.d3]) ++ [.int .i64 r.deps.d4])) (news := [.int .i64 r.deps.d5]) (ad := ⟨w86.heap.size, 0, none⟩) el_83 rfl rfl rfl rfl (own_ext o78 ((x85.trans x87).trans x90)) rfl rfl b89.put rfl (by omega) (by omega) ((((((((((((((((((((((((x3.trans x7).trans x10).trans x12).trans x15).below (Nat.le_refl _) kp19.below).trans x25).trans x27).trans x30).below (Nat.le_refl _) kp34.below).trans x40).trans x42).trans x45).below (Nat.le_refl _) kp49.below).trans x55).trans x57).trans x60).below (Nat.le_refl _) kp64.below).trans x70).trans x72).trans x75).below (Nat.le_refl _) kp79.below).trans x85).trans x87).trans x90).size (fun A95 c96 w92 o93 kp94 h97 h98 => ?_)
 refine p_val (v := .slice A95 14 c96) rfl rfl (x_assign rfl rfl) ?_
 refine p_nil ?_
 refine b_norm (t_norm ?_)
 refine c_quiet ?_
 refine q_val (v := .int .i64 5) rfl rfl (fun w' x' => x_move rfl rfl) ?_
 refine q_val (v := .int .i64 6) rfl rfl (fun w' x' => x_add rfl rfl rfl (wrap_eq (by decide) (by decide) (by decide))) ?_
 refine q_val (v := .int .i64 6) rfl rfl (fun w' x' => x_assign rfl rfl) ?_
 refine q_nil (fun w99 x100 => ?_)
 refine t_norm ?_
 refine r_round ?_
 refine c_seq ?_
 refine c_seq ?_
 refine c_quiet ?_
 refine q_val (v := .int .i64 6) rfl rfl (fun w' x' => x_move rfl rfl) ?_
 refine q_val (v := .bool true) rfl rfl (fun w' x' => yb (x_lss rfl rfl rfl) rfl) ?_
 refine q_nil (fun w101 x102 => ?_)
 refine t_norm ?_
 refine c_true rfl ?_
 refine c_skip ?_
 refine t_norm ?_
 refine c_seq ?_
 refine c_block ?_
 refine c_plain ?_
 refine p_val (v := .slice A95 14 c96) rfl rfl (x_move rfl rfl) ?_
 refine p_val (v := .int .i64 6) rfl rfl (x_move rfl rfl) ?_
 refine p_val (v := .pointer (some (⟨w.heap.size, 17, none⟩))) rfl rfl (x_fieldAddr fld_37_6 rfl rfl rfl) ?_
 refine p_val (v := .pointer (some (⟨w.heap.size, 23, none⟩))) rfl rfl (x_indexAddr_array arr_35 rfl rfl rfl (by decide) (by decide) rfl) ?_
 refine p_val (v := .int .i64 r.deps.d6) rfl rfl (x_load rfl rfl ((((((((((((((((((((((((((((b2.ext x7).ext x10).ext x12).ext x15).kept kp19 (by decide)).ext x25).ext x27).ext x30).kept kp34 (by decide)).ext x40).ext x42).ext x45).kept kp49 (by decide)).ext x55).ext x57).ext x60).kept kp64 (by decide)).ext x70).ext x72).ext x75).kept kp79 (by decide)).ext x85).ext x87).ext x90).kept kp94 (by decide)).ext x100).ext x102).one one_3 rfl)) ?_
 refine p_buildSlice (cs := [.int .i64 r.deps.d6]) el_83 rfl rfl rfl (parts1 rfl) (by decide) (by decide) (fill_ok [.int .i64 r.deps.d6] [.int .i64 r.deps.d6] rfl rfl) (fun w103 b104 x105 z106 => ?_)
 refine p_appendK (B := w.heap.size) (k := 14) (m := 1) (cs := (((((([.int .i64 r.inst.replica, .int .i64 r.inst.slot, .int .i64 r.status, .int .i64 r.promise.number, .int .i64 r.promise.replica, .int .i64 r.ballot.number, .int .i64 r.ballot.replica, .int .i64 r.seq] ++ [.int .i64 r.deps.d0]) ++ [.int .i64 r.deps.d1]) ++ [.int .i64 r.deps.d2]) ++ [.int .i64 r.deps.d3]) ++ [.int .i64 r.deps.d4]) ++ [.int .i64 r.deps.d5])) (news := [.int .i64 r.deps.d6]) (ad := ⟨w101.heap.size, 0, none⟩) el_83 rfl rfl rfl rfl (own_ext o93 ((x100.trans x102).trans x105)) rfl rfl b104.put rfl (by omega) (by omega) ((((((((((((((((((((((((((((x3.trans x7).trans x10).trans x12).trans x15).below (Nat.le_refl _) kp19.below).trans x25).trans x27).trans x30).below (Nat.le_refl _) kp34.below).trans x40).trans x42).trans x45).below (Nat.le_refl _) kp49.below).trans x55).trans x57).trans x60).below (Nat.le_refl _) kp64.below).trans x70).trans x72).trans x75).below (Nat.le_refl _) kp79.below).trans x85).trans x87).trans x90).below (Nat.le_refl _) kp94.below).trans x100).trans x102).trans x105).size (fun A110 c111 w107 o108 kp109 h112 h113 => ?_)
 refine p_val (v := .slice A110 15 c111) rfl rfl (x_assign rfl rfl) ?_
 refine p_nil ?_
 refine b_norm (t_norm ?_)
 refine c_quiet ?_
 refine q_val (v := .int .i64 6) rfl rfl (fun w' x' => x_move rfl rfl) ?_
 refine q_val (v := .int .i64 7) rfl rfl (fun w' x' => x_add rfl rfl rfl (wrap_eq (by decide) (by decide) (by decide))) ?_
 refine q_val (v := .int .i64 7) rfl rfl (fun w' x' => x_assign rfl rfl) ?_
 refine q_nil (fun w114 x115 => ?_)
 refine t_norm ?_
 refine r_round ?_
 refine c_seq ?_
 refine c_seq ?_
 refine c_quiet ?_
 refine q_val (v := .int .i64 7) rfl rfl (fun w' x' => x_move rfl rfl) ?_
 refine q_val (v := .bool false) rfl rfl (fun w' x' => yb (x_lss rfl rfl rfl) rfl) ?_
 refine q_nil (fun w116 x117 => ?_)
 refine t_norm ?_
 refine c_false rfl ?_
 refine c_exit ?_
 refine t_exit (t_exit (b_exit (t_norm ?_)))
 refine c_seq ?_
 refine c_plain ?_
 refine p_buildSlice (cs := [.int .u8 2]) el_46 rfl rfl rfl (parts1 rfl) (by decide) (by decide) (fill_ok [.int .u8 2] [.int .u8 2] rfl rfl) (fun w118 b119 x120 z121 => ?_)
 refine p_val (v := .slice A110 15 c111) rfl rfl (x_move rfl rfl) ?_
 refine p_call (vs := #[.slice A110 15 c111]) fn_43 rfl rfl rfl (args1 rfl) ?_
 refine (D_numbers _ A110 15 c111 [r.inst.replica, r.inst.slot, r.status, r.promise.number, r.promise.replica, r.ballot.number, r.ballot.replica, r.seq, r.deps.d0, r.deps.d1, r.deps.d2, r.deps.d3, r.deps.d4, r.deps.d5, r.deps.d6] rfl (own_lies (d := kInt) (f := fun x => [Value.int .i64 x]) (xs := [r.inst.replica, r.inst.slot, r.status, r.promise.number, r.promise.replica, r.ballot.number, r.ballot.replica, r.seq, r.deps.d0, r.deps.d1, r.deps.d2, r.deps.d3, r.deps.d4, r.deps.d5, r.deps.d6]) (own_ext o108 ((x115.trans x117).trans x120)) rfl (fun _ => rfl) (fun _ => rfl)) (by intro x hx; simp only [List.mem_cons, List.not_mem_nil, or_false] at hx; omega) (by simp)).mono ?_
 rintro e w122 ⟨A125, c126, rfl, hb123, x124⟩
 refine ⟨_, rfl, ?_⟩
 refine p_appendY (B := w.heap.size) (bs := ([2] : List UInt8)) (nb := (encInts ([r.inst.replica, r.inst.slot, r.status, r.promise.number, r.promise.replica, r.ballot.number, r.ballot.replica, r.seq, r.deps.d0, r.deps.d1, r.deps.d2, r.deps.d3, r.deps.d4, r.deps.d5, r.deps.d6]))) el_46 rfl rfl rfl rfl (Byt.box (bs := ([2] : List UInt8)) (b119.ext x124) rfl (((((((((((((((((((((((((((((((x3.trans x7).trans x10).trans x12).trans x15).below (Nat.le_refl _) kp19.below).trans x25).trans x27).trans x30).below (Nat.le_refl _) kp34.below).trans x40).trans x42).trans x45).below (Nat.le_refl _) kp49.below).trans x55).trans x57).trans x60).below (Nat.le_refl _) kp64.below).trans x70).trans x72).trans x75).below (Nat.le_refl _) kp79.below).trans x85).trans x87).trans x90).below (Nat.le_refl _) kp94.below).trans x100).trans x102).trans x105).below (Nat.le_refl _) kp109.below).trans x115).trans x117).size (by simp)) rfl (hb123.mono ((((((((((((((((((((((((((((((((x3.trans x7).trans x10).trans x12).trans x15).below (Nat.le_refl _) kp19.below).trans x25).trans x27).trans x30).below (Nat.le_refl _) kp34.below).trans x40).trans x42).trans x45).below (Nat.le_refl _) kp49.below).trans x55).trans x57).trans x60).below (Nat.le_refl _) kp64.below).trans x70).trans x72).trans x75).below (Nat.le_refl _) kp79.below).trans x85).trans x87).trans x90).below (Nat.le_refl _) kp94.below).trans x100).trans x102).trans x105).below (Nat.le_refl _) kp109.below).trans x115).trans x117).trans x120).size) (by first | omega | (simp only [List.length_append, List.length_cons, List.length_nil]; omega)) (by first | omega | (simp only [List.length_append, List.length_cons, List.length_nil]; omega)) (((((((((((((((((((((((((((((((((x3.trans x7).trans x10).trans x12).trans x15).below (Nat.le_refl _) kp19.below).trans x25).trans x27).trans x30).below (Nat.le_refl _) kp34.below).trans x40).trans x42).trans x45).below (Nat.le_refl _) kp49.below).trans x55).trans x57).trans x60).below (Nat.le_refl _) kp64.below).trans x70).trans x72).trans x75).below (Nat.le_refl _) kp79.below).trans x85).trans x87).trans x90).below (Nat.le_refl _) kp94.below).trans x100).trans x102).trans x105).below (Nat.le_refl _) kp109.below).trans x115).trans x117).trans x120).trans x124).size (fun A130 c131 w127 hb128 kp129 => ?_)
 refine p_val (v := .slice A130 (List.length (α := UInt8) (([2] : List UInt8) ++ (encInts ([r.inst.replica, r.inst.slot, r.status, r.promise.number, r.promise.replica, r.ballot.number, r.ballot.replica, r.seq, r.deps.d0, r.deps.d1, r.deps.d2, r.deps.d3, r.deps.d4, r.deps.d5, r.deps.d6])))) c131) rfl rfl (x_assign rfl rfl) ?_
 refine p_nil ?_
 refine t_norm ?_
 refine c_seq ?_
 refine c_seq ?_
 refine c_quiet ?_
 refine q_val (v := .pointer (some (⟨w.heap.size, 24, none⟩))) rfl rfl (fun w' x' => x_fieldAddr fld_37_7 rfl rfl rfl) ?_
 refine q_bool (b := r.kept) rfl rfl (fun w' x' => x_load rfl rfl ((((((((((((((((((((((((((((((((((((b2.ext x7).ext x10).ext x12).ext x15).kept kp19 (by decide)).ext x25).ext x27).ext x30).kept kp34 (by decide)).ext x40).ext x42).ext x45).kept kp49 (by decide)).ext x55).ext x57).ext x60).kept kp64 (by decide)).ext x70).ext x72).ext x75).kept kp79 (by decide)).ext x85).ext x87).ext x90).kept kp94 (by decide)).ext x100).ext x102).ext x105).kept kp109 (by decide)).ext x115).ext x117).ext x120).ext x124).kept kp129 (by decide)).ext x').one one_4 rfl)) (fun c132 => ?_) (fun c132 => ?_)
 ·refine q_nil (fun w133 x134 => ?_)
  refine t_norm ?_
  refine c_true rfl ?_
  refine c_plain ?_
  refine p_val (v := .slice A130 (List.length (α := UInt8) (([2] : List UInt8) ++ (encInts ([r.inst.replica, r.inst.slot, r.status, r.promise.number, r.promise.replica, r.ballot.number, r.ballot.replica, r.seq, r.deps.d0, r.deps.d1, r.deps.d2, r.deps.d3, r.deps.d4, r.deps.d5, r.deps.d6])))) c131) rfl rfl (x_move rfl rfl) ?_
  refine p_buildSlice (cs := [.int .u8 1]) el_46 rfl rfl rfl (parts1 rfl) (by decide) (by decide) (fill_ok [.int .u8 1] [.int .u8 1] rfl rfl) (fun w135 b136 x137 z138 => ?_)
  refine p_appendB (B := w.heap.size) (bs := ([2] : List UInt8) ++ (encInts ([r.inst.replica, r.inst.slot, r.status, r.promise.number, r.promise.replica, r.ballot.number, r.ballot.replica, r.seq, r.deps.d0, r.deps.d1, r.deps.d2, r.deps.d3, r.deps.d4, r.deps.d5, r.deps.d6]))) (nb := ([1] : List UInt8)) (m := 1) (ad := ⟨w133.heap.size, 0, none⟩) el_46 rfl rfl rfl rfl ((hb128.ext x134).ext x137) rfl rfl (Box.puts b136 rfl) (by first | omega | (simp only [List.length_append, List.length_cons, List.length_nil]; omega)) (by first | omega | (simp only [List.length_append, List.length_cons, List.length_nil]; omega)) ((((((((((((((((((((((((((((((((((((x3.trans x7).trans x10).trans x12).trans x15).below (Nat.le_refl _) kp19.below).trans x25).trans x27).trans x30).below (Nat.le_refl _) kp34.below).trans x40).trans x42).trans x45).below (Nat.le_refl _) kp49.below).trans x55).trans x57).trans x60).below (Nat.le_refl _) kp64.below).trans x70).trans x72).trans x75).below (Nat.le_refl _) kp79.below).trans x85).trans x87).trans x90).below (Nat.le_refl _) kp94.below).trans x100).trans x102).trans x105).below (Nat.le_refl _) kp109.below).trans x115).trans x117).trans x120).trans x124).below (Nat.le_refl _) kp129.below).trans x134).trans x137).size (fun A142 c143 w139 hb140 kp141 => ?_)
  refine p_val (v := .slice A142 (List.length (α := UInt8) (([2] : List UInt8) ++ (encInts ([r.inst.replica, r.inst.slot, r.status, r.promise.number, r.promise.replica, r.ballot.number, r.ballot.replica, r.seq, r.deps.d0, r.deps.d1, r.deps.d2, r.deps.d3, r.deps.d4, r.deps.d5, r.deps.d6])) ++ ([1] : List UInt8))) c143) rfl rfl (x_assign rfl rfl) ?_
  refine p_nil ?_
  refine t_norm ?_
  refine c_seq ?_
  refine c_plain ?_
  refine p_val (v := .slice A142 (List.length (α := UInt8) (([2] : List UInt8) ++ (encInts ([r.inst.replica, r.inst.slot, r.status, r.promise.number, r.promise.replica, r.ballot.number, r.ballot.replica, r.seq, r.deps.d0, r.deps.d1, r.deps.d2, r.deps.d3, r.deps.d4, r.deps.d5, r.deps.d6])) ++ ([1] : List UInt8))) c143) rfl rfl (x_move rfl rfl) ?_
  refine p_val (v := .pointer (some (⟨w.heap.size, 7, none⟩))) rfl rfl (x_fieldAddr fld_37_4 rfl rfl rfl) ?_
  refine p_val (v := .agg #[.int .i64 r.cmd.kind, .int .i64 r.cmd.txn.client, .int .i64 r.cmd.txn.number, .int .i64 r.cmd.stp.time, .int .i64 r.cmd.stp.client, .int .i64 r.cmd.shards, .slice p.A r.cmd.reads.length p.n, .slice p.B r.cmd.writes.length p.m, .bool r.cmd.commit]) rfl rfl (x_load rfl rfl ((((((((((((((((((((((((((((((((((((((b2.ext x7).ext x10).ext x12).ext x15).kept kp19 (by decide)).ext x25).ext x27).ext x30).kept kp34 (by decide)).ext x40).ext x42).ext x45).kept kp49 (by decide)).ext x55).ext x57).ext x60).kept kp64 (by decide)).ext x70).ext x72).ext x75).kept kp79 (by decide)).ext x85).ext x87).ext x90).kept kp94 (by decide)).ext x100).ext x102).ext x105).kept kp109 (by decide)).ext x115).ext x117).ext x120).ext x124).kept kp129 (by decide)).ext x134).ext x137).kept kp141 (by decide)).agg (vs := [.int .i64 r.cmd.kind, .int .i64 r.cmd.txn.client, .int .i64 r.cmd.txn.number, .int .i64 r.cmd.stp.time, .int .i64 r.cmd.stp.client, .int .i64 r.cmd.shards, .slice p.A r.cmd.reads.length p.n, .slice p.B r.cmd.writes.length p.m, .bool r.cmd.commit]) agg_33_9 rfl)) ?_
  refine p_call (vs := #[.agg #[.int .i64 r.cmd.kind, .int .i64 r.cmd.txn.client, .int .i64 r.cmd.txn.number, .int .i64 r.cmd.stp.time, .int .i64 r.cmd.stp.client, .int .i64 r.cmd.shards, .slice p.A r.cmd.reads.length p.n, .slice p.B r.cmd.writes.length p.m, .bool r.cmd.commit]]) fn_18 rfl rfl rfl (args1 rfl) ?_
  refine (D_Command _ r.cmd p (hc.ext (((((((((((((((((((((((((((((((((((((x3.trans x7).trans x10).trans x12).trans x15).below (Nat.le_refl _) kp19.below).trans x25).trans x27).trans x30).below (Nat.le_refl _) kp34.below).trans x40).trans x42).trans x45).below (Nat.le_refl _) kp49.below).trans x55).trans x57).trans x60).below (Nat.le_refl _) kp64.below).trans x70).trans x72).trans x75).below (Nat.le_refl _) kp79.below).trans x85).trans x87).trans x90).below (Nat.le_refl _) kp94.below).trans x100).trans x102).trans x105).below (Nat.le_refl _) kp109.below).trans x115).trans x117).trans x120).trans x124).below (Nat.le_refl _) kp129.below).trans x134).trans x137).below (Nat.le_refl _) kp141.below)) hg.cmd).mono ?_
  rintro e w144 ⟨A147, c148, rfl, hb145, x146⟩
  refine ⟨_, rfl, ?_⟩
  refine p_appendY (B := w.heap.size) (bs := ([2] : List UInt8) ++ (encInts ([r.inst.replica, r.inst.slot, r.status, r.promise.number, r.promise.replica, r.ballot.number, r.ballot.replica, r.seq, r.deps.d0, r.deps.d1, r.deps.d2, r.deps.d3, r.deps.d4, r.deps.d5, r.deps.d6])) ++ ([1] : List UInt8)) (nb := (encCmd r.cmd)) el_46 rfl rfl rfl rfl (hb140.ext x146) rfl (hb145.mono (((((((((((((((((((((((((((((((((((((x3.trans x7).trans x10).trans x12).trans x15).below (Nat.le_refl _) kp19.below).trans x25).trans x27).trans x30).below (Nat.le_refl _) kp34.below).trans x40).trans x42).trans x45).below (Nat.le_refl _) kp49.below).trans x55).trans x57).trans x60).below (Nat.le_refl _) kp64.below).trans x70).trans x72).trans x75).below (Nat.le_refl _) kp79.below).trans x85).trans x87).trans x90).below (Nat.le_refl _) kp94.below).trans x100).trans x102).trans x105).below (Nat.le_refl _) kp109.below).trans x115).trans x117).trans x120).trans x124).below (Nat.le_refl _) kp129.below).trans x134).trans x137).below (Nat.le_refl _) kp141.below).size) (by first | omega | (simp only [List.length_append, List.length_cons, List.length_nil]; omega)) (by first | omega | (simp only [List.length_append, List.length_cons, List.length_nil]; omega)) ((((((((((((((((((((((((((((((((((((((x3.trans x7).trans x10).trans x12).trans x15).below (Nat.le_refl _) kp19.below).trans x25).trans x27).trans x30).below (Nat.le_refl _) kp34.below).trans x40).trans x42).trans x45).below (Nat.le_refl _) kp49.below).trans x55).trans x57).trans x60).below (Nat.le_refl _) kp64.below).trans x70).trans x72).trans x75).below (Nat.le_refl _) kp79.below).trans x85).trans x87).trans x90).below (Nat.le_refl _) kp94.below).trans x100).trans x102).trans x105).below (Nat.le_refl _) kp109.below).trans x115).trans x117).trans x120).trans x124).below (Nat.le_refl _) kp129.below).trans x134).trans x137).below (Nat.le_refl _) kp141.below).trans x146).size (fun A152 c153 w149 hb150 kp151 => ?_)
  refine p_val (v := .slice A152 (List.length (α := UInt8) (([2] : List UInt8) ++ (encInts ([r.inst.replica, r.inst.slot, r.status, r.promise.number, r.promise.replica, r.ballot.number, r.ballot.replica, r.seq, r.deps.d0, r.deps.d1, r.deps.d2, r.deps.d3, r.deps.d4, r.deps.d5, r.deps.d6])) ++ ([1] : List UInt8) ++ (encCmd r.cmd))) c153) rfl rfl (x_assign rfl rfl) ?_
  refine p_nil ?_
  refine t_norm ?_
  refine c_ret ?_
  have he154 : ([2] : List UInt8) ++ (encInts ([r.inst.replica, r.inst.slot, r.status, r.promise.number, r.promise.replica, r.ballot.number, r.ballot.replica, r.seq, r.deps.d0, r.deps.d1, r.deps.d2, r.deps.d3, r.deps.d4, r.deps.d5, r.deps.d6])) ++ ([1] : List UInt8) ++ (encCmd r.cmd) = encRec r := (by simp [encRec, encBool, encInts, c132])
  exact c_done rfl (v := .slice A152 (List.length (α := UInt8) (encRec r)) c153) (by rw [← he154]; exact rfl) ⟨A152, c153, rfl, by rw [← he154]; exact hb150, (((((((((((((((((((((((((((((((((((((((x3.trans x7).trans x10).trans x12).trans x15).below (Nat.le_refl _) kp19.below).trans x25).trans x27).trans x30).below (Nat.le_refl _) kp34.below).trans x40).trans x42).trans x45).below (Nat.le_refl _) kp49.below).trans x55).trans x57).trans x60).below (Nat.le_refl _) kp64.below).trans x70).trans x72).trans x75).below (Nat.le_refl _) kp79.below).trans x85).trans x87).trans x90).below (Nat.le_refl _) kp94.below).trans x100).trans x102).trans x105).below (Nat.le_refl _) kp109.below).trans x115).trans x117).trans x120).trans x124).below (Nat.le_refl _) kp129.below).trans x134).trans x137).below (Nat.le_refl _) kp141.below).trans x146).below (Nat.le_refl _) kp151.below)⟩
 ·refine q_nil (fun w155 x156 => ?_)
  refine t_norm ?_
  refine c_false rfl ?_
  refine c_plain ?_
  refine p_val (v := .slice A130 (List.length (α := UInt8) (([2] : List UInt8) ++ (encInts ([r.inst.replica, r.inst.slot, r.status, r.promise.number, r.promise.replica, r.ballot.number, r.ballot.replica, r.seq, r.deps.d0, r.deps.d1, r.deps.d2, r.deps.d3, r.deps.d4, r.deps.d5, r.deps.d6])))) c131) rfl rfl (x_move rfl rfl) ?_
  refine p_buildSlice (cs := [.int .u8 0]) el_46 rfl rfl rfl (parts1 rfl) (by decide) (by decide) (fill_ok [.int .u8 0] [.int .u8 0] rfl rfl) (fun w157 b158 x159 z160 => ?_)
  refine p_appendB (B := w.heap.size) (bs := ([2] : List UInt8) ++ (encInts ([r.inst.replica, r.inst.slot, r.status, r.promise.number, r.promise.replica, r.ballot.number, r.ballot.replica, r.seq, r.deps.d0, r.deps.d1, r.deps.d2, r.deps.d3, r.deps.d4, r.deps.d5, r.deps.d6]))) (nb := ([0] : List UInt8)) (m := 1) (ad := ⟨w155.heap.size, 0, none⟩) el_46 rfl rfl rfl rfl ((hb128.ext x156).ext x159) rfl rfl (Box.puts b158 rfl) (by first | omega | (simp only [List.length_append, List.length_cons, List.length_nil]; omega)) (by first | omega | (simp only [List.length_append, List.length_cons, List.length_nil]; omega)) ((((((((((((((((((((((((((((((((((((x3.trans x7).trans x10).trans x12).trans x15).below (Nat.le_refl _) kp19.below).trans x25).trans x27).trans x30).below (Nat.le_refl _) kp34.below).trans x40).trans x42).trans x45).below (Nat.le_refl _) kp49.below).trans x55).trans x57).trans x60).below (Nat.le_refl _) kp64.below).trans x70).trans x72).trans x75).below (Nat.le_refl _) kp79.below).trans x85).trans x87).trans x90).below (Nat.le_refl _) kp94.below).trans x100).trans x102).trans x105).below (Nat.le_refl _) kp109.below).trans x115).trans x117).trans x120).trans x124).below (Nat.le_refl _) kp129.below).trans x156).trans x159).size (fun A164 c165 w161 hb162 kp163 => ?_)
  refine p_val (v := .slice A164 (List.length (α := UInt8) (([2] : List UInt8) ++ (encInts ([r.inst.replica, r.inst.slot, r.status, r.promise.number, r.promise.replica, r.ballot.number, r.ballot.replica, r.seq, r.deps.d0, r.deps.d1, r.deps.d2, r.deps.d3, r.deps.d4, r.deps.d5, r.deps.d6])) ++ ([0] : List UInt8))) c165) rfl rfl (x_assign rfl rfl) ?_
  refine p_nil ?_
  refine t_norm ?_
  refine c_seq ?_
  refine c_plain ?_
  refine p_val (v := .slice A164 (List.length (α := UInt8) (([2] : List UInt8) ++ (encInts ([r.inst.replica, r.inst.slot, r.status, r.promise.number, r.promise.replica, r.ballot.number, r.ballot.replica, r.seq, r.deps.d0, r.deps.d1, r.deps.d2, r.deps.d3, r.deps.d4, r.deps.d5, r.deps.d6])) ++ ([0] : List UInt8))) c165) rfl rfl (x_move rfl rfl) ?_
  refine p_val (v := .pointer (some (⟨w.heap.size, 7, none⟩))) rfl rfl (x_fieldAddr fld_37_4 rfl rfl rfl) ?_
  refine p_val (v := .agg #[.int .i64 r.cmd.kind, .int .i64 r.cmd.txn.client, .int .i64 r.cmd.txn.number, .int .i64 r.cmd.stp.time, .int .i64 r.cmd.stp.client, .int .i64 r.cmd.shards, .slice p.A r.cmd.reads.length p.n, .slice p.B r.cmd.writes.length p.m, .bool r.cmd.commit]) rfl rfl (x_load rfl rfl ((((((((((((((((((((((((((((((((((((((b2.ext x7).ext x10).ext x12).ext x15).kept kp19 (by decide)).ext x25).ext x27).ext x30).kept kp34 (by decide)).ext x40).ext x42).ext x45).kept kp49 (by decide)).ext x55).ext x57).ext x60).kept kp64 (by decide)).ext x70).ext x72).ext x75).kept kp79 (by decide)).ext x85).ext x87).ext x90).kept kp94 (by decide)).ext x100).ext x102).ext x105).kept kp109 (by decide)).ext x115).ext x117).ext x120).ext x124).kept kp129 (by decide)).ext x156).ext x159).kept kp163 (by decide)).agg (vs := [.int .i64 r.cmd.kind, .int .i64 r.cmd.txn.client, .int .i64 r.cmd.txn.number, .int .i64 r.cmd.stp.time, .int .i64 r.cmd.stp.client, .int .i64 r.cmd.shards, .slice p.A r.cmd.reads.length p.n, .slice p.B r.cmd.writes.length p.m, .bool r.cmd.commit]) agg_33_9 rfl)) ?_
  refine p_call (vs := #[.agg #[.int .i64 r.cmd.kind, .int .i64 r.cmd.txn.client, .int .i64 r.cmd.txn.number, .int .i64 r.cmd.stp.time, .int .i64 r.cmd.stp.client, .int .i64 r.cmd.shards, .slice p.A r.cmd.reads.length p.n, .slice p.B r.cmd.writes.length p.m, .bool r.cmd.commit]]) fn_18 rfl rfl rfl (args1 rfl) ?_
  refine (D_Command _ r.cmd p (hc.ext (((((((((((((((((((((((((((((((((((((x3.trans x7).trans x10).trans x12).trans x15).below (Nat.le_refl _) kp19.below).trans x25).trans x27).trans x30).below (Nat.le_refl _) kp34.below).trans x40).trans x42).trans x45).below (Nat.le_refl _) kp49.below).trans x55).trans x57).trans x60).below (Nat.le_refl _) kp64.below).trans x70).trans x72).trans x75).below (Nat.le_refl _) kp79.below).trans x85).trans x87).trans x90).below (Nat.le_refl _) kp94.below).trans x100).trans x102).trans x105).below (Nat.le_refl _) kp109.below).trans x115).trans x117).trans x120).trans x124).below (Nat.le_refl _) kp129.below).trans x156).trans x159).below (Nat.le_refl _) kp163.below)) hg.cmd).mono ?_
  rintro e w166 ⟨A169, c170, rfl, hb167, x168⟩
  refine ⟨_, rfl, ?_⟩
  refine p_appendY (B := w.heap.size) (bs := ([2] : List UInt8) ++ (encInts ([r.inst.replica, r.inst.slot, r.status, r.promise.number, r.promise.replica, r.ballot.number, r.ballot.replica, r.seq, r.deps.d0, r.deps.d1, r.deps.d2, r.deps.d3, r.deps.d4, r.deps.d5, r.deps.d6])) ++ ([0] : List UInt8)) (nb := (encCmd r.cmd)) el_46 rfl rfl rfl rfl (hb162.ext x168) rfl (hb167.mono (((((((((((((((((((((((((((((((((((((x3.trans x7).trans x10).trans x12).trans x15).below (Nat.le_refl _) kp19.below).trans x25).trans x27).trans x30).below (Nat.le_refl _) kp34.below).trans x40).trans x42).trans x45).below (Nat.le_refl _) kp49.below).trans x55).trans x57).trans x60).below (Nat.le_refl _) kp64.below).trans x70).trans x72).trans x75).below (Nat.le_refl _) kp79.below).trans x85).trans x87).trans x90).below (Nat.le_refl _) kp94.below).trans x100).trans x102).trans x105).below (Nat.le_refl _) kp109.below).trans x115).trans x117).trans x120).trans x124).below (Nat.le_refl _) kp129.below).trans x156).trans x159).below (Nat.le_refl _) kp163.below).size) (by first | omega | (simp only [List.length_append, List.length_cons, List.length_nil]; omega)) (by first | omega | (simp only [List.length_append, List.length_cons, List.length_nil]; omega)) ((((((((((((((((((((((((((((((((((((((x3.trans x7).trans x10).trans x12).trans x15).below (Nat.le_refl _) kp19.below).trans x25).trans x27).trans x30).below (Nat.le_refl _) kp34.below).trans x40).trans x42).trans x45).below (Nat.le_refl _) kp49.below).trans x55).trans x57).trans x60).below (Nat.le_refl _) kp64.below).trans x70).trans x72).trans x75).below (Nat.le_refl _) kp79.below).trans x85).trans x87).trans x90).below (Nat.le_refl _) kp94.below).trans x100).trans x102).trans x105).below (Nat.le_refl _) kp109.below).trans x115).trans x117).trans x120).trans x124).below (Nat.le_refl _) kp129.below).trans x156).trans x159).below (Nat.le_refl _) kp163.below).trans x168).size (fun A174 c175 w171 hb172 kp173 => ?_)
  refine p_val (v := .slice A174 (List.length (α := UInt8) (([2] : List UInt8) ++ (encInts ([r.inst.replica, r.inst.slot, r.status, r.promise.number, r.promise.replica, r.ballot.number, r.ballot.replica, r.seq, r.deps.d0, r.deps.d1, r.deps.d2, r.deps.d3, r.deps.d4, r.deps.d5, r.deps.d6])) ++ ([0] : List UInt8) ++ (encCmd r.cmd))) c175) rfl rfl (x_assign rfl rfl) ?_
  refine p_nil ?_
  refine t_norm ?_
  refine c_ret ?_
  have he176 : ([2] : List UInt8) ++ (encInts ([r.inst.replica, r.inst.slot, r.status, r.promise.number, r.promise.replica, r.ballot.number, r.ballot.replica, r.seq, r.deps.d0, r.deps.d1, r.deps.d2, r.deps.d3, r.deps.d4, r.deps.d5, r.deps.d6])) ++ ([0] : List UInt8) ++ (encCmd r.cmd) = encRec r := (by simp [encRec, encBool, encInts, c132])
  exact c_done rfl (v := .slice A174 (List.length (α := UInt8) (encRec r)) c175) (by rw [← he176]; exact rfl) ⟨A174, c175, rfl, by rw [← he176]; exact hb172, (((((((((((((((((((((((((((((((((((((((x3.trans x7).trans x10).trans x12).trans x15).below (Nat.le_refl _) kp19.below).trans x25).trans x27).trans x30).below (Nat.le_refl _) kp34.below).trans x40).trans x42).trans x45).below (Nat.le_refl _) kp49.below).trans x55).trans x57).trans x60).below (Nat.le_refl _) kp64.below).trans x70).trans x72).trans x75).below (Nat.le_refl _) kp79.below).trans x85).trans x87).trans x90).below (Nat.le_refl _) kp94.below).trans x100).trans x102).trans x105).below (Nat.le_refl _) kp109.below).trans x115).trans x117).trans x120).trans x124).below (Nat.le_refl _) kp129.below).trans x156).trans x159).below (Nat.le_refl _) kp163.below).trans x168).below (Nat.le_refl _) kp173.below)⟩

set_option maxHeartbeats 4000000 in
theorem D_Message (w : World) (m : Msg) (p : Ptr) (hc : CmdAt w m.r.cmd p) (hg : GoodMsg m) :
    Calls Try.prog 20 #[vMsg m p] w (fun e w' => ∃ A' c', e = .returned (.slice A' (encMsg m).length c') ∧ Byt w' w.heap.size 5 A' c' (encMsg m) ∧ Ext w w') := by
 have hn := hg.nums
 have hh := msgHead_len hg
 have hcl := encRec_len hg.r
 refine c_enter (n := 25) Try.func20 rfl rfl rfl ?_
 refine c_seq ?_
 refine c_plain ?_
 refine p_box rfl rfl rfl rfl (fun w1 b2 x3 z4 => ?_)
 refine p_val (v := .slice none 0 0) rfl rfl (x_assign rfl rfl) ?_
 refine p_nil ?_
 refine t_norm ?_
 refine c_seq ?_
 refine c_plain ?_
 refine p_buildSlice (cs := [.int .u8 3]) el_46 rfl rfl rfl (parts1 rfl) (by decide) (by decide) (fill_ok [.int .u8 3] [.int .u8 3] rfl rfl) (fun w5 b6 x7 z8 => ?_)
 refine p_val (v := .pointer (some (⟨w.heap.size, 0, none⟩))) rfl rfl (x_fieldAddr fld_39_0 rfl rfl rfl) ?_
 refine p_val (v := .int .i64 m.kind) rfl rfl (x_load rfl rfl ((b2.ext x7).one one_3 rfl)) ?_
 refine p_val (v := .pointer (some (⟨w.heap.size, 1, none⟩))) rfl rfl (x_fieldAddr fld_39_1 rfl rfl rfl) ?_
 refine p_val (v := .int .i64 m.src) rfl rfl (x_load rfl rfl ((b2.ext x7).one one_3 rfl)) ?_
 refine p_val (v := .pointer (some (⟨w.heap.size, 2, none⟩))) rfl rfl (x_fieldAddr fld_39_2 rfl rfl rfl) ?_
 refine p_val (v := .int .i64 m.dst) rfl rfl (x_load rfl rfl ((b2.ext x7).one one_3 rfl)) ?_
 refine p_val (v := .pointer (some (⟨w.heap.size, 3, none⟩))) rfl rfl (x_fieldAddr fld_39_3 rfl rfl rfl) ?_
 refine p_val (v := .pointer (some (⟨w.heap.size, 3, none⟩))) rfl rfl (x_fieldAddr fld_25_0 rfl rfl rfl) ?_
 refine p_val (v := .int .i64 m.ballot.number) rfl rfl (x_load rfl rfl ((b2.ext x7).one one_3 rfl)) ?_
 refine p_val (v := .pointer (some (⟨w.heap.size, 3, none⟩))) rfl rfl (x_fieldAddr fld_39_3 rfl rfl rfl) ?_
 refine p_val (v := .pointer (some (⟨w.heap.size, 4, none⟩))) rfl rfl (x_fieldAddr fld_25_1 rfl rfl rfl) ?_
 refine p_val (v := .int .i64 m.ballot.replica) rfl rfl (x_load rfl rfl ((b2.ext x7).one one_3 rfl)) ?_
 refine p_buildSlice (cs := [.int .i64 m.kind, .int .i64 m.src, .int .i64 m.dst, .int .i64 m.ballot.number, .int .i64 m.ballot.replica]) el_83 rfl rfl rfl (parts5 rfl rfl rfl rfl rfl) (by decide) (by decide) (fill_ok [.int .i64 m.kind, .int .i64 m.src, .int .i64 m.dst, .int .i64 m.ballot.number, .int .i64 m.ballot.replica] [.int .i64 m.kind, .int .i64 m.src, .int .i64 m.dst, .int .i64 m.ballot.number, .int .i64 m.ballot.replica] rfl rfl) (fun w9 b10 x11 z12 => ?_)
 refine p_call (vs := #[.slice (some ⟨w5.heap.size, 0, none⟩) 5 5]) fn_43 rfl rfl rfl (args1 rfl) ?_
 refine (D_numbers _ (some ⟨w5.heap.size, 0, none⟩) 5 5 [m.kind, m.src, m.dst, m.ballot.number, m.ballot.replica] rfl (lies_in (off := 0) (l := [m.kind, m.src, m.dst, m.ballot.number, m.ballot.replica]) b10 (ints_at rfl)) (by intro x hx; simp only [List.mem_cons, List.not_mem_nil, or_false] at hx; omega) (by simp)).mono ?_
 rintro e w13 ⟨A16, c17, rfl, hb14, x15⟩
 refine ⟨_, rfl, ?_⟩
 refine p_appendY (B := w.heap.size) (bs := ([3] : List UInt8)) (nb := (encInts ([m.kind, m.src, m.dst, m.ballot.number, m.ballot.replica]))) el_46 rfl rfl rfl rfl (Byt.box (bs := ([3] : List UInt8)) ((b6.ext x11).ext x15) rfl x3.size (by simp)) rfl (hb14.mono ((x3.trans x7).trans x11).size) (by first | omega | (simp only [List.length_append, List.length_cons, List.length_nil]; omega)) (by first | omega | (simp only [List.length_append, List.length_cons, List.length_nil]; omega)) (((x3.trans x7).trans x11).trans x15).size (fun A21 c22 w18 hb19 kp20 => ?_)
 refine p_val (v := .slice A21 (List.length (α := UInt8) (([3] : List UInt8) ++ (encInts ([m.kind, m.src, m.dst, m.ballot.number, m.ballot.replica])))) c22) rfl rfl (x_assign rfl rfl) ?_
 refine p_nil ?_
 refine t_norm ?_
 refine c_seq ?_
 refine c_plain ?_
 refine p_val (v := .slice A21 (List.length (α := UInt8) (([3] : List UInt8) ++ (encInts ([m.kind, m.src, m.dst, m.ballot.number, m.ballot.replica])))) c22) rfl rfl (x_move rfl rfl) ?_
 refine p_val (v := .pointer (some (⟨w.heap.size, 5, none⟩))) rfl rfl (x_fieldAddr fld_39_4 rfl rfl rfl) ?_
 refine p_val (v := .agg #[.int .i64 m.r.inst.replica, .int .i64 m.r.inst.slot, .int .i64 m.r.status, .int .i64 m.r.promise.number, .int .i64 m.r.promise.replica, .int .i64 m.r.ballot.number, .int .i64 m.r.ballot.replica, .int .i64 m.r.cmd.kind, .int .i64 m.r.cmd.txn.client, .int .i64 m.r.cmd.txn.number, .int .i64 m.r.cmd.stp.time, .int .i64 m.r.cmd.stp.client, .int .i64 m.r.cmd.shards, .slice p.A m.r.cmd.reads.length p.n, .slice p.B m.r.cmd.writes.length p.m, .bool m.r.cmd.commit, .int .i64 m.r.seq, .int .i64 m.r.deps.d0, .int .i64 m.r.deps.d1, .int .i64 m.r.deps.d2, .int .i64 m.r.deps.d3, .int .i64 m.r.deps.d4, .int .i64 m.r.deps.d5, .int .i64 m.r.deps.d6, .bool m.r.kept]) rfl rfl (x_load rfl rfl (((((b2.ext x7).ext x11).ext x15).kept kp20 (by decide)).agg (vs := [.int .i64 m.r.inst.replica, .int .i64 m.r.inst.slot, .int .i64 m.r.status, .int .i64 m.r.promise.number, .int .i64 m.r.promise.replica, .int .i64 m.r.ballot.number, .int .i64 m.r.ballot.replica, .int .i64 m.r.cmd.kind, .int .i64 m.r.cmd.txn.client, .int .i64 m.r.cmd.txn.number, .int .i64 m.r.cmd.stp.time, .int .i64 m.r.cmd.stp.client, .int .i64 m.r.cmd.shards, .slice p.A m.r.cmd.reads.length p.n, .slice p.B m.r.cmd.writes.length p.m, .bool m.r.cmd.commit, .int .i64 m.r.seq, .int .i64 m.r.deps.d0, .int .i64 m.r.deps.d1, .int .i64 m.r.deps.d2, .int .i64 m.r.deps.d3, .int .i64 m.r.deps.d4, .int .i64 m.r.deps.d5, .int .i64 m.r.deps.d6, .bool m.r.kept]) agg_37_25 rfl)) ?_
 refine p_call (vs := #[.agg #[.int .i64 m.r.inst.replica, .int .i64 m.r.inst.slot, .int .i64 m.r.status, .int .i64 m.r.promise.number, .int .i64 m.r.promise.replica, .int .i64 m.r.ballot.number, .int .i64 m.r.ballot.replica, .int .i64 m.r.cmd.kind, .int .i64 m.r.cmd.txn.client, .int .i64 m.r.cmd.txn.number, .int .i64 m.r.cmd.stp.time, .int .i64 m.r.cmd.stp.client, .int .i64 m.r.cmd.shards, .slice p.A m.r.cmd.reads.length p.n, .slice p.B m.r.cmd.writes.length p.m, .bool m.r.cmd.commit, .int .i64 m.r.seq, .int .i64 m.r.deps.d0, .int .i64 m.r.deps.d1, .int .i64 m.r.deps.d2, .int .i64 m.r.deps.d3, .int .i64 m.r.deps.d4, .int .i64 m.r.deps.d5, .int .i64 m.r.deps.d6, .bool m.r.kept]]) fn_19 rfl rfl rfl (args1 rfl) ?_
 refine (D_Record _ m.r p (hc.ext ((((x3.trans x7).trans x11).trans x15).below (Nat.le_refl _) kp20.below)) hg.r).mono ?_
 rintro e w23 ⟨A26, c27, rfl, hb24, x25⟩
 refine ⟨_, rfl, ?_⟩
 refine p_appendY (B := w.heap.size) (bs := ([3] : List UInt8) ++ (encInts ([m.kind, m.src, m.dst, m.ballot.number, m.ballot.replica]))) (nb := (encRec m.r)) el_46 rfl rfl rfl rfl (hb19.ext x25) rfl (hb24.mono ((((x3.trans x7).trans x11).trans x15).below (Nat.le_refl _) kp20.below).size) (by first | omega | (simp only [List.length_append, List.length_cons, List.length_nil]; omega)) (by first | omega | (simp only [List.length_append, List.length_cons, List.length_nil]; omega)) (((((x3.trans x7).trans x11).trans x15).below (Nat.le_refl _) kp20.below).trans x25).size (fun A31 c32 w28 hb29 kp30 => ?_)
 refine p_val (v := .slice A31 (List.length (α := UInt8) (([3] : List UInt8) ++ (encInts ([m.kind, m.src, m.dst, m.ballot.number, m.ballot.replica])) ++ (encRec m.r))) c32) rfl rfl (x_assign rfl rfl) ?_
 refine p_nil ?_
 refine t_norm ?_
 refine c_ret ?_
 have he33 : ([3] : List UInt8) ++ (encInts ([m.kind, m.src, m.dst, m.ballot.number, m.ballot.replica])) ++ (encRec m.r) = encMsg m := (by simp [encMsg])
 exact c_done rfl (v := .slice A31 (List.length (α := UInt8) (encMsg m)) c32) (by rw [← he33]; exact rfl) ⟨A31, c32, rfl, by rw [← he33]; exact hb29, ((((((x3.trans x7).trans x11).trans x15).below (Nat.le_refl _) kp20.below).trans x25).below (Nat.le_refl _) kp30.below)⟩

end Go.Proofs.Ytibhkdomoknnfaa
