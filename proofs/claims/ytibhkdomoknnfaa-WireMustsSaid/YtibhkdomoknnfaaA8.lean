/- The bytes of commands, records and messages. -/
import Derived.Test.YtibhkdomoknnfaaEnc
import Derived.Test.YtibhkdomoknnfaaA7
namespace Go.Proofs.Ytibhkdomoknnfaa
open Go.RowKit Go.Eng
set_option linter.unusedVariables false
set_option linter.unusedSimpArgs false
theorem C_numbers0 (w0 w : World) (hx0 : Ext w0 w) (A : Option Addr) (c : Nat) (bs : List UInt8) (hb : Byt w w0.heap.size 5 A c bs) (hk : bs.length ≤ 4398046511104) (gb T off lc : Nat) (cs : List Value) (l : List Int) (hB : Box w gb T cs) (hT : T ≠ 5) (hl : ∀ (i : Nat) (x : Int), l[i]? = some x → cs[off + i]? = some (.int .i64 x)) (hp : ∀ x ∈ l, 0 ≤ x ∧ x ≤ 9223372036854775807) (hn : l.length ≤ 1000) :
    Calls Try.prog 38 #[.slice A bs.length c, .slice (some ⟨gb, off, none⟩) l.length lc] w (fun e w' => ∃ A' c', e = .returned (.slice A' (bs ++ encInts l).length c') ∧ Byt w' w0.heap.size 5 A' c' (bs ++ encInts l) ∧ Kept w0.heap.size 5 w w') := by
 refine c_enter (n := 31) Try.func38 rfl rfl rfl ?_
 refine c_seq ?_
 refine c_quiet ?_
 refine q_val (v := .slice none 0 0) rfl rfl (fun w' x' => x_assign rfl rfl) ?_
 refine q_nil (fun w1 x2 => ?_)
 refine t_norm ?_
 refine c_seq ?_
 refine c_seq ?_
 refine c_quiet ?_
 refine q_val (v := .slice (some ⟨gb, off, none⟩) l.length lc) rfl rfl (fun w' x' => x_move rfl rfl) ?_
 refine q_val (v := .int .i64 (l.length : Int)) rfl rfl (fun w' x' => x_len_slice sl_83 rfl rfl) ?_
 refine q_val (v := .int .i64 0) rfl rfl (fun w' x' => x_move rfl rfl) ?_
 refine q_nil (fun w3 x4 => ?_)
 refine t_norm ?_
 refine c_block ?_
 refine c_loop (fun ρ w10 => ∃ k5 : Nat, ∃ A7 : Option Addr, ∃ c8 : Nat, k5 ≤ l.length ∧ Byt w10 w0.heap.size 5 A7 c8 (bs ++ encInts (l.take k5)) ∧ ρ 4 = .slice none 0 0 ∧ ρ 7 = .slice (some ⟨gb, off, none⟩) l.length lc ∧ ρ 8 = .int .i64 (l.length : Int) ∧ ρ 0 = .slice A7 (List.length (α := UInt8) (bs ++ encInts (l.take k5))) c8 ∧ ρ 9 = .int .i64 (k5 : Int) ∧ Kept w0.heap.size 5 w3 w10) (fun ρ _ => l.length - (intOf (ρ 9)).toNat) ⟨0, A, c, Nat.zero_le _, (by rw [show bs ++ encInts (l.take 0) = bs from (by simp [encInts])]; exact ((hb.ext x2).ext x4)), rfl, rfl, rfl, (by rw [show bs ++ encInts (l.take 0) = bs from (by simp [encInts])]; exact rfl), rfl, Kept.refl _ _ _⟩ ?_
 rintro ρ w10 ⟨k5, A7, c8, hk6, hb9, e12, e13, e14, e15, e16, x11⟩
 have hL18 := lies_in (((hB.ext x2).ext x4).kept x11 hT) hl
 by_cases hl17 : k5 < l.length
 ·obtain ⟨y19, hx20⟩ := some_of (l := l) (k := k5) (by omega)
  obtain ⟨ad21, cs22, eA23, hK24, hE25⟩ := hL18 k5 y19 hx20
  have hK24' : cs22 = [.int .i64 y19] := hK24
  subst hK24'
  have hpx := hp y19 (List.mem_of_getElem? hx20)
  have htl := encTake_len l (k5 + 1) (fun x hx => (hp x hx).2)
  have hst := encInts_take hx20
  refine c_seq ?_
  refine c_quiet ?_
  refine q_val (v := .bool true) rfl rfl (fun w' x' => yb (x_lss rfl e16 e14) (decide_eq_true (by omega))) ?_
  refine q_nil (fun w28 x29 => ?_)
  refine t_norm ?_
  refine c_seq ?_
  refine c_true rfl ?_
  refine c_skip ?_
  refine t_norm ?_
  refine c_seq ?_
  refine c_block ?_
  refine c_seq ?_
  refine c_quiet ?_
  refine q_val (v := .pointer (some (ad21.add (k5 * 1)))) rfl rfl (fun w' x' => x_indexAddr sl_83 rfl e13 eA23 e16 (by omega) (by omega) rfl) ?_
  refine q_val (v := .int .i64 y19) rfl rfl (fun w' x' => x_load rfl rfl (((hE25.ext x29).ext x').one one_3 0 rfl rfl)) ?_
  refine q_val (v := .int .i64 y19) rfl rfl (fun w' x' => x_assign rfl rfl) ?_
  refine q_nil (fun w30 x31 => ?_)
  refine t_norm ?_
  refine c_seq ?_
  refine c_block ?_
  refine c_loop (fun ρ w32 => ∃ bs2 : List UInt8, ∃ m : Int, ∃ A2 : Option Addr, ∃ c2 : Nat, 0 ≤ m ∧ m ≤ 9223372036854775807 ∧ bs2 ++ encInt m = bs ++ encInts (l.take (k5 + 1)) ∧ Byt w32 w0.heap.size 5 A2 c2 bs2 ∧ ρ 4 = .slice none 0 0 ∧ ρ 7 = .slice (some ⟨gb, off, none⟩) l.length lc ∧ ρ 8 = .int .i64 (l.length : Int) ∧ ρ 9 = .int .i64 (k5 : Int) ∧ ρ 10 = .bool true ∧ ρ 11 = .pointer (some (ad21.add (k5 * 1))) ∧ ρ 12 = .int .i64 y19 ∧ ρ 0 = .slice A2 bs2.length c2 ∧ ρ 6 = .int .i64 m ∧ Kept w0.heap.size 5 w30 w32) (fun ρ _ => (intOf (ρ 6)).toNat) ⟨(bs ++ encInts (l.take k5)), y19, A7, c8, hpx.1, hpx.2, (by rw [hst, List.append_assoc]), ((hb9.ext x29).ext x31), e12, e13, e14, e16, rfl, rfl, rfl, e15, rfl, Kept.refl _ _ _⟩ ?_
  rintro ρ w32 ⟨bs2, m, A2, c2, hm0, hm1, he2, hb2, e34, e35, e36, e37, e38, e39, e40, e41, e42, x33⟩
  have hl2 := congrArg List.length he2
  rw [List.length_append, List.length_append] at hl2
  refine c_seq ?_
  refine c_seq ?_
  refine c_quiet ?_
  refine q_val (v := .int .i64 m) rfl rfl (fun w' x' => x_move rfl e42) ?_
  refine q_bool (b := decide (m ≥ 128)) rfl rfl (fun w' x' => x_geq rfl rfl rfl) (fun c43 => ?_) (fun c43 => ?_)
  ·have c43' := of_decide_eq_true c43
   refine q_nil (fun w44 x45 => ?_)
   refine t_norm ?_
   refine c_true rfl ?_
   refine c_skip ?_
   refine t_norm ?_
   refine c_block ?_
   refine c_seq ?_
   refine c_plain ?_
   refine p_val (v := .slice A2 bs2.length c2) rfl rfl (x_move rfl e41) ?_
   refine p_val (v := .int .i64 m) rfl rfl (x_move rfl e42) ?_
   refine p_val (v := .int .i64 (m % 128)) rfl rfl (x_rem rfl rfl rfl (by omega) (rem_of (by omega))) ?_
   refine p_val (v := .int .u8 (m % 128)) rfl rfl (x_convert cv_5_u8 un_3 rfl rfl (wrap_u8 (by omega) (by omega))) ?_
   refine p_val (v := .int .u8 (m % 128 + 128)) rfl rfl (x_add rfl rfl rfl (wrap_u8 (by omega) (by omega))) ?_
   refine p_buildSlice (cs := [.int .u8 (m % 128 + 128)]) el_46 rfl rfl rfl (parts1 rfl) (by decide) (by decide) (fill_ok [.int .u8 (m % 128 + 128)] [.int .u8 (m % 128 + 128)] rfl rfl) (fun w46 b47 x48 z49 => ?_)
   refine p_appendB (B := w0.heap.size) (bs := bs2) (nb := [UInt8.ofNat (m.toNat % 128 + 128)]) (m := 1) (ad := ⟨w44.heap.size, 0, none⟩) el_46 rfl rfl rfl rfl ((hb2.ext x45).ext x48) rfl rfl (Box.puts b47 (by simp only [cB, List.map_cons, List.map_nil, u8_hi hm0])) (by first | omega | (simp only [List.length_append, List.length_cons, List.length_nil]; omega)) (by first | omega | (simp only [List.length_append, List.length_cons, List.length_nil]; omega)) ((((((((hx0.trans x2).trans x4).below (Nat.le_refl _) x11.below).trans x29).trans x31).below (Nat.le_refl _) x33.below).trans x45).trans x48).size (fun A53 c54 w50 hb51 kp52 => ?_)
   refine p_val (v := .slice A53 (List.length (α := UInt8) (bs2 ++ [UInt8.ofNat (m.toNat % 128 + 128)])) c54) rfl rfl (x_assign rfl rfl) ?_
   refine p_nil ?_
   refine t_norm ?_
   refine c_quiet ?_
   refine q_val (v := .int .i64 m) rfl rfl (fun w' x' => x_move rfl e42) ?_
   refine q_val (v := .int .i64 (m / 128)) rfl rfl (fun w' x' => x_quo rfl rfl rfl (by omega) (quo_of (by omega) (by omega) (by omega))) ?_
   refine q_val (v := .int .i64 (m / 128)) rfl rfl (fun w' x' => x_assign rfl rfl) ?_
   refine q_nil (fun w55 x56 => ?_)
   refine b_norm ?_
   refine t_norm ?_
   exact ⟨_, rfl, ⟨bs2 ++ [UInt8.ofNat (m.toNat % 128 + 128)], m / 128, A53, c54, by omega, by omega, (by rw [List.append_assoc, List.singleton_append, ← enc_hi (by omega)]; exact he2), (hb51.ext x56), e34, e35, e36, e37, e38, e39, e40, rfl, rfl, ((((((Kept.refl _ _ _).trans x33).ext x45 ((((((hx0.trans x2).trans x4).below (Nat.le_refl _) x11.below).trans x29).trans x31).below (Nat.le_refl _) x33.below).size).ext x48 (((((((hx0.trans x2).trans x4).below (Nat.le_refl _) x11.below).trans x29).trans x31).below (Nat.le_refl _) x33.below).trans x45).size).trans kp52).ext x56 (((((((((hx0.trans x2).trans x4).below (Nat.le_refl _) x11.below).trans x29).trans x31).below (Nat.le_refl _) x33.below).trans x45).trans x48).below (Nat.le_refl _) kp52.below).size)⟩, meas_div e42 (by omega)⟩
  ·have c43' := of_decide_eq_false c43
   refine q_nil (fun w57 x58 => ?_)
   refine t_norm ?_
   refine c_false rfl ?_
   refine c_exit ?_
   refine t_exit (t_exit (b_exit (t_norm ?_)))
   refine c_plain ?_
   refine p_val (v := .slice A2 bs2.length c2) rfl rfl (x_move rfl e41) ?_
   refine p_val (v := .int .i64 m) rfl rfl (x_move rfl e42) ?_
   refine p_val (v := .int .u8 m) rfl rfl (x_convert cv_5_u8 un_3 rfl rfl (wrap_u8 (by omega) (by omega))) ?_
   refine p_buildSlice (cs := [.int .u8 m]) el_46 rfl rfl rfl (parts1 rfl) (by decide) (by decide) (fill_ok [.int .u8 m] [.int .u8 m] rfl rfl) (fun w59 b60 x61 z62 => ?_)
   refine p_appendB (B := w0.heap.size) (bs := bs2) (nb := [UInt8.ofNat m.toNat]) (m := 1) (ad := ⟨w57.heap.size, 0, none⟩) el_46 rfl rfl rfl rfl ((hb2.ext x58).ext x61) rfl rfl (Box.puts b60 (by simp only [cB, List.map_cons, List.map_nil, u8_lo hm0 (by omega)])) (by first | omega | (simp only [List.length_append, List.length_cons, List.length_nil]; omega)) (by first | omega | (simp only [List.length_append, List.length_cons, List.length_nil]; omega)) ((((((((hx0.trans x2).trans x4).below (Nat.le_refl _) x11.below).trans x29).trans x31).below (Nat.le_refl _) x33.below).trans x58).trans x61).size (fun A66 c67 w63 hb64 kp65 => ?_)
   refine p_val (v := .slice A66 (List.length (α := UInt8) (bs2 ++ [UInt8.ofNat m.toNat])) c67) rfl rfl (x_assign rfl rfl) ?_
   refine p_nil ?_
   refine b_norm (t_norm ?_)
   refine c_quiet ?_
   refine q_val (v := .int .i64 ((k5 : Int) + 1)) rfl rfl (fun w' x' => x_add rfl e37 rfl (wrap_of (by omega) (by omega))) ?_
   refine q_val (v := .int .i64 ((k5 : Int) + 1)) rfl rfl (fun w' x' => x_move rfl rfl) ?_
   refine q_nil (fun w68 x69 => ?_)
   refine t_norm ?_
   exact ⟨_, rfl, ⟨k5 + 1, A66, c67, by omega, (by rw [(show bs ++ encInts (l.take (k5 + 1)) = bs2 ++ [UInt8.ofNat m.toNat] from (by rw [← enc_lo hm0 (by omega)]; exact he2.symm))]; exact (hb64.ext x69)), e34, e35, e36, (by rw [(show bs ++ encInts (l.take (k5 + 1)) = bs2 ++ [UInt8.ofNat m.toNat] from (by rw [← enc_lo hm0 (by omega)]; exact he2.symm))]; exact rfl), rfl, (((((((((Kept.refl _ _ _).trans x11).ext x29 (((hx0.trans x2).trans x4).below (Nat.le_refl _) x11.below).size).ext x31 ((((hx0.trans x2).trans x4).below (Nat.le_refl _) x11.below).trans x29).size).trans x33).ext x58 ((((((hx0.trans x2).trans x4).below (Nat.le_refl _) x11.below).trans x29).trans x31).below (Nat.le_refl _) x33.below).size).ext x61 (((((((hx0.trans x2).trans x4).below (Nat.le_refl _) x11.below).trans x29).trans x31).below (Nat.le_refl _) x33.below).trans x58).size).trans kp65).ext x69 (((((((((hx0.trans x2).trans x4).below (Nat.le_refl _) x11.below).trans x29).trans x31).below (Nat.le_refl _) x33.below).trans x58).trans x61).below (Nat.le_refl _) kp65.below).size)⟩, meas_up e16 hl17⟩
 ·refine c_seq ?_
  refine c_quiet ?_
  refine q_val (v := .bool false) rfl rfl (fun w' x' => yb (x_lss rfl e16 e14) (decide_eq_false (by omega))) ?_
  refine q_nil (fun w70 x71 => ?_)
  refine t_norm ?_
  refine c_seq ?_
  refine c_false rfl ?_
  refine c_exit ?_
  refine t_exit (t_exit (b_exit (t_norm ?_)))
  refine c_seq ?_
  refine c_quiet ?_
  refine q_val (v := .slice A7 (List.length (α := UInt8) (bs ++ encInts (l.take k5))) c8) rfl rfl (fun w' x' => x_move rfl e15) ?_
  refine q_val (v := .slice A7 (List.length (α := UInt8) (bs ++ encInts (l.take k5))) c8) rfl rfl (fun w' x' => x_assign rfl rfl) ?_
  refine q_nil (fun w72 x73 => ?_)
  refine t_norm ?_
  refine c_ret ?_
  have he74 : (bs ++ encInts (l.take k5)) = bs ++ encInts l := by rw [List.take_of_length_le (by omega)]
  exact c_done rfl (v := .slice A7 (List.length (α := UInt8) (bs ++ encInts l)) c8) (by rw [← he74]; exact rfl) ⟨A7, c8, rfl, by rw [← he74]; exact ((hb9.ext x71).ext x73), ((((((Kept.refl _ _ _).ext x2 hx0.size).ext x4 (hx0.trans x2).size).trans x11).ext x71 (((hx0.trans x2).trans x4).below (Nat.le_refl _) x11.below).size).ext x73 ((((hx0.trans x2).trans x4).below (Nat.le_refl _) x11.below).trans x71).size)⟩

theorem C_numbers (w0 w : World) (hx0 : Ext w0 w) (A : Option Addr) (c : Nat) (bs : List UInt8) (hb : Byt w w0.heap.size 5 A c bs) (hk : bs.length ≤ 4398046511104) (gb T off lc m : Nat) (cs : List Value) (l : List Int) (hm : l.length = m) (hB : Box w gb T cs) (hT : T ≠ 5) (hl : ∀ (i : Nat) (x : Int), l[i]? = some x → cs[off + i]? = some (.int .i64 x)) (hp : ∀ x ∈ l, 0 ≤ x ∧ x ≤ 9223372036854775807) (hn : l.length ≤ 1000) :
    Calls Try.prog 38 #[.slice A bs.length c, .slice (some ⟨gb, off, none⟩) m lc] w (fun e w' => ∃ A' c', e = .returned (.slice A' (bs ++ encInts l).length c') ∧ Byt w' w0.heap.size 5 A' c' (bs ++ encInts l) ∧ Kept w0.heap.size 5 w w') := by subst hm; exact C_numbers0 w0 w hx0 A c bs hb hk gb T off lc cs l hB hT hl hp hn
theorem C_truth (w0 w : World) (hx0 : Ext w0 w) (A : Option Addr) (c : Nat) (bs : List UInt8) (hb : Byt w w0.heap.size 5 A c bs) (hk : bs.length ≤ 4398046511104) (z : Bool) :
    Calls Try.prog 60 #[.slice A bs.length c, .bool z] w (fun e w' => ∃ A' c', e = .returned (.slice A' (bs ++ encBool z).length c') ∧ Byt w' w0.heap.size 5 A' c' (bs ++ encBool z) ∧ Kept w0.heap.size 5 w w') := by
 refine c_enter (n := 12) Try.func60 rfl rfl rfl ?_
 refine c_seq ?_
 refine c_quiet ?_
 refine q_val (v := .slice none 0 0) rfl rfl (fun w' x' => x_assign rfl rfl) ?_
 refine q_nil (fun w1 x2 => ?_)
 refine t_norm ?_
 refine c_seq ?_
 refine c_seq ?_
 refine c_quiet ?_
 refine q_bool (b := z) rfl rfl (fun w' x' => x_move rfl rfl) (fun c3 => ?_) (fun c3 => ?_)
 ·refine q_nil (fun w4 x5 => ?_)
  refine t_norm ?_
  refine c_true rfl ?_
  refine c_seq ?_
  refine c_plain ?_
  refine p_val (v := .slice A bs.length c) rfl rfl (x_move rfl rfl) ?_
  refine p_buildSlice (cs := [.int .u8 1]) el_46 rfl rfl rfl (parts1 rfl) (by decide) (by decide) (fill_ok [.int .u8 1] [.int .u8 1] rfl rfl) (fun w6 b7 x8 z9 => ?_)
  refine p_appendB (B := w0.heap.size) (bs := bs) (nb := ([1] : List UInt8)) (m := 1) (ad := ⟨w4.heap.size, 0, none⟩) el_46 rfl rfl rfl rfl (((hb.ext x2).ext x5).ext x8) rfl rfl (Box.puts b7 rfl) (by first | omega | (simp only [List.length_append, List.length_cons, List.length_nil]; omega)) (by first | omega | (simp only [List.length_append, List.length_cons, List.length_nil]; omega)) (((hx0.trans x2).trans x5).trans x8).size (fun A13 c14 w10 hb11 kp12 => ?_)
  refine p_val (v := .slice A13 (List.length (α := UInt8) (bs ++ ([1] : List UInt8))) c14) rfl rfl (x_assign rfl rfl) ?_
  refine p_nil ?_
  refine t_norm ?_
  refine c_ret ?_
  refine t_ret ?_
  have he15 : bs ++ ([1] : List UInt8) = bs ++ encBool z := by simp_all [encBool]
  exact c_done rfl (v := .slice A13 (List.length (α := UInt8) (bs ++ encBool z)) c14) (by rw [← he15]; exact rfl) ⟨A13, c14, rfl, by rw [← he15]; exact hb11, (((((Kept.refl _ _ _).ext x2 hx0.size).ext x5 (hx0.trans x2).size).ext x8 ((hx0.trans x2).trans x5).size).trans kp12)⟩
 ·refine q_nil (fun w16 x17 => ?_)
  refine t_norm ?_
  refine c_false rfl ?_
  refine c_skip ?_
  refine t_norm ?_
  refine c_seq ?_
  refine c_plain ?_
  refine p_val (v := .slice A bs.length c) rfl rfl (x_move rfl rfl) ?_
  refine p_buildSlice (cs := [.int .u8 0]) el_46 rfl rfl rfl (parts1 rfl) (by decide) (by decide) (fill_ok [.int .u8 0] [.int .u8 0] rfl rfl) (fun w18 b19 x20 z21 => ?_)
  refine p_appendB (B := w0.heap.size) (bs := bs) (nb := ([0] : List UInt8)) (m := 1) (ad := ⟨w16.heap.size, 0, none⟩) el_46 rfl rfl rfl rfl (((hb.ext x2).ext x17).ext x20) rfl rfl (Box.puts b19 rfl) (by first | omega | (simp only [List.length_append, List.length_cons, List.length_nil]; omega)) (by first | omega | (simp only [List.length_append, List.length_cons, List.length_nil]; omega)) (((hx0.trans x2).trans x17).trans x20).size (fun A25 c26 w22 hb23 kp24 => ?_)
  refine p_val (v := .slice A25 (List.length (α := UInt8) (bs ++ ([0] : List UInt8))) c26) rfl rfl (x_assign rfl rfl) ?_
  refine p_nil ?_
  refine t_norm ?_
  refine c_ret ?_
  have he27 : bs ++ ([0] : List UInt8) = bs ++ encBool z := by simp_all [encBool]
  exact c_done rfl (v := .slice A25 (List.length (α := UInt8) (bs ++ encBool z)) c26) (by rw [← he27]; exact rfl) ⟨A25, c26, rfl, by rw [← he27]; exact hb23, (((((Kept.refl _ _ _).ext x2 hx0.size).ext x17 (hx0.trans x2).size).ext x20 ((hx0.trans x2).trans x17).size).trans kp24)⟩

theorem C_text (w0 w : World) (hx0 : Ext w0 w) (A : Option Addr) (c : Nat) (bs : List UInt8) (hb : Byt w w0.heap.size 5 A c bs) (hk : bs.length ≤ 4398046511104) (z : ByteArray) (hz : z.size ≤ 1000) :
    Calls Try.prog 59 #[.slice A bs.length c, .string z] w (fun e w' => ∃ A' c', e = .returned (.slice A' (bs ++ encStr z).length c') ∧ Byt w' w0.heap.size 5 A' c' (bs ++ encStr z) ∧ Kept w0.heap.size 5 w w') := by
 have hq := encInts_len [(z.size : Int)] (by intro x hx; simp only [List.mem_cons, List.not_mem_nil, or_false] at hx; omega)
 simp only [List.length_cons, List.length_nil] at hq
 refine c_enter (n := 12) Try.func59 rfl rfl rfl ?_
 refine c_seq ?_
 refine c_quiet ?_
 refine q_val (v := .slice none 0 0) rfl rfl (fun w' x' => x_assign rfl rfl) ?_
 refine q_nil (fun w1 x2 => ?_)
 refine t_norm ?_
 refine c_seq ?_
 refine c_plain ?_
 refine p_val (v := .slice A bs.length c) rfl rfl (x_move rfl rfl) ?_
 refine p_val (v := .string z) rfl rfl (x_move rfl rfl) ?_
 refine p_val (v := .int .i64 (z.size : Int)) rfl rfl (x_len_string str_9 rfl rfl) ?_
 refine p_buildSlice (cs := [.int .i64 (z.size : Int)]) el_83 rfl rfl rfl (parts1 rfl) (by decide) (by decide) (fill_ok [.int .i64 (z.size : Int)] [.int .i64 (z.size : Int)] rfl rfl) (fun w3 b4 x5 z6 => ?_)
 refine p_call (vs := #[.slice A bs.length c, .slice (some ⟨w1.heap.size, 0, none⟩) 1 1]) fn_38 rfl rfl rfl (args2 rfl rfl) ?_
 refine (C_numbers _ _ ((hx0.trans x2).trans x5) A c bs ((hb.ext x2).ext x5) (by first | omega | (simp only [List.length_append, List.length_cons, List.length_nil]; omega)) w1.heap.size 3 0 1 1 [.int .i64 (z.size : Int)] [(z.size : Int)] rfl b4 (by decide) (ints_at rfl) (by intro x hx; simp only [List.mem_cons, List.not_mem_nil, or_false] at hx; omega) (by simp)).mono ?_
 rintro e w7 ⟨A10, c11, rfl, hb8, kp9⟩
 refine ⟨_, rfl, ?_⟩
 refine p_val (v := .string z) rfl rfl (x_move rfl rfl) ?_
 refine p_appendT (B := w0.heap.size) (bs := bs ++ encInts ([(z.size : Int)])) (z := z) el_46 istr_9 u8_5 rfl rfl rfl rfl hb8 rfl (by first | omega | (simp only [List.length_append, List.length_cons, List.length_nil]; omega)) (((hx0.trans x2).trans x5).below (Nat.le_refl _) kp9.below).size (fun A15 c16 w12 hb13 kp14 => ?_)
 refine p_val (v := .slice A15 (List.length (α := UInt8) (bs ++ encInts ([(z.size : Int)]) ++ z.toList)) c16) rfl rfl (x_assign rfl rfl) ?_
 refine p_nil ?_
 refine t_norm ?_
 refine c_ret ?_
 have he17 : bs ++ encInts ([(z.size : Int)]) ++ z.toList = bs ++ encStr z := by simp [encStr, encInts, encInt]
 exact c_done rfl (v := .slice A15 (List.length (α := UInt8) (bs ++ encStr z)) c16) (by rw [← he17]; exact rfl) ⟨A15, c16, rfl, by rw [← he17]; exact hb13, (((((Kept.refl _ _ _).ext x2 hx0.size).ext x5 (hx0.trans x2).size).trans kp9).trans kp14)⟩

set_option maxHeartbeats 4000000 in
theorem C_putCommand (w0 w : World) (hx0 : Ext w0 w) (A : Option Addr) (c_ : Nat) (bs : List UInt8) (hb : Byt w w0.heap.size 5 A c_ bs) (hk : bs.length ≤ 1099511627776) (c : Cmd) (p : Ptr) (hc : CmdAt w0 c p) (hg : GoodCmd c) :
    Calls Try.prog 36 #[.slice A bs.length c_, vCmd c p] w (fun e w' => ∃ A' c', e = .returned (.slice A' (bs ++ encCmd c).length c') ∧ Byt w' w0.heap.size 5 A' c' (bs ++ encCmd c) ∧ Kept w0.heap.size 5 w w') := by
 have hn := hg.nums
 have hr8 := hg.rn
 have hw8 := hg.wn
 have hh := head_len hg
 have hcl := count_len hg
 have hrl := reads_len hg c.reads.length
 rw [List.take_length] at hrl
 have hwl := writes_len hg c.writes.length
 rw [List.take_length] at hwl
 refine c_enter (n := 78) Try.func36 rfl rfl rfl ?_
 refine c_seq ?_
 refine c_plain ?_
 refine p_box rfl rfl rfl rfl (fun w1 b2 x3 z4 => ?_)
 refine p_val (v := .slice none 0 0) rfl rfl (x_assign rfl rfl) ?_
 refine p_nil ?_
 refine t_norm ?_
 refine c_seq ?_
 refine c_meet (fun ρ w5 => ∃ (A6 : Option Addr), ∃ (c7 : Nat), ρ 0 = .slice A6 (List.length (α := UInt8) (bs ++ ([1] : List UInt8) ++ encInts ([c.kind, c.txn.client, c.txn.number, c.stp.time, c.stp.client, c.shards, (c.reads.length : Int)]))) c7 ∧ ρ 3 = .pointer (some (⟨w.heap.size, 0, none⟩)) ∧ ρ 4 = .slice none 0 0 ∧ Byt w5 w0.heap.size 5 A6 c7 (bs ++ ([1] : List UInt8) ++ encInts ([c.kind, c.txn.client, c.txn.number, c.stp.time, c.stp.client, c.shards, (c.reads.length : Int)])) ∧ Kept w0.heap.size 5 w1 w5) ?_ ?_
 ·refine c_drawn mixed (by kernel_rfl) (fun _ _ _ _ _ h => h) (fun v1 v2 => Kept w0.heap.size 5 v1 v2) 25 rfl (fun w13 x14 z15 => ?_)
  refine d_take (v := .slice A bs.length c_) (i := 0) (d := 9) (L' := [true, false, false, false, false, false, false, false, false, false, false, false, false, false, false, false, false, false, false, false, false, false, false, false, false]) rfl (by kernel_rfl) rfl (Kept.refl _ _ _) (fun w' s' => x_move rfl rfl) ?_
  refine d_take (v := .pointer (some (⟨w.heap.size, 0, none⟩))) (i := 3) (d := 12) (L' := [true, false, false, true, false, false, false, false, false, false, false, false, false, false, false, false, false, false, false, false, false, false, false, false, false]) rfl (by kernel_rfl) rfl (Kept.refl _ _ _) (fun w' s' => x_fieldAddr fld_33_0 rfl rfl rfl) ?_
  refine d_take (v := .int .i64 c.kind) (i := 4) (d := 13) (L' := [true, false, false, true, true, false, false, false, false, false, false, false, false, false, false, false, false, false, false, false, false, false, false, false, false]) rfl (by kernel_rfl) rfl (Kept.refl _ _ _) (fun w' s' => x_load rfl rfl (((b2.ext x14).kept s' (by decide)).one one_3 rfl)) ?_
  refine d_take (v := .pointer (some (⟨w.heap.size, 1, none⟩))) (i := 5) (d := 14) (L' := [true, false, false, true, true, true, false, false, false, false, false, false, false, false, false, false, false, false, false, false, false, false, false, false, false]) rfl (by kernel_rfl) rfl (Kept.refl _ _ _) (fun w' s' => x_fieldAddr fld_33_1 rfl rfl rfl) ?_
  refine d_take (v := .pointer (some (⟨w.heap.size, 1, none⟩))) (i := 6) (d := 15) (L' := [true, false, false, true, true, true, true, false, false, false, false, false, false, false, false, false, false, false, false, false, false, false, false, false, false]) rfl (by kernel_rfl) rfl (Kept.refl _ _ _) (fun w' s' => x_fieldAddr fld_27_0 rfl rfl rfl) ?_
  refine d_take (v := .int .i64 c.txn.client) (i := 7) (d := 16) (L' := [true, false, false, true, true, true, true, true, false, false, false, false, false, false, false, false, false, false, false, false, false, false, false, false, false]) rfl (by kernel_rfl) rfl (Kept.refl _ _ _) (fun w' s' => x_load rfl rfl (((b2.ext x14).kept s' (by decide)).one one_3 rfl)) ?_
  refine d_take (v := .pointer (some (⟨w.heap.size, 1, none⟩))) (i := 8) (d := 17) (L' := [true, false, false, true, true, true, true, true, true, false, false, false, false, false, false, false, false, false, false, false, false, false, false, false, false]) rfl (by kernel_rfl) rfl (Kept.refl _ _ _) (fun w' s' => x_fieldAddr fld_33_1 rfl rfl rfl) ?_
  refine d_take (v := .pointer (some (⟨w.heap.size, 2, none⟩))) (i := 9) (d := 18) (L' := [true, false, false, true, true, true, true, true, true, true, false, false, false, false, false, false, false, false, false, false, false, false, false, false, false]) rfl (by kernel_rfl) rfl (Kept.refl _ _ _) (fun w' s' => x_fieldAddr fld_27_1 rfl rfl rfl) ?_
  refine d_take (v := .int .i64 c.txn.number) (i := 10) (d := 19) (L' := [true, false, false, true, true, true, true, true, true, true, true, false, false, false, false, false, false, false, false, false, false, false, false, false, false]) rfl (by kernel_rfl) rfl (Kept.refl _ _ _) (fun w' s' => x_load rfl rfl (((b2.ext x14).kept s' (by decide)).one one_3 rfl)) ?_
  refine d_take (v := .pointer (some (⟨w.heap.size, 3, none⟩))) (i := 11) (d := 20) (L' := [true, false, false, true, true, true, true, true, true, true, true, true, false, false, false, false, false, false, false, false, false, false, false, false, false]) rfl (by kernel_rfl) rfl (Kept.refl _ _ _) (fun w' s' => x_fieldAddr fld_33_2 rfl rfl rfl) ?_
  refine d_take (v := .pointer (some (⟨w.heap.size, 3, none⟩))) (i := 12) (d := 21) (L' := [true, false, false, true, true, true, true, true, true, true, true, true, true, false, false, false, false, false, false, false, false, false, false, false, false]) rfl (by kernel_rfl) rfl (Kept.refl _ _ _) (fun w' s' => x_fieldAddr fld_29_0 rfl rfl rfl) ?_
  refine d_take (v := .int .i64 c.stp.time) (i := 13) (d := 22) (L' := [true, false, false, true, true, true, true, true, true, true, true, true, true, true, false, false, false, false, false, false, false, false, false, false, false]) rfl (by kernel_rfl) rfl (Kept.refl _ _ _) (fun w' s' => x_load rfl rfl (((b2.ext x14).kept s' (by decide)).one one_3 rfl)) ?_
  refine d_take (v := .pointer (some (⟨w.heap.size, 3, none⟩))) (i := 14) (d := 23) (L' := [true, false, false, true, true, true, true, true, true, true, true, true, true, true, true, false, false, false, false, false, false, false, false, false, false]) rfl (by kernel_rfl) rfl (Kept.refl _ _ _) (fun w' s' => x_fieldAddr fld_33_2 rfl rfl rfl) ?_
  refine d_take (v := .pointer (some (⟨w.heap.size, 4, none⟩))) (i := 15) (d := 24) (L' := [true, false, false, true, true, true, true, true, true, true, true, true, true, true, true, true, false, false, false, false, false, false, false, false, false]) rfl (by kernel_rfl) rfl (Kept.refl _ _ _) (fun w' s' => x_fieldAddr fld_29_1 rfl rfl rfl) ?_
  refine d_take (v := .int .i64 c.stp.client) (i := 16) (d := 25) (L' := [true, false, false, true, true, true, true, true, true, true, true, true, true, true, true, true, true, false, false, false, false, false, false, false, false]) rfl (by kernel_rfl) rfl (Kept.refl _ _ _) (fun w' s' => x_load rfl rfl (((b2.ext x14).kept s' (by decide)).one one_3 rfl)) ?_
  refine d_take (v := .pointer (some (⟨w.heap.size, 5, none⟩))) (i := 17) (d := 26) (L' := [true, false, false, true, true, true, true, true, true, true, true, true, true, true, true, true, true, true, false, false, false, false, false, false, false]) rfl (by kernel_rfl) rfl (Kept.refl _ _ _) (fun w' s' => x_fieldAddr fld_33_3 rfl rfl rfl) ?_
  refine d_take (v := .int .i64 c.shards) (i := 18) (d := 27) (L' := [true, false, false, true, true, true, true, true, true, true, true, true, true, true, true, true, true, true, true, false, false, false, false, false, false]) rfl (by kernel_rfl) rfl (Kept.refl _ _ _) (fun w' s' => x_load rfl rfl (((b2.ext x14).kept s' (by decide)).one one_3 rfl)) ?_
  refine d_take (v := .pointer (some (⟨w.heap.size, 6, none⟩))) (i := 19) (d := 28) (L' := [true, false, false, true, true, true, true, true, true, true, true, true, true, true, true, true, true, true, true, true, false, false, false, false, false]) rfl (by kernel_rfl) rfl (Kept.refl _ _ _) (fun w' s' => x_fieldAddr fld_33_4 rfl rfl rfl) ?_
  refine d_take (v := .slice p.A c.reads.length p.n) (i := 20) (d := 29) (L' := [true, false, false, true, true, true, true, true, true, true, true, true, true, true, true, true, true, true, true, true, true, false, false, false, false]) rfl (by kernel_rfl) rfl (Kept.refl _ _ _) (fun w' s' => x_load rfl rfl (((b2.ext x14).kept s' (by decide)).one one_30 rfl)) ?_
  refine d_take (v := .int .i64 (c.reads.length : Int)) (i := 21) (d := 30) (L' := [true, false, false, true, true, true, true, true, true, true, true, true, true, true, true, true, true, true, true, true, true, true, false, false, false]) rfl (by kernel_rfl) rfl (Kept.refl _ _ _) (fun w' s' => x_len_slice sl_30 rfl rfl) ?_
  refine d_act2 (i := 1) (j := 22) (L' := [true, true, false, true, true, true, true, true, true, true, true, true, true, true, true, true, true, true, true, true, true, true, false, false, false]) (L'' := [true, false, false, true, true, true, true, true, true, true, true, true, true, true, true, true, true, true, true, true, true, true, true, false, false]) (by kernel_rfl) rfl rfl rfl rfl ?_ ?_
  ·refine p_buildSlice (cs := [.int .u8 1]) el_46 rfl rfl rfl (parts1 rfl) (by decide) (by decide) (fill_ok [.int .u8 1] [.int .u8 1] rfl rfl) (fun w16 b17 x18 z19 => ?_)
   refine d_next ((Kept.refl _ _ _).ext x18 ((hx0.trans x3).trans x14).size) ?_
   refine d_act2 (i := 2) (j := 22) (L' := [true, true, true, true, true, true, true, true, true, true, true, true, true, true, true, true, true, true, true, true, true, true, false, false, false]) (L'' := [true, true, false, true, true, true, true, true, true, true, true, true, true, true, true, true, true, true, true, true, true, true, true, false, false]) (by kernel_rfl) rfl rfl rfl rfl ?_ ?_
   ·refine p_appendB (B := w0.heap.size) (bs := bs) (nb := ([1] : List UInt8)) (m := 1) (ad := ⟨w13.heap.size, 0, none⟩) el_46 rfl rfl rfl rfl (((hb.ext x3).ext x14).ext x18) rfl rfl (Box.puts b17 rfl) (by first | omega | (simp only [List.length_append, List.length_cons, List.length_nil]; omega)) (by first | omega | (simp only [List.length_append, List.length_cons, List.length_nil]; omega)) (((hx0.trans x3).trans x14).trans x18).size (fun A23 c24 w20 hb21 kp22 => ?_)
    refine d_next (((Kept.refl _ _ _).ext x18 ((hx0.trans x3).trans x14).size).trans kp22) ?_
    refine d_act1 (i := 22) (L' := [true, true, true, true, true, true, true, true, true, true, true, true, true, true, true, true, true, true, true, true, true, true, true, false, false]) (by kernel_rfl) rfl rfl ?_
    refine p_buildSlice (cs := [.int .i64 c.kind, .int .i64 c.txn.client, .int .i64 c.txn.number, .int .i64 c.stp.time, .int .i64 c.stp.client, .int .i64 c.shards, .int .i64 (c.reads.length : Int)]) el_83 rfl rfl rfl (parts7 rfl rfl rfl rfl rfl rfl rfl) (by decide) (by decide) (fill_ok [.int .i64 c.kind, .int .i64 c.txn.client, .int .i64 c.txn.number, .int .i64 c.stp.time, .int .i64 c.stp.client, .int .i64 c.shards, .int .i64 (c.reads.length : Int)] [.int .i64 c.kind, .int .i64 c.txn.client, .int .i64 c.txn.number, .int .i64 c.stp.time, .int .i64 c.stp.client, .int .i64 c.shards, .int .i64 (c.reads.length : Int)] rfl rfl) (fun w25 b26 x27 z28 => ?_)
    refine d_next ((((Kept.refl _ _ _).ext x18 ((hx0.trans x3).trans x14).size).trans kp22).ext x27 ((((hx0.trans x3).trans x14).trans x18).below (Nat.le_refl _) kp22.below).size) ?_
    refine d_act1 (i := 23) (L' := [true, true, true, true, true, true, true, true, true, true, true, true, true, true, true, true, true, true, true, true, true, true, true, true, false]) (by kernel_rfl) rfl rfl ?_
    refine p_call (vs := #[.slice A23 (List.length (α := UInt8) (bs ++ ([1] : List UInt8))) c24, .slice (some ⟨w20.heap.size, 0, none⟩) 7 7]) fn_38 rfl rfl rfl (args2 rfl rfl) ?_
    refine (C_numbers _ _ (((((hx0.trans x3).trans x14).trans x18).below (Nat.le_refl _) kp22.below).trans x27) A23 c24 (bs ++ ([1] : List UInt8)) (hb21.ext x27) (by first | omega | (simp only [List.length_append, List.length_cons, List.length_nil]; omega)) w20.heap.size 3 0 7 7 [.int .i64 c.kind, .int .i64 c.txn.client, .int .i64 c.txn.number, .int .i64 c.stp.time, .int .i64 c.stp.client, .int .i64 c.shards, .int .i64 (c.reads.length : Int)] [c.kind, c.txn.client, c.txn.number, c.stp.time, c.stp.client, c.shards, (c.reads.length : Int)] rfl b26 (by decide) (ints_at rfl) (by intro x hx; simp only [List.mem_cons, List.not_mem_nil, or_false] at hx; omega) (by simp)).mono ?_
    rintro e w29 ⟨A32, c33, rfl, hb30, kp31⟩
    refine ⟨_, rfl, ?_⟩
    refine d_next (((((Kept.refl _ _ _).ext x18 ((hx0.trans x3).trans x14).size).trans kp22).ext x27 ((((hx0.trans x3).trans x14).trans x18).below (Nat.le_refl _) kp22.below).size).trans kp31) ?_
    refine d_take (v := .slice A32 (List.length (α := UInt8) (bs ++ ([1] : List UInt8) ++ encInts ([c.kind, c.txn.client, c.txn.number, c.stp.time, c.stp.client, c.shards, (c.reads.length : Int)]))) c33) (i := 24) (d := 0) (L' := [true, true, true, true, true, true, true, true, true, true, true, true, true, true, true, true, true, true, true, true, true, true, true, true, true]) rfl (by kernel_rfl) rfl (((((Kept.refl _ _ _).ext x18 ((hx0.trans x3).trans x14).size).trans kp22).ext x27 ((((hx0.trans x3).trans x14).trans x18).below (Nat.le_refl _) kp22.below).size).trans kp31) (fun w' s' => x_assign rfl rfl) ?_
    refine d_end (by kernel_rfl) ?_
    exact t_norm ⟨_, rfl, A32, c33, rfl, rfl, rfl, hb30, ((((((Kept.refl _ _ _).ext x14 (hx0.trans x3).size).ext x18 ((hx0.trans x3).trans x14).size).trans kp22).ext x27 ((((hx0.trans x3).trans x14).trans x18).below (Nat.le_refl _) kp22.below).size).trans kp31)⟩
   ·refine p_buildSlice (cs := [.int .i64 c.kind, .int .i64 c.txn.client, .int .i64 c.txn.number, .int .i64 c.stp.time, .int .i64 c.stp.client, .int .i64 c.shards, .int .i64 (c.reads.length : Int)]) el_83 rfl rfl rfl (parts7 rfl rfl rfl rfl rfl rfl rfl) (by decide) (by decide) (fill_ok [.int .i64 c.kind, .int .i64 c.txn.client, .int .i64 c.txn.number, .int .i64 c.stp.time, .int .i64 c.stp.client, .int .i64 c.shards, .int .i64 (c.reads.length : Int)] [.int .i64 c.kind, .int .i64 c.txn.client, .int .i64 c.txn.number, .int .i64 c.stp.time, .int .i64 c.stp.client, .int .i64 c.shards, .int .i64 (c.reads.length : Int)] rfl rfl) (fun w34 b35 x36 z37 => ?_)
    refine d_next (((Kept.refl _ _ _).ext x18 ((hx0.trans x3).trans x14).size).ext x36 (((hx0.trans x3).trans x14).trans x18).size) ?_
    refine d_act1 (i := 2) (L' := [true, true, true, true, true, true, true, true, true, true, true, true, true, true, true, true, true, true, true, true, true, true, true, false, false]) (by kernel_rfl) rfl rfl ?_
    refine p_appendB (B := w0.heap.size) (bs := bs) (nb := ([1] : List UInt8)) (m := 1) (ad := ⟨w13.heap.size, 0, none⟩) el_46 rfl rfl rfl rfl ((((hb.ext x3).ext x14).ext x18).ext x36) rfl rfl (Box.puts (b17.ext x36) rfl) (by first | omega | (simp only [List.length_append, List.length_cons, List.length_nil]; omega)) (by first | omega | (simp only [List.length_append, List.length_cons, List.length_nil]; omega)) ((((hx0.trans x3).trans x14).trans x18).trans x36).size (fun A41 c42 w38 hb39 kp40 => ?_)
    refine d_next ((((Kept.refl _ _ _).ext x18 ((hx0.trans x3).trans x14).size).ext x36 (((hx0.trans x3).trans x14).trans x18).size).trans kp40) ?_
    refine d_act1 (i := 23) (L' := [true, true, true, true, true, true, true, true, true, true, true, true, true, true, true, true, true, true, true, true, true, true, true, true, false]) (by kernel_rfl) rfl rfl ?_
    refine p_call (vs := #[.slice A41 (List.length (α := UInt8) (bs ++ ([1] : List UInt8))) c42, .slice (some ⟨w16.heap.size, 0, none⟩) 7 7]) fn_38 rfl rfl rfl (args2 rfl rfl) ?_
    refine (C_numbers _ _ (((((hx0.trans x3).trans x14).trans x18).trans x36).below (Nat.le_refl _) kp40.below) A41 c42 (bs ++ ([1] : List UInt8)) hb39 (by first | omega | (simp only [List.length_append, List.length_cons, List.length_nil]; omega)) w16.heap.size 3 0 7 7 [.int .i64 c.kind, .int .i64 c.txn.client, .int .i64 c.txn.number, .int .i64 c.stp.time, .int .i64 c.stp.client, .int .i64 c.shards, .int .i64 (c.reads.length : Int)] [c.kind, c.txn.client, c.txn.number, c.stp.time, c.stp.client, c.shards, (c.reads.length : Int)] rfl (b35.kept kp40 (by decide)) (by decide) (ints_at rfl) (by intro x hx; simp only [List.mem_cons, List.not_mem_nil, or_false] at hx; omega) (by simp)).mono ?_
    rintro e w43 ⟨A46, c47, rfl, hb44, kp45⟩
    refine ⟨_, rfl, ?_⟩
    refine d_next (((((Kept.refl _ _ _).ext x18 ((hx0.trans x3).trans x14).size).ext x36 (((hx0.trans x3).trans x14).trans x18).size).trans kp40).trans kp45) ?_
    refine d_take (v := .slice A46 (List.length (α := UInt8) (bs ++ ([1] : List UInt8) ++ encInts ([c.kind, c.txn.client, c.txn.number, c.stp.time, c.stp.client, c.shards, (c.reads.length : Int)]))) c47) (i := 24) (d := 0) (L' := [true, true, true, true, true, true, true, true, true, true, true, true, true, true, true, true, true, true, true, true, true, true, true, true, true]) rfl (by kernel_rfl) rfl (((((Kept.refl _ _ _).ext x18 ((hx0.trans x3).trans x14).size).ext x36 (((hx0.trans x3).trans x14).trans x18).size).trans kp40).trans kp45) (fun w' s' => x_assign rfl rfl) ?_
    refine d_end (by kernel_rfl) ?_
    exact t_norm ⟨_, rfl, A46, c47, rfl, rfl, rfl, hb44, ((((((Kept.refl _ _ _).ext x14 (hx0.trans x3).size).ext x18 ((hx0.trans x3).trans x14).size).ext x36 (((hx0.trans x3).trans x14).trans x18).size).trans kp40).trans kp45)⟩
  ·refine p_buildSlice (cs := [.int .i64 c.kind, .int .i64 c.txn.client, .int .i64 c.txn.number, .int .i64 c.stp.time, .int .i64 c.stp.client, .int .i64 c.shards, .int .i64 (c.reads.length : Int)]) el_83 rfl rfl rfl (parts7 rfl rfl rfl rfl rfl rfl rfl) (by decide) (by decide) (fill_ok [.int .i64 c.kind, .int .i64 c.txn.client, .int .i64 c.txn.number, .int .i64 c.stp.time, .int .i64 c.stp.client, .int .i64 c.shards, .int .i64 (c.reads.length : Int)] [.int .i64 c.kind, .int .i64 c.txn.client, .int .i64 c.txn.number, .int .i64 c.stp.time, .int .i64 c.stp.client, .int .i64 c.shards, .int .i64 (c.reads.length : Int)] rfl rfl) (fun w48 b49 x50 z51 => ?_)
   refine d_next ((Kept.refl _ _ _).ext x50 ((hx0.trans x3).trans x14).size) ?_
   refine d_act1 (i := 1) (L' := [true, true, false, true, true, true, true, true, true, true, true, true, true, true, true, true, true, true, true, true, true, true, true, false, false]) (by kernel_rfl) rfl rfl ?_
   refine p_buildSlice (cs := [.int .u8 1]) el_46 rfl rfl rfl (parts1 rfl) (by decide) (by decide) (fill_ok [.int .u8 1] [.int .u8 1] rfl rfl) (fun w52 b53 x54 z55 => ?_)
   refine d_next (((Kept.refl _ _ _).ext x50 ((hx0.trans x3).trans x14).size).ext x54 (((hx0.trans x3).trans x14).trans x50).size) ?_
   refine d_act1 (i := 2) (L' := [true, true, true, true, true, true, true, true, true, true, true, true, true, true, true, true, true, true, true, true, true, true, true, false, false]) (by kernel_rfl) rfl rfl ?_
   refine p_appendB (B := w0.heap.size) (bs := bs) (nb := ([1] : List UInt8)) (m := 1) (ad := ⟨w48.heap.size, 0, none⟩) el_46 rfl rfl rfl rfl ((((hb.ext x3).ext x14).ext x50).ext x54) rfl rfl (Box.puts b53 rfl) (by first | omega | (simp only [List.length_append, List.length_cons, List.length_nil]; omega)) (by first | omega | (simp only [List.length_append, List.length_cons, List.length_nil]; omega)) ((((hx0.trans x3).trans x14).trans x50).trans x54).size (fun A59 c60 w56 hb57 kp58 => ?_)
   refine d_next ((((Kept.refl _ _ _).ext x50 ((hx0.trans x3).trans x14).size).ext x54 (((hx0.trans x3).trans x14).trans x50).size).trans kp58) ?_
   refine d_act1 (i := 23) (L' := [true, true, true, true, true, true, true, true, true, true, true, true, true, true, true, true, true, true, true, true, true, true, true, true, false]) (by kernel_rfl) rfl rfl ?_
   refine p_call (vs := #[.slice A59 (List.length (α := UInt8) (bs ++ ([1] : List UInt8))) c60, .slice (some ⟨w13.heap.size, 0, none⟩) 7 7]) fn_38 rfl rfl rfl (args2 rfl rfl) ?_
   refine (C_numbers _ _ (((((hx0.trans x3).trans x14).trans x50).trans x54).below (Nat.le_refl _) kp58.below) A59 c60 (bs ++ ([1] : List UInt8)) hb57 (by first | omega | (simp only [List.length_append, List.length_cons, List.length_nil]; omega)) w13.heap.size 3 0 7 7 [.int .i64 c.kind, .int .i64 c.txn.client, .int .i64 c.txn.number, .int .i64 c.stp.time, .int .i64 c.stp.client, .int .i64 c.shards, .int .i64 (c.reads.length : Int)] [c.kind, c.txn.client, c.txn.number, c.stp.time, c.stp.client, c.shards, (c.reads.length : Int)] rfl ((b49.ext x54).kept kp58 (by decide)) (by decide) (ints_at rfl) (by intro x hx; simp only [List.mem_cons, List.not_mem_nil, or_false] at hx; omega) (by simp)).mono ?_
   rintro e w61 ⟨A64, c65, rfl, hb62, kp63⟩
   refine ⟨_, rfl, ?_⟩
   refine d_next (((((Kept.refl _ _ _).ext x50 ((hx0.trans x3).trans x14).size).ext x54 (((hx0.trans x3).trans x14).trans x50).size).trans kp58).trans kp63) ?_
   refine d_take (v := .slice A64 (List.length (α := UInt8) (bs ++ ([1] : List UInt8) ++ encInts ([c.kind, c.txn.client, c.txn.number, c.stp.time, c.stp.client, c.shards, (c.reads.length : Int)]))) c65) (i := 24) (d := 0) (L' := [true, true, true, true, true, true, true, true, true, true, true, true, true, true, true, true, true, true, true, true, true, true, true, true, true]) rfl (by kernel_rfl) rfl (((((Kept.refl _ _ _).ext x50 ((hx0.trans x3).trans x14).size).ext x54 (((hx0.trans x3).trans x14).trans x50).size).trans kp58).trans kp63) (fun w' s' => x_assign rfl rfl) ?_
   refine d_end (by kernel_rfl) ?_
   exact t_norm ⟨_, rfl, A64, c65, rfl, rfl, rfl, hb62, ((((((Kept.refl _ _ _).ext x14 (hx0.trans x3).size).ext x50 ((hx0.trans x3).trans x14).size).ext x54 (((hx0.trans x3).trans x14).trans x50).size).trans kp58).trans kp63)⟩
 ·rintro ρ w5 ⟨A6, c7, e9, e10, e11, hb8, kp12⟩
  refine t_norm ?_
  refine c_seq ?_
  refine c_seq ?_
  refine c_quiet ?_
  refine q_val (v := .pointer (some (⟨w.heap.size, 6, none⟩))) rfl rfl (fun w' x' => x_fieldAddr fld_33_4 rfl e10 rfl) ?_
  refine q_val (v := .slice p.A c.reads.length p.n) rfl rfl (fun w' x' => x_load rfl rfl (((b2.kept kp12 (by decide)).ext x').one one_30 rfl)) ?_
  refine q_val (v := .int .i64 (c.reads.length : Int)) rfl rfl (fun w' x' => x_len_slice sl_30 rfl rfl) ?_
  refine q_val (v := .int .i64 0) rfl rfl (fun w' x' => x_move rfl rfl) ?_
  refine q_nil (fun w66 x67 => ?_)
  refine t_norm ?_
  refine c_block ?_
  refine c_loop (fun ρ w73 => ∃ k68 : Nat, ∃ A70 : Option Addr, ∃ c71 : Nat, k68 ≤ c.reads.length ∧ Byt w73 w0.heap.size 5 A70 c71 (bs ++ [1] ++ encInts [c.kind, c.txn.client, c.txn.number, c.stp.time, c.stp.client, c.shards, (c.reads.length : Int)] ++ (c.reads.take k68).flatMap encRd) ∧ ρ 3 = .pointer (some (⟨w.heap.size, 0, none⟩)) ∧ ρ 4 = .slice none 0 0 ∧ ρ 34 = .slice p.A c.reads.length p.n ∧ ρ 35 = .int .i64 (c.reads.length : Int) ∧ ρ 0 = .slice A70 (List.length (α := UInt8) (bs ++ [1] ++ encInts [c.kind, c.txn.client, c.txn.number, c.stp.time, c.stp.client, c.shards, (c.reads.length : Int)] ++ (c.reads.take k68).flatMap encRd)) c71 ∧ ρ 36 = .int .i64 (k68 : Int) ∧ Kept w0.heap.size 5 w66 w73) (fun ρ _ => c.reads.length - (intOf (ρ 36)).toNat) ⟨0, A6, c7, Nat.zero_le _, (by rw [show bs ++ [1] ++ encInts [c.kind, c.txn.client, c.txn.number, c.stp.time, c.stp.client, c.shards, (c.reads.length : Int)] ++ (c.reads.take 0).flatMap encRd = bs ++ ([1] : List UInt8) ++ encInts ([c.kind, c.txn.client, c.txn.number, c.stp.time, c.stp.client, c.shards, (c.reads.length : Int)]) from (by simp)]; exact (hb8.ext x67)), e10, e11, rfl, rfl, (by rw [show bs ++ [1] ++ encInts [c.kind, c.txn.client, c.txn.number, c.stp.time, c.stp.client, c.shards, (c.reads.length : Int)] ++ (c.reads.take 0).flatMap encRd = bs ++ ([1] : List UInt8) ++ encInts ([c.kind, c.txn.client, c.txn.number, c.stp.time, c.stp.client, c.shards, (c.reads.length : Int)]) from (by simp)]; exact e9), rfl, Kept.refl _ _ _⟩ ?_
  rintro ρ w73 ⟨k68, A70, c71, hk69, hb72, e75, e76, e77, e78, e79, e80, x74⟩
  by_cases hl81 : k68 < c.reads.length
  ·obtain ⟨y82, hx83⟩ := some_of (l := c.reads) (k := k68) (by omega)
   obtain ⟨ad84, cs85, eA86, hK87, hE88⟩ := hc.reads k68 y82 hx83
   have hK87' : cs85 = [.string y82.key, .int .i64 y82.ver.time, .int .i64 y82.ver.client] := hK87
   subst hK87'
   have q90 := hg.reads y82 (List.mem_of_getElem? hx83)
   have q90l := reads_len hg k68
   have q90s := encStr_len q90.1
   refine c_seq ?_
   refine c_quiet ?_
   refine q_val (v := .bool true) rfl rfl (fun w' x' => yb (x_lss rfl e80 e78) (decide_eq_true (by omega))) ?_
   refine q_nil (fun w91 x92 => ?_)
   refine t_norm ?_
   refine c_seq ?_
   refine c_true rfl ?_
   refine c_skip ?_
   refine t_norm ?_
   refine c_seq ?_
   refine c_block ?_
   refine c_seq ?_
   refine c_plain ?_
   refine p_val (v := .pointer (some (ad84.add (k68 * 3)))) rfl rfl (x_indexAddr sl_30 rfl e77 eA86 e80 (by omega) (by omega) rfl) ?_
   refine p_val (v := vRd y82) rfl rfl (x_load rfl rfl ((hE88.ext (((((hx0.trans x3).below (Nat.le_refl _) kp12.below).trans x67).below (Nat.le_refl _) x74.below).trans x92)).agg (vs := [.string y82.key, .int .i64 y82.ver.time, .int .i64 y82.ver.client]) agg_64_3 0 rfl rfl)) ?_
   refine p_var (v := vRd y82) (vs := [.string y82.key, .int .i64 y82.ver.time, .int .i64 y82.ver.client]) rfl rfl rfl zero_64 rfl rfl rfl rfl rfl rfl rfl size_64 rfl (fun w93 b94 x95 z96 => ?_)
   refine p_nil ?_
   refine t_norm ?_
   refine c_meet (fun ρ w97 => ∃ (A98 : Option Addr), ∃ (c99 : Nat), ρ 0 = .slice A98 (List.length (α := UInt8) ((bs ++ [1] ++ encInts [c.kind, c.txn.client, c.txn.number, c.stp.time, c.stp.client, c.shards, (c.reads.length : Int)] ++ (c.reads.take k68).flatMap encRd) ++ encStr y82.key ++ encInts ([y82.ver.time, y82.ver.client]))) c99 ∧ ρ 3 = .pointer (some (⟨w.heap.size, 0, none⟩)) ∧ ρ 4 = .slice none 0 0 ∧ ρ 6 = .pointer (some (⟨w91.heap.size, 0, none⟩)) ∧ ρ 34 = .slice p.A c.reads.length p.n ∧ ρ 35 = .int .i64 (c.reads.length : Int) ∧ ρ 36 = .int .i64 (k68 : Int) ∧ ρ 37 = .bool true ∧ ρ 38 = .pointer (some (ad84.add (k68 * 3))) ∧ ρ 39 = vRd y82 ∧ Byt w97 w0.heap.size 5 A98 c99 ((bs ++ [1] ++ encInts [c.kind, c.txn.client, c.txn.number, c.stp.time, c.stp.client, c.shards, (c.reads.length : Int)] ++ (c.reads.take k68).flatMap encRd) ++ encStr y82.key ++ encInts ([y82.ver.time, y82.ver.client])) ∧ Kept w0.heap.size 5 w93 w97) ?_ ?_
   ·refine c_drawn mixed (by kernel_rfl) (fun _ _ _ _ _ h => h) (fun v1 v2 => Kept w0.heap.size 5 v1 v2) 13 rfl (fun w112 x113 z114 => ?_)
    refine d_take (v := .slice A70 (List.length (α := UInt8) (bs ++ [1] ++ encInts [c.kind, c.txn.client, c.txn.number, c.stp.time, c.stp.client, c.shards, (c.reads.length : Int)] ++ (c.reads.take k68).flatMap encRd)) c71) (i := 0) (d := 40) (L' := [true, false, false, false, false, false, false, false, false, false, false, false, false]) rfl (by kernel_rfl) rfl (Kept.refl _ _ _) (fun w' s' => x_move rfl e79) ?_
    refine d_take (v := .pointer (some (⟨w91.heap.size, 0, none⟩))) (i := 1) (d := 41) (L' := [true, true, false, false, false, false, false, false, false, false, false, false, false]) rfl (by kernel_rfl) rfl (Kept.refl _ _ _) (fun w' s' => x_fieldAddr fld_64_0 rfl rfl rfl) ?_
    refine d_take (v := .string y82.key) (i := 2) (d := 42) (L' := [true, true, true, false, false, false, false, false, false, false, false, false, false]) rfl (by kernel_rfl) rfl (Kept.refl _ _ _) (fun w' s' => x_load rfl rfl (((b94.ext x113).kept s' (by decide)).one one_9 rfl)) ?_
    refine d_take (v := .pointer (some (⟨w91.heap.size, 1, none⟩))) (i := 4) (d := 44) (L' := [true, true, true, false, true, false, false, false, false, false, false, false, false]) rfl (by kernel_rfl) rfl (Kept.refl _ _ _) (fun w' s' => x_fieldAddr fld_64_1 rfl rfl rfl) ?_
    refine d_take (v := .pointer (some (⟨w91.heap.size, 1, none⟩))) (i := 5) (d := 45) (L' := [true, true, true, false, true, true, false, false, false, false, false, false, false]) rfl (by kernel_rfl) rfl (Kept.refl _ _ _) (fun w' s' => x_fieldAddr fld_29_0 rfl rfl rfl) ?_
    refine d_take (v := .int .i64 y82.ver.time) (i := 6) (d := 46) (L' := [true, true, true, false, true, true, true, false, false, false, false, false, false]) rfl (by kernel_rfl) rfl (Kept.refl _ _ _) (fun w' s' => x_load rfl rfl (((b94.ext x113).kept s' (by decide)).one one_3 rfl)) ?_
    refine d_take (v := .pointer (some (⟨w91.heap.size, 1, none⟩))) (i := 7) (d := 47) (L' := [true, true, true, false, true, true, true, true, false, false, false, false, false]) rfl (by kernel_rfl) rfl (Kept.refl _ _ _) (fun w' s' => x_fieldAddr fld_64_1 rfl rfl rfl) ?_
    refine d_take (v := .pointer (some (⟨w91.heap.size, 2, none⟩))) (i := 8) (d := 48) (L' := [true, true, true, false, true, true, true, true, true, false, false, false, false]) rfl (by kernel_rfl) rfl (Kept.refl _ _ _) (fun w' s' => x_fieldAddr fld_29_1 rfl rfl rfl) ?_
    refine d_take (v := .int .i64 y82.ver.client) (i := 9) (d := 49) (L' := [true, true, true, false, true, true, true, true, true, true, false, false, false]) rfl (by kernel_rfl) rfl (Kept.refl _ _ _) (fun w' s' => x_load rfl rfl (((b94.ext x113).kept s' (by decide)).one one_3 rfl)) ?_
    refine d_act2 (i := 3) (j := 10) (L' := [true, true, true, true, true, true, true, true, true, true, false, false, false]) (L'' := [true, true, true, false, true, true, true, true, true, true, true, false, false]) (by kernel_rfl) rfl rfl rfl rfl ?_ ?_
    ·refine p_call (vs := #[.slice A70 (List.length (α := UInt8) (bs ++ [1] ++ encInts [c.kind, c.txn.client, c.txn.number, c.stp.time, c.stp.client, c.shards, (c.reads.length : Int)] ++ (c.reads.take k68).flatMap encRd)) c71, .string y82.key]) fn_59 rfl rfl rfl (args2 rfl rfl) ?_
     refine (C_text _ _ (((((((hx0.trans x3).below (Nat.le_refl _) kp12.below).trans x67).below (Nat.le_refl _) x74.below).trans x92).trans x95).trans x113) A70 c71 (bs ++ [1] ++ encInts [c.kind, c.txn.client, c.txn.number, c.stp.time, c.stp.client, c.shards, (c.reads.length : Int)] ++ (c.reads.take k68).flatMap encRd) (((hb72.ext x92).ext x95).ext x113) (by first | omega | (simp only [List.length_append, List.length_cons, List.length_nil]; omega)) y82.key (by omega)).mono ?_
     rintro e w115 ⟨A118, c119, rfl, hb116, kp117⟩
     refine ⟨_, rfl, ?_⟩
     refine d_next ((Kept.refl _ _ _).trans kp117) ?_
     refine d_act1 (i := 10) (L' := [true, true, true, true, true, true, true, true, true, true, true, false, false]) (by kernel_rfl) rfl rfl ?_
     refine p_buildSlice (cs := [.int .i64 y82.ver.time, .int .i64 y82.ver.client]) el_83 rfl rfl rfl (parts2 rfl rfl) (by decide) (by decide) (fill_ok [.int .i64 y82.ver.time, .int .i64 y82.ver.client] [.int .i64 y82.ver.time, .int .i64 y82.ver.client] rfl rfl) (fun w120 b121 x122 z123 => ?_)
     refine d_next (((Kept.refl _ _ _).trans kp117).ext x122 ((((((((hx0.trans x3).below (Nat.le_refl _) kp12.below).trans x67).below (Nat.le_refl _) x74.below).trans x92).trans x95).trans x113).below (Nat.le_refl _) kp117.below).size) ?_
     refine d_act1 (i := 11) (L' := [true, true, true, true, true, true, true, true, true, true, true, true, false]) (by kernel_rfl) rfl rfl ?_
     refine p_call (vs := #[.slice A118 (List.length (α := UInt8) ((bs ++ [1] ++ encInts [c.kind, c.txn.client, c.txn.number, c.stp.time, c.stp.client, c.shards, (c.reads.length : Int)] ++ (c.reads.take k68).flatMap encRd) ++ encStr y82.key)) c119, .slice (some ⟨w115.heap.size, 0, none⟩) 2 2]) fn_38 rfl rfl rfl (args2 rfl rfl) ?_
     refine (C_numbers _ _ (((((((((hx0.trans x3).below (Nat.le_refl _) kp12.below).trans x67).below (Nat.le_refl _) x74.below).trans x92).trans x95).trans x113).below (Nat.le_refl _) kp117.below).trans x122) A118 c119 ((bs ++ [1] ++ encInts [c.kind, c.txn.client, c.txn.number, c.stp.time, c.stp.client, c.shards, (c.reads.length : Int)] ++ (c.reads.take k68).flatMap encRd) ++ encStr y82.key) (hb116.ext x122) (by first | omega | (simp only [List.length_append, List.length_cons, List.length_nil]; omega)) w115.heap.size 3 0 2 2 [.int .i64 y82.ver.time, .int .i64 y82.ver.client] [y82.ver.time, y82.ver.client] rfl b121 (by decide) (ints_at rfl) (by intro x hx; simp only [List.mem_cons, List.not_mem_nil, or_false] at hx; omega) (by simp)).mono ?_
     rintro e w124 ⟨A127, c128, rfl, hb125, kp126⟩
     refine ⟨_, rfl, ?_⟩
     refine d_next ((((Kept.refl _ _ _).trans kp117).ext x122 ((((((((hx0.trans x3).below (Nat.le_refl _) kp12.below).trans x67).below (Nat.le_refl _) x74.below).trans x92).trans x95).trans x113).below (Nat.le_refl _) kp117.below).size).trans kp126) ?_
     refine d_take (v := .slice A127 (List.length (α := UInt8) ((bs ++ [1] ++ encInts [c.kind, c.txn.client, c.txn.number, c.stp.time, c.stp.client, c.shards, (c.reads.length : Int)] ++ (c.reads.take k68).flatMap encRd) ++ encStr y82.key ++ encInts ([y82.ver.time, y82.ver.client]))) c128) (i := 12) (d := 0) (L' := [true, true, true, true, true, true, true, true, true, true, true, true, true]) rfl (by kernel_rfl) rfl ((((Kept.refl _ _ _).trans kp117).ext x122 ((((((((hx0.trans x3).below (Nat.le_refl _) kp12.below).trans x67).below (Nat.le_refl _) x74.below).trans x92).trans x95).trans x113).below (Nat.le_refl _) kp117.below).size).trans kp126) (fun w' s' => x_assign rfl rfl) ?_
     refine d_end (by kernel_rfl) ?_
     exact t_norm ⟨_, rfl, A127, c128, rfl, e75, e76, rfl, e77, e78, e80, rfl, rfl, rfl, hb125, (((((Kept.refl _ _ _).ext x113 ((((((hx0.trans x3).below (Nat.le_refl _) kp12.below).trans x67).below (Nat.le_refl _) x74.below).trans x92).trans x95).size).trans kp117).ext x122 ((((((((hx0.trans x3).below (Nat.le_refl _) kp12.below).trans x67).below (Nat.le_refl _) x74.below).trans x92).trans x95).trans x113).below (Nat.le_refl _) kp117.below).size).trans kp126)⟩
    ·refine p_buildSlice (cs := [.int .i64 y82.ver.time, .int .i64 y82.ver.client]) el_83 rfl rfl rfl (parts2 rfl rfl) (by decide) (by decide) (fill_ok [.int .i64 y82.ver.time, .int .i64 y82.ver.client] [.int .i64 y82.ver.time, .int .i64 y82.ver.client] rfl rfl) (fun w129 b130 x131 z132 => ?_)
     refine d_next ((Kept.refl _ _ _).ext x131 (((((((hx0.trans x3).below (Nat.le_refl _) kp12.below).trans x67).below (Nat.le_refl _) x74.below).trans x92).trans x95).trans x113).size) ?_
     refine d_act1 (i := 3) (L' := [true, true, true, true, true, true, true, true, true, true, true, false, false]) (by kernel_rfl) rfl rfl ?_
     refine p_call (vs := #[.slice A70 (List.length (α := UInt8) (bs ++ [1] ++ encInts [c.kind, c.txn.client, c.txn.number, c.stp.time, c.stp.client, c.shards, (c.reads.length : Int)] ++ (c.reads.take k68).flatMap encRd)) c71, .string y82.key]) fn_59 rfl rfl rfl (args2 rfl rfl) ?_
     refine (C_text _ _ ((((((((hx0.trans x3).below (Nat.le_refl _) kp12.below).trans x67).below (Nat.le_refl _) x74.below).trans x92).trans x95).trans x113).trans x131) A70 c71 (bs ++ [1] ++ encInts [c.kind, c.txn.client, c.txn.number, c.stp.time, c.stp.client, c.shards, (c.reads.length : Int)] ++ (c.reads.take k68).flatMap encRd) ((((hb72.ext x92).ext x95).ext x113).ext x131) (by first | omega | (simp only [List.length_append, List.length_cons, List.length_nil]; omega)) y82.key (by omega)).mono ?_
     rintro e w133 ⟨A136, c137, rfl, hb134, kp135⟩
     refine ⟨_, rfl, ?_⟩
     refine d_next (((Kept.refl _ _ _).ext x131 (((((((hx0.trans x3).below (Nat.le_refl _) kp12.below).trans x67).below (Nat.le_refl _) x74.below).trans x92).trans x95).trans x113).size).trans kp135) ?_
     refine d_act1 (i := 11) (L' := [true, true, true, true, true, true, true, true, true, true, true, true, false]) (by kernel_rfl) rfl rfl ?_
     refine p_call (vs := #[.slice A136 (List.length (α := UInt8) ((bs ++ [1] ++ encInts [c.kind, c.txn.client, c.txn.number, c.stp.time, c.stp.client, c.shards, (c.reads.length : Int)] ++ (c.reads.take k68).flatMap encRd) ++ encStr y82.key)) c137, .slice (some ⟨w112.heap.size, 0, none⟩) 2 2]) fn_38 rfl rfl rfl (args2 rfl rfl) ?_
     refine (C_numbers _ _ (((((((((hx0.trans x3).below (Nat.le_refl _) kp12.below).trans x67).below (Nat.le_refl _) x74.below).trans x92).trans x95).trans x113).trans x131).below (Nat.le_refl _) kp135.below) A136 c137 ((bs ++ [1] ++ encInts [c.kind, c.txn.client, c.txn.number, c.stp.time, c.stp.client, c.shards, (c.reads.length : Int)] ++ (c.reads.take k68).flatMap encRd) ++ encStr y82.key) hb134 (by first | omega | (simp only [List.length_append, List.length_cons, List.length_nil]; omega)) w112.heap.size 3 0 2 2 [.int .i64 y82.ver.time, .int .i64 y82.ver.client] [y82.ver.time, y82.ver.client] rfl (b130.kept kp135 (by decide)) (by decide) (ints_at rfl) (by intro x hx; simp only [List.mem_cons, List.not_mem_nil, or_false] at hx; omega) (by simp)).mono ?_
     rintro e w138 ⟨A141, c142, rfl, hb139, kp140⟩
     refine ⟨_, rfl, ?_⟩
     refine d_next ((((Kept.refl _ _ _).ext x131 (((((((hx0.trans x3).below (Nat.le_refl _) kp12.below).trans x67).below (Nat.le_refl _) x74.below).trans x92).trans x95).trans x113).size).trans kp135).trans kp140) ?_
     refine d_take (v := .slice A141 (List.length (α := UInt8) ((bs ++ [1] ++ encInts [c.kind, c.txn.client, c.txn.number, c.stp.time, c.stp.client, c.shards, (c.reads.length : Int)] ++ (c.reads.take k68).flatMap encRd) ++ encStr y82.key ++ encInts ([y82.ver.time, y82.ver.client]))) c142) (i := 12) (d := 0) (L' := [true, true, true, true, true, true, true, true, true, true, true, true, true]) rfl (by kernel_rfl) rfl ((((Kept.refl _ _ _).ext x131 (((((((hx0.trans x3).below (Nat.le_refl _) kp12.below).trans x67).below (Nat.le_refl _) x74.below).trans x92).trans x95).trans x113).size).trans kp135).trans kp140) (fun w' s' => x_assign rfl rfl) ?_
     refine d_end (by kernel_rfl) ?_
     exact t_norm ⟨_, rfl, A141, c142, rfl, e75, e76, rfl, e77, e78, e80, rfl, rfl, rfl, hb139, (((((Kept.refl _ _ _).ext x113 ((((((hx0.trans x3).below (Nat.le_refl _) kp12.below).trans x67).below (Nat.le_refl _) x74.below).trans x92).trans x95).size).ext x131 (((((((hx0.trans x3).below (Nat.le_refl _) kp12.below).trans x67).below (Nat.le_refl _) x74.below).trans x92).trans x95).trans x113).size).trans kp135).trans kp140)⟩
   ·rintro ρ w97 ⟨A98, c99, e101, e102, e103, e104, e105, e106, e107, e108, e109, e110, hb100, kp111⟩
    refine b_norm (t_norm ?_)
    refine c_quiet ?_
    refine q_val (v := .int .i64 ((k68 : Int) + 1)) rfl rfl (fun w' x' => x_add rfl e107 rfl (wrap_of (by omega) (by omega))) ?_
    refine q_val (v := .int .i64 ((k68 : Int) + 1)) rfl rfl (fun w' x' => x_move rfl rfl) ?_
    refine q_nil (fun w143 x144 => ?_)
    refine t_norm ?_
    exact ⟨_, rfl, ⟨k68 + 1, A98, c99, by omega, (by rw [(show bs ++ [1] ++ encInts [c.kind, c.txn.client, c.txn.number, c.stp.time, c.stp.client, c.shards, (c.reads.length : Int)] ++ (c.reads.take (k68 + 1)).flatMap encRd = (bs ++ [1] ++ encInts [c.kind, c.txn.client, c.txn.number, c.stp.time, c.stp.client, c.shards, (c.reads.length : Int)] ++ (c.reads.take k68).flatMap encRd) ++ encStr y82.key ++ encInts ([y82.ver.time, y82.ver.client]) from (by rw [take_of hx83, List.flatMap_append]; simp [encRd]))]; exact (hb100.ext x144)), e102, e103, e105, e106, (by rw [(show bs ++ [1] ++ encInts [c.kind, c.txn.client, c.txn.number, c.stp.time, c.stp.client, c.shards, (c.reads.length : Int)] ++ (c.reads.take (k68 + 1)).flatMap encRd = (bs ++ [1] ++ encInts [c.kind, c.txn.client, c.txn.number, c.stp.time, c.stp.client, c.shards, (c.reads.length : Int)] ++ (c.reads.take k68).flatMap encRd) ++ encStr y82.key ++ encInts ([y82.ver.time, y82.ver.client]) from (by rw [take_of hx83, List.flatMap_append]; simp [encRd]))]; exact e101), rfl, ((((((Kept.refl _ _ _).trans x74).ext x92 ((((hx0.trans x3).below (Nat.le_refl _) kp12.below).trans x67).below (Nat.le_refl _) x74.below).size).ext x95 (((((hx0.trans x3).below (Nat.le_refl _) kp12.below).trans x67).below (Nat.le_refl _) x74.below).trans x92).size).trans kp111).ext x144 (((((((hx0.trans x3).below (Nat.le_refl _) kp12.below).trans x67).below (Nat.le_refl _) x74.below).trans x92).trans x95).below (Nat.le_refl _) kp111.below).size)⟩, meas_up e80 hl81⟩
  ·have he145 : c.reads.take k68 = c.reads := List.take_of_length_le (by omega)
   rw [he145] at hb72 e79
   refine c_seq ?_
   refine c_quiet ?_
   refine q_val (v := .bool false) rfl rfl (fun w' x' => yb (x_lss rfl e80 e78) (decide_eq_false (by omega))) ?_
   refine q_nil (fun w146 x147 => ?_)
   refine t_norm ?_
   refine c_seq ?_
   refine c_false rfl ?_
   refine c_exit ?_
   refine t_exit (t_exit (b_exit (t_norm ?_)))
   refine c_seq ?_
   refine c_plain ?_
   refine p_val (v := .slice A70 (List.length (α := UInt8) ((bs ++ [1] ++ encInts [c.kind, c.txn.client, c.txn.number, c.stp.time, c.stp.client, c.shards, (c.reads.length : Int)] ++ c.reads.flatMap encRd))) c71) rfl rfl (x_move rfl e79) ?_
   refine p_val (v := .pointer (some (⟨w.heap.size, 7, none⟩))) rfl rfl (x_fieldAddr fld_33_5 rfl e75 rfl) ?_
   refine p_val (v := .slice p.B c.writes.length p.m) rfl rfl (x_load rfl rfl (((((b2.kept kp12 (by decide)).ext x67).kept x74 (by decide)).ext x147).one one_31 rfl)) ?_
   refine p_val (v := .int .i64 (c.writes.length : Int)) rfl rfl (x_len_slice sl_31 rfl rfl) ?_
   refine p_buildSlice (cs := [.int .i64 (c.writes.length : Int)]) el_83 rfl rfl rfl (parts1 rfl) (by decide) (by decide) (fill_ok [.int .i64 (c.writes.length : Int)] [.int .i64 (c.writes.length : Int)] rfl rfl) (fun w148 b149 x150 z151 => ?_)
   refine p_call (vs := #[.slice A70 (List.length (α := UInt8) ((bs ++ [1] ++ encInts [c.kind, c.txn.client, c.txn.number, c.stp.time, c.stp.client, c.shards, (c.reads.length : Int)] ++ c.reads.flatMap encRd))) c71, .slice (some ⟨w146.heap.size, 0, none⟩) 1 1]) fn_38 rfl rfl rfl (args2 rfl rfl) ?_
   refine (C_numbers _ _ ((((((hx0.trans x3).below (Nat.le_refl _) kp12.below).trans x67).below (Nat.le_refl _) x74.below).trans x147).trans x150) A70 c71 (bs ++ [1] ++ encInts [c.kind, c.txn.client, c.txn.number, c.stp.time, c.stp.client, c.shards, (c.reads.length : Int)] ++ c.reads.flatMap encRd) ((hb72.ext x147).ext x150) (by first | omega | (simp only [List.length_append, List.length_cons, List.length_nil]; omega)) w146.heap.size 3 0 1 1 [.int .i64 (c.writes.length : Int)] [(c.writes.length : Int)] rfl b149 (by decide) (ints_at rfl) (by intro x hx; simp only [List.mem_cons, List.not_mem_nil, or_false] at hx; omega) (by simp)).mono ?_
   rintro e w152 ⟨A155, c156, rfl, hb153, kp154⟩
   refine ⟨_, rfl, ?_⟩
   refine p_val (v := .slice A155 (List.length (α := UInt8) ((bs ++ [1] ++ encInts [c.kind, c.txn.client, c.txn.number, c.stp.time, c.stp.client, c.shards, (c.reads.length : Int)] ++ c.reads.flatMap encRd) ++ encInts ([(c.writes.length : Int)]))) c156) rfl rfl (x_assign rfl rfl) ?_
   refine p_nil ?_
   refine t_norm ?_
   refine c_seq ?_
   refine c_seq ?_
   refine c_quiet ?_
   refine q_val (v := .pointer (some (⟨w.heap.size, 7, none⟩))) rfl rfl (fun w' x' => x_fieldAddr fld_33_5 rfl e75 rfl) ?_
   refine q_val (v := .slice p.B c.writes.length p.m) rfl rfl (fun w' x' => x_load rfl rfl ((((((((b2.kept kp12 (by decide)).ext x67).kept x74 (by decide)).ext x147).ext x150).kept kp154 (by decide)).ext x').one one_31 rfl)) ?_
   refine q_val (v := .int .i64 (c.writes.length : Int)) rfl rfl (fun w' x' => x_len_slice sl_31 rfl rfl) ?_
   refine q_val (v := .int .i64 0) rfl rfl (fun w' x' => x_move rfl rfl) ?_
   refine q_nil (fun w157 x158 => ?_)
   refine t_norm ?_
   refine c_block ?_
   refine c_loop (fun ρ w164 => ∃ k159 : Nat, ∃ A161 : Option Addr, ∃ c162 : Nat, k159 ≤ c.writes.length ∧ Byt w164 w0.heap.size 5 A161 c162 (bs ++ [1] ++ encInts [c.kind, c.txn.client, c.txn.number, c.stp.time, c.stp.client, c.shards, (c.reads.length : Int)] ++ c.reads.flatMap encRd ++ encInts [(c.writes.length : Int)] ++ (c.writes.take k159).flatMap encWr) ∧ ρ 3 = .pointer (some (⟨w.heap.size, 0, none⟩)) ∧ ρ 4 = .slice none 0 0 ∧ ρ 60 = .slice p.B c.writes.length p.m ∧ ρ 61 = .int .i64 (c.writes.length : Int) ∧ ρ 0 = .slice A161 (List.length (α := UInt8) (bs ++ [1] ++ encInts [c.kind, c.txn.client, c.txn.number, c.stp.time, c.stp.client, c.shards, (c.reads.length : Int)] ++ c.reads.flatMap encRd ++ encInts [(c.writes.length : Int)] ++ (c.writes.take k159).flatMap encWr)) c162 ∧ ρ 62 = .int .i64 (k159 : Int) ∧ Kept w0.heap.size 5 w157 w164) (fun ρ _ => c.writes.length - (intOf (ρ 62)).toNat) ⟨0, A155, c156, Nat.zero_le _, (by rw [show bs ++ [1] ++ encInts [c.kind, c.txn.client, c.txn.number, c.stp.time, c.stp.client, c.shards, (c.reads.length : Int)] ++ c.reads.flatMap encRd ++ encInts [(c.writes.length : Int)] ++ (c.writes.take 0).flatMap encWr = (bs ++ [1] ++ encInts [c.kind, c.txn.client, c.txn.number, c.stp.time, c.stp.client, c.shards, (c.reads.length : Int)] ++ c.reads.flatMap encRd) ++ encInts ([(c.writes.length : Int)]) from (by simp)]; exact (hb153.ext x158)), e75, e76, rfl, rfl, (by rw [show bs ++ [1] ++ encInts [c.kind, c.txn.client, c.txn.number, c.stp.time, c.stp.client, c.shards, (c.reads.length : Int)] ++ c.reads.flatMap encRd ++ encInts [(c.writes.length : Int)] ++ (c.writes.take 0).flatMap encWr = (bs ++ [1] ++ encInts [c.kind, c.txn.client, c.txn.number, c.stp.time, c.stp.client, c.shards, (c.reads.length : Int)] ++ c.reads.flatMap encRd) ++ encInts ([(c.writes.length : Int)]) from (by simp)]; exact rfl), rfl, Kept.refl _ _ _⟩ ?_
   rintro ρ w164 ⟨k159, A161, c162, hk160, hb163, e166, e167, e168, e169, e170, e171, x165⟩
   by_cases hl172 : k159 < c.writes.length
   ·obtain ⟨y173, hx174⟩ := some_of (l := c.writes) (k := k159) (by omega)
    obtain ⟨ad175, cs176, eA177, hK178, hE179⟩ := hc.writes k159 y173 hx174
    have hK178' : cs176 = [.string y173.key, .string y173.val] := hK178
    subst hK178'
    have q181 := hg.writes y173 (List.mem_of_getElem? hx174)
    have q181l := writes_len hg k159
    have q181s := encStr_len q181.1
    refine c_seq ?_
    refine c_quiet ?_
    refine q_val (v := .bool true) rfl rfl (fun w' x' => yb (x_lss rfl e171 e169) (decide_eq_true (by omega))) ?_
    refine q_nil (fun w182 x183 => ?_)
    refine t_norm ?_
    refine c_seq ?_
    refine c_true rfl ?_
    refine c_skip ?_
    refine t_norm ?_
    refine c_seq ?_
    refine c_block ?_
    refine c_seq ?_
    refine c_plain ?_
    refine p_val (v := .pointer (some (ad175.add (k159 * 2)))) rfl rfl (x_indexAddr sl_31 rfl e168 eA177 e171 (by omega) (by omega) rfl) ?_
    refine p_val (v := vWr y173) rfl rfl (x_load rfl rfl ((hE179.ext ((((((((((hx0.trans x3).below (Nat.le_refl _) kp12.below).trans x67).below (Nat.le_refl _) x74.below).trans x147).trans x150).below (Nat.le_refl _) kp154.below).trans x158).below (Nat.le_refl _) x165.below).trans x183)).agg (vs := [.string y173.key, .string y173.val]) agg_66_2 0 rfl rfl)) ?_
    refine p_var (v := vWr y173) (vs := [.string y173.key, .string y173.val]) rfl rfl rfl zero_66 rfl rfl rfl rfl rfl rfl rfl size_66 rfl (fun w184 b185 x186 z187 => ?_)
    refine p_nil ?_
    refine t_norm ?_
    refine c_drawn mixed (by kernel_rfl) (fun _ _ _ _ _ h => h) (fun v1 v2 => Kept w0.heap.size 5 v1 v2) 8 rfl (fun w188 x189 z190 => ?_)
    refine d_take (v := .slice A161 (List.length (α := UInt8) (bs ++ [1] ++ encInts [c.kind, c.txn.client, c.txn.number, c.stp.time, c.stp.client, c.shards, (c.reads.length : Int)] ++ c.reads.flatMap encRd ++ encInts [(c.writes.length : Int)] ++ (c.writes.take k159).flatMap encWr)) c162) (i := 0) (d := 66) (L' := [true, false, false, false, false, false, false, false]) rfl (by kernel_rfl) rfl (Kept.refl _ _ _) (fun w' s' => x_move rfl e170) ?_
    refine d_take (v := .pointer (some (⟨w182.heap.size, 0, none⟩))) (i := 1) (d := 67) (L' := [true, true, false, false, false, false, false, false]) rfl (by kernel_rfl) rfl (Kept.refl _ _ _) (fun w' s' => x_fieldAddr fld_66_0 rfl rfl rfl) ?_
    refine d_take (v := .string y173.key) (i := 2) (d := 68) (L' := [true, true, true, false, false, false, false, false]) rfl (by kernel_rfl) rfl (Kept.refl _ _ _) (fun w' s' => x_load rfl rfl (((b185.ext x189).kept s' (by decide)).one one_9 rfl)) ?_
    refine d_take (v := .pointer (some (⟨w182.heap.size, 1, none⟩))) (i := 4) (d := 70) (L' := [true, true, true, false, true, false, false, false]) rfl (by kernel_rfl) rfl (Kept.refl _ _ _) (fun w' s' => x_fieldAddr fld_66_1 rfl rfl rfl) ?_
    refine d_take (v := .string y173.val) (i := 5) (d := 71) (L' := [true, true, true, false, true, true, false, false]) rfl (by kernel_rfl) rfl (Kept.refl _ _ _) (fun w' s' => x_load rfl rfl (((b185.ext x189).kept s' (by decide)).one one_9 rfl)) ?_
    refine d_act1 (i := 3) (L' := [true, true, true, true, true, true, false, false]) (by kernel_rfl) rfl rfl ?_
    refine p_call (vs := #[.slice A161 (List.length (α := UInt8) (bs ++ [1] ++ encInts [c.kind, c.txn.client, c.txn.number, c.stp.time, c.stp.client, c.shards, (c.reads.length : Int)] ++ c.reads.flatMap encRd ++ encInts [(c.writes.length : Int)] ++ (c.writes.take k159).flatMap encWr)) c162, .string y173.key]) fn_59 rfl rfl rfl (args2 rfl rfl) ?_
    refine (C_text _ _ ((((((((((((hx0.trans x3).below (Nat.le_refl _) kp12.below).trans x67).below (Nat.le_refl _) x74.below).trans x147).trans x150).below (Nat.le_refl _) kp154.below).trans x158).below (Nat.le_refl _) x165.below).trans x183).trans x186).trans x189) A161 c162 (bs ++ [1] ++ encInts [c.kind, c.txn.client, c.txn.number, c.stp.time, c.stp.client, c.shards, (c.reads.length : Int)] ++ c.reads.flatMap encRd ++ encInts [(c.writes.length : Int)] ++ (c.writes.take k159).flatMap encWr) (((hb163.ext x183).ext x186).ext x189) (by first | omega | (simp only [List.length_append, List.length_cons, List.length_nil]; omega)) y173.key (by omega)).mono ?_
    rintro e w191 ⟨A194, c195, rfl, hb192, kp193⟩
    refine ⟨_, rfl, ?_⟩
    refine d_next ((Kept.refl _ _ _).trans kp193) ?_
    refine d_act1 (i := 6) (L' := [true, true, true, true, true, true, true, false]) (by kernel_rfl) rfl rfl ?_
    refine p_call (vs := #[.slice A194 (List.length (α := UInt8) ((bs ++ [1] ++ encInts [c.kind, c.txn.client, c.txn.number, c.stp.time, c.stp.client, c.shards, (c.reads.length : Int)] ++ c.reads.flatMap encRd ++ encInts [(c.writes.length : Int)] ++ (c.writes.take k159).flatMap encWr) ++ encStr y173.key)) c195, .string y173.val]) fn_59 rfl rfl rfl (args2 rfl rfl) ?_
    refine (C_text _ _ (((((((((((((hx0.trans x3).below (Nat.le_refl _) kp12.below).trans x67).below (Nat.le_refl _) x74.below).trans x147).trans x150).below (Nat.le_refl _) kp154.below).trans x158).below (Nat.le_refl _) x165.below).trans x183).trans x186).trans x189).below (Nat.le_refl _) kp193.below) A194 c195 ((bs ++ [1] ++ encInts [c.kind, c.txn.client, c.txn.number, c.stp.time, c.stp.client, c.shards, (c.reads.length : Int)] ++ c.reads.flatMap encRd ++ encInts [(c.writes.length : Int)] ++ (c.writes.take k159).flatMap encWr) ++ encStr y173.key) hb192 (by first | omega | (simp only [List.length_append, List.length_cons, List.length_nil]; omega)) y173.val (by omega)).mono ?_
    rintro e w196 ⟨A199, c200, rfl, hb197, kp198⟩
    refine ⟨_, rfl, ?_⟩
    refine d_next (((Kept.refl _ _ _).trans kp193).trans kp198) ?_
    refine d_take (v := .slice A199 (List.length (α := UInt8) ((bs ++ [1] ++ encInts [c.kind, c.txn.client, c.txn.number, c.stp.time, c.stp.client, c.shards, (c.reads.length : Int)] ++ c.reads.flatMap encRd ++ encInts [(c.writes.length : Int)] ++ (c.writes.take k159).flatMap encWr) ++ encStr y173.key ++ encStr y173.val)) c200) (i := 7) (d := 0) (L' := [true, true, true, true, true, true, true, true]) rfl (by kernel_rfl) rfl (((Kept.refl _ _ _).trans kp193).trans kp198) (fun w' s' => x_assign rfl rfl) ?_
    refine d_end (by kernel_rfl) ?_
    refine b_norm (t_norm ?_)
    refine c_quiet ?_
    refine q_val (v := .int .i64 ((k159 : Int) + 1)) rfl rfl (fun w' x' => x_add rfl e171 rfl (wrap_of (by omega) (by omega))) ?_
    refine q_val (v := .int .i64 ((k159 : Int) + 1)) rfl rfl (fun w' x' => x_move rfl rfl) ?_
    refine q_nil (fun w201 x202 => ?_)
    refine t_norm ?_
    exact ⟨_, rfl, ⟨k159 + 1, A199, c200, by omega, (by rw [(show bs ++ [1] ++ encInts [c.kind, c.txn.client, c.txn.number, c.stp.time, c.stp.client, c.shards, (c.reads.length : Int)] ++ c.reads.flatMap encRd ++ encInts [(c.writes.length : Int)] ++ (c.writes.take (k159 + 1)).flatMap encWr = (bs ++ [1] ++ encInts [c.kind, c.txn.client, c.txn.number, c.stp.time, c.stp.client, c.shards, (c.reads.length : Int)] ++ c.reads.flatMap encRd ++ encInts [(c.writes.length : Int)] ++ (c.writes.take k159).flatMap encWr) ++ encStr y173.key ++ encStr y173.val from (by rw [take_of hx174, List.flatMap_append]; simp [encWr]))]; exact (hb197.ext x202)), e166, e167, e168, e169, (by rw [(show bs ++ [1] ++ encInts [c.kind, c.txn.client, c.txn.number, c.stp.time, c.stp.client, c.shards, (c.reads.length : Int)] ++ c.reads.flatMap encRd ++ encInts [(c.writes.length : Int)] ++ (c.writes.take (k159 + 1)).flatMap encWr = (bs ++ [1] ++ encInts [c.kind, c.txn.client, c.txn.number, c.stp.time, c.stp.client, c.shards, (c.reads.length : Int)] ++ c.reads.flatMap encRd ++ encInts [(c.writes.length : Int)] ++ (c.writes.take k159).flatMap encWr) ++ encStr y173.key ++ encStr y173.val from (by rw [take_of hx174, List.flatMap_append]; simp [encWr]))]; exact rfl), rfl, ((((((((Kept.refl _ _ _).trans x165).ext x183 (((((((((hx0.trans x3).below (Nat.le_refl _) kp12.below).trans x67).below (Nat.le_refl _) x74.below).trans x147).trans x150).below (Nat.le_refl _) kp154.below).trans x158).below (Nat.le_refl _) x165.below).size).ext x186 ((((((((((hx0.trans x3).below (Nat.le_refl _) kp12.below).trans x67).below (Nat.le_refl _) x74.below).trans x147).trans x150).below (Nat.le_refl _) kp154.below).trans x158).below (Nat.le_refl _) x165.below).trans x183).size).ext x189 (((((((((((hx0.trans x3).below (Nat.le_refl _) kp12.below).trans x67).below (Nat.le_refl _) x74.below).trans x147).trans x150).below (Nat.le_refl _) kp154.below).trans x158).below (Nat.le_refl _) x165.below).trans x183).trans x186).size).trans kp193).trans kp198).ext x202 ((((((((((((((hx0.trans x3).below (Nat.le_refl _) kp12.below).trans x67).below (Nat.le_refl _) x74.below).trans x147).trans x150).below (Nat.le_refl _) kp154.below).trans x158).below (Nat.le_refl _) x165.below).trans x183).trans x186).trans x189).below (Nat.le_refl _) kp193.below).below (Nat.le_refl _) kp198.below).size)⟩, meas_up e171 hl172⟩
   ·have he203 : c.writes.take k159 = c.writes := List.take_of_length_le (by omega)
    rw [he203] at hb163 e170
    refine c_seq ?_
    refine c_quiet ?_
    refine q_val (v := .bool false) rfl rfl (fun w' x' => yb (x_lss rfl e171 e169) (decide_eq_false (by omega))) ?_
    refine q_nil (fun w204 x205 => ?_)
    refine t_norm ?_
    refine c_seq ?_
    refine c_false rfl ?_
    refine c_exit ?_
    refine t_exit (t_exit (b_exit (t_norm ?_)))
    refine c_seq ?_
    refine c_plain ?_
    refine p_val (v := .slice A161 (List.length (α := UInt8) ((bs ++ [1] ++ encInts [c.kind, c.txn.client, c.txn.number, c.stp.time, c.stp.client, c.shards, (c.reads.length : Int)] ++ c.reads.flatMap encRd ++ encInts [(c.writes.length : Int)] ++ c.writes.flatMap encWr))) c162) rfl rfl (x_move rfl e170) ?_
    refine p_val (v := .pointer (some (⟨w.heap.size, 8, none⟩))) rfl rfl (x_fieldAddr fld_33_6 rfl e166 rfl) ?_
    refine p_bool (b := c.commit) rfl rfl (x_load rfl rfl ((((((((((b2.kept kp12 (by decide)).ext x67).kept x74 (by decide)).ext x147).ext x150).kept kp154 (by decide)).ext x158).kept x165 (by decide)).ext x205).one one_4 rfl)) (fun c206 => ?_) (fun c206 => ?_)
    ·refine p_call (vs := #[.slice A161 (List.length (α := UInt8) ((bs ++ [1] ++ encInts [c.kind, c.txn.client, c.txn.number, c.stp.time, c.stp.client, c.shards, (c.reads.length : Int)] ++ c.reads.flatMap encRd ++ encInts [(c.writes.length : Int)] ++ c.writes.flatMap encWr))) c162, .bool true]) fn_60 rfl rfl rfl (args2 rfl rfl) ?_
     refine (C_truth _ _ ((((((((((hx0.trans x3).below (Nat.le_refl _) kp12.below).trans x67).below (Nat.le_refl _) x74.below).trans x147).trans x150).below (Nat.le_refl _) kp154.below).trans x158).below (Nat.le_refl _) x165.below).trans x205) A161 c162 (bs ++ [1] ++ encInts [c.kind, c.txn.client, c.txn.number, c.stp.time, c.stp.client, c.shards, (c.reads.length : Int)] ++ c.reads.flatMap encRd ++ encInts [(c.writes.length : Int)] ++ c.writes.flatMap encWr) (hb163.ext x205) (by first | omega | (simp only [List.length_append, List.length_cons, List.length_nil]; omega)) true).mono ?_
     rintro e w207 ⟨A210, c211, rfl, hb208, kp209⟩
     refine ⟨_, rfl, ?_⟩
     refine p_val (v := .slice A210 (List.length (α := UInt8) ((bs ++ [1] ++ encInts [c.kind, c.txn.client, c.txn.number, c.stp.time, c.stp.client, c.shards, (c.reads.length : Int)] ++ c.reads.flatMap encRd ++ encInts [(c.writes.length : Int)] ++ c.writes.flatMap encWr) ++ encBool true)) c211) rfl rfl (x_assign rfl rfl) ?_
     refine p_nil ?_
     refine t_norm ?_
     refine c_ret ?_
     have he212 : (bs ++ [1] ++ encInts [c.kind, c.txn.client, c.txn.number, c.stp.time, c.stp.client, c.shards, (c.reads.length : Int)] ++ c.reads.flatMap encRd ++ encInts [(c.writes.length : Int)] ++ c.writes.flatMap encWr) ++ encBool true = bs ++ encCmd c := by simp [encCmd, c206]
     exact c_done rfl (v := .slice A210 (List.length (α := UInt8) (bs ++ encCmd c)) c211) (by rw [← he212]; exact rfl) ⟨A210, c211, rfl, by rw [← he212]; exact hb208, ((((((((((((Kept.refl _ _ _).ext x3 hx0.size).trans kp12).ext x67 ((hx0.trans x3).below (Nat.le_refl _) kp12.below).size).trans x74).ext x147 ((((hx0.trans x3).below (Nat.le_refl _) kp12.below).trans x67).below (Nat.le_refl _) x74.below).size).ext x150 (((((hx0.trans x3).below (Nat.le_refl _) kp12.below).trans x67).below (Nat.le_refl _) x74.below).trans x147).size).trans kp154).ext x158 (((((((hx0.trans x3).below (Nat.le_refl _) kp12.below).trans x67).below (Nat.le_refl _) x74.below).trans x147).trans x150).below (Nat.le_refl _) kp154.below).size).trans x165).ext x205 (((((((((hx0.trans x3).below (Nat.le_refl _) kp12.below).trans x67).below (Nat.le_refl _) x74.below).trans x147).trans x150).below (Nat.le_refl _) kp154.below).trans x158).below (Nat.le_refl _) x165.below).size).trans kp209)⟩
    ·refine p_call (vs := #[.slice A161 (List.length (α := UInt8) ((bs ++ [1] ++ encInts [c.kind, c.txn.client, c.txn.number, c.stp.time, c.stp.client, c.shards, (c.reads.length : Int)] ++ c.reads.flatMap encRd ++ encInts [(c.writes.length : Int)] ++ c.writes.flatMap encWr))) c162, .bool false]) fn_60 rfl rfl rfl (args2 rfl rfl) ?_
     refine (C_truth _ _ ((((((((((hx0.trans x3).below (Nat.le_refl _) kp12.below).trans x67).below (Nat.le_refl _) x74.below).trans x147).trans x150).below (Nat.le_refl _) kp154.below).trans x158).below (Nat.le_refl _) x165.below).trans x205) A161 c162 (bs ++ [1] ++ encInts [c.kind, c.txn.client, c.txn.number, c.stp.time, c.stp.client, c.shards, (c.reads.length : Int)] ++ c.reads.flatMap encRd ++ encInts [(c.writes.length : Int)] ++ c.writes.flatMap encWr) (hb163.ext x205) (by first | omega | (simp only [List.length_append, List.length_cons, List.length_nil]; omega)) false).mono ?_
     rintro e w213 ⟨A216, c217, rfl, hb214, kp215⟩
     refine ⟨_, rfl, ?_⟩
     refine p_val (v := .slice A216 (List.length (α := UInt8) ((bs ++ [1] ++ encInts [c.kind, c.txn.client, c.txn.number, c.stp.time, c.stp.client, c.shards, (c.reads.length : Int)] ++ c.reads.flatMap encRd ++ encInts [(c.writes.length : Int)] ++ c.writes.flatMap encWr) ++ encBool false)) c217) rfl rfl (x_assign rfl rfl) ?_
     refine p_nil ?_
     refine t_norm ?_
     refine c_ret ?_
     have he218 : (bs ++ [1] ++ encInts [c.kind, c.txn.client, c.txn.number, c.stp.time, c.stp.client, c.shards, (c.reads.length : Int)] ++ c.reads.flatMap encRd ++ encInts [(c.writes.length : Int)] ++ c.writes.flatMap encWr) ++ encBool false = bs ++ encCmd c := by simp [encCmd, c206]
     exact c_done rfl (v := .slice A216 (List.length (α := UInt8) (bs ++ encCmd c)) c217) (by rw [← he218]; exact rfl) ⟨A216, c217, rfl, by rw [← he218]; exact hb214, ((((((((((((Kept.refl _ _ _).ext x3 hx0.size).trans kp12).ext x67 ((hx0.trans x3).below (Nat.le_refl _) kp12.below).size).trans x74).ext x147 ((((hx0.trans x3).below (Nat.le_refl _) kp12.below).trans x67).below (Nat.le_refl _) x74.below).size).ext x150 (((((hx0.trans x3).below (Nat.le_refl _) kp12.below).trans x67).below (Nat.le_refl _) x74.below).trans x147).size).trans kp154).ext x158 (((((((hx0.trans x3).below (Nat.le_refl _) kp12.below).trans x67).below (Nat.le_refl _) x74.below).trans x147).trans x150).below (Nat.le_refl _) kp154.below).size).trans x165).ext x205 (((((((((hx0.trans x3).below (Nat.le_refl _) kp12.below).trans x67).below (Nat.le_refl _) x74.below).trans x147).trans x150).below (Nat.le_refl _) kp154.below).trans x158).below (Nat.le_refl _) x165.below).size).trans kp215)⟩

set_option maxHeartbeats 4000000 in
theorem C_putRecord (w0 w : World) (hx0 : Ext w0 w) (A : Option Addr) (c : Nat) (bs : List UInt8) (hb : Byt w w0.heap.size 5 A c bs) (hk : bs.length ≤ 549755813888) (r : Rec) (p : Ptr) (hc : CmdAt w0 r.cmd p) (hg : GoodRec r) :
    Calls Try.prog 37 #[.slice A bs.length c, vRec r p] w (fun e w' => ∃ A' c', e = .returned (.slice A' (bs ++ encRec r).length c') ∧ Byt w' w0.heap.size 5 A' c' (bs ++ encRec r) ∧ Kept w0.heap.size 5 w w') := by
 have hn := hg.nums
 have hd := hg.deps
 have hh := recHead_len hg
 have hdl := recDeps_len hg
 refine c_enter (n := 42) Try.func37 rfl rfl rfl ?_
 refine c_seq ?_
 refine c_plain ?_
 refine p_box rfl rfl rfl rfl (fun w1 b2 x3 z4 => ?_)
 refine p_val (v := .slice none 0 0) rfl rfl (x_assign rfl rfl) ?_
 refine p_nil ?_
 refine t_norm ?_
 refine c_seq ?_
 refine c_meet (fun ρ w5 => ∃ (A6 : Option Addr), ∃ (c7 : Nat), ρ 0 = .slice A6 (List.length (α := UInt8) (bs ++ ([2] : List UInt8) ++ encInts ([r.inst.replica, r.inst.slot, r.status, r.promise.number, r.promise.replica, r.ballot.number, r.ballot.replica, r.seq]))) c7 ∧ ρ 3 = .pointer (some (⟨w.heap.size, 0, none⟩)) ∧ ρ 4 = .slice none 0 0 ∧ Byt w5 w0.heap.size 5 A6 c7 (bs ++ ([2] : List UInt8) ++ encInts ([r.inst.replica, r.inst.slot, r.status, r.promise.number, r.promise.replica, r.ballot.number, r.ballot.replica, r.seq])) ∧ Kept w0.heap.size 5 w1 w5) ?_ ?_
 ·refine c_drawn mixed (by kernel_rfl) (fun _ _ _ _ _ h => h) (fun v1 v2 => Kept w0.heap.size 5 v1 v2) 28 rfl (fun w13 x14 z15 => ?_)
  refine d_take (v := .slice A bs.length c) (i := 0) (d := 5) (L' := [true, false, false, false, false, false, false, false, false, false, false, false, false, false, false, false, false, false, false, false, false, false, false, false, false, false, false, false]) rfl (by kernel_rfl) rfl (Kept.refl _ _ _) (fun w' s' => x_move rfl rfl) ?_
  refine d_take (v := .pointer (some (⟨w.heap.size, 0, none⟩))) (i := 3) (d := 8) (L' := [true, false, false, true, false, false, false, false, false, false, false, false, false, false, false, false, false, false, false, false, false, false, false, false, false, false, false, false]) rfl (by kernel_rfl) rfl (Kept.refl _ _ _) (fun w' s' => x_fieldAddr fld_37_0 rfl rfl rfl) ?_
  refine d_take (v := .pointer (some (⟨w.heap.size, 0, none⟩))) (i := 4) (d := 9) (L' := [true, false, false, true, true, false, false, false, false, false, false, false, false, false, false, false, false, false, false, false, false, false, false, false, false, false, false, false]) rfl (by kernel_rfl) rfl (Kept.refl _ _ _) (fun w' s' => x_fieldAddr fld_23_0 rfl rfl rfl) ?_
  refine d_take (v := .int .i64 r.inst.replica) (i := 5) (d := 10) (L' := [true, false, false, true, true, true, false, false, false, false, false, false, false, false, false, false, false, false, false, false, false, false, false, false, false, false, false, false]) rfl (by kernel_rfl) rfl (Kept.refl _ _ _) (fun w' s' => x_load rfl rfl (((b2.ext x14).kept s' (by decide)).one one_3 rfl)) ?_
  refine d_take (v := .pointer (some (⟨w.heap.size, 0, none⟩))) (i := 6) (d := 11) (L' := [true, false, false, true, true, true, true, false, false, false, false, false, false, false, false, false, false, false, false, false, false, false, false, false, false, false, false, false]) rfl (by kernel_rfl) rfl (Kept.refl _ _ _) (fun w' s' => x_fieldAddr fld_37_0 rfl rfl rfl) ?_
  refine d_take (v := .pointer (some (⟨w.heap.size, 1, none⟩))) (i := 7) (d := 12) (L' := [true, false, false, true, true, true, true, true, false, false, false, false, false, false, false, false, false, false, false, false, false, false, false, false, false, false, false, false]) rfl (by kernel_rfl) rfl (Kept.refl _ _ _) (fun w' s' => x_fieldAddr fld_23_1 rfl rfl rfl) ?_
  refine d_take (v := .int .i64 r.inst.slot) (i := 8) (d := 13) (L' := [true, false, false, true, true, true, true, true, true, false, false, false, false, false, false, false, false, false, false, false, false, false, false, false, false, false, false, false]) rfl (by kernel_rfl) rfl (Kept.refl _ _ _) (fun w' s' => x_load rfl rfl (((b2.ext x14).kept s' (by decide)).one one_3 rfl)) ?_
  refine d_take (v := .pointer (some (⟨w.heap.size, 2, none⟩))) (i := 9) (d := 14) (L' := [true, false, false, true, true, true, true, true, true, true, false, false, false, false, false, false, false, false, false, false, false, false, false, false, false, false, false, false]) rfl (by kernel_rfl) rfl (Kept.refl _ _ _) (fun w' s' => x_fieldAddr fld_37_1 rfl rfl rfl) ?_
  refine d_take (v := .int .i64 r.status) (i := 10) (d := 15) (L' := [true, false, false, true, true, true, true, true, true, true, true, false, false, false, false, false, false, false, false, false, false, false, false, false, false, false, false, false]) rfl (by kernel_rfl) rfl (Kept.refl _ _ _) (fun w' s' => x_load rfl rfl (((b2.ext x14).kept s' (by decide)).one one_3 rfl)) ?_
  refine d_take (v := .pointer (some (⟨w.heap.size, 3, none⟩))) (i := 11) (d := 16) (L' := [true, false, false, true, true, true, true, true, true, true, true, true, false, false, false, false, false, false, false, false, false, false, false, false, false, false, false, false]) rfl (by kernel_rfl) rfl (Kept.refl _ _ _) (fun w' s' => x_fieldAddr fld_37_2 rfl rfl rfl) ?_
  refine d_take (v := .pointer (some (⟨w.heap.size, 3, none⟩))) (i := 12) (d := 17) (L' := [true, false, false, true, true, true, true, true, true, true, true, true, true, false, false, false, false, false, false, false, false, false, false, false, false, false, false, false]) rfl (by kernel_rfl) rfl (Kept.refl _ _ _) (fun w' s' => x_fieldAddr fld_25_0 rfl rfl rfl) ?_
  refine d_take (v := .int .i64 r.promise.number) (i := 13) (d := 18) (L' := [true, false, false, true, true, true, true, true, true, true, true, true, true, true, false, false, false, false, false, false, false, false, false, false, false, false, false, false]) rfl (by kernel_rfl) rfl (Kept.refl _ _ _) (fun w' s' => x_load rfl rfl (((b2.ext x14).kept s' (by decide)).one one_3 rfl)) ?_
  refine d_take (v := .pointer (some (⟨w.heap.size, 3, none⟩))) (i := 14) (d := 19) (L' := [true, false, false, true, true, true, true, true, true, true, true, true, true, true, true, false, false, false, false, false, false, false, false, false, false, false, false, false]) rfl (by kernel_rfl) rfl (Kept.refl _ _ _) (fun w' s' => x_fieldAddr fld_37_2 rfl rfl rfl) ?_
  refine d_take (v := .pointer (some (⟨w.heap.size, 4, none⟩))) (i := 15) (d := 20) (L' := [true, false, false, true, true, true, true, true, true, true, true, true, true, true, true, true, false, false, false, false, false, false, false, false, false, false, false, false]) rfl (by kernel_rfl) rfl (Kept.refl _ _ _) (fun w' s' => x_fieldAddr fld_25_1 rfl rfl rfl) ?_
  refine d_take (v := .int .i64 r.promise.replica) (i := 16) (d := 21) (L' := [true, false, false, true, true, true, true, true, true, true, true, true, true, true, true, true, true, false, false, false, false, false, false, false, false, false, false, false]) rfl (by kernel_rfl) rfl (Kept.refl _ _ _) (fun w' s' => x_load rfl rfl (((b2.ext x14).kept s' (by decide)).one one_3 rfl)) ?_
  refine d_take (v := .pointer (some (⟨w.heap.size, 5, none⟩))) (i := 17) (d := 22) (L' := [true, false, false, true, true, true, true, true, true, true, true, true, true, true, true, true, true, true, false, false, false, false, false, false, false, false, false, false]) rfl (by kernel_rfl) rfl (Kept.refl _ _ _) (fun w' s' => x_fieldAddr fld_37_3 rfl rfl rfl) ?_
  refine d_take (v := .pointer (some (⟨w.heap.size, 5, none⟩))) (i := 18) (d := 23) (L' := [true, false, false, true, true, true, true, true, true, true, true, true, true, true, true, true, true, true, true, false, false, false, false, false, false, false, false, false]) rfl (by kernel_rfl) rfl (Kept.refl _ _ _) (fun w' s' => x_fieldAddr fld_25_0 rfl rfl rfl) ?_
  refine d_take (v := .int .i64 r.ballot.number) (i := 19) (d := 24) (L' := [true, false, false, true, true, true, true, true, true, true, true, true, true, true, true, true, true, true, true, true, false, false, false, false, false, false, false, false]) rfl (by kernel_rfl) rfl (Kept.refl _ _ _) (fun w' s' => x_load rfl rfl (((b2.ext x14).kept s' (by decide)).one one_3 rfl)) ?_
  refine d_take (v := .pointer (some (⟨w.heap.size, 5, none⟩))) (i := 20) (d := 25) (L' := [true, false, false, true, true, true, true, true, true, true, true, true, true, true, true, true, true, true, true, true, true, false, false, false, false, false, false, false]) rfl (by kernel_rfl) rfl (Kept.refl _ _ _) (fun w' s' => x_fieldAddr fld_37_3 rfl rfl rfl) ?_
  refine d_take (v := .pointer (some (⟨w.heap.size, 6, none⟩))) (i := 21) (d := 26) (L' := [true, false, false, true, true, true, true, true, true, true, true, true, true, true, true, true, true, true, true, true, true, true, false, false, false, false, false, false]) rfl (by kernel_rfl) rfl (Kept.refl _ _ _) (fun w' s' => x_fieldAddr fld_25_1 rfl rfl rfl) ?_
  refine d_take (v := .int .i64 r.ballot.replica) (i := 22) (d := 27) (L' := [true, false, false, true, true, true, true, true, true, true, true, true, true, true, true, true, true, true, true, true, true, true, true, false, false, false, false, false]) rfl (by kernel_rfl) rfl (Kept.refl _ _ _) (fun w' s' => x_load rfl rfl (((b2.ext x14).kept s' (by decide)).one one_3 rfl)) ?_
  refine d_take (v := .pointer (some (⟨w.heap.size, 16, none⟩))) (i := 23) (d := 28) (L' := [true, false, false, true, true, true, true, true, true, true, true, true, true, true, true, true, true, true, true, true, true, true, true, true, false, false, false, false]) rfl (by kernel_rfl) rfl (Kept.refl _ _ _) (fun w' s' => x_fieldAddr fld_37_5 rfl rfl rfl) ?_
  refine d_take (v := .int .i64 r.seq) (i := 24) (d := 29) (L' := [true, false, false, true, true, true, true, true, true, true, true, true, true, true, true, true, true, true, true, true, true, true, true, true, true, false, false, false]) rfl (by kernel_rfl) rfl (Kept.refl _ _ _) (fun w' s' => x_load rfl rfl (((b2.ext x14).kept s' (by decide)).one one_3 rfl)) ?_
  refine d_act2 (i := 1) (j := 25) (L' := [true, true, false, true, true, true, true, true, true, true, true, true, true, true, true, true, true, true, true, true, true, true, true, true, true, false, false, false]) (L'' := [true, false, false, true, true, true, true, true, true, true, true, true, true, true, true, true, true, true, true, true, true, true, true, true, true, true, false, false]) (by kernel_rfl) rfl rfl rfl rfl ?_ ?_
  ·refine p_buildSlice (cs := [.int .u8 2]) el_46 rfl rfl rfl (parts1 rfl) (by decide) (by decide) (fill_ok [.int .u8 2] [.int .u8 2] rfl rfl) (fun w16 b17 x18 z19 => ?_)
   refine d_next ((Kept.refl _ _ _).ext x18 ((hx0.trans x3).trans x14).size) ?_
   refine d_act2 (i := 2) (j := 25) (L' := [true, true, true, true, true, true, true, true, true, true, true, true, true, true, true, true, true, true, true, true, true, true, true, true, true, false, false, false]) (L'' := [true, true, false, true, true, true, true, true, true, true, true, true, true, true, true, true, true, true, true, true, true, true, true, true, true, true, false, false]) (by kernel_rfl) rfl rfl rfl rfl ?_ ?_
   ·refine p_appendB (B := w0.heap.size) (bs := bs) (nb := ([2] : List UInt8)) (m := 1) (ad := ⟨w13.heap.size, 0, none⟩) el_46 rfl rfl rfl rfl (((hb.ext x3).ext x14).ext x18) rfl rfl (Box.puts b17 rfl) (by have hbl := encBool_len r.kept; first | omega | (simp only [List.length_append, List.length_cons, List.length_nil]; omega)) (by have hbl := encBool_len r.kept; first | omega | (simp only [List.length_append, List.length_cons, List.length_nil]; omega)) (((hx0.trans x3).trans x14).trans x18).size (fun A23 c24 w20 hb21 kp22 => ?_)
    refine d_next (((Kept.refl _ _ _).ext x18 ((hx0.trans x3).trans x14).size).trans kp22) ?_
    refine d_act1 (i := 25) (L' := [true, true, true, true, true, true, true, true, true, true, true, true, true, true, true, true, true, true, true, true, true, true, true, true, true, true, false, false]) (by kernel_rfl) rfl rfl ?_
    refine p_buildSlice (cs := [.int .i64 r.inst.replica, .int .i64 r.inst.slot, .int .i64 r.status, .int .i64 r.promise.number, .int .i64 r.promise.replica, .int .i64 r.ballot.number, .int .i64 r.ballot.replica, .int .i64 r.seq]) el_83 rfl rfl rfl (parts8 rfl rfl rfl rfl rfl rfl rfl rfl) (by decide) (by decide) (fill_ok [.int .i64 r.inst.replica, .int .i64 r.inst.slot, .int .i64 r.status, .int .i64 r.promise.number, .int .i64 r.promise.replica, .int .i64 r.ballot.number, .int .i64 r.ballot.replica, .int .i64 r.seq] [.int .i64 r.inst.replica, .int .i64 r.inst.slot, .int .i64 r.status, .int .i64 r.promise.number, .int .i64 r.promise.replica, .int .i64 r.ballot.number, .int .i64 r.ballot.replica, .int .i64 r.seq] rfl rfl) (fun w25 b26 x27 z28 => ?_)
    refine d_next ((((Kept.refl _ _ _).ext x18 ((hx0.trans x3).trans x14).size).trans kp22).ext x27 ((((hx0.trans x3).trans x14).trans x18).below (Nat.le_refl _) kp22.below).size) ?_
    refine d_act1 (i := 26) (L' := [true, true, true, true, true, true, true, true, true, true, true, true, true, true, true, true, true, true, true, true, true, true, true, true, true, true, true, false]) (by kernel_rfl) rfl rfl ?_
    refine p_call (vs := #[.slice A23 (List.length (α := UInt8) (bs ++ ([2] : List UInt8))) c24, .slice (some ⟨w20.heap.size, 0, none⟩) 8 8]) fn_38 rfl rfl rfl (args2 rfl rfl) ?_
    refine (C_numbers _ _ (((((hx0.trans x3).trans x14).trans x18).below (Nat.le_refl _) kp22.below).trans x27) A23 c24 (bs ++ ([2] : List UInt8)) (hb21.ext x27) (by have hbl := encBool_len r.kept; first | omega | (simp only [List.length_append, List.length_cons, List.length_nil]; omega)) w20.heap.size 3 0 8 8 [.int .i64 r.inst.replica, .int .i64 r.inst.slot, .int .i64 r.status, .int .i64 r.promise.number, .int .i64 r.promise.replica, .int .i64 r.ballot.number, .int .i64 r.ballot.replica, .int .i64 r.seq] [r.inst.replica, r.inst.slot, r.status, r.promise.number, r.promise.replica, r.ballot.number, r.ballot.replica, r.seq] rfl b26 (by decide) (ints_at rfl) (by intro x hx; simp only [List.mem_cons, List.not_mem_nil, or_false] at hx; omega) (by simp)).mono ?_
    rintro e w29 ⟨A32, c33, rfl, hb30, kp31⟩
    refine ⟨_, rfl, ?_⟩
    refine d_next (((((Kept.refl _ _ _).ext x18 ((hx0.trans x3).trans x14).size).trans kp22).ext x27 ((((hx0.trans x3).trans x14).trans x18).below (Nat.le_refl _) kp22.below).size).trans kp31) ?_
    refine d_take (v := .slice A32 (List.length (α := UInt8) (bs ++ ([2] : List UInt8) ++ encInts ([r.inst.replica, r.inst.slot, r.status, r.promise.number, r.promise.replica, r.ballot.number, r.ballot.replica, r.seq]))) c33) (i := 27) (d := 0) (L' := [true, true, true, true, true, true, true, true, true, true, true, true, true, true, true, true, true, true, true, true, true, true, true, true, true, true, true, true]) rfl (by kernel_rfl) rfl (((((Kept.refl _ _ _).ext x18 ((hx0.trans x3).trans x14).size).trans kp22).ext x27 ((((hx0.trans x3).trans x14).trans x18).below (Nat.le_refl _) kp22.below).size).trans kp31) (fun w' s' => x_assign rfl rfl) ?_
    refine d_end (by kernel_rfl) ?_
    exact t_norm ⟨_, rfl, A32, c33, rfl, rfl, rfl, hb30, ((((((Kept.refl _ _ _).ext x14 (hx0.trans x3).size).ext x18 ((hx0.trans x3).trans x14).size).trans kp22).ext x27 ((((hx0.trans x3).trans x14).trans x18).below (Nat.le_refl _) kp22.below).size).trans kp31)⟩
   ·refine p_buildSlice (cs := [.int .i64 r.inst.replica, .int .i64 r.inst.slot, .int .i64 r.status, .int .i64 r.promise.number, .int .i64 r.promise.replica, .int .i64 r.ballot.number, .int .i64 r.ballot.replica, .int .i64 r.seq]) el_83 rfl rfl rfl (parts8 rfl rfl rfl rfl rfl rfl rfl rfl) (by decide) (by decide) (fill_ok [.int .i64 r.inst.replica, .int .i64 r.inst.slot, .int .i64 r.status, .int .i64 r.promise.number, .int .i64 r.promise.replica, .int .i64 r.ballot.number, .int .i64 r.ballot.replica, .int .i64 r.seq] [.int .i64 r.inst.replica, .int .i64 r.inst.slot, .int .i64 r.status, .int .i64 r.promise.number, .int .i64 r.promise.replica, .int .i64 r.ballot.number, .int .i64 r.ballot.replica, .int .i64 r.seq] rfl rfl) (fun w34 b35 x36 z37 => ?_)
    refine d_next (((Kept.refl _ _ _).ext x18 ((hx0.trans x3).trans x14).size).ext x36 (((hx0.trans x3).trans x14).trans x18).size) ?_
    refine d_act1 (i := 2) (L' := [true, true, true, true, true, true, true, true, true, true, true, true, true, true, true, true, true, true, true, true, true, true, true, true, true, true, false, false]) (by kernel_rfl) rfl rfl ?_
    refine p_appendB (B := w0.heap.size) (bs := bs) (nb := ([2] : List UInt8)) (m := 1) (ad := ⟨w13.heap.size, 0, none⟩) el_46 rfl rfl rfl rfl ((((hb.ext x3).ext x14).ext x18).ext x36) rfl rfl (Box.puts (b17.ext x36) rfl) (by have hbl := encBool_len r.kept; first | omega | (simp only [List.length_append, List.length_cons, List.length_nil]; omega)) (by have hbl := encBool_len r.kept; first | omega | (simp only [List.length_append, List.length_cons, List.length_nil]; omega)) ((((hx0.trans x3).trans x14).trans x18).trans x36).size (fun A41 c42 w38 hb39 kp40 => ?_)
    refine d_next ((((Kept.refl _ _ _).ext x18 ((hx0.trans x3).trans x14).size).ext x36 (((hx0.trans x3).trans x14).trans x18).size).trans kp40) ?_
    refine d_act1 (i := 26) (L' := [true, true, true, true, true, true, true, true, true, true, true, true, true, true, true, true, true, true, true, true, true, true, true, true, true, true, true, false]) (by kernel_rfl) rfl rfl ?_
    refine p_call (vs := #[.slice A41 (List.length (α := UInt8) (bs ++ ([2] : List UInt8))) c42, .slice (some ⟨w16.heap.size, 0, none⟩) 8 8]) fn_38 rfl rfl rfl (args2 rfl rfl) ?_
    refine (C_numbers _ _ (((((hx0.trans x3).trans x14).trans x18).trans x36).below (Nat.le_refl _) kp40.below) A41 c42 (bs ++ ([2] : List UInt8)) hb39 (by have hbl := encBool_len r.kept; first | omega | (simp only [List.length_append, List.length_cons, List.length_nil]; omega)) w16.heap.size 3 0 8 8 [.int .i64 r.inst.replica, .int .i64 r.inst.slot, .int .i64 r.status, .int .i64 r.promise.number, .int .i64 r.promise.replica, .int .i64 r.ballot.number, .int .i64 r.ballot.replica, .int .i64 r.seq] [r.inst.replica, r.inst.slot, r.status, r.promise.number, r.promise.replica, r.ballot.number, r.ballot.replica, r.seq] rfl (b35.kept kp40 (by decide)) (by decide) (ints_at rfl) (by intro x hx; simp only [List.mem_cons, List.not_mem_nil, or_false] at hx; omega) (by simp)).mono ?_
    rintro e w43 ⟨A46, c47, rfl, hb44, kp45⟩
    refine ⟨_, rfl, ?_⟩
    refine d_next (((((Kept.refl _ _ _).ext x18 ((hx0.trans x3).trans x14).size).ext x36 (((hx0.trans x3).trans x14).trans x18).size).trans kp40).trans kp45) ?_
    refine d_take (v := .slice A46 (List.length (α := UInt8) (bs ++ ([2] : List UInt8) ++ encInts ([r.inst.replica, r.inst.slot, r.status, r.promise.number, r.promise.replica, r.ballot.number, r.ballot.replica, r.seq]))) c47) (i := 27) (d := 0) (L' := [true, true, true, true, true, true, true, true, true, true, true, true, true, true, true, true, true, true, true, true, true, true, true, true, true, true, true, true]) rfl (by kernel_rfl) rfl (((((Kept.refl _ _ _).ext x18 ((hx0.trans x3).trans x14).size).ext x36 (((hx0.trans x3).trans x14).trans x18).size).trans kp40).trans kp45) (fun w' s' => x_assign rfl rfl) ?_
    refine d_end (by kernel_rfl) ?_
    exact t_norm ⟨_, rfl, A46, c47, rfl, rfl, rfl, hb44, ((((((Kept.refl _ _ _).ext x14 (hx0.trans x3).size).ext x18 ((hx0.trans x3).trans x14).size).ext x36 (((hx0.trans x3).trans x14).trans x18).size).trans kp40).trans kp45)⟩
  ·refine p_buildSlice (cs := [.int .i64 r.inst.replica, .int .i64 r.inst.slot, .int .i64 r.status, .int .i64 r.promise.number, .int .i64 r.promise.replica, .int .i64 r.ballot.number, .int .i64 r.ballot.replica, .int .i64 r.seq]) el_83 rfl rfl rfl (parts8 rfl rfl rfl rfl rfl rfl rfl rfl) (by decide) (by decide) (fill_ok [.int .i64 r.inst.replica, .int .i64 r.inst.slot, .int .i64 r.status, .int .i64 r.promise.number, .int .i64 r.promise.replica, .int .i64 r.ballot.number, .int .i64 r.ballot.replica, .int .i64 r.seq] [.int .i64 r.inst.replica, .int .i64 r.inst.slot, .int .i64 r.status, .int .i64 r.promise.number, .int .i64 r.promise.replica, .int .i64 r.ballot.number, .int .i64 r.ballot.replica, .int .i64 r.seq] rfl rfl) (fun w48 b49 x50 z51 => ?_)
   refine d_next ((Kept.refl _ _ _).ext x50 ((hx0.trans x3).trans x14).size) ?_
   refine d_act1 (i := 1) (L' := [true, true, false, true, true, true, true, true, true, true, true, true, true, true, true, true, true, true, true, true, true, true, true, true, true, true, false, false]) (by kernel_rfl) rfl rfl ?_
   refine p_buildSlice (cs := [.int .u8 2]) el_46 rfl rfl rfl (parts1 rfl) (by decide) (by decide) (fill_ok [.int .u8 2] [.int .u8 2] rfl rfl) (fun w52 b53 x54 z55 => ?_)
   refine d_next (((Kept.refl _ _ _).ext x50 ((hx0.trans x3).trans x14).size).ext x54 (((hx0.trans x3).trans x14).trans x50).size) ?_
   refine d_act1 (i := 2) (L' := [true, true, true, true, true, true, true, true, true, true, true, true, true, true, true, true, true, true, true, true, true, true, true, true, true, true, false, false]) (by kernel_rfl) rfl rfl ?_
   refine p_appendB (B := w0.heap.size) (bs := bs) (nb := ([2] : List UInt8)) (m := 1) (ad := ⟨w48.heap.size, 0, none⟩) el_46 rfl rfl rfl rfl ((((hb.ext x3).ext x14).ext x50).ext x54) rfl rfl (Box.puts b53 rfl) (by have hbl := encBool_len r.kept; first | omega | (simp only [List.length_append, List.length_cons, List.length_nil]; omega)) (by have hbl := encBool_len r.kept; first | omega | (simp only [List.length_append, List.length_cons, List.length_nil]; omega)) ((((hx0.trans x3).trans x14).trans x50).trans x54).size (fun A59 c60 w56 hb57 kp58 => ?_)
   refine d_next ((((Kept.refl _ _ _).ext x50 ((hx0.trans x3).trans x14).size).ext x54 (((hx0.trans x3).trans x14).trans x50).size).trans kp58) ?_
   refine d_act1 (i := 26) (L' := [true, true, true, true, true, true, true, true, true, true, true, true, true, true, true, true, true, true, true, true, true, true, true, true, true, true, true, false]) (by kernel_rfl) rfl rfl ?_
   refine p_call (vs := #[.slice A59 (List.length (α := UInt8) (bs ++ ([2] : List UInt8))) c60, .slice (some ⟨w13.heap.size, 0, none⟩) 8 8]) fn_38 rfl rfl rfl (args2 rfl rfl) ?_
   refine (C_numbers _ _ (((((hx0.trans x3).trans x14).trans x50).trans x54).below (Nat.le_refl _) kp58.below) A59 c60 (bs ++ ([2] : List UInt8)) hb57 (by have hbl := encBool_len r.kept; first | omega | (simp only [List.length_append, List.length_cons, List.length_nil]; omega)) w13.heap.size 3 0 8 8 [.int .i64 r.inst.replica, .int .i64 r.inst.slot, .int .i64 r.status, .int .i64 r.promise.number, .int .i64 r.promise.replica, .int .i64 r.ballot.number, .int .i64 r.ballot.replica, .int .i64 r.seq] [r.inst.replica, r.inst.slot, r.status, r.promise.number, r.promise.replica, r.ballot.number, r.ballot.replica, r.seq] rfl ((b49.ext x54).kept kp58 (by decide)) (by decide) (ints_at rfl) (by intro x hx; simp only [List.mem_cons, List.not_mem_nil, or_false] at hx; omega) (by simp)).mono ?_
   rintro e w61 ⟨A64, c65, rfl, hb62, kp63⟩
   refine ⟨_, rfl, ?_⟩
   refine d_next (((((Kept.refl _ _ _).ext x50 ((hx0.trans x3).trans x14).size).ext x54 (((hx0.trans x3).trans x14).trans x50).size).trans kp58).trans kp63) ?_
   refine d_take (v := .slice A64 (List.length (α := UInt8) (bs ++ ([2] : List UInt8) ++ encInts ([r.inst.replica, r.inst.slot, r.status, r.promise.number, r.promise.replica, r.ballot.number, r.ballot.replica, r.seq]))) c65) (i := 27) (d := 0) (L' := [true, true, true, true, true, true, true, true, true, true, true, true, true, true, true, true, true, true, true, true, true, true, true, true, true, true, true, true]) rfl (by kernel_rfl) rfl (((((Kept.refl _ _ _).ext x50 ((hx0.trans x3).trans x14).size).ext x54 (((hx0.trans x3).trans x14).trans x50).size).trans kp58).trans kp63) (fun w' s' => x_assign rfl rfl) ?_
   refine d_end (by kernel_rfl) ?_
   exact t_norm ⟨_, rfl, A64, c65, rfl, rfl, rfl, hb62, ((((((Kept.refl _ _ _).ext x14 (hx0.trans x3).size).ext x50 ((hx0.trans x3).trans x14).size).ext x54 (((hx0.trans x3).trans x14).trans x50).size).trans kp58).trans kp63)⟩
 ·rintro ρ w5 ⟨A6, c7, e9, e10, e11, hb8, kp12⟩
  refine t_norm ?_
  refine c_seq ?_
  refine c_drawn mixed (by kernel_rfl) (fun _ _ _ _ _ h => h) (fun v1 v2 => Kept w0.heap.size 5 v1 v2) 11 rfl (fun w66 x67 z68 => ?_)
  refine d_take (v := .slice A6 (List.length (α := UInt8) (bs ++ ([2] : List UInt8) ++ encInts ([r.inst.replica, r.inst.slot, r.status, r.promise.number, r.promise.replica, r.ballot.number, r.ballot.replica, r.seq]))) c7) (i := 0) (d := 32) (L' := [true, false, false, false, false, false, false, false, false, false, false]) rfl (by kernel_rfl) rfl (Kept.refl _ _ _) (fun w' s' => x_move rfl e9) ?_
  refine d_take (v := .pointer (some (⟨w.heap.size, 17, none⟩))) (i := 1) (d := 33) (L' := [true, true, false, false, false, false, false, false, false, false, false]) rfl (by kernel_rfl) rfl (Kept.refl _ _ _) (fun w' s' => x_fieldAddr fld_37_6 rfl e10 rfl) ?_
  refine d_take (v := .slice (some ⟨w.heap.size, 17, none⟩) 7 7) (i := 2) (d := 34) (L' := [true, true, true, false, false, false, false, false, false, false, false]) rfl (by kernel_rfl) rfl (Kept.refl _ _ _) (fun w' s' => x_slice_all ae_35 rfl rfl) ?_
  refine d_take (v := .pointer (some (⟨w.heap.size, 24, none⟩))) (i := 4) (d := 36) (L' := [true, true, true, false, true, false, false, false, false, false, false]) rfl (by kernel_rfl) rfl (Kept.refl _ _ _) (fun w' s' => x_fieldAddr fld_37_7 rfl e10 rfl) ?_
  refine d_take (v := .bool r.kept) (i := 5) (d := 37) (L' := [true, true, true, false, true, true, false, false, false, false, false]) rfl (by kernel_rfl) rfl (Kept.refl _ _ _) (fun w' s' => x_load rfl rfl ((((b2.kept kp12 (by decide)).ext x67).kept s' (by decide)).one one_4 rfl)) ?_
  refine d_take (v := .pointer (some (⟨w.heap.size, 7, none⟩))) (i := 7) (d := 39) (L' := [true, true, true, false, true, true, false, true, false, false, false]) rfl (by kernel_rfl) rfl (Kept.refl _ _ _) (fun w' s' => x_fieldAddr fld_37_4 rfl e10 rfl) ?_
  refine d_take (v := .agg #[.int .i64 r.cmd.kind, .int .i64 r.cmd.txn.client, .int .i64 r.cmd.txn.number, .int .i64 r.cmd.stp.time, .int .i64 r.cmd.stp.client, .int .i64 r.cmd.shards, .slice p.A r.cmd.reads.length p.n, .slice p.B r.cmd.writes.length p.m, .bool r.cmd.commit]) (i := 8) (d := 40) (L' := [true, true, true, false, true, true, false, true, true, false, false]) rfl (by kernel_rfl) rfl (Kept.refl _ _ _) (fun w' s' => x_load rfl rfl ((((b2.kept kp12 (by decide)).ext x67).kept s' (by decide)).agg (vs := [.int .i64 r.cmd.kind, .int .i64 r.cmd.txn.client, .int .i64 r.cmd.txn.number, .int .i64 r.cmd.stp.time, .int .i64 r.cmd.stp.client, .int .i64 r.cmd.shards, .slice p.A r.cmd.reads.length p.n, .slice p.B r.cmd.writes.length p.m, .bool r.cmd.commit]) agg_33_9 rfl)) ?_
  refine d_act1 (i := 3) (L' := [true, true, true, true, true, true, false, true, true, false, false]) (by kernel_rfl) rfl rfl ?_
  refine p_call (vs := #[.slice A6 (List.length (α := UInt8) (bs ++ ([2] : List UInt8) ++ encInts ([r.inst.replica, r.inst.slot, r.status, r.promise.number, r.promise.replica, r.ballot.number, r.ballot.replica, r.seq]))) c7, .slice (some ⟨w.heap.size, 17, none⟩) 7 7]) fn_38 rfl rfl rfl (args2 rfl rfl) ?_
  refine (C_numbers _ _ (((hx0.trans x3).below (Nat.le_refl _) kp12.below).trans x67) A6 c7 (bs ++ ([2] : List UInt8) ++ encInts ([r.inst.replica, r.inst.slot, r.status, r.promise.number, r.promise.replica, r.ballot.number, r.ballot.replica, r.seq])) (hb8.ext x67) (by have hbl := encBool_len r.kept; first | omega | (simp only [List.length_append, List.length_cons, List.length_nil]; omega)) w.heap.size 37 17 7 7 [.int .i64 r.inst.replica, .int .i64 r.inst.slot, .int .i64 r.status, .int .i64 r.promise.number, .int .i64 r.promise.replica, .int .i64 r.ballot.number, .int .i64 r.ballot.replica, .int .i64 r.cmd.kind, .int .i64 r.cmd.txn.client, .int .i64 r.cmd.txn.number, .int .i64 r.cmd.stp.time, .int .i64 r.cmd.stp.client, .int .i64 r.cmd.shards, .slice p.A r.cmd.reads.length p.n, .slice p.B r.cmd.writes.length p.m, .bool r.cmd.commit, .int .i64 r.seq, .int .i64 r.deps.d0, .int .i64 r.deps.d1, .int .i64 r.deps.d2, .int .i64 r.deps.d3, .int .i64 r.deps.d4, .int .i64 r.deps.d5, .int .i64 r.deps.d6, .bool r.kept] [r.deps.d0, r.deps.d1, r.deps.d2, r.deps.d3, r.deps.d4, r.deps.d5, r.deps.d6] rfl ((b2.kept kp12 (by decide)).ext x67) (by decide) (ints_at rfl) (by intro x hx; simp only [List.mem_cons, List.not_mem_nil, or_false] at hx; omega) (by simp)).mono ?_
  rintro e w69 ⟨A72, c73, rfl, hb70, kp71⟩
  refine ⟨_, rfl, ?_⟩
  refine d_next ((Kept.refl _ _ _).trans kp71) ?_
  refine d_act1 (i := 6) (L' := [true, true, true, true, true, true, true, true, true, false, false]) (by kernel_rfl) rfl rfl ?_
  refine p_call (vs := #[.slice A72 (List.length (α := UInt8) (bs ++ ([2] : List UInt8) ++ encInts ([r.inst.replica, r.inst.slot, r.status, r.promise.number, r.promise.replica, r.ballot.number, r.ballot.replica, r.seq]) ++ encInts ([r.deps.d0, r.deps.d1, r.deps.d2, r.deps.d3, r.deps.d4, r.deps.d5, r.deps.d6]))) c73, .bool r.kept]) fn_60 rfl rfl rfl (args2 rfl rfl) ?_
  refine (C_truth _ _ ((((hx0.trans x3).below (Nat.le_refl _) kp12.below).trans x67).below (Nat.le_refl _) kp71.below) A72 c73 (bs ++ ([2] : List UInt8) ++ encInts ([r.inst.replica, r.inst.slot, r.status, r.promise.number, r.promise.replica, r.ballot.number, r.ballot.replica, r.seq]) ++ encInts ([r.deps.d0, r.deps.d1, r.deps.d2, r.deps.d3, r.deps.d4, r.deps.d5, r.deps.d6])) hb70 (by have hbl := encBool_len r.kept; first | omega | (simp only [List.length_append, List.length_cons, List.length_nil]; omega)) r.kept).mono ?_
  rintro e w74 ⟨A77, c78, rfl, hb75, kp76⟩
  refine ⟨_, rfl, ?_⟩
  refine d_next (((Kept.refl _ _ _).trans kp71).trans kp76) ?_
  refine d_act1 (i := 9) (L' := [true, true, true, true, true, true, true, true, true, true, false]) (by kernel_rfl) rfl rfl ?_
  refine p_call (vs := #[.slice A77 (List.length (α := UInt8) (bs ++ ([2] : List UInt8) ++ encInts ([r.inst.replica, r.inst.slot, r.status, r.promise.number, r.promise.replica, r.ballot.number, r.ballot.replica, r.seq]) ++ encInts ([r.deps.d0, r.deps.d1, r.deps.d2, r.deps.d3, r.deps.d4, r.deps.d5, r.deps.d6]) ++ encBool r.kept)) c78, .agg #[.int .i64 r.cmd.kind, .int .i64 r.cmd.txn.client, .int .i64 r.cmd.txn.number, .int .i64 r.cmd.stp.time, .int .i64 r.cmd.stp.client, .int .i64 r.cmd.shards, .slice p.A r.cmd.reads.length p.n, .slice p.B r.cmd.writes.length p.m, .bool r.cmd.commit]]) fn_36 rfl rfl rfl (args2 rfl rfl) ?_
  refine (C_putCommand _ _ (((((hx0.trans x3).below (Nat.le_refl _) kp12.below).trans x67).below (Nat.le_refl _) kp71.below).below (Nat.le_refl _) kp76.below) A77 c78 (bs ++ ([2] : List UInt8) ++ encInts ([r.inst.replica, r.inst.slot, r.status, r.promise.number, r.promise.replica, r.ballot.number, r.ballot.replica, r.seq]) ++ encInts ([r.deps.d0, r.deps.d1, r.deps.d2, r.deps.d3, r.deps.d4, r.deps.d5, r.deps.d6]) ++ encBool r.kept) hb75 (by have hbl := encBool_len r.kept; first | omega | (simp only [List.length_append, List.length_cons, List.length_nil]; omega)) r.cmd p hc hg.cmd).mono ?_
  rintro e w79 ⟨A82, c83, rfl, hb80, kp81⟩
  refine ⟨_, rfl, ?_⟩
  refine d_next ((((Kept.refl _ _ _).trans kp71).trans kp76).trans kp81) ?_
  refine d_take (v := .slice A82 (List.length (α := UInt8) (bs ++ ([2] : List UInt8) ++ encInts ([r.inst.replica, r.inst.slot, r.status, r.promise.number, r.promise.replica, r.ballot.number, r.ballot.replica, r.seq]) ++ encInts ([r.deps.d0, r.deps.d1, r.deps.d2, r.deps.d3, r.deps.d4, r.deps.d5, r.deps.d6]) ++ encBool r.kept ++ encCmd r.cmd)) c83) (i := 10) (d := 4) (L' := [true, true, true, true, true, true, true, true, true, true, true]) rfl (by kernel_rfl) rfl ((((Kept.refl _ _ _).trans kp71).trans kp76).trans kp81) (fun w' s' => x_assign rfl rfl) ?_
  refine d_end (by kernel_rfl) ?_
  refine t_norm ?_
  refine c_ret ?_
  have he84 : bs ++ ([2] : List UInt8) ++ encInts ([r.inst.replica, r.inst.slot, r.status, r.promise.number, r.promise.replica, r.ballot.number, r.ballot.replica, r.seq]) ++ encInts ([r.deps.d0, r.deps.d1, r.deps.d2, r.deps.d3, r.deps.d4, r.deps.d5, r.deps.d6]) ++ encBool r.kept ++ encCmd r.cmd = bs ++ encRec r := by simp [encRec]
  exact c_done rfl (v := .slice A82 (List.length (α := UInt8) (bs ++ encRec r)) c83) (by rw [← he84]; exact rfl) ⟨A82, c83, rfl, by rw [← he84]; exact hb80, (((((((Kept.refl _ _ _).ext x3 hx0.size).trans kp12).ext x67 ((hx0.trans x3).below (Nat.le_refl _) kp12.below).size).trans kp71).trans kp76).trans kp81)⟩

set_option maxHeartbeats 4000000 in
theorem C_encC (w : World) (a : Cmd) (pa : Ptr) (ha : CmdAt w a pa) (hs : Slim a) :
    Calls Try.prog 15 #[.iface 33 (vCmd a pa)] w (fun e w' => ∃ A k, e = .returned (.tuple #[.slice A (outC a).length k, .int .i64 (errOf (rightCmd a))]) ∧ Byt w' w.heap.size 5 A k (outC a) ∧ Ext w w') := by
 refine c_enter (n := 45) Try.func15 rfl rfl rfl ?_
 refine c_seq ?_
 refine c_quiet ?_
 refine q_val (v := .slice none 0 0) rfl rfl (fun w' x' => x_assign rfl rfl) ?_
 refine q_val (v := .int .i64 0) rfl rfl (fun w' x' => x_assign rfl rfl) ?_
 refine q_nil (fun w1 x2 => ?_)
 refine t_norm ?_
 refine c_seq ?_
 refine c_seq ?_
 refine c_quiet ?_
 refine q_val (v := .iface 33 (vCmd a pa)) rfl rfl (fun w' x' => x_move rfl rfl) ?_
 refine q_nil (fun w3 x4 => ?_)
 refine t_norm ?_
 refine c_block ?_
 refine c_seq ?_
 refine c_quiet ?_
 refine q_val (v := .tuple #[vCmd a pa, .bool true]) rfl rfl (fun w' x' => x_assert_yes pl_33_ rfl rfl) ?_
 refine q_val (v := .bool true) rfl rfl (fun w' x' => x_extract rfl rfl rfl) ?_
 refine q_val (v := vCmd a pa) rfl rfl (fun w' x' => x_extract rfl rfl rfl) ?_
 refine q_nil (fun w5 x6 => ?_)
 refine t_norm ?_
 refine c_true rfl ?_
 refine c_seq ?_
 refine c_plain ?_
 refine p_var (v := vCmd a pa) (vs := [.int .i64 a.kind, .int .i64 a.txn.client, .int .i64 a.txn.number, .int .i64 a.stp.time, .int .i64 a.stp.client, .int .i64 a.shards, .slice pa.A a.reads.length pa.n, .slice pa.B a.writes.length pa.m, .bool a.commit]) rfl rfl rfl zero_33 rfl rfl rfl rfl rfl rfl rfl size_33 rfl (fun w7 b8 x9 z10 => ?_)
 refine p_nil ?_
 refine t_norm ?_
 refine c_seq ?_
 refine c_quiet ?_
 refine q_val (v := vCmd a pa) rfl rfl (fun w' x' => x_load rfl rfl ((b8.ext x').agg (vs := [.int .i64 a.kind, .int .i64 a.txn.client, .int .i64 a.txn.number, .int .i64 a.stp.time, .int .i64 a.stp.client, .int .i64 a.shards, .slice pa.A a.reads.length pa.n, .slice pa.B a.writes.length pa.m, .bool a.commit]) agg_33_9 rfl)) ?_
 refine q_callb (b := rightCmd a) (vs := #[vCmd a pa]) fn_28 rfl rfl rfl (args1 rfl) (fun w' x' => C_rightCmd _ a pa (((((ha.ext x2).ext x4).ext x6).ext x9).ext x') hs) (fun c11 => ?_) (fun c11 => ?_)
 ·refine q_nil (fun w12 x13 => ?_)
  refine t_norm ?_
  refine c_true rfl ?_
  refine c_seq ?_
  refine c_plain ?_
  refine p_val (v := vCmd a pa) rfl rfl (x_load rfl rfl ((b8.ext x13).agg (vs := [.int .i64 a.kind, .int .i64 a.txn.client, .int .i64 a.txn.number, .int .i64 a.stp.time, .int .i64 a.stp.client, .int .i64 a.shards, .slice pa.A a.reads.length pa.n, .slice pa.B a.writes.length pa.m, .bool a.commit]) agg_33_9 rfl)) ?_
  refine p_call (vs := #[.slice none 0 0, vCmd a pa]) fn_36 rfl rfl rfl (args2 rfl rfl) ?_
  refine (C_putCommand _ _ ((((x2.trans x4).trans x6).trans x9).trans x13) none 0 ([] : List UInt8) (Byt.nil _ _ _) (by first | omega | (simp only [List.length_append, List.length_cons, List.length_nil]; omega)) a pa ha (good_of c11)).mono ?_
  rintro e w14 ⟨A17, c18, rfl, hb15, kp16⟩
  refine ⟨_, rfl, ?_⟩
  refine p_val (v := .slice A17 (List.length (α := UInt8) (([] : List UInt8) ++ encCmd a)) c18) rfl rfl (x_assign rfl rfl) ?_
  refine p_val (v := .int .i64 0) rfl rfl (x_assign rfl rfl) ?_
  refine p_nil ?_
  refine t_norm ?_
  refine c_ret ?_
  refine b_ret (t_ret ?_)
  have he19 : ([] : List UInt8) ++ encCmd a = outC a := (by simp [outC, encMsg, c11])
  have he19q : (0 : Int) = errOf (rightCmd a) := (by simp [errOf, c11])
  exact c_done2 rfl (v := .slice A17 (List.length (α := UInt8) (outC a)) c18) (x := .int .i64 (errOf (rightCmd a))) (by rw [← he19]; exact rfl) (by rw [← he19q]; exact rfl) ⟨A17, c18, rfl, by rw [← he19]; exact hb15, (((((x2.trans x4).trans x6).trans x9).trans x13).below (Nat.le_refl _) kp16.below)⟩
 ·refine q_nil (fun w20 x21 => ?_)
  refine t_norm ?_
  refine c_false rfl ?_
  refine c_skip ?_
  refine b_norm (t_norm ?_)
  refine c_seq ?_
  refine c_quiet ?_
  refine q_val (v := .slice none 0 0) rfl rfl (fun w' x' => x_assign rfl rfl) ?_
  refine q_val (v := .int .i64 1) rfl rfl (fun w' x' => x_assign rfl rfl) ?_
  refine q_nil (fun w22 x23 => ?_)
  refine t_norm ?_
  refine c_ret ?_
  have he24 : ([] : List UInt8) = outC a := (by simp [outC, encMsg, c11])
  have he24q : (1 : Int) = errOf (rightCmd a) := (by simp [errOf, c11])
  exact c_done2 rfl (v := .slice none (List.length (α := UInt8) (outC a)) 0) (x := .int .i64 (errOf (rightCmd a))) (by rw [← he24]; exact rfl) (by rw [← he24q]; exact rfl) ⟨none, 0, rfl, by rw [← he24]; exact (Byt.nil _ _ _), (((((x2.trans x4).trans x6).trans x9).trans x21).trans x23)⟩

set_option maxHeartbeats 4000000 in
theorem C_encR (w : World) (a : Rec) (pa : Ptr) (ha : CmdAt w a.cmd pa) (hs : Slim a.cmd) :
    Calls Try.prog 15 #[.iface 37 (vRec a pa)] w (fun e w' => ∃ A k, e = .returned (.tuple #[.slice A (outR a).length k, .int .i64 (errOf (rightRec a))]) ∧ Byt w' w.heap.size 5 A k (outR a) ∧ Ext w w') := by
 refine c_enter (n := 45) Try.func15 rfl rfl rfl ?_
 refine c_seq ?_
 refine c_quiet ?_
 refine q_val (v := .slice none 0 0) rfl rfl (fun w' x' => x_assign rfl rfl) ?_
 refine q_val (v := .int .i64 0) rfl rfl (fun w' x' => x_assign rfl rfl) ?_
 refine q_nil (fun w1 x2 => ?_)
 refine t_norm ?_
 refine c_seq ?_
 refine c_seq ?_
 refine c_quiet ?_
 refine q_val (v := .iface 37 (vRec a pa)) rfl rfl (fun w' x' => x_move rfl rfl) ?_
 refine q_nil (fun w3 x4 => ?_)
 refine t_norm ?_
 refine c_block ?_
 refine c_seq ?_
 refine c_quiet ?_
 refine q_val (v := .tuple #[.agg #[.int .i64 0, .int .i64 0, .int .i64 0, .int .i64 0, .int .i64 0, .int .i64 0, .slice none 0 0, .slice none 0 0, .bool false], .bool false]) rfl rfl (fun w' x' => x_assert_no pl_33_ (by decide) zero_33 rfl rfl) ?_
 refine q_val (v := .bool false) rfl rfl (fun w' x' => x_extract rfl rfl rfl) ?_
 refine q_val (v := .agg #[.int .i64 0, .int .i64 0, .int .i64 0, .int .i64 0, .int .i64 0, .int .i64 0, .slice none 0 0, .slice none 0 0, .bool false]) rfl rfl (fun w' x' => x_extract rfl rfl rfl) ?_
 refine q_nil (fun w5 x6 => ?_)
 refine t_norm ?_
 refine c_false rfl ?_
 refine c_seq ?_
 refine c_quiet ?_
 refine q_val (v := .tuple #[vRec a pa, .bool true]) rfl rfl (fun w' x' => x_assert_yes pl_37_ rfl rfl) ?_
 refine q_val (v := .bool true) rfl rfl (fun w' x' => x_extract rfl rfl rfl) ?_
 refine q_val (v := vRec a pa) rfl rfl (fun w' x' => x_extract rfl rfl rfl) ?_
 refine q_nil (fun w7 x8 => ?_)
 refine t_norm ?_
 refine c_true rfl ?_
 refine c_seq ?_
 refine c_plain ?_
 refine p_var (v := vRec a pa) (vs := [.int .i64 a.inst.replica, .int .i64 a.inst.slot, .int .i64 a.status, .int .i64 a.promise.number, .int .i64 a.promise.replica, .int .i64 a.ballot.number, .int .i64 a.ballot.replica, .int .i64 a.cmd.kind, .int .i64 a.cmd.txn.client, .int .i64 a.cmd.txn.number, .int .i64 a.cmd.stp.time, .int .i64 a.cmd.stp.client, .int .i64 a.cmd.shards, .slice pa.A a.cmd.reads.length pa.n, .slice pa.B a.cmd.writes.length pa.m, .bool a.cmd.commit, .int .i64 a.seq, .int .i64 a.deps.d0, .int .i64 a.deps.d1, .int .i64 a.deps.d2, .int .i64 a.deps.d3, .int .i64 a.deps.d4, .int .i64 a.deps.d5, .int .i64 a.deps.d6, .bool a.kept]) rfl rfl rfl zero_37 rfl rfl rfl rfl rfl rfl rfl size_37 rfl (fun w9 b10 x11 z12 => ?_)
 refine p_nil ?_
 refine t_norm ?_
 refine c_seq ?_
 refine c_quiet ?_
 refine q_val (v := vRec a pa) rfl rfl (fun w' x' => x_load rfl rfl ((b10.ext x').agg (vs := [.int .i64 a.inst.replica, .int .i64 a.inst.slot, .int .i64 a.status, .int .i64 a.promise.number, .int .i64 a.promise.replica, .int .i64 a.ballot.number, .int .i64 a.ballot.replica, .int .i64 a.cmd.kind, .int .i64 a.cmd.txn.client, .int .i64 a.cmd.txn.number, .int .i64 a.cmd.stp.time, .int .i64 a.cmd.stp.client, .int .i64 a.cmd.shards, .slice pa.A a.cmd.reads.length pa.n, .slice pa.B a.cmd.writes.length pa.m, .bool a.cmd.commit, .int .i64 a.seq, .int .i64 a.deps.d0, .int .i64 a.deps.d1, .int .i64 a.deps.d2, .int .i64 a.deps.d3, .int .i64 a.deps.d4, .int .i64 a.deps.d5, .int .i64 a.deps.d6, .bool a.kept]) agg_37_25 rfl)) ?_
 refine q_callb (b := rightRec a) (vs := #[vRec a pa]) fn_9 rfl rfl rfl (args1 rfl) (fun w' x' => C_rightRec _ a pa ((((((ha.ext x2).ext x4).ext x6).ext x8).ext x11).ext x') hs) (fun c13 => ?_) (fun c13 => ?_)
 ·refine q_nil (fun w14 x15 => ?_)
  refine t_norm ?_
  refine c_true rfl ?_
  refine c_seq ?_
  refine c_plain ?_
  refine p_val (v := vRec a pa) rfl rfl (x_load rfl rfl ((b10.ext x15).agg (vs := [.int .i64 a.inst.replica, .int .i64 a.inst.slot, .int .i64 a.status, .int .i64 a.promise.number, .int .i64 a.promise.replica, .int .i64 a.ballot.number, .int .i64 a.ballot.replica, .int .i64 a.cmd.kind, .int .i64 a.cmd.txn.client, .int .i64 a.cmd.txn.number, .int .i64 a.cmd.stp.time, .int .i64 a.cmd.stp.client, .int .i64 a.cmd.shards, .slice pa.A a.cmd.reads.length pa.n, .slice pa.B a.cmd.writes.length pa.m, .bool a.cmd.commit, .int .i64 a.seq, .int .i64 a.deps.d0, .int .i64 a.deps.d1, .int .i64 a.deps.d2, .int .i64 a.deps.d3, .int .i64 a.deps.d4, .int .i64 a.deps.d5, .int .i64 a.deps.d6, .bool a.kept]) agg_37_25 rfl)) ?_
  refine p_call (vs := #[.slice none 0 0, vRec a pa]) fn_37 rfl rfl rfl (args2 rfl rfl) ?_
  refine (C_putRecord _ _ (((((x2.trans x4).trans x6).trans x8).trans x11).trans x15) none 0 ([] : List UInt8) (Byt.nil _ _ _) (by first | omega | (simp only [List.length_append, List.length_cons, List.length_nil]; omega)) a pa ha (good_rec c13)).mono ?_
  rintro e w16 ⟨A19, c20, rfl, hb17, kp18⟩
  refine ⟨_, rfl, ?_⟩
  refine p_val (v := .slice A19 (List.length (α := UInt8) (([] : List UInt8) ++ encRec a)) c20) rfl rfl (x_assign rfl rfl) ?_
  refine p_val (v := .int .i64 0) rfl rfl (x_assign rfl rfl) ?_
  refine p_nil ?_
  refine t_norm ?_
  refine c_ret ?_
  refine b_ret (t_ret ?_)
  have he21 : ([] : List UInt8) ++ encRec a = outR a := (by simp [outR, encMsg, c13])
  have he21q : (0 : Int) = errOf (rightRec a) := (by simp [errOf, c13])
  exact c_done2 rfl (v := .slice A19 (List.length (α := UInt8) (outR a)) c20) (x := .int .i64 (errOf (rightRec a))) (by rw [← he21]; exact rfl) (by rw [← he21q]; exact rfl) ⟨A19, c20, rfl, by rw [← he21]; exact hb17, ((((((x2.trans x4).trans x6).trans x8).trans x11).trans x15).below (Nat.le_refl _) kp18.below)⟩
 ·refine q_nil (fun w22 x23 => ?_)
  refine t_norm ?_
  refine c_false rfl ?_
  refine c_skip ?_
  refine b_norm (t_norm ?_)
  refine c_seq ?_
  refine c_quiet ?_
  refine q_val (v := .slice none 0 0) rfl rfl (fun w' x' => x_assign rfl rfl) ?_
  refine q_val (v := .int .i64 1) rfl rfl (fun w' x' => x_assign rfl rfl) ?_
  refine q_nil (fun w24 x25 => ?_)
  refine t_norm ?_
  refine c_ret ?_
  have he26 : ([] : List UInt8) = outR a := (by simp [outR, encMsg, c13])
  have he26q : (1 : Int) = errOf (rightRec a) := (by simp [errOf, c13])
  exact c_done2 rfl (v := .slice none (List.length (α := UInt8) (outR a)) 0) (x := .int .i64 (errOf (rightRec a))) (by rw [← he26]; exact rfl) (by rw [← he26q]; exact rfl) ⟨none, 0, rfl, by rw [← he26]; exact (Byt.nil _ _ _), ((((((x2.trans x4).trans x6).trans x8).trans x11).trans x23).trans x25)⟩

set_option maxHeartbeats 4000000 in
theorem C_encM (w : World) (a : Msg) (pa : Ptr) (ha : CmdAt w a.r.cmd pa) (hs : Slim a.r.cmd) :
    Calls Try.prog 15 #[.iface 39 (vMsg a pa)] w (fun e w' => ∃ A k, e = .returned (.tuple #[.slice A (outM a).length k, .int .i64 (errOf (rightMsg a))]) ∧ Byt w' w.heap.size 5 A k (outM a) ∧ Ext w w') := by
 refine c_enter (n := 45) Try.func15 rfl rfl rfl ?_
 refine c_seq ?_
 refine c_quiet ?_
 refine q_val (v := .slice none 0 0) rfl rfl (fun w' x' => x_assign rfl rfl) ?_
 refine q_val (v := .int .i64 0) rfl rfl (fun w' x' => x_assign rfl rfl) ?_
 refine q_nil (fun w1 x2 => ?_)
 refine t_norm ?_
 refine c_seq ?_
 refine c_seq ?_
 refine c_quiet ?_
 refine q_val (v := .iface 39 (vMsg a pa)) rfl rfl (fun w' x' => x_move rfl rfl) ?_
 refine q_nil (fun w3 x4 => ?_)
 refine t_norm ?_
 refine c_block ?_
 refine c_seq ?_
 refine c_quiet ?_
 refine q_val (v := .tuple #[.agg #[.int .i64 0, .int .i64 0, .int .i64 0, .int .i64 0, .int .i64 0, .int .i64 0, .slice none 0 0, .slice none 0 0, .bool false], .bool false]) rfl rfl (fun w' x' => x_assert_no pl_33_ (by decide) zero_33 rfl rfl) ?_
 refine q_val (v := .bool false) rfl rfl (fun w' x' => x_extract rfl rfl rfl) ?_
 refine q_val (v := .agg #[.int .i64 0, .int .i64 0, .int .i64 0, .int .i64 0, .int .i64 0, .int .i64 0, .slice none 0 0, .slice none 0 0, .bool false]) rfl rfl (fun w' x' => x_extract rfl rfl rfl) ?_
 refine q_nil (fun w5 x6 => ?_)
 refine t_norm ?_
 refine c_false rfl ?_
 refine c_seq ?_
 refine c_quiet ?_
 refine q_val (v := .tuple #[.agg #[.int .i64 0, .int .i64 0, .int .i64 0, .int .i64 0, .int .i64 0, .int .i64 0, .int .i64 0, .int .i64 0, .int .i64 0, .int .i64 0, .int .i64 0, .int .i64 0, .int .i64 0, .slice none 0 0, .slice none 0 0, .bool false, .int .i64 0, .int .i64 0, .int .i64 0, .int .i64 0, .int .i64 0, .int .i64 0, .int .i64 0, .int .i64 0, .bool false], .bool false]) rfl rfl (fun w' x' => x_assert_no pl_37_ (by decide) zero_37 rfl rfl) ?_
 refine q_val (v := .bool false) rfl rfl (fun w' x' => x_extract rfl rfl rfl) ?_
 refine q_val (v := .agg #[.int .i64 0, .int .i64 0, .int .i64 0, .int .i64 0, .int .i64 0, .int .i64 0, .int .i64 0, .int .i64 0, .int .i64 0, .int .i64 0, .int .i64 0, .int .i64 0, .int .i64 0, .slice none 0 0, .slice none 0 0, .bool false, .int .i64 0, .int .i64 0, .int .i64 0, .int .i64 0, .int .i64 0, .int .i64 0, .int .i64 0, .int .i64 0, .bool false]) rfl rfl (fun w' x' => x_extract rfl rfl rfl) ?_
 refine q_nil (fun w7 x8 => ?_)
 refine t_norm ?_
 refine c_false rfl ?_
 refine c_seq ?_
 refine c_quiet ?_
 refine q_val (v := .tuple #[vMsg a pa, .bool true]) rfl rfl (fun w' x' => x_assert_yes pl_39_ rfl rfl) ?_
 refine q_val (v := .bool true) rfl rfl (fun w' x' => x_extract rfl rfl rfl) ?_
 refine q_val (v := vMsg a pa) rfl rfl (fun w' x' => x_extract rfl rfl rfl) ?_
 refine q_nil (fun w9 x10 => ?_)
 refine t_norm ?_
 refine c_true rfl ?_
 refine c_seq ?_
 refine c_plain ?_
 refine p_var (v := vMsg a pa) (vs := [.int .i64 a.kind, .int .i64 a.src, .int .i64 a.dst, .int .i64 a.ballot.number, .int .i64 a.ballot.replica, .int .i64 a.r.inst.replica, .int .i64 a.r.inst.slot, .int .i64 a.r.status, .int .i64 a.r.promise.number, .int .i64 a.r.promise.replica, .int .i64 a.r.ballot.number, .int .i64 a.r.ballot.replica, .int .i64 a.r.cmd.kind, .int .i64 a.r.cmd.txn.client, .int .i64 a.r.cmd.txn.number, .int .i64 a.r.cmd.stp.time, .int .i64 a.r.cmd.stp.client, .int .i64 a.r.cmd.shards, .slice pa.A a.r.cmd.reads.length pa.n, .slice pa.B a.r.cmd.writes.length pa.m, .bool a.r.cmd.commit, .int .i64 a.r.seq, .int .i64 a.r.deps.d0, .int .i64 a.r.deps.d1, .int .i64 a.r.deps.d2, .int .i64 a.r.deps.d3, .int .i64 a.r.deps.d4, .int .i64 a.r.deps.d5, .int .i64 a.r.deps.d6, .bool a.r.kept]) rfl rfl rfl zero_39 rfl rfl rfl rfl rfl rfl rfl size_39 rfl (fun w11 b12 x13 z14 => ?_)
 refine p_nil ?_
 refine t_norm ?_
 refine c_seq ?_
 refine c_quiet ?_
 refine q_val (v := vMsg a pa) rfl rfl (fun w' x' => x_load rfl rfl ((b12.ext x').agg (vs := [.int .i64 a.kind, .int .i64 a.src, .int .i64 a.dst, .int .i64 a.ballot.number, .int .i64 a.ballot.replica, .int .i64 a.r.inst.replica, .int .i64 a.r.inst.slot, .int .i64 a.r.status, .int .i64 a.r.promise.number, .int .i64 a.r.promise.replica, .int .i64 a.r.ballot.number, .int .i64 a.r.ballot.replica, .int .i64 a.r.cmd.kind, .int .i64 a.r.cmd.txn.client, .int .i64 a.r.cmd.txn.number, .int .i64 a.r.cmd.stp.time, .int .i64 a.r.cmd.stp.client, .int .i64 a.r.cmd.shards, .slice pa.A a.r.cmd.reads.length pa.n, .slice pa.B a.r.cmd.writes.length pa.m, .bool a.r.cmd.commit, .int .i64 a.r.seq, .int .i64 a.r.deps.d0, .int .i64 a.r.deps.d1, .int .i64 a.r.deps.d2, .int .i64 a.r.deps.d3, .int .i64 a.r.deps.d4, .int .i64 a.r.deps.d5, .int .i64 a.r.deps.d6, .bool a.r.kept]) agg_39_30 rfl)) ?_
 refine q_callb (b := rightMsg a) (vs := #[vMsg a pa]) fn_11 rfl rfl rfl (args1 rfl) (fun w' x' => C_rightMsg _ a pa (((((((ha.ext x2).ext x4).ext x6).ext x8).ext x10).ext x13).ext x') hs) (fun c15 => ?_) (fun c15 => ?_)
 ·have hmn := (good_msg c15).nums
  have hml := msgHead_len (good_msg c15)
  refine q_nil (fun w16 x17 => ?_)
  refine t_norm ?_
  refine c_true rfl ?_
  refine c_seq ?_
  refine c_meet (fun ρ w18 => ∃ (A19 : Option Addr), ∃ (c20 : Nat), ρ 2 = .slice A19 (List.length (α := UInt8) (([3] : List UInt8) ++ encInts ([a.kind, a.src, a.dst, a.ballot.number, a.ballot.replica]) ++ encRec a.r)) c20 ∧ ρ 3 = .int .i64 0 ∧ Byt w18 w.heap.size 5 A19 c20 (([3] : List UInt8) ++ encInts ([a.kind, a.src, a.dst, a.ballot.number, a.ballot.replica]) ++ encRec a.r) ∧ Kept w.heap.size 5 w16 w18) ?_ ?_
  ·refine c_drawn mixed (by kernel_rfl) (fun _ _ _ _ _ h => h) (fun v1 v2 => Kept w.heap.size 5 v1 v2) 20 rfl (fun w25 x26 z27 => ?_)
   refine d_take (v := .pointer (some (⟨w9.heap.size, 0, none⟩))) (i := 1) (d := 28) (L' := [false, true, false, false, false, false, false, false, false, false, false, false, false, false, false, false, false, false, false, false]) rfl (by kernel_rfl) rfl (Kept.refl _ _ _) (fun w' s' => x_fieldAddr fld_39_0 rfl rfl rfl) ?_
   refine d_take (v := .int .i64 a.kind) (i := 2) (d := 29) (L' := [false, true, true, false, false, false, false, false, false, false, false, false, false, false, false, false, false, false, false, false]) rfl (by kernel_rfl) rfl (Kept.refl _ _ _) (fun w' s' => x_load rfl rfl ((((b12.ext x17).ext x26).kept s' (by decide)).one one_3 rfl)) ?_
   refine d_take (v := .pointer (some (⟨w9.heap.size, 1, none⟩))) (i := 3) (d := 30) (L' := [false, true, true, true, false, false, false, false, false, false, false, false, false, false, false, false, false, false, false, false]) rfl (by kernel_rfl) rfl (Kept.refl _ _ _) (fun w' s' => x_fieldAddr fld_39_1 rfl rfl rfl) ?_
   refine d_take (v := .int .i64 a.src) (i := 4) (d := 31) (L' := [false, true, true, true, true, false, false, false, false, false, false, false, false, false, false, false, false, false, false, false]) rfl (by kernel_rfl) rfl (Kept.refl _ _ _) (fun w' s' => x_load rfl rfl ((((b12.ext x17).ext x26).kept s' (by decide)).one one_3 rfl)) ?_
   refine d_take (v := .pointer (some (⟨w9.heap.size, 2, none⟩))) (i := 5) (d := 32) (L' := [false, true, true, true, true, true, false, false, false, false, false, false, false, false, false, false, false, false, false, false]) rfl (by kernel_rfl) rfl (Kept.refl _ _ _) (fun w' s' => x_fieldAddr fld_39_2 rfl rfl rfl) ?_
   refine d_take (v := .int .i64 a.dst) (i := 6) (d := 33) (L' := [false, true, true, true, true, true, true, false, false, false, false, false, false, false, false, false, false, false, false, false]) rfl (by kernel_rfl) rfl (Kept.refl _ _ _) (fun w' s' => x_load rfl rfl ((((b12.ext x17).ext x26).kept s' (by decide)).one one_3 rfl)) ?_
   refine d_take (v := .pointer (some (⟨w9.heap.size, 3, none⟩))) (i := 7) (d := 34) (L' := [false, true, true, true, true, true, true, true, false, false, false, false, false, false, false, false, false, false, false, false]) rfl (by kernel_rfl) rfl (Kept.refl _ _ _) (fun w' s' => x_fieldAddr fld_39_3 rfl rfl rfl) ?_
   refine d_take (v := .pointer (some (⟨w9.heap.size, 3, none⟩))) (i := 8) (d := 35) (L' := [false, true, true, true, true, true, true, true, true, false, false, false, false, false, false, false, false, false, false, false]) rfl (by kernel_rfl) rfl (Kept.refl _ _ _) (fun w' s' => x_fieldAddr fld_25_0 rfl rfl rfl) ?_
   refine d_take (v := .int .i64 a.ballot.number) (i := 9) (d := 36) (L' := [false, true, true, true, true, true, true, true, true, true, false, false, false, false, false, false, false, false, false, false]) rfl (by kernel_rfl) rfl (Kept.refl _ _ _) (fun w' s' => x_load rfl rfl ((((b12.ext x17).ext x26).kept s' (by decide)).one one_3 rfl)) ?_
   refine d_take (v := .pointer (some (⟨w9.heap.size, 3, none⟩))) (i := 10) (d := 37) (L' := [false, true, true, true, true, true, true, true, true, true, true, false, false, false, false, false, false, false, false, false]) rfl (by kernel_rfl) rfl (Kept.refl _ _ _) (fun w' s' => x_fieldAddr fld_39_3 rfl rfl rfl) ?_
   refine d_take (v := .pointer (some (⟨w9.heap.size, 4, none⟩))) (i := 11) (d := 38) (L' := [false, true, true, true, true, true, true, true, true, true, true, true, false, false, false, false, false, false, false, false]) rfl (by kernel_rfl) rfl (Kept.refl _ _ _) (fun w' s' => x_fieldAddr fld_25_1 rfl rfl rfl) ?_
   refine d_take (v := .int .i64 a.ballot.replica) (i := 12) (d := 39) (L' := [false, true, true, true, true, true, true, true, true, true, true, true, true, false, false, false, false, false, false, false]) rfl (by kernel_rfl) rfl (Kept.refl _ _ _) (fun w' s' => x_load rfl rfl ((((b12.ext x17).ext x26).kept s' (by decide)).one one_3 rfl)) ?_
   refine d_take (v := .pointer (some (⟨w9.heap.size, 5, none⟩))) (i := 15) (d := 42) (L' := [false, true, true, true, true, true, true, true, true, true, true, true, true, false, false, true, false, false, false, false]) rfl (by kernel_rfl) rfl (Kept.refl _ _ _) (fun w' s' => x_fieldAddr fld_39_4 rfl rfl rfl) ?_
   refine d_take (v := .agg #[.int .i64 a.r.inst.replica, .int .i64 a.r.inst.slot, .int .i64 a.r.status, .int .i64 a.r.promise.number, .int .i64 a.r.promise.replica, .int .i64 a.r.ballot.number, .int .i64 a.r.ballot.replica, .int .i64 a.r.cmd.kind, .int .i64 a.r.cmd.txn.client, .int .i64 a.r.cmd.txn.number, .int .i64 a.r.cmd.stp.time, .int .i64 a.r.cmd.stp.client, .int .i64 a.r.cmd.shards, .slice pa.A a.r.cmd.reads.length pa.n, .slice pa.B a.r.cmd.writes.length pa.m, .bool a.r.cmd.commit, .int .i64 a.r.seq, .int .i64 a.r.deps.d0, .int .i64 a.r.deps.d1, .int .i64 a.r.deps.d2, .int .i64 a.r.deps.d3, .int .i64 a.r.deps.d4, .int .i64 a.r.deps.d5, .int .i64 a.r.deps.d6, .bool a.r.kept]) (i := 16) (d := 43) (L' := [false, true, true, true, true, true, true, true, true, true, true, true, true, false, false, true, true, false, false, false]) rfl (by kernel_rfl) rfl (Kept.refl _ _ _) (fun w' s' => x_load rfl rfl ((((b12.ext x17).ext x26).kept s' (by decide)).agg (vs := [.int .i64 a.r.inst.replica, .int .i64 a.r.inst.slot, .int .i64 a.r.status, .int .i64 a.r.promise.number, .int .i64 a.r.promise.replica, .int .i64 a.r.ballot.number, .int .i64 a.r.ballot.replica, .int .i64 a.r.cmd.kind, .int .i64 a.r.cmd.txn.client, .int .i64 a.r.cmd.txn.number, .int .i64 a.r.cmd.stp.time, .int .i64 a.r.cmd.stp.client, .int .i64 a.r.cmd.shards, .slice pa.A a.r.cmd.reads.length pa.n, .slice pa.B a.r.cmd.writes.length pa.m, .bool a.r.cmd.commit, .int .i64 a.r.seq, .int .i64 a.r.deps.d0, .int .i64 a.r.deps.d1, .int .i64 a.r.deps.d2, .int .i64 a.r.deps.d3, .int .i64 a.r.deps.d4, .int .i64 a.r.deps.d5, .int .i64 a.r.deps.d6, .bool a.r.kept]) agg_37_25 rfl)) ?_
   refine d_act2 (i := 0) (j := 13) (L' := [true, true, true, true, true, true, true, true, true, true, true, true, true, false, false, true, true, false, false, false]) (L'' := [false, true, true, true, true, true, true, true, true, true, true, true, true, true, false, true, true, false, false, false]) (by kernel_rfl) rfl rfl rfl rfl ?_ ?_
   ·refine p_buildSlice (cs := [.int .u8 3]) el_46 rfl rfl rfl (parts1 rfl) (by decide) (by decide) (fill_ok [.int .u8 3] [.int .u8 3] rfl rfl) (fun w28 b29 x30 z31 => ?_)
    refine d_next ((Kept.refl _ _ _).ext x30 (((((((x2.trans x4).trans x6).trans x8).trans x10).trans x13).trans x17).trans x26).size) ?_
    refine d_act1 (i := 13) (L' := [true, true, true, true, true, true, true, true, true, true, true, true, true, true, false, true, true, false, false, false]) (by kernel_rfl) rfl rfl ?_
    refine p_buildSlice (cs := [.int .i64 a.kind, .int .i64 a.src, .int .i64 a.dst, .int .i64 a.ballot.number, .int .i64 a.ballot.replica]) el_83 rfl rfl rfl (parts5 rfl rfl rfl rfl rfl) (by decide) (by decide) (fill_ok [.int .i64 a.kind, .int .i64 a.src, .int .i64 a.dst, .int .i64 a.ballot.number, .int .i64 a.ballot.replica] [.int .i64 a.kind, .int .i64 a.src, .int .i64 a.dst, .int .i64 a.ballot.number, .int .i64 a.ballot.replica] rfl rfl) (fun w32 b33 x34 z35 => ?_)
    refine d_next (((Kept.refl _ _ _).ext x30 (((((((x2.trans x4).trans x6).trans x8).trans x10).trans x13).trans x17).trans x26).size).ext x34 ((((((((x2.trans x4).trans x6).trans x8).trans x10).trans x13).trans x17).trans x26).trans x30).size) ?_
    refine d_act1 (i := 14) (L' := [true, true, true, true, true, true, true, true, true, true, true, true, true, true, true, true, true, false, false, false]) (by kernel_rfl) rfl rfl ?_
    refine p_call (vs := #[.slice (some ⟨w25.heap.size, 0, none⟩) 1 1, .slice (some ⟨w28.heap.size, 0, none⟩) 5 5]) fn_38 rfl rfl rfl (args2 rfl rfl) ?_
    refine (C_numbers _ _ (((((((((x2.trans x4).trans x6).trans x8).trans x10).trans x13).trans x17).trans x26).trans x30).trans x34) (some ⟨w25.heap.size, 0, none⟩) 1 ([3] : List UInt8) (Byt.box (bs := ([3] : List UInt8)) (b29.ext x34) rfl (((((((x2.trans x4).trans x6).trans x8).trans x10).trans x13).trans x17).trans x26).size (by simp)) (by first | omega | (simp only [List.length_append, List.length_cons, List.length_nil]; omega)) w28.heap.size 3 0 5 5 [.int .i64 a.kind, .int .i64 a.src, .int .i64 a.dst, .int .i64 a.ballot.number, .int .i64 a.ballot.replica] [a.kind, a.src, a.dst, a.ballot.number, a.ballot.replica] rfl b33 (by decide) (ints_at rfl) (by intro x hx; simp only [List.mem_cons, List.not_mem_nil, or_false] at hx; omega) (by simp)).mono ?_
    rintro e w36 ⟨A39, c40, rfl, hb37, kp38⟩
    refine ⟨_, rfl, ?_⟩
    refine d_next ((((Kept.refl _ _ _).ext x30 (((((((x2.trans x4).trans x6).trans x8).trans x10).trans x13).trans x17).trans x26).size).ext x34 ((((((((x2.trans x4).trans x6).trans x8).trans x10).trans x13).trans x17).trans x26).trans x30).size).trans kp38) ?_
    refine d_act1 (i := 17) (L' := [true, true, true, true, true, true, true, true, true, true, true, true, true, true, true, true, true, true, false, false]) (by kernel_rfl) rfl rfl ?_
    refine p_call (vs := #[.slice A39 (List.length (α := UInt8) (([3] : List UInt8) ++ encInts ([a.kind, a.src, a.dst, a.ballot.number, a.ballot.replica]))) c40, .agg #[.int .i64 a.r.inst.replica, .int .i64 a.r.inst.slot, .int .i64 a.r.status, .int .i64 a.r.promise.number, .int .i64 a.r.promise.replica, .int .i64 a.r.ballot.number, .int .i64 a.r.ballot.replica, .int .i64 a.r.cmd.kind, .int .i64 a.r.cmd.txn.client, .int .i64 a.r.cmd.txn.number, .int .i64 a.r.cmd.stp.time, .int .i64 a.r.cmd.stp.client, .int .i64 a.r.cmd.shards, .slice pa.A a.r.cmd.reads.length pa.n, .slice pa.B a.r.cmd.writes.length pa.m, .bool a.r.cmd.commit, .int .i64 a.r.seq, .int .i64 a.r.deps.d0, .int .i64 a.r.deps.d1, .int .i64 a.r.deps.d2, .int .i64 a.r.deps.d3, .int .i64 a.r.deps.d4, .int .i64 a.r.deps.d5, .int .i64 a.r.deps.d6, .bool a.r.kept]]) fn_37 rfl rfl rfl (args2 rfl rfl) ?_
    refine (C_putRecord _ _ ((((((((((x2.trans x4).trans x6).trans x8).trans x10).trans x13).trans x17).trans x26).trans x30).trans x34).below (Nat.le_refl _) kp38.below) A39 c40 (([3] : List UInt8) ++ encInts ([a.kind, a.src, a.dst, a.ballot.number, a.ballot.replica])) hb37 (by first | omega | (simp only [List.length_append, List.length_cons, List.length_nil]; omega)) a.r pa ha (good_msg c15).r).mono ?_
    rintro e w41 ⟨A44, c45, rfl, hb42, kp43⟩
    refine ⟨_, rfl, ?_⟩
    refine d_next (((((Kept.refl _ _ _).ext x30 (((((((x2.trans x4).trans x6).trans x8).trans x10).trans x13).trans x17).trans x26).size).ext x34 ((((((((x2.trans x4).trans x6).trans x8).trans x10).trans x13).trans x17).trans x26).trans x30).size).trans kp38).trans kp43) ?_
    refine d_take (v := .slice A44 (List.length (α := UInt8) (([3] : List UInt8) ++ encInts ([a.kind, a.src, a.dst, a.ballot.number, a.ballot.replica]) ++ encRec a.r)) c45) (i := 18) (d := 2) (L' := [true, true, true, true, true, true, true, true, true, true, true, true, true, true, true, true, true, true, true, false]) rfl (by kernel_rfl) rfl (((((Kept.refl _ _ _).ext x30 (((((((x2.trans x4).trans x6).trans x8).trans x10).trans x13).trans x17).trans x26).size).ext x34 ((((((((x2.trans x4).trans x6).trans x8).trans x10).trans x13).trans x17).trans x26).trans x30).size).trans kp38).trans kp43) (fun w' s' => x_assign rfl rfl) ?_
    refine d_take (v := .int .i64 0) (i := 19) (d := 3) (L' := [true, true, true, true, true, true, true, true, true, true, true, true, true, true, true, true, true, true, true, true]) rfl (by kernel_rfl) rfl (((((Kept.refl _ _ _).ext x30 (((((((x2.trans x4).trans x6).trans x8).trans x10).trans x13).trans x17).trans x26).size).ext x34 ((((((((x2.trans x4).trans x6).trans x8).trans x10).trans x13).trans x17).trans x26).trans x30).size).trans kp38).trans kp43) (fun w' s' => x_assign rfl rfl) ?_
    refine d_end (by kernel_rfl) ?_
    exact t_norm ⟨_, rfl, A44, c45, rfl, rfl, hb42, ((((((Kept.refl _ _ _).ext x26 ((((((x2.trans x4).trans x6).trans x8).trans x10).trans x13).trans x17).size).ext x30 (((((((x2.trans x4).trans x6).trans x8).trans x10).trans x13).trans x17).trans x26).size).ext x34 ((((((((x2.trans x4).trans x6).trans x8).trans x10).trans x13).trans x17).trans x26).trans x30).size).trans kp38).trans kp43)⟩
   ·refine p_buildSlice (cs := [.int .i64 a.kind, .int .i64 a.src, .int .i64 a.dst, .int .i64 a.ballot.number, .int .i64 a.ballot.replica]) el_83 rfl rfl rfl (parts5 rfl rfl rfl rfl rfl) (by decide) (by decide) (fill_ok [.int .i64 a.kind, .int .i64 a.src, .int .i64 a.dst, .int .i64 a.ballot.number, .int .i64 a.ballot.replica] [.int .i64 a.kind, .int .i64 a.src, .int .i64 a.dst, .int .i64 a.ballot.number, .int .i64 a.ballot.replica] rfl rfl) (fun w46 b47 x48 z49 => ?_)
    refine d_next ((Kept.refl _ _ _).ext x48 (((((((x2.trans x4).trans x6).trans x8).trans x10).trans x13).trans x17).trans x26).size) ?_
    refine d_act1 (i := 0) (L' := [true, true, true, true, true, true, true, true, true, true, true, true, true, true, false, true, true, false, false, false]) (by kernel_rfl) rfl rfl ?_
    refine p_buildSlice (cs := [.int .u8 3]) el_46 rfl rfl rfl (parts1 rfl) (by decide) (by decide) (fill_ok [.int .u8 3] [.int .u8 3] rfl rfl) (fun w50 b51 x52 z53 => ?_)
    refine d_next (((Kept.refl _ _ _).ext x48 (((((((x2.trans x4).trans x6).trans x8).trans x10).trans x13).trans x17).trans x26).size).ext x52 ((((((((x2.trans x4).trans x6).trans x8).trans x10).trans x13).trans x17).trans x26).trans x48).size) ?_
    refine d_act1 (i := 14) (L' := [true, true, true, true, true, true, true, true, true, true, true, true, true, true, true, true, true, false, false, false]) (by kernel_rfl) rfl rfl ?_
    refine p_call (vs := #[.slice (some ⟨w46.heap.size, 0, none⟩) 1 1, .slice (some ⟨w25.heap.size, 0, none⟩) 5 5]) fn_38 rfl rfl rfl (args2 rfl rfl) ?_
    refine (C_numbers _ _ (((((((((x2.trans x4).trans x6).trans x8).trans x10).trans x13).trans x17).trans x26).trans x48).trans x52) (some ⟨w46.heap.size, 0, none⟩) 1 ([3] : List UInt8) (Byt.box (bs := ([3] : List UInt8)) b51 rfl ((((((((x2.trans x4).trans x6).trans x8).trans x10).trans x13).trans x17).trans x26).trans x48).size (by simp)) (by first | omega | (simp only [List.length_append, List.length_cons, List.length_nil]; omega)) w25.heap.size 3 0 5 5 [.int .i64 a.kind, .int .i64 a.src, .int .i64 a.dst, .int .i64 a.ballot.number, .int .i64 a.ballot.replica] [a.kind, a.src, a.dst, a.ballot.number, a.ballot.replica] rfl (b47.ext x52) (by decide) (ints_at rfl) (by intro x hx; simp only [List.mem_cons, List.not_mem_nil, or_false] at hx; omega) (by simp)).mono ?_
    rintro e w54 ⟨A57, c58, rfl, hb55, kp56⟩
    refine ⟨_, rfl, ?_⟩
    refine d_next ((((Kept.refl _ _ _).ext x48 (((((((x2.trans x4).trans x6).trans x8).trans x10).trans x13).trans x17).trans x26).size).ext x52 ((((((((x2.trans x4).trans x6).trans x8).trans x10).trans x13).trans x17).trans x26).trans x48).size).trans kp56) ?_
    refine d_act1 (i := 17) (L' := [true, true, true, true, true, true, true, true, true, true, true, true, true, true, true, true, true, true, false, false]) (by kernel_rfl) rfl rfl ?_
    refine p_call (vs := #[.slice A57 (List.length (α := UInt8) (([3] : List UInt8) ++ encInts ([a.kind, a.src, a.dst, a.ballot.number, a.ballot.replica]))) c58, .agg #[.int .i64 a.r.inst.replica, .int .i64 a.r.inst.slot, .int .i64 a.r.status, .int .i64 a.r.promise.number, .int .i64 a.r.promise.replica, .int .i64 a.r.ballot.number, .int .i64 a.r.ballot.replica, .int .i64 a.r.cmd.kind, .int .i64 a.r.cmd.txn.client, .int .i64 a.r.cmd.txn.number, .int .i64 a.r.cmd.stp.time, .int .i64 a.r.cmd.stp.client, .int .i64 a.r.cmd.shards, .slice pa.A a.r.cmd.reads.length pa.n, .slice pa.B a.r.cmd.writes.length pa.m, .bool a.r.cmd.commit, .int .i64 a.r.seq, .int .i64 a.r.deps.d0, .int .i64 a.r.deps.d1, .int .i64 a.r.deps.d2, .int .i64 a.r.deps.d3, .int .i64 a.r.deps.d4, .int .i64 a.r.deps.d5, .int .i64 a.r.deps.d6, .bool a.r.kept]]) fn_37 rfl rfl rfl (args2 rfl rfl) ?_
    refine (C_putRecord _ _ ((((((((((x2.trans x4).trans x6).trans x8).trans x10).trans x13).trans x17).trans x26).trans x48).trans x52).below (Nat.le_refl _) kp56.below) A57 c58 (([3] : List UInt8) ++ encInts ([a.kind, a.src, a.dst, a.ballot.number, a.ballot.replica])) hb55 (by first | omega | (simp only [List.length_append, List.length_cons, List.length_nil]; omega)) a.r pa ha (good_msg c15).r).mono ?_
    rintro e w59 ⟨A62, c63, rfl, hb60, kp61⟩
    refine ⟨_, rfl, ?_⟩
    refine d_next (((((Kept.refl _ _ _).ext x48 (((((((x2.trans x4).trans x6).trans x8).trans x10).trans x13).trans x17).trans x26).size).ext x52 ((((((((x2.trans x4).trans x6).trans x8).trans x10).trans x13).trans x17).trans x26).trans x48).size).trans kp56).trans kp61) ?_
    refine d_take (v := .slice A62 (List.length (α := UInt8) (([3] : List UInt8) ++ encInts ([a.kind, a.src, a.dst, a.ballot.number, a.ballot.replica]) ++ encRec a.r)) c63) (i := 18) (d := 2) (L' := [true, true, true, true, true, true, true, true, true, true, true, true, true, true, true, true, true, true, true, false]) rfl (by kernel_rfl) rfl (((((Kept.refl _ _ _).ext x48 (((((((x2.trans x4).trans x6).trans x8).trans x10).trans x13).trans x17).trans x26).size).ext x52 ((((((((x2.trans x4).trans x6).trans x8).trans x10).trans x13).trans x17).trans x26).trans x48).size).trans kp56).trans kp61) (fun w' s' => x_assign rfl rfl) ?_
    refine d_take (v := .int .i64 0) (i := 19) (d := 3) (L' := [true, true, true, true, true, true, true, true, true, true, true, true, true, true, true, true, true, true, true, true]) rfl (by kernel_rfl) rfl (((((Kept.refl _ _ _).ext x48 (((((((x2.trans x4).trans x6).trans x8).trans x10).trans x13).trans x17).trans x26).size).ext x52 ((((((((x2.trans x4).trans x6).trans x8).trans x10).trans x13).trans x17).trans x26).trans x48).size).trans kp56).trans kp61) (fun w' s' => x_assign rfl rfl) ?_
    refine d_end (by kernel_rfl) ?_
    exact t_norm ⟨_, rfl, A62, c63, rfl, rfl, hb60, ((((((Kept.refl _ _ _).ext x26 ((((((x2.trans x4).trans x6).trans x8).trans x10).trans x13).trans x17).size).ext x48 (((((((x2.trans x4).trans x6).trans x8).trans x10).trans x13).trans x17).trans x26).size).ext x52 ((((((((x2.trans x4).trans x6).trans x8).trans x10).trans x13).trans x17).trans x26).trans x48).size).trans kp56).trans kp61)⟩
  ·rintro ρ w18 ⟨A19, c20, e22, e23, hb21, kp24⟩
   refine t_norm ?_
   refine c_ret ?_
   refine b_ret (t_ret ?_)
   have he64 : ([3] : List UInt8) ++ encInts ([a.kind, a.src, a.dst, a.ballot.number, a.ballot.replica]) ++ encRec a.r = outM a := (by simp [outM, encMsg, c15])
   have he64q : (0 : Int) = errOf (rightMsg a) := (by simp [errOf, c15])
   exact c_done2 rfl (v := .slice A19 (List.length (α := UInt8) (outM a)) c20) (x := .int .i64 (errOf (rightMsg a))) (by rw [← he64]; exact e22) (by rw [← he64q]; exact e23) ⟨A19, c20, rfl, by rw [← he64]; exact hb21, (((((((x2.trans x4).trans x6).trans x8).trans x10).trans x13).trans x17).below (Nat.le_refl _) kp24.below)⟩
 ·refine q_nil (fun w65 x66 => ?_)
  refine t_norm ?_
  refine c_false rfl ?_
  refine c_skip ?_
  refine b_norm (t_norm ?_)
  refine c_seq ?_
  refine c_quiet ?_
  refine q_val (v := .slice none 0 0) rfl rfl (fun w' x' => x_assign rfl rfl) ?_
  refine q_val (v := .int .i64 1) rfl rfl (fun w' x' => x_assign rfl rfl) ?_
  refine q_nil (fun w67 x68 => ?_)
  refine t_norm ?_
  refine c_ret ?_
  have he69 : ([] : List UInt8) = outM a := (by simp [outM, encMsg, c15])
  have he69q : (1 : Int) = errOf (rightMsg a) := (by simp [errOf, c15])
  exact c_done2 rfl (v := .slice none (List.length (α := UInt8) (outM a)) 0) (x := .int .i64 (errOf (rightMsg a))) (by rw [← he69]; exact rfl) (by rw [← he69q]; exact rfl) ⟨none, 0, rfl, by rw [← he69]; exact (Byt.nil _ _ _), (((((((x2.trans x4).trans x6).trans x8).trans x10).trans x13).trans x66).trans x68)⟩

end Go.Proofs.Ytibhkdomoknnfaa
