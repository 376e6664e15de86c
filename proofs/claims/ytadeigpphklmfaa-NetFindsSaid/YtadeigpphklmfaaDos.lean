/- Steps of a net: what a step does in plain terms; a text made longer, and put back into a row of our own. -/
import Derived.Test.YtadeigpphklmfaaNet
set_option linter.unusedVariables false
set_option linter.unusedSimpArgs false
namespace Go.Eng
open Go.RowKit

section
variable {P : Program} {n : Nat} {ρ : Env} {w : World} {o : Oper}
theorem x_sadd {t u : TypeId} {x y : Operand} {a b : ByteArray} (ho : o.op = .binOp .add t x y u) (hx : ev n ρ x = .string a) (hy : ev n ρ y = .string b) (h : a.size + b.size ≤ 9223372036854775807) : Yields P o n ρ w (.string (a ++ b)) := by
  have h' : ¬ (((a.size + b.size : Nat) : Int) > IntKind.i64.max) := by
    have : IntKind.i64.max = 9223372036854775807 := by decide
    rw [this]; omega
  simp [Yields, execOp, ho, hx, hy, eqGuard, binOp, Op.stringOp]
  omega
end
theorem Off.below {g : Nat} {w w1 w' : World} (h : Off g w w1) (k : Below w.heap.size w1 w') : Off g w w' := ⟨k.os.trans h.os, k.tape.trans h.tape, k.output.trans h.output, Nat.le_trans h.size k.size, fun j hj hne => (k.block j hj).trans (h.block j hj hne)⟩

theorem flat_set {y : Wr} {u : ByteArray} : ∀ {ys : List Wr} {k : Nat}, ys[k]? = some y → (ys.flatMap fWr).set (k * 2 + 1) (.string u) = (ys.set k ⟨y.key, u⟩).flatMap fWr
  | [], k, h => by simp at h
  | x :: ys, 0, h => by
    have : x = y := by simpa using h
    subst this
    simp [fWr]
  | x :: ys, k + 1, h => by
    have h' : ys[k]? = some y := by simpa using h
    have := flat_set (u := u) h'
    simp only [List.set_cons_succ, List.flatMap_cons]
    rw [← this, show (k + 1) * 2 + 1 = (fWr x).length + (k * 2 + 1) from by simp [fWr]; omega, List.set_append_right _ _ (by omega)]
    simp
theorem Own.setW {w : World} {B e c k : Nat} {A : Option Addr} {ys : List Wr} {y : Wr} (h : Own fWr 2 w B e A c ys) (hy : ys[k]? = some y) : ∃ q cs, A = some ⟨q, 0, none⟩ ∧ B ≤ q ∧ Box w q e cs ∧ k * 2 + 1 < cs.length ∧ ∀ (u : ByteArray) (w' : World), Box w' q e (cs.set (k * 2 + 1) (.string u)) → Own fWr 2 w' B e A c (ys.set k ⟨y.key, u⟩) := by
  have hk := lt_of hy
  rcases h.own.2 with ⟨_, h0⟩ | ⟨q, cap, cur, hv, hB, hh, hkc, hcm, hcs, hpre⟩
  · omega
  · injection hv with e1 e2 e3
    subst e1; subst e3
    refine ⟨q, cur.toList, rfl, hB, by unfold Box; simpa using hh, by simp; omega, fun u w' hb => ⟨⟨?_, .inr ⟨q, c, (cur.toList.set (k * 2 + 1) (.string u)).toArray, by simp, hB, hb, by simpa using hkc, hcm, by simp; exact hcs, ?_⟩⟩, by simpa using h.le, h.mx⟩⟩
    · rw [← flat_set (u := u) hy]
      have := h.own.1
      simpa using this
    · rw [← flat_set (u := u) hy, ← hpre]
      simp [List.take_set]
/-- a text put into a row of our own -/
theorem p_storeW {P : Program} {n : Nat} {ρ : Env} {w : World} {o : Oper} {ops : Array Oper} {Q : Exit → Act → World → Prop} {rest : List Oper} {B e c t k : Nat} {A : Option Addr} {ys : List Wr} {y : Wr} {ad : Addr} {u : ByteArray} {p x : Operand} (hw : wanted n ops ρ o = true) (hd : o.dst = none) (ho : o.op = .store t p x) (hp : ev n ρ p = .pointer (some ((ad.add (k * 2)).add 1))) (hx : ev n ρ x = .string u) (hs : sizeT P t 1 = true) (hA : A = some ad) (hown : Own fWr 2 w B e A c ys) (hy : ys[k]? = some y)
    (hk : ∀ w', Own fWr 2 w' B e A c (ys.set k ⟨y.key, u⟩) → Kept B e w w' → Off ad.block w w' → WL P ops Q rest (act n ρ) w') : WL P ops Q (o :: rest) (act n ρ) w := by
  obtain ⟨q, cs, e1, hB, hb, hlt, hset⟩ := hown.setW hy
  have had : ad = ⟨q, 0, none⟩ := by rw [hA] at e1; injection e1
  subst had
  have hadd : ((⟨q, 0, none⟩ : Addr).add (k * 2)).add 1 = ⟨q, k * 2 + 1, none⟩ := by rw [add_add]; unfold Addr.add; rw [if_neg (by omega), Nat.zero_add]
  rw [hadd] at hp
  refine p_store (v := .string u) (vs := [.string u]) (cs' := cs.set (k * 2 + 1) (.string u)) hw hd ho hp hx rfl hb hs (by rw [Nat.ble_eq]; simp; omega) rfl ?_ fun w' hb' hst => hk w' (hset u w' hb') (Kept.stored hB hst hb) (Off.store hst)
  rw [List.set_eq_take_append_cons_drop, if_pos hlt]
  simp
theorem drop_set {α : Type} {ys xs : List α} {k : Nat} {z : α} (h : ys.drop k = xs.drop k) : (ys.set k z).drop (k + 1) = xs.drop (k + 1) := by
  rw [List.drop_set_of_lt (by omega)]
  have := congrArg (List.drop 1) h
  simpa [List.drop_drop, Nat.add_comm] using this
theorem drop_at {α : Type} {ys xs : List α} {k : Nat} {y : α} (h : ys.drop k = xs.drop k) (hy : ys[k]? = some y) : y ∈ xs := by
  have e : (ys.drop k)[0]? = some y := by simpa using hy
  rw [h] at e
  have : xs[k]? = some y := by simpa using e
  exact List.mem_of_getElem? this

/-! ### Texts are short -/
structure Shorts (c : Cmd) : Prop where
  out : ∀ x ∈ c.writes, x.val.size ≤ 1000
theorem few_shorts {c : Cmd} (h : fewOne c = true) : Shorts c := by
  simp only [fewOne, Bool.and_eq_true, decide_eq_true_eq] at h
  obtain ⟨⟨⟨_, h2⟩, _⟩, h4⟩ := h
  rw [List.take_of_length_le (by omega)] at h2
  refine ⟨fun x hx => ?_⟩
  have := List.all_eq_true.1 h2 x hx
  simp only [fewW, Bool.and_eq_true, decide_eq_true_eq] at this
  omega
theorem right_shorts {c : Cmd} (h : rightCmd c = true) : Shorts c := by
  refine ⟨fun x hx => ?_⟩
  unfold rightCmd at h
  split at h
  · have : c = noop := by simpa using h
    rw [this] at hx
    cases hx
  · simp only [Bool.and_eq_true] at h
    have := List.all_eq_true.1 h.1.1.2 x hx
    have := of_decide_eq_true this
    omega
theorem msg_shorts {m : Msg} (h : rightMsg m = true) : Shorts m.r.cmd := by
  simp only [rightMsg, rightRec, Bool.and_eq_true] at h
  obtain ⟨_, _, h⟩ := h
  split at h
  · have : m.r.cmd = noop := by simp_all
    rw [this]; exact ⟨fun x hx => (by cases hx)⟩
  · simp only [Bool.and_eq_true] at h
    exact right_shorts h.1.1
theorem look_shorts {s : PN} {k : Int} (hr : ∀ m ∈ s.l, rightMsg m = true) : Shorts (lookP s k).1.r.cmd := by
  unfold lookP
  split
  · exact ⟨fun x hx => (by cases hx)⟩
  · rename_i h
    refine msg_shorts (hr _ ?_)
    have hk : k.toNat < s.l.length := by omega
    show s.l.getD k.toNat zMsg ∈ s.l
    rw [getD_of (List.getElem?_eq_getElem hk)]
    exact List.getElem_mem hk

theorem look_slim {T : Nat} {w : World} {g : Nat} {s : PN} {A : Option Addr} {c : Nat} {zs : List (Msg × Ptr)} (h : NetIn T w g s A c zs) (k : Int) : Slim (lookP s k).1.r.cmd := by
  unfold lookP
  split
  · exact slim_nil rfl rfl
  · rename_i hn
    have hk : k.toNat < s.l.length := by omega
    have hz : k.toNat < zs.length := by rw [h.len]; exact hk
    show Slim (s.l.getD k.toNat zMsg).r.cmd
    rw [getD_of (at_map h.map (List.getElem?_eq_getElem hz))]
    exact h.slim _ (List.getElem_mem hz)

/-! ### What a step does -/
def doP (s : PN) (d : Dz) : PN := if d.verb = 0 then (sendP s d.m).1 else if d.verb = 2 then (takeP s d.k).1 else if d.verb = 3 then (loseP s d.k).1 else if d.verb = 4 then (twiceP s d.k).1 else s
section
variable {s : PN} {d : Dz}
theorem do_0 (h : decide (d.verb = 0) = true) : doP s d = (sendP s d.m).1 := by simp [doP, of_decide_eq_true h]
theorem do_1 (h : decide (d.verb = 1) = true) : doP s d = s := by simp [doP, of_decide_eq_true h]
theorem do_2 (h : decide (d.verb = 2) = true) : doP s d = (takeP s d.k).1 := by simp [doP, of_decide_eq_true h]
theorem do_3 (h : decide (d.verb = 3) = true) : doP s d = (loseP s d.k).1 := by simp [doP, of_decide_eq_true h]
theorem do_4 (h : decide (d.verb = 4) = true) : doP s d = (twiceP s d.k).1 := by simp [doP, of_decide_eq_true h]
theorem do_5 (h0 : decide (d.verb = 0) = false) (h2 : decide (d.verb = 2) = false) (h3 : decide (d.verb = 3) = false) (h4 : decide (d.verb = 4) = false) : doP s d = s := by simp [doP, of_decide_eq_false h0, of_decide_eq_false h2, of_decide_eq_false h3, of_decide_eq_false h4]
end
/-- a row of ours that was just made lies apart from the net -/
theorem OffRow.new {α : Type} {f : α → List Value} {sz T : Nat} {w w' : World} {g e c c2 : Nat} {s : PN} {A A2 : Option Addr} {zs : List (Msg × Ptr)} {xs : List α} (hN : NetIn T w g s A c zs) (ho : Own f sz w' w.heap.size e A2 c2 xs) : OffRow g A2 A zs := fun ad h => ⟨hN.fresh (ho.fresh ad h), by have := ho.fresh ad h; have := hN.box.lt; omega⟩
theorem NetIn.row {T : Nat} {w w' : World} {g c : Nat} {s : PN} {A A2 : Option Addr} {zs : List (Msg × Ptr)} {ad : Addr} (hN : NetIn T w g s A c zs) (h : OffRow g A2 A zs) (hA : A2 = some ad) (o : Off ad.block w w') : NetIn T w' g s A c zs := hN.grown o (fun b e => by injection e with e; subst e; exact h ad hA)
/-- memory of which but two blocks may have been written -/
structure Off2 (g b : Nat) (w w' : World) : Prop where
  os : w'.os = w.os
  tape : w'.tape = w.tape
  output : w'.output = w.output
  size : w.heap.size ≤ w'.heap.size
  block : ∀ k, k < w.heap.size → k ≠ g → k ≠ b → w'.heap[k]? = w.heap[k]?
theorem Off2.refl (g b : Nat) (w : World) : Off2 g b w w := ⟨rfl, rfl, rfl, Nat.le_refl _, fun _ _ _ _ => rfl⟩
theorem Off2.off {g b : Nat} {w w1 w' : World} (h : Off2 g b w w1) (k : Off g w1 w') : Off2 g b w w' := ⟨k.os.trans h.os, k.tape.trans h.tape, k.output.trans h.output, Nat.le_trans h.size k.size, fun j hj h1 h2 => (k.block j (Nat.lt_of_lt_of_le hj h.size) (fun e => h1 (by injection e))).trans (h.block j hj h1 h2)⟩
theorem Off2.ext {g b : Nat} {w w1 w' : World} (h : Off2 g b w w1) (k : Ext w1 w') : Off2 g b w w' := h.off (Off.of k g)
theorem Off2.stored {g b : Nat} {w w1 w' : World} (h : Off2 g b w w1) (k : Stored b w1 w') : Off2 g b w w' := ⟨k.os.trans h.os, k.tape.trans h.tape, k.output.trans h.output, by rw [k.size]; exact h.size, fun j hj h1 h2 => (k.block j h2).trans (h.block j hj h1 h2)⟩
theorem Box.off2 {g b k T T' : Nat} {w w' : World} {cs bs : List Value} (h : Box w k T cs) (hb : Box w g T' bs) (s : Off2 g b w w') (hT : T ≠ T') (hne : k ≠ b) : Box w' k T cs := (s.block k h.lt (fun e => by
  subst e
  unfold Box at h hb
  rw [hb] at h
  injection h with h
  injection h with _ h
  exact hT h.symm) hne).trans h
/-- a message whose writes lie in a row of our own -/
theorem CmdAt.writes' {w : World} {m : Cmd} {p : Ptr} {B e c : Nat} {A : Option Addr} (h : CmdAt w m p) (ho : Own fWr 2 w B e A c m.writes) : CmdAt w m ⟨p.A, p.n, A, c⟩ := ⟨h.reads, h.rn, h.rm, ho.lies (d := kWr) (fun _ => rfl) (fun _ _ => rfl), ho.le, ho.mx⟩

/-! ### What stays true, step by step -/
structure Gd (room : Int) (s : PN) (k : Nat) : Prop where
  right : ∀ m ∈ s.l, rightMsg m = true
  room : s.room = room
  s0 : 0 ≤ s.sent
  s1 : s.sent ≤ k
  c0 : 0 ≤ s.came
  c1 : s.came ≤ k
  l0 : 0 ≤ s.lost
  l1 : s.lost ≤ k
  cons : s.sent = s.came + s.lost + (s.l.length : Int)
section
variable {room : Int} {s : PN} {k : Nat} {m : Msg} {j : Int}
theorem Gd.tame (h : Gd room s k) (hk : k ≤ 1000) : Tame s := ⟨h.s0, by have := h.s1; omega, h.c0, by have := h.c1; omega, h.l0, by have := h.l1; omega⟩
theorem Gd.up (h : Gd room s k) : Gd room s (k + 1) := ⟨h.right, h.room, h.s0, by have := h.s1; omega, h.c0, by have := h.c1; omega, h.l0, by have := h.l1; omega, h.cons⟩
theorem Gd.add (h : Gd room s k) (hm : rightMsg m = true) : Gd room (addP s m) (k + 1) :=
  ⟨fun x hx => by
    rcases List.mem_append.1 hx with hx | hx
    · exact h.right x hx
    · have : x = m := by simpa using hx
      rw [this]; exact hm, h.room, by have := h.s0; show 0 ≤ s.sent + 1; omega, by have := h.s1; show s.sent + 1 ≤ _; omega, h.c0, by have := h.c1; show s.came ≤ _; omega, h.l0, by have := h.l1; show s.lost ≤ _; omega, by
    have := h.cons
    show s.sent + 1 = s.came + s.lost + ((s.l ++ [m]).length : Int)
    simp
    omega⟩
theorem Gd.send (h : Gd room s k) : Gd room (sendP s m).1 (k + 1) := by
  unfold sendP
  split
  · rename_i hm
    split
    · have h1 := h.s0; have h2 := h.s1; have h3 := h.c1; have h4 := h.l0; have h5 := h.l1; have h6 := h.cons
      exact ⟨h.right, h.room, by show 0 ≤ s.sent + 1; omega, by show s.sent + 1 ≤ _; omega, h.c0, by show s.came ≤ _; omega, by show 0 ≤ s.lost + 1; omega, by show s.lost + 1 ≤ _; omega, by show s.sent + 1 = s.came + (s.lost + 1) + (s.l.length : Int); omega⟩
    · exact h.add hm
  · exact h.up
theorem out_len {l : List Msg} {K : Nat} (h : K < l.length) : (outL l K).length + 1 = l.length := by
  unfold outL
  rw [List.length_append, List.length_take, List.length_drop]
  omega
theorem out_mem {l : List Msg} {K : Nat} {x : Msg} (h : x ∈ outL l K) : x ∈ l := by
  rcases List.mem_append.1 h with h | h
  · exact List.mem_of_mem_take h
  · exact List.mem_of_mem_drop h
theorem Gd.take (h : Gd room s k) : Gd room (takeP s j).1 (k + 1) := by
  unfold takeP
  split
  · exact h.up
  · rename_i hn
    have ho := out_len (l := s.l) (K := j.toNat) (by omega)
    have h1 := h.s0; have h2 := h.s1; have h3 := h.c1; have h4 := h.c0; have h5 := h.l1; have h6 := h.cons
    exact ⟨fun x hx => h.right x (out_mem hx), h.room, h.s0, by show s.sent ≤ _; omega, by show 0 ≤ s.came + 1; omega, by show s.came + 1 ≤ _; omega, h.l0, by show s.lost ≤ _; omega, by show s.sent = s.came + 1 + s.lost + ((outL s.l j.toNat).length : Int); omega⟩
theorem Gd.lose (h : Gd room s k) : Gd room (loseP s j).1 (k + 1) := by
  unfold loseP
  split
  · exact h.up
  · rename_i hn
    have ho := out_len (l := s.l) (K := j.toNat) (by omega)
    have h1 := h.s0; have h2 := h.s1; have h3 := h.c1; have h4 := h.l0; have h5 := h.l1; have h6 := h.cons
    exact ⟨fun x hx => h.right x (out_mem hx), h.room, h.s0, by show s.sent ≤ _; omega, h.c0, by show s.came ≤ _; omega, by show 0 ≤ s.lost + 1; omega, by show s.lost + 1 ≤ _; omega, by show s.sent = s.came + (s.lost + 1) + ((outL s.l j.toNat).length : Int); omega⟩
theorem Gd.twice (h : Gd room s k) : Gd room (twiceP s j).1 (k + 1) := by
  unfold twiceP
  split
  · exact h.up
  · rename_i hn
    have hk : j.toNat < s.l.length := by omega
    unfold putP
    split
    · exact h.up
    · exact h.add (by rw [getD_of (List.getElem?_eq_getElem hk)]; exact h.right _ (List.getElem_mem hk))
theorem Gd.step {d : Dz} (h : Gd room s k) : Gd room (doP s d) (k + 1) := by
  unfold doP
  split
  · exact h.send
  split
  · exact h.take
  split
  · exact h.lose
  split
  · exact h.twice
  · exact h.up
theorem Gd.new (room : Int) : Gd room (newP room) 0 := ⟨fun m h => (by cases h), rfl, Int.le_refl _, Int.le_refl _, Int.le_refl _, Int.le_refl _, Int.le_refl _, Int.le_refl _, rfl⟩
end
/-- the messages on their way are of the steps -/
structure Sub (l : List Dz) (ys : List (Msg × Ptr)) : Prop where
  out : ∀ z ∈ ys, ∃ d ∈ l, z = (d.m, d.p)
theorem Sub.nil (l : List Dz) : Sub l [] := ⟨fun z h => (by cases h)⟩
theorem Sub.step {l : List Dz} {ys ys' : List (Msg × Ptr)} {k : Nat} {d : Dz} (h : Sub l ys) (hx : l[k]? = some d) (hs : ∀ z ∈ ys', z ∈ ys ∨ z = (d.m, d.p)) : Sub l ys' := ⟨fun z hz => by
  rcases hs z hz with hz | hz
  · exact h.out z hz
  · exact ⟨d, List.mem_of_getElem? hx, hz⟩⟩
theorem Sub.mall {l : List Dz} {ys : List (Msg × Ptr)} {w0 w w1 : World} {g : Nat} (h : Sub l ys) (hR : DAll w0 l) (x : Below w0.heap.size w0 w) (hb : w0.heap.size ≤ g) (o : Off g w w1) : MAll w1 ys := ⟨fun z hz => by
  obtain ⟨d, hd, e⟩ := h.out z hz
  subst e
  exact (hR.ext (x.trans (below_off o x.size hb))).out d hd⟩
theorem DAll.off {l : List Dz} {w0 w w1 : World} {g k : Nat} {d : Dz} (hR : DAll w0 l) (hx : l[k]? = some d) (x : Below w0.heap.size w0 w) (hb : w0.heap.size ≤ g) (o : Off g w w1) : CmdAt w1 d.m.r.cmd d.p :=
  (hR.ext (x.trans (below_off o x.size hb))).out d (List.mem_of_getElem? hx)
theorem fewD_at {l : List Dz} {k : Nat} {d : Dz} (h : fewD l = true) (hx : l[k]? = some d) : fewOne d.m.r.cmd = true := by
  simp only [fewD, Bool.and_eq_true] at h
  exact List.all_eq_true.1 h.1 d (List.mem_of_getElem? hx)
theorem fewD_len {l : List Dz} (h : fewD l = true) : l.length ≤ 40 := by
  simp only [fewD, Bool.and_eq_true, decide_eq_true_eq] at h
  exact h.2
theorem meas_down {j : Nat} {v : Value} (e : v = .int .i64 (j : Int)) : (intOf (.int .i64 ((j : Int) - 1)) + 1).toNat < (intOf v + 1).toNat := by
  rw [e]
  simp only [intOf]
  omega
end Go.Eng
