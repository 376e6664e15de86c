/- Rows of any elements: an empty literal, a whole row put behind a row of our own. -/
import Derived.Test.YtadeigpphklmfaaDrw
import Derived.Test.YtadeigpphklmfaaDat
set_option linter.unusedVariables false
set_option linter.unusedSimpArgs false
namespace Go.Eng
open Go.RowKit
section
variable {P : Program} {n : Nat} {ρ : Env} {w : World} {o : Oper} {ops : Array Oper} {Q : Exit → Act → World → Prop} {rest : List Oper} {d : Nat}
theorem p_build00 {t e size bytes : Nat} (hT : elT P t e size bytes = true) (hw : wanted n ops ρ o = true) (hd : o.dst = some d) (ho : o.op = .buildSlice t 0 #[])
    (hk : ∀ w', Box w' w.heap.size e [] → Ext w w' → w'.heap.size = w.heap.size + 1 → WL P ops Q rest (act n (up ρ d (.slice (some ⟨w.heap.size, 0, none⟩) 0 0))) w') : WL P ops Q (o :: rest) (act n ρ) w := by
  obtain ⟨ht, i, z, hi, hz, hsz, hby, hzs, hpos⟩ := elT_spec hT
  refine p_run hw hd (v := .slice (some ⟨w.heap.size, 0, none⟩) 0 0) (w' := w.alloc (.cells #[] e)) ?_ (hk _ (by simpa using Box.new w e #[]) ((Ext.refl w).alloc _) (by simp))
  have hnr : ∀ cells : Array Value, (newRow e cells).run P w = .ok ⟨w.heap.size, 0, none⟩ (w.alloc (.cells cells e)) := fun cells => by
    simp [newRow, newObj, Sem.run, World.alloc_eq]
  have hss : (P.info? e).map (·.size) = some size := by simp [hi, hsz]
  simp [execOp, ho, Instr.buildSlice, run_underlying ht, run_sizeOf' hss, Instr.fill, hnr]
  rw [show Array.map (fun _ => (default : Value)) (Array.range 0) = #[] from Array.eq_empty_of_size_eq_zero (by simp)]
theorem flat_inv {α : Type} {f : α → List Value} {sz : Nat} (hf : ∀ x, (f x).length = sz) : ∀ (l : List α) (j : Nat) (u : Value), (l.flatMap f)[j]? = some u → ∃ (i r : Nat) (x : α), l[i]? = some x ∧ (f x)[r]? = some u ∧ j = i * sz + r
  | [], j, u, h => by simp at h
  | y :: l, j, u, h => by
    rw [List.flatMap_cons] at h
    rcases Nat.lt_or_ge j (f y).length with hj | hj
    · rw [List.getElem?_append_left hj] at h
      exact ⟨0, j, y, rfl, h, by omega⟩
    · rw [List.getElem?_append_right hj] at h
      obtain ⟨i, r, x, h1, h2, h3⟩ := flat_inv hf l _ u h
      refine ⟨i + 1, r, x, by simpa using h1, h2, ?_⟩
      rw [hf] at h3 hj
      rw [Nat.succ_mul]
      omega
theorem lies_cells {α : Type} {dd : Kd α} {f : α → List Value} {ad : Addr} {xs : List α} (hL : Lies dd w (some ad) xs) (hf : ∀ x, (f x).length = dd.sz) (hK : ∀ x cs, dd.K w x cs → cs = f x) (j : Nat) (u : Value) (hj : (xs.flatMap f)[j]? = some u) : w.cell? (ad.add j) = some u := by
  obtain ⟨i, r, x, h1, h2, rfl⟩ := flat_inv hf xs j u hj
  obtain ⟨ad', cs, e, hk, hE⟩ := hL i x h1
  injection e with e
  subst e
  have := hK x cs hk
  subst this
  have := hE r u h2
  rwa [add_add] at this
theorem flat_length {α : Type} {f : α → List Value} {sz : Nat} (hf : ∀ x, (f x).length = sz) : ∀ (l : List α), (l.flatMap f).length = l.length * sz
  | [] => by simp
  | y :: l => by rw [List.flatMap_cons, List.length_append, flat_length hf l, hf, List.length_cons, Nat.succ_mul]; omega
theorem own_lies_of {α : Type} {dd : Kd α} {f : α → List Value} {w : World} {B e k c : Nat} {A : Option Addr} {xs : List α} (h : w.ownsRow B e dd.sz (.slice A k c) k (xs.flatMap f)) (hk : xs.length = k) (hf : ∀ x, (f x).length = dd.sz) (hK : ∀ x ∈ xs, dd.K w x (f x)) : Lies dd w A xs := fun i x hi => by
  have hi' := lt_of hi
  obtain ⟨g, hA, hg, hc⟩ := own_elem h (by omega)
  refine ⟨_, f x, hA, hK x (List.mem_of_getElem? hi), fun j v hj => ?_⟩
  rw [add_add]
  exact hc _ v (flat_at hf xs i j x v hi hj)
theorem all_flat {α : Type} {f : α → List Value} (h1 : ∀ x, allOne (f x) = true) (xs : List α) : allOne (xs.flatMap f) = true := by
  simp only [allOne, List.all_eq_true, List.mem_flatMap]
  rintro v ⟨x, _, hv⟩
  exact List.all_eq_true.1 (h1 x) v hv
/-- append(x, y...), y any row that lies. -/
theorem p_appendR {α : Type} {dd : Kd α} {f : α → List Value} {B e bytes t : Nat} {s x : Operand} {v : Value} {k c2 : Nat} {cs : List Value} {A2 : Option Addr} {xs : List α} (hT : elT P t e dd.sz bytes = true) (hw : wanted n ops ρ o = true) (hd : o.dst = some d) (ho : o.op = .call { callee := .builtin .append, args := #[s, x], argTypes := #[t, t] })
    (hs : ev n ρ s = v) (hown : w.ownsRow B e dd.sz v k cs) (hx : ev n ρ x = .slice A2 xs.length c2) (hL : Lies dd w A2 xs) (hf : ∀ x, (f x).length = dd.sz) (hK : ∀ x cs, dd.K w x cs → cs = f x) (h1 : ∀ x, allOne (f x) = true) (h63 : (k + xs.length) * bytes ≤ 140737488355328) (hk63 : k + xs.length ≤ 9223372036854775807) (hB : B ≤ w.heap.size)
    (hk : ∀ A c' w', w'.ownsRow B e dd.sz (.slice A (k + xs.length) c') (k + xs.length) (cs ++ xs.flatMap f) → Kept B e w w' → k + xs.length ≤ c' → c' ≤ 9223372036854775807 → WL P ops Q rest (act n (up ρ d (.slice A (k + xs.length) c'))) w') : WL P ops Q (o :: rest) (act n ρ) w := by
  cases A2 with
  | some ad => exact p_appendK hT hw hd ho hs hown hx (flat_length hf xs) (lies_cells hL hf hK) (all_flat h1 xs) h63 hk63 hB hk
  | none =>
    have hnil : xs = [] := by
      cases xs with
      | nil => rfl
      | cons y ys =>
        obtain ⟨_, _, e, _⟩ := hL 0 y rfl
        cases e
    subst hnil
    obtain ⟨A, c, rfl, h2, h3⟩ := own_slice hown
    refine p_append_nil hT hw hd ho hs hown hx ?_
    exact hk A c w (by simpa using hown) (Kept.refl _ _ _) h2 h3
theorem p_appendR0 {α : Type} {dd : Kd α} {f : α → List Value} {B e bytes t : Nat} {s x : Operand} {v : Value} {c2 : Nat} {A2 : Option Addr} {xs : List α} (hT : elT P t e dd.sz bytes = true) (hw : wanted n ops ρ o = true) (hd : o.dst = some d) (ho : o.op = .call { callee := .builtin .append, args := #[s, x], argTypes := #[t, t] })
    (hs : ev n ρ s = v) (hown : w.ownsRow B e dd.sz v 0 []) (hx : ev n ρ x = .slice A2 xs.length c2) (hL : Lies dd w A2 xs) (hf : ∀ x, (f x).length = dd.sz) (hK : ∀ x cs, dd.K w x cs → cs = f x) (h1 : ∀ x, allOne (f x) = true) (h63 : xs.length * bytes ≤ 140737488355328) (hk63 : xs.length ≤ 9223372036854775807) (hB : B ≤ w.heap.size)
    (hk : ∀ A c' w', w'.ownsRow B e dd.sz (.slice A xs.length c') xs.length (xs.flatMap f) → Kept B e w w' → xs.length ≤ c' → c' ≤ 9223372036854775807 → WL P ops Q rest (act n (up ρ d (.slice A xs.length c'))) w') : WL P ops Q (o :: rest) (act n ρ) w :=
  p_appendR hT hw hd ho hs hown hx hL hf hK h1 (by rw [Nat.zero_add]; exact h63) (by rw [Nat.zero_add]; exact hk63) hB fun A c' w' h2 hK' h3 h4 => by
    rw [Nat.zero_add] at h2 h3 ⊢
    exact hk A c' w' h2 hK' h3 h4
end
theorem own_kept {w w' : World} {B B' e e' size : Nat} {v : Value} {k : Nat} {cs : List Value} (h : w.ownsRow B e size v k cs) (hk : Kept B' e' w w') (hne : e ≠ e') : w'.ownsRow B e size v k cs := by
  refine ⟨h.1, ?_⟩
  rcases h.2 with h2 | ⟨g, cap, cur, hv, hb, hh, r⟩
  · exact .inl h2
  · exact .inr ⟨g, cap, cur, hv, hb, (by have := hk.boxes g e cur.toList hne (by unfold Box; simpa using hh); unfold Box at this; simpa using this), r⟩
/-- a write to one block leaves what lies below it, and every block of another type -/
theorem Kept.stored {w w' : World} {B g T : Nat} {bs : List Value} (hB : B ≤ g) (s : Stored g w w') (hb : Box w g T bs) : Kept B T w w' :=
  ⟨⟨s.os, s.tape, s.output, by rw [s.size]; exact Nat.le_refl _, fun k hk => s.block k (by omega)⟩, fun g' T' bs' hT h => h.far s (fun e => by
    subst e
    unfold Box at h hb
    rw [hb] at h
    injection h with h
    injection h with _ h
    exact hT h.symm), fun g' es cl hm => (s.block g' (fun e => by
    subst e
    unfold Box at hb
    rw [hb] at hm
    cases hm)).trans hm⟩
/-- the same, of two types -/
structure Kept2 (B e e' : Nat) (w w' : World) : Prop where
  below : Below B w w'
  boxes : ∀ (g T : Nat) (bs : List Value), T ≠ e → T ≠ e' → Box w g T bs → Box w' g T bs
theorem Kept2.refl (B e e' : Nat) (w : World) : Kept2 B e e' w w := ⟨Below.refl B w, fun _ _ _ _ _ h => h⟩
theorem Kept2.trans {B e e' : Nat} {a b c : World} (h : Kept2 B e e' a b) (k : Kept2 B e e' b c) : Kept2 B e e' a c := ⟨h.below.trans k.below, fun g T bs h1 h2 hb => k.boxes g T bs h1 h2 (h.boxes g T bs h1 h2 hb)⟩
theorem Kept2.left {B e e' : Nat} {w w' : World} (h : Kept B e w w') : Kept2 B e e' w w' := ⟨h.below, fun g T bs h1 _ hb => h.boxes g T bs h1 hb⟩
theorem Kept2.right {B e e' : Nat} {w w' : World} (h : Kept B e' w w') : Kept2 B e e' w w' := ⟨h.below, fun g T bs _ h2 hb => h.boxes g T bs h2 hb⟩
theorem Box.kept2 {w w' : World} {g T B e e' : Nat} {bs : List Value} (h : Box w g T bs) (hk : Kept2 B e e' w w') (h1 : T ≠ e) (h2 : T ≠ e') : Box w' g T bs := hk.boxes g T bs h1 h2 h
def fRd (r : Rd) : List Value := [.string r.key, .int .i64 r.ver.time, .int .i64 r.ver.client]
def fWr (r : Wr) : List Value := [.string r.key, .string r.val]
theorem own_far' {w w' : World} {B e size g T : Nat} {v : Value} {k : Nat} {cs bs : List Value} (h : w.ownsRow B e size v k cs) (s : Stored g w w') (hb : Box w g T bs) (hne : e ≠ T) : w'.ownsRow B e size v k cs := own_far h s (fun he => own_box_ne h hb hne he.symm)
/-- a row of our own lies at or above B -/
theorem own_fresh {w : World} {B e size k c : Nat} {A : Option Addr} {cs : List Value} (h : w.ownsRow B e size (.slice A k c) k cs) (ad : Addr) (hA : A = some ad) : B ≤ ad.block := own_base h ad.block (by subst hA; rfl)
theorem own_lt {w : World} {B e size k c : Nat} {A : Option Addr} {cs : List Value} (h : w.ownsRow B e size (.slice A k c) k cs) (ad : Addr) (hA : A = some ad) : ad.block < w.heap.size := by
  rcases h.2 with ⟨hv, _⟩ | ⟨q, cap, cur, hv, hB, hh, r⟩
  · subst hA; cases hv
  · injection hv with h1 _ _
    rw [hA] at h1
    injection h1 with h1
    subst h1
    exact (Array.getElem?_eq_some_iff.1 hh).1
end Go.Eng
