/- The arguments as they are handed in, read as plain data: leaf by leaf. -/
import Derived.Test.YtadeigpphklmfaaDrw
import Derived.Test.YtadeigpphklmfaaDat
import Derived.Deep.Slices
import Derived.Deep.Fields
import Derived.ChangeSame
import Derived.OpenShut
set_option linter.unusedVariables false
set_option linter.unusedSimpArgs false
namespace Go.Eng
open Go.RowKit Go.ChangeShapes Go.WideShapes

section
variable {H : Type} {enc : TypeId × Value → H} {P : Program} {w : World} {base : Nat} {spare : Nat → Bool} {held : Bool} {t : TypeId} {cs : List Value}
/-- The cells read as a value of the type. -/
def Tr (enc : TypeId × Value → H) (P : Program) (w : World) (base : Nat) (spare : Nat → Bool) (held : Bool) (t : TypeId) (cs : List Value) : Prop := ∃ fuel x, DataW.trod enc P w base spare held fuel t cs = some x
theorem tr_len {fs : Array Field} {k : Nat} (hs : P.underlying t = some (.struct fs)) (hk : P.cellsOf t = k) (h : Tr enc P w base spare held t cs) : cs.length = k := by
  obtain ⟨fuel, x, h⟩ := h
  obtain ⟨xs, n, _, _, hl, _⟩ := DataW.trod_struct hs h
  rw [hl, hk]
theorem tr_field {fs : Array Field} (hs : P.underlying t = some (.struct fs)) (h : Tr enc P w base spare held t cs) (j : Nat) {f : Field} {k : Nat} (hf : fs[j]? = some f) (hk : P.cellsOf f.type = k) : Tr enc P w base spare held f.type ((cs.drop f.offset).take k) := by
  obtain ⟨fuel, x, h⟩ := h
  obtain ⟨xs, n, _, _, _, hl, hg⟩ := DataW.trod_struct hs h
  have hj : j < fs.size := (Array.getElem?_eq_some_iff.1 hf).1
  have := hg j f hf
  rw [hk] at this
  exact ⟨n, xs[j]'(by omega), by rw [this]; simp⟩
theorem tr_alen {e m k : Nat} (hs : P.underlying t = some (.array m e)) (hk : P.cellsOf t = k) (h : Tr enc P w base spare held t cs) : cs.length = k := by
  obtain ⟨fuel, x, h⟩ := h
  obtain ⟨xs, n, _, _, hl, _⟩ := DataW.trod_array hs h
  rw [hl, hk]
theorem tr_at {e m k : Nat} (hs : P.underlying t = some (.array m e)) (hk : P.cellsOf e = k) (h : Tr enc P w base spare held t cs) (j : Nat) (hj : j < m) : Tr enc P w base spare held e ((cs.drop (j * k)).take k) := by
  obtain ⟨fuel, x, h⟩ := h
  obtain ⟨xs, n, _, _, _, hl, hg⟩ := DataW.trod_array hs h
  have := hg j hj
  rw [hk] at this
  exact ⟨n, xs[j]'(by omega), by rw [this]; simp [hl, hj]⟩
theorem tr_int {k : IntKind} (ht : P.underlying t = some (.int k)) (h : Tr enc P w base spare held t cs) : ∃ n, cs = [.int k n] := by
  obtain ⟨fuel, x, h⟩ := h
  obtain ⟨n, e, _⟩ := DataW.trod_int ht h
  exact ⟨n, e⟩
theorem tr_intw {k : IntKind} (ht : P.underlying t = some (.int k)) (h : Tr enc P w base spare held t cs) : ∃ n, cs = [.int k n] ∧ (Lit.int k n).wf = true := by
  obtain ⟨fuel, x, h⟩ := h
  obtain ⟨n, e, _, hw⟩ := DataW.trod_int ht h
  exact ⟨n, e, hw⟩
theorem tr_bool (ht : P.underlying t = some .bool) (h : Tr enc P w base spare held t cs) : ∃ b, cs = [.bool b] := by
  obtain ⟨fuel, x, h⟩ := h
  obtain ⟨n, e, _⟩ := DataW.trod_bool ht h
  exact ⟨n, e⟩
theorem tr_string (ht : P.underlying t = some .string) (h : Tr enc P w base spare held t cs) : ∃ s, cs = [.string s] := by
  obtain ⟨fuel, x, h⟩ := h
  obtain ⟨n, e, _⟩ := DataW.trod_string ht h
  exact ⟨n, e⟩
theorem cons_of {α : Type} {l : List α} {n : Nat} (h : l.length = n + 1) : ∃ a l', l = a :: l' ∧ l'.length = n := by
  cases l with
  | nil => simp at h
  | cons a l => exact ⟨a, l, rfl, by simpa using h⟩
theorem nil_of {α : Type} {l : List α} (h : l.length = 0) : l = [] := List.eq_nil_of_length_eq_zero h
theorem choose_list {α : Type} {Q : Nat → α → Prop} : ∀ (n : Nat), (∀ i, i < n → ∃ x, Q i x) → ∃ xs : List α, xs.length = n ∧ ∀ (i : Nat) (x : α), xs[i]? = some x → Q i x
  | 0, _ => ⟨[], rfl, fun i x h => by simp at h⟩
  | n + 1, h => by
    obtain ⟨xs, hl, hx⟩ := choose_list n fun i hi => h i (by omega)
    obtain ⟨y, hy⟩ := h n (by omega)
    refine ⟨xs ++ [y], by simp [hl], fun i x hi => ?_⟩
    rcases Nat.lt_trichotomy i n with hlt | rfl | hgt
    · rw [List.getElem?_append_left (by omega)] at hi; exact hx i x hi
    · rw [List.getElem?_append_right (by omega), hl] at hi
      have : y = x := by simpa using hi
      subst this; exact hy
    · rw [List.getElem?_append_right (by omega), hl] at hi
      have := lt_of hi
      simp at this; omega
/-- A slice of structs, read as a list. -/
theorem tr_slice {α : Type} {d : Kd α} {e : TypeId} (ht : P.underlying t = some (.slice e)) (hk : P.cellsOf e = d.sz) (hel : ∀ cs', Tr enc P w base spare held e cs' → ∃ x, d.K w x cs') (h : Tr enc P w base spare held t cs) :
    ∃ (A : Option Addr) (xs : List α) (c : Nat), cs = [.slice A xs.length c] ∧ Lies d w A xs ∧ xs.length ≤ c ∧ c ≤ 9223372036854775807 := by
  obtain ⟨fuel, x, h⟩ := h
  rcases Go.Deep.open_slice ht h with ⟨rfl, _⟩ | ⟨a, len, cap, m, n, D, Pl, rfl, _, hl, hm, hmm, _, hi⟩
  · exact ⟨none, [], 0, rfl, Lies.nil _ _ _, Nat.le_refl _, by decide⟩
  · have hle : len ≤ m := by rw [hmm]; split <;> omega
    obtain ⟨xs, hxl, hx⟩ := choose_list (Q := fun i (x : α) => ∃ cs', d.K w x cs' ∧ Elem w (a.add (i * d.sz)) cs') len fun i hlt => by
      obtain ⟨cs', hc, ht'⟩ := hi i (by omega)
      rw [hk] at hc
      obtain ⟨_, hcl, hat⟩ := World.cells?_some hc
      obtain ⟨x, hK⟩ := hel cs' ⟨n, _, ht'⟩
      exact ⟨x, cs', hK, fun j v hj => by rw [hat j (by have := lt_of hj; omega), hj]⟩
    subst hxl
    refine ⟨some a, xs, cap, rfl, fun i x hx' => ?_, hl, by simpa [maxLen] using hm⟩
    obtain ⟨cs', hK, hE⟩ := hx i x hx'
    exact ⟨a, cs', rfl, hK, hE⟩
theorem tr_of {v : Value} {ds : DataW H} {p : List MemPlace} (h : DataW.Trod enc P w base spare held t v ds p) : Tr enc P w base spare held t v.cells.toList := by
  obtain ⟨fuel, h⟩ := h
  exact ⟨fuel, _, h⟩
theorem u8_wf {n : Int} (h : (Lit.int .u8 n).wf = true) : 0 ≤ n ∧ n ≤ 255 := by
  have h' : IntKind.u8.min ≤ n ∧ n ≤ IntKind.u8.max := by simpa [Lit.wf] using h
  simpa [IntKind.min, IntKind.max, IntKind.signed, IntKind.bits] using h'
theorem arr_of {cs : Array Value} {l : List Value} (h : (Value.agg cs).cells.toList = l) : cs = l.toArray := by
  subst h
  simp [Value.cells]
end
end Go.Eng
