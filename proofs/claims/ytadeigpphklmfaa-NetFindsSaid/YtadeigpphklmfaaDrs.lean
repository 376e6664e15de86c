/- Regions that draw their order, read, and at their end write: what is read must be read before the first write, which waits for it. -/
import Derived.Test.YtadeigpphklmfaaDrw
set_option linter.unusedVariables false
set_option linter.unusedSimpArgs false
namespace Go.Eng
open Go.RowKit
section
variable {P : Program} {ops : Array Oper} {Q : Exit → Act → World → Prop} {G : World → Prop} {k : Nat}
/-- Whatever order: as long as number k has not come, G holds. -/
def Held (P : Program) (ops : Array Oper) (Q : Exit → Act → World → Prop) (G : World → Prop) (k : Nat) : Nat → Array Bool → Act → World → Prop
  | 0, L, a, w => Region.ready .any ops L = [] ∧ Q .normal a w
  | f + 1, L, a, w => (Region.ready .any ops L = [] → Q .normal a w) ∧ ∀ i ∈ Region.ready .any ops L, wpOp P ops Q i (fun a' w' => (i ≠ k → L.getD k false = false → G w') ∧ Held P ops Q G k f (L.setIfInBounds i true) a' w') a w
theorem any_of_held : ∀ (f : Nat) (L : Array Bool) (a : Act) (w : World), Held P ops Q G k f L a w → wpAny P .any ops Q f L a w
  | 0, _, _, _, h => h
  | f + 1, _, _, _, h => ⟨h.1, fun i hi => wpOp_mono (fun a' w' h' => any_of_held f _ a' w' h'.2) (h.2 i hi)⟩
theorem held_first {i : Nat} {oi : Oper} {v : Value} (hi : ops[i]? = some oi) (hsel : ∀ (j : Nat) (o : Oper) cs b, ops[j]? = some o → o.op ≠ .select cs b)
    (hQ : ∀ c a w, Q (.panic c) (a.put oi.dst v) w → Q (.panic c) a w) (hik : i ≠ k) (hwait : ∀ L : Array Bool, L.getD i true = false → k ∉ Region.ready .any ops L) :
    ∀ (f : Nat) (L : Array Bool) (a : Act) (w : World),
      (∀ j oj, ops[j]? = some oj → j ≠ i → L.getD j true = false → (∀ e ∈ oj.after, Region.binds .any e = true → e.on ≠ i) → oi.apart ops oj = true) →
      i ∈ Region.ready .any ops L → L.getD k false = false → YieldsIf P ops G oi v a → G w →
      Held P ops Q G k f (L.setIfInBounds i true) (a.put oi.dst v) w → Held P ops Q G k (f + 1) L a w := by
  intro f
  induction f with
  | zero =>
    intro L a w _ hr hk hy hG H
    refine ⟨fun h => (by rw [h] at hr; cases hr), fun j hj => ?_⟩
    by_cases hji : j = i
    · subst hji; exact hy.wpOp hi hG ⟨fun _ _ => hG, H⟩
    · have := ready_mono hj hji
      rw [H.1] at this
      cases this
  | succ f ih =>
    intro L a w hfree hr hk hy hG H
    have hiun : L.getD i true = false := (mem_ready.1 hr).1
    refine ⟨fun h => (by rw [h] at hr; cases hr), fun j hj => ?_⟩
    by_cases hji : j = i
    · subst hji; exact hy.wpOp hi hG ⟨fun _ _ => hG, H⟩
    · have hjk : j ≠ k := fun e => hwait L hiun (e ▸ hj)
      have h1 := H.2 j (ready_mono hj hji)
      obtain ⟨hjun, oj, hoj, hall⟩ := mem_ready.1 hj
      have hnot : ∀ e ∈ oj.after, Region.binds .any e = true → e.on ≠ i := fun e he hb heq => by
        have h1 := hall e he hb
        rw [heq] at h1
        rcases Nat.lt_or_ge i L.size with h' | h'
        · simp [h'] at hiun h1; rw [hiun] at h1; cases h1
        · simp [Array.getElem?_eq_none h'] at h1
      have h2 := wpOp_putIf hoj (hfree j oj hoj hji hjun hnot) (fun cs b => hsel i oi cs b hi) (fun cs b => hsel j oj cs b hoj) hQ hy h1
      have hk1 : ∀ m, m ≠ k → (L.setIfInBounds m true).getD k false = false := fun m hm => by
        rw [getD_set_ne false hm]; exact hk
      have hfree' : ∀ q oq, ops[q]? = some oq → q ≠ i → (L.setIfInBounds j true).getD q true = false →
          (∀ e ∈ oq.after, Region.binds .any e = true → e.on ≠ i) → oi.apart ops oq = true := fun q oq hq hne hun hno => by
        refine hfree q oq hq hne ?_ hno
        by_cases hjq : j = q
        · subst hjq; exact hjun
        · rw [← hun]; simp only [Array.getD_eq_getD_getElem?]; rw [Array.getElem?_setIfInBounds_ne hjq]
      refine wpOp_mono (fun a' w' h3 => ?_) h2
      obtain ⟨hy', hG', hH'⟩ := h3
      have hg := hG' hjk (hk1 i hik)
      refine ⟨fun _ _ => hg, ih (L.setIfInBounds j true) a' w' hfree' (ready_mono hr (Ne.symm hji)) (hk1 j hjk) hy' hg ?_⟩
      rw [Array.setIfInBounds_comm _ _ hji]
      exact hH'

def waitT (ops : Array Oper) (i k : Nat) : Bool := match ops[k]? with
  | some o => o.after.any fun e => Region.binds .any e && e.on == i
  | none => false
theorem waitT_spec {i k : Nat} (h : waitT ops i k = true) (L : Array Bool) (hi : L.getD i true = false) : k ∉ Region.ready .any ops L := fun hk => by
  obtain ⟨_, o, ho, hall⟩ := mem_ready.1 hk
  unfold waitT at h
  rw [ho] at h
  obtain ⟨e, he, h2⟩ := Array.any_eq_true'.1 h
  simp only [Bool.and_eq_true, beq_iff_eq] at h2
  have h3 := hall e he h2.1
  rw [h2.2] at h3
  rcases Nat.lt_or_ge i L.size with h' | h'
  · simp [h'] at hi h3; rw [hi] at h3; cases h3
  · simp [Array.getElem?_eq_none h'] at h3
variable {n fuel i d id : Nat} {ρ : Env} {w : World} {o : Oper} {L L' : List Bool} {l : List Oper} {v : Value}
structure WH (P : Program) (ops : Array Oper) (Q : Exit → Act → World → Prop) (G : World → Prop) (k fuel : Nat) (L : List Bool) (a : Act) (w : World) : Prop where
  out : Region.noSelect ops = true → (∀ (c : List PanicEntry) (a : Act) (d : Nat) (v : Value) (w : World), Q (.panic c) (a.put (some d) v) w → Q (.panic c) a w) → Held P ops Q G k fuel L.toArray a w
theorem c_held (hm : P.follows .mixedOrders = true) (hs : Region.noSelect l.toArray = true) (hQ : ∀ (c : List PanicEntry) (a : Act) (d : Nat) (v : Value) (w : World), Q (.panic c) (a.put (some d) v) w → Q (.panic c) a w) (G : World → World → Prop) (k N : Nat) (hN : l.length = N)
    (h : ∀ w1, Ext w w1 → w1.heap.size = w.heap.size → WH P l.toArray Q (G w1) k N (List.replicate N false) (act n ρ) w1) : (Code.region id l.toArray true).wp P Q (act n ρ) w :=
  wp_region_any hm (any_of_held (G := G w.drew) (k := k) _ _ _ _ (by
    have := (h w.drew (ext_drew w) rfl).out hs hQ
    subst hN
    simpa using this))
/-- what only reads is taken first: number k, the first write, waits for it -/
theorem h_take (ho : ops[i]? = some o) (hT : takeT ops L i d L' = true) (hik : Nat.beq i k = false) (hw8 : waitT ops i k = true) (hkL : L.toArray.getD k false = false) (hw : wanted n ops ρ o = true) (hG : G w) (hy : ∀ w', G w' → Yields P o n ρ w' v) (hk : WH P ops Q G k fuel L' (act n (up ρ d v)) w) : WH P ops Q G k (fuel + 1) L (act n ρ) w := by
  obtain ⟨h1, h2, h3, o', ho', hd⟩ := takeT_spec hT
  have e : o' = o := by rw [ho] at ho'; exact (Option.some.inj ho').symm
  subst e
  refine ⟨fun hs hQ => held_first ho' (Region.noSelect_spec hs) (fun c a w => by rw [hd]; exact hQ c a d v w) (fun e => by rw [e] at hik; simp at hik) (waitT_spec hw8) fuel L.toArray (act n ρ) w (Region.free_spec ho' h1) (by simpa using h2) hkL (v := v) (.inl ⟨by rw [wanted_eq, hw], fun w' hw' => ?_⟩) hG ?_⟩
  · have := hy w' hw'
    unfold Yields at this
    rw [act_eval', this]
  · rw [h3, hd, act_put]; exact hk.out hs hQ
def ThenH (P : Program) (ops : Array Oper) (Q : Exit → Act → World → Prop) (G : World → Prop) (k fuel : Nat) (L : List Bool) (a : Act) (w : World) : Prop := WH P ops Q G k fuel L a w
theorem h_next (h : WH P ops Q G k fuel L (act n ρ) w) : WL P ops (Exit.then (ThenH P ops Q G k fuel L) Q) [] (act n ρ) w := ⟨h⟩
/-- One comes up, and it acts: before the first write G is shown anew. -/
theorem h_act1 (hT : actT ops L [i] = true) (ho : ops[i]? = some o) (hL : L.set i true = L') (h : WL P ops (Exit.then (fun a' w' => (i ≠ k → L.toArray.getD k false = false → G w') ∧ ThenH P ops Q G k fuel L' a' w') Q) [o] (act n ρ) w) : WH P ops Q G k (fuel + 1) L (act n ρ) w := by
  have hr : Region.ready .any ops L.toArray = [i] := by simpa [actT] using hT
  refine ⟨fun hs hQ => ⟨fun h0 => (by rw [hr] at h0; cases h0), fun j hj => ?_⟩⟩
  have : j = i := by rw [hr] at hj; simpa using hj
  subst this
  refine wpOp_mono ?_ (op_of_list ho h)
  rintro a' w' ⟨h1, h2⟩
  refine ⟨h1, ?_⟩
  have e : L.toArray.setIfInBounds j true = L'.toArray := by rw [← hL]; simp
  rw [e]; exact h2.out hs hQ
theorem h_act2 {j : Nat} {o' : Oper} {L'' : List Bool} (hT : actT ops L [i, j] = true) (ho : ops[i]? = some o) (ho' : ops[j]? = some o') (hL : L.set i true = L') (hL' : L.set j true = L'') (h : WL P ops (Exit.then (fun a' w' => (i ≠ k → L.toArray.getD k false = false → G w') ∧ ThenH P ops Q G k fuel L' a' w') Q) [o] (act n ρ) w)
    (h' : WL P ops (Exit.then (fun a' w' => (j ≠ k → L.toArray.getD k false = false → G w') ∧ ThenH P ops Q G k fuel L'' a' w') Q) [o'] (act n ρ) w) : WH P ops Q G k (fuel + 1) L (act n ρ) w := by
  have hr : Region.ready .any ops L.toArray = [i, j] := by simpa [actT] using hT
  refine ⟨fun hs hQ => ⟨fun h0 => (by rw [hr] at h0; cases h0), fun q hq => ?_⟩⟩
  have : q = i ∨ q = j := by rw [hr] at hq; simpa using hq
  rcases this with rfl | rfl
  · refine wpOp_mono ?_ (op_of_list ho h)
    rintro a' w' ⟨h1, h2⟩
    refine ⟨h1, ?_⟩
    have e : L.toArray.setIfInBounds q true = L'.toArray := by rw [← hL]; simp
    rw [e]; exact h2.out hs hQ
  · refine wpOp_mono ?_ (op_of_list ho' h')
    rintro a' w' ⟨h1, h2⟩
    refine ⟨h1, ?_⟩
    have e : L.toArray.setIfInBounds q true = L''.toArray := by rw [← hL']; simp
    rw [e]; exact h2.out hs hQ
theorem h_nextG (hG : i ≠ k → L.toArray.getD k false = false → G w) (h : WH P ops Q G k fuel L' (act n ρ) w) : WL P ops (Exit.then (fun a' w' => (i ≠ k → L.toArray.getD k false = false → G w') ∧ ThenH P ops Q G k fuel L' a' w') Q) [] (act n ρ) w := ⟨⟨hG, h⟩⟩
theorem h_end (hT : actT ops L [] = true) (h : Q .normal (act n ρ) w) : WH P ops Q G k fuel L (act n ρ) w := by
  have hr : Region.ready .any ops L.toArray = [] := by simpa [actT] using hT
  refine ⟨fun _ _ => ?_⟩
  cases fuel with
  | zero => exact ⟨hr, h⟩
  | succ m => exact ⟨fun _ => h, fun i hi => by rw [hr] at hi; cases hi⟩
end
end Go.Eng
