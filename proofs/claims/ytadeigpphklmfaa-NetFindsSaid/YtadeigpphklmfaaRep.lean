/- Votes on an instance, and what is to be done, in plain terms; rows of votes. -/
import Derived.Test.YtadeigpphklmfaaMp
set_option linter.unusedVariables false
set_option linter.unusedSimpArgs false
namespace Go.Eng
open Go.RowKit
structure Vt where
  src : Int
  r : Rec
  p : Ptr
def fVt (v : Vt) : List Value := [.int .i64 v.src, .int .i64 v.r.inst.replica, .int .i64 v.r.inst.slot, .int .i64 v.r.status, .int .i64 v.r.promise.number, .int .i64 v.r.promise.replica, .int .i64 v.r.ballot.number, .int .i64 v.r.ballot.replica, .int .i64 v.r.cmd.kind, .int .i64 v.r.cmd.txn.client, .int .i64 v.r.cmd.txn.number, .int .i64 v.r.cmd.stp.time, .int .i64 v.r.cmd.stp.client, .int .i64 v.r.cmd.shards, .slice v.p.A v.r.cmd.reads.length v.p.n, .slice v.p.B v.r.cmd.writes.length v.p.m, .bool v.r.cmd.commit, .int .i64 v.r.seq, .int .i64 v.r.deps.d0, .int .i64 v.r.deps.d1, .int .i64 v.r.deps.d2, .int .i64 v.r.deps.d3, .int .i64 v.r.deps.d4, .int .i64 v.r.deps.d5, .int .i64 v.r.deps.d6, .bool v.r.kept]
def vVt (v : Vt) : Value := .agg #[.int .i64 v.src, .int .i64 v.r.inst.replica, .int .i64 v.r.inst.slot, .int .i64 v.r.status, .int .i64 v.r.promise.number, .int .i64 v.r.promise.replica, .int .i64 v.r.ballot.number, .int .i64 v.r.ballot.replica, .int .i64 v.r.cmd.kind, .int .i64 v.r.cmd.txn.client, .int .i64 v.r.cmd.txn.number, .int .i64 v.r.cmd.stp.time, .int .i64 v.r.cmd.stp.client, .int .i64 v.r.cmd.shards, .slice v.p.A v.r.cmd.reads.length v.p.n, .slice v.p.B v.r.cmd.writes.length v.p.m, .bool v.r.cmd.commit, .int .i64 v.r.seq, .int .i64 v.r.deps.d0, .int .i64 v.r.deps.d1, .int .i64 v.r.deps.d2, .int .i64 v.r.deps.d3, .int .i64 v.r.deps.d4, .int .i64 v.r.deps.d5, .int .i64 v.r.deps.d6, .bool v.r.kept]
def kVt : Kd Vt := ⟨26, fun _ v cs => cs = fVt v, fun _ h => h⟩
/-- The commands of votes lie where they say. -/
structure AllAt (w : World) (l : List Vt) : Prop where
  out : ∀ v ∈ l, CmdAt w v.r.cmd v.p
theorem AllAt.ext {w w' : World} {l : List Vt} (h : AllAt w l) (hx : Ext w w') : AllAt w' l := ⟨fun v hv => (h.out v hv).ext hx⟩
/-- A row of votes, as it was handed in. -/
structure Vt0 (w : World) (A : Option Addr) (l : List Vt) : Prop where
  lies : Lies kVt w A l
  at_ : AllAt w l
  wf : ∀ v ∈ l, wfI v.src
  len : l.length ≤ 9223372036854775807
theorem Vt0.ext {w w' : World} {A : Option Addr} {l : List Vt} (h : Vt0 w A l) (hx : Ext w w') : Vt0 w' A l := ⟨h.lies.ext hx, h.at_.ext hx, h.wf, h.len⟩
/-- A row of few votes, of few reads and writes. -/
structure Vts (w : World) (A : Option Addr) (l : List Vt) : Prop where
  lies : Lies kVt w A l
  at_ : AllAt w l
  slim : ∀ v ∈ l, Slim v.r.cmd
  wf : ∀ v ∈ l, wfI v.src
  len : l.length ≤ 1000
theorem Vts.ext {w w' : World} {A : Option Addr} {l : List Vt} (h : Vts w A l) (hx : Ext w w') : Vts w' A l := ⟨h.lies.ext hx, h.at_.ext hx, h.slim, h.wf, h.len⟩
theorem Vts.sub {w w' : World} {A A' : Option Addr} {l l' : List Vt} (h : Vts w A l) (hx : Ext w w') (hl : Lies kVt w' A' l') (hs : ∀ v ∈ l', v ∈ l) (hn : l'.length ≤ l.length) : Vts w' A' l' :=
  ⟨hl, ⟨fun v hv => (h.at_.out v (hs v hv)).ext hx⟩, fun v hv => h.slim v (hs v hv), fun v hv => h.wf v (hs v hv), Nat.le_trans hn h.len⟩
theorem at_of {α : Type} {l : List α} {k : Nat} {x : α} (h : l[k]? = some x) : x ∈ l := List.mem_of_getElem? h

/-- A vote as it is handed in. -/
def kVtO : Kd Vt := ⟨26, fun w v cs => cs = fVt v ∧ CmdAt w v.r.cmd v.p ∧ wfI v.src, fun hx h => ⟨h.1, h.2.1.ext hx, h.2.2⟩⟩
theorem Vt0.of {w : World} {A : Option Addr} {l : List Vt} (h : Lies kVtO w A l) (hn : l.length ≤ 9223372036854775807) : Vt0 w A l := by
  have hk : ∀ v ∈ l, CmdAt w v.r.cmd v.p ∧ wfI v.src := fun v hv => by
    obtain ⟨i, hi, e⟩ := List.getElem_of_mem hv
    obtain ⟨_, _, _, ⟨_, h1, h2⟩, _⟩ := h i v (by rw [List.getElem?_eq_getElem hi, e])
    exact ⟨h1, h2⟩
  exact ⟨fun i x hi => by obtain ⟨ad, cs, e, hK, hE⟩ := h i x hi; exact ⟨ad, cs, e, hK.1, hE⟩, ⟨fun v hv => (hk v hv).1⟩, fun v hv => (hk v hv).2, hn⟩
def fewV (l : List Vt) : Bool := (l.take 21).all (fun v => fewOne v.r.cmd) && decide (l.length ≤ 20)
theorem fewV_no {l : List Vt} {k : Nat} {x : Vt} (hx : l[k]? = some x) (hk : k < 21) (h : few [(x.r.cmd, x.p)] = false) : fewV l = false := by
  have : (l.take 21).all (fun v => fewOne v.r.cmd) = false := fail_upto hx hk (by simpa [few] using h)
  simp [fewV, this]
theorem fewV_end {l : List Vt} {k : Nat} (h : (l.take k).all (fun v => fewOne v.r.cmd) = true) (hk : l.length ≤ k ∨ 21 ≤ k) : fewV l = decide (l.length ≤ 20) := by
  simp [fewV, all_upto h hk]
theorem few_all {l : List Vt} (h : fewV l = true) : (∀ v ∈ l, fewOne v.r.cmd = true) ∧ l.length ≤ 20 := by
  simp only [fewV, Bool.and_eq_true, decide_eq_true_eq] at h
  rw [List.take_of_length_le (by omega)] at h
  exact ⟨List.all_eq_true.1 h.1, h.2⟩
theorem Vt0.few {w : World} {A : Option Addr} {l : List Vt} (h : Vt0 w A l) (hf : fewV l = true) : Vts w A l :=
  ⟨h.lies, h.at_, fun v hv => few_slim ((few_all hf).1 v hv), h.wf, by have := (few_all hf).2; omega⟩

/-! ### Rows in the making, of elements of any kind -/
structure Own {α : Type} (f : α → List Value) (sz : Nat) (w : World) (B e : Nat) (A : Option Addr) (c : Nat) (xs : List α) : Prop where
  own : w.ownsRow B e sz (.slice A xs.length c) xs.length (xs.flatMap f)
  le : xs.length ≤ c
  mx : c ≤ 9223372036854775807
section
variable {α : Type} {f : α → List Value} {sz : Nat} {w w' : World} {B e c : Nat} {A : Option Addr} {xs : List α}
theorem Own.nil (f : α → List Value) (sz : Nat) (w : World) (B e : Nat) : Own f sz w B e none 0 [] := ⟨own_nil w B e sz, Nat.le_refl _, by decide⟩
theorem Own.ext (h : Own f sz w B e A c xs) (hx : Ext w w') : Own f sz w' B e A c xs := ⟨own_ext h.own hx, h.le, h.mx⟩
theorem Own.kept {B' e' : Nat} (h : Own f sz w B e A c xs) (hk : Kept B' e' w w') (hne : e ≠ e') : Own f sz w' B e A c xs := ⟨own_kept h.own hk hne, h.le, h.mx⟩
theorem Own.map {P : Program} {k e' b m : Nat} {g : Int → Int} (h : Own f sz w B e A c xs) (hM : MapI P w k e' b m g) (hg : w.grownBy w' (some b)) : Own f sz w' B e A c xs := ⟨own_map h.own hM hg, h.le, h.mx⟩
theorem Own.mono {B' : Nat} (h : Own f sz w B e A c xs) (hB : B' ≤ B) : Own f sz w B' e A c xs := ⟨own_mono h.own hB, h.le, h.mx⟩
theorem Own.far {g T : Nat} {bs : List Value} (h : Own f sz w B e A c xs) (s : Stored g w w') (hb : Box w g T bs) (hne : e ≠ T) : Own f sz w' B e A c xs := ⟨own_far' h.own s hb hne, h.le, h.mx⟩
theorem Own.lies {d : Kd α} (h : Own f d.sz w B e A c xs) (hf : ∀ x, (f x).length = d.sz) (hK : ∀ x ∈ xs, d.K w x (f x)) : Lies d w A xs := own_lies_of h.own rfl hf hK
theorem Own.fresh (h : Own f sz w B e A c xs) (ad : Addr) (hA : A = some ad) : B ≤ ad.block := own_fresh h.own ad hA
/-- append(x, z), z just put into a row of its own. -/
theorem p_appendO {P : Program} {n : Nat} {ρ : Env} {o : Oper} {ops : Array Oper} {Q : Exit → Act → World → Prop} {rest : List Oper} {d : Nat} {bytes t g T c2 : Nat} {s x : Operand} {z : α} {cells : List Value} (hT : elT P t e sz bytes = true) (hw : wanted n ops ρ o = true) (hd : o.dst = some d) (ho : o.op = .call { callee := .builtin .append, args := #[s, x], argTypes := #[t, t] })
    (hs : ev n ρ s = .slice A xs.length c) (hown : Own f sz w B e A c xs) (hx : ev n ρ x = .slice (some ⟨g, 0, none⟩) 1 c2) (hb : Box w g T cells) (hc : cells = f z) (hl : (f z).length = sz) (h1 : allOne (f z) = true) (h63 : (xs.length + 1) * bytes ≤ 140737488355328) (hk63 : xs.length + 1 ≤ 9223372036854775807) (hB : B ≤ w.heap.size)
    (hk : ∀ A c' w', Own f sz w' B e A c' (xs ++ [z]) → Kept B e w w' → WL P ops Q rest (act n (up ρ d (.slice A (List.length (α := α) (xs ++ [z])) c'))) w') : WL P ops Q (o :: rest) (act n ρ) w := by
  subst hc
  refine p_appendK hT hw hd ho hs hown.own hx (m := 1) (by rw [hl, Nat.one_mul]) hb.put h1 h63 hk63 hB fun A c' w' h2 hK h3 h4 => ?_
  have e1 : xs.length + 1 = (xs ++ [z]).length := by simp
  have e2 : xs.flatMap f ++ f z = (xs ++ [z]).flatMap f := by simp
  rw [e1] at h2 h3 ⊢
  rw [e2] at h2
  exact hk A c' w' ⟨h2, h3, h4⟩ hK
end

section
variable {α : Type}
theorem Own.box0 (f : α → List Value) (sz : Nat) {w : World} {g B e : Nat} (hb : Box w g e []) (hB : B ≤ g) : Own f sz w B e (some ⟨g, 0, none⟩) 0 ([] : List α) := ⟨own_box hb hB (by simp) (Nat.zero_le _), Nat.le_refl _, Nat.zero_le _⟩
/-- append([], y...), y any row that lies. -/
theorem p_appendOR0 {P : Program} {n : Nat} {ρ : Env} {o : Oper} {ops : Array Oper} {Q : Exit → Act → World → Prop} {rest : List Oper} {d : Nat} {dd : Kd α} {w : World} {B e bytes t c c2 : Nat} {A A2 : Option Addr} {s x : Operand} {f : α → List Value} {ys : List α} (hT : elT P t e dd.sz bytes = true) (hw : wanted n ops ρ o = true) (hd : o.dst = some d) (ho : o.op = .call { callee := .builtin .append, args := #[s, x], argTypes := #[t, t] })
    (hs : ev n ρ s = .slice A 0 c) (hown : Own f dd.sz w B e A c ([] : List α)) (hx : ev n ρ x = .slice A2 ys.length c2) (hL : Lies dd w A2 ys) (hf : ∀ x, (f x).length = dd.sz) (hK : ∀ x cs, dd.K w x cs → cs = f x) (h1 : ∀ x, allOne (f x) = true) (h63 : ys.length * bytes ≤ 140737488355328) (hk63 : ys.length ≤ 9223372036854775807) (hB : B ≤ w.heap.size)
    (hk : ∀ A' c' w', Own f dd.sz w' B e A' c' ys → Kept B e w w' → (∀ g T bs, (∀ ad, A = some ad → ad.block ≠ g) → Box w g T bs → Box w' g T bs) → WL P ops Q rest (act n (up ρ d (.slice A' ys.length c'))) w') : WL P ops Q (o :: rest) (act n ρ) w := by
  cases A2 with
  | some ad =>
    refine p_append hT hw hd ho hs hown.own hx (flat_length hf ys) (lies_cells hL hf hK) (all_flat h1 ys) (by simpa using h63) (by simpa using hk63) hB fun A' c' w' h2 hb hg h3 h4 => ?_
    have h2' : w'.ownsRow B e dd.sz (.slice A' ys.length c') ys.length (ys.flatMap f) := by simpa using h2
    have h3' : ys.length ≤ c' := by simpa using h3
    have := hk A' c' w' ⟨h2', h3', h4⟩ (Kept.of hb hg hown.own) (fun g T bs hne h => h.grown hg (fun e1 => by
      cases A with
      | none => simp [Value.ownBlock] at e1
      | some a => simp [Value.ownBlock] at e1; exact hne a rfl e1.symm))
    simpa using this
  | none =>
    have hnil : ys = [] := by
      cases ys with
      | nil => rfl
      | cons y ys =>
        obtain ⟨_, _, e, _⟩ := hL 0 y rfl
        cases e
    subst hnil
    refine p_append_nil hT hw hd ho hs hown.own hx ?_
    exact hk A c w hown (Kept.refl _ _ _) (fun _ _ _ _ h => h)
end
theorem x_buildA {P : Program} {n : Nat} {ρ : Env} {w : World} {o : Oper} {t len : Nat} {z r : List Value} {parts : Array (Nat × Operand)} {vals : Array (Nat × Value)} (hz : (P.info? t).bind (·.zero) = some (.agg z.toArray)) (hT : arrT P t len = true) (ho : o.op = .build t parts) (hv : parts.map (fun (i, x) => (i, ev n ρ x)) = vals) (hf : Instr.fill (fun i => some (i * 1, 1)) z.toArray vals.toList = some r.toArray) : Yields P o n ρ w (.agg r.toArray) := by
  obtain ⟨e, hu, hs, _⟩ := arrT_spec hT
  have hzv : (zeroValue t).run P w = .ok (.agg z.toArray) w := by
    cases hi : P.info? t with
    | none => rw [hi] at hz; cases hz
    | some i =>
      rw [hi] at hz
      simp only [Option.bind_some] at hz
      simp [zeroValue, run_typeInfo' hi, hz]
  simp only [Yields, execOp, ho, Instr.build, Sem.run_bind, hzv, run_underlying hu, Result.andThen_ok, run_sizeOf' hs]
  simp only [Value.cells]
  rw [hv, hf]
  rfl
theorem p_callv {P : Program} {n : Nat} {ρ : Env} {w : World} {o : Oper} {ops : Array Oper} {Q : Exit → Act → World → Prop} {rest : List Oper} {d : Nat} {f : FuncId} {x : Operand} {as : Array Operand} {ts : Array TypeId} {vs cap all : Array Value} (hf : fnT P f = true) (hw : wanted n ops ρ o = true) (hd : o.dst = some d) (ho : o.op = .call { callee := .value x, args := as, argTypes := ts }) (hx : ev n ρ x = .func (.func f) #[] cap) (ha : as.map (ev n ρ) = vs) (hall : vs ++ cap = all)
    (h : Calls P f all w (fun e w' => ∃ v, e = .returned v ∧ WL P ops Q rest (act n (up ρ d v)) w')) : WL P ops Q (o :: rest) (act n ρ) w := by
  refine ⟨?_⟩
  unfold wpList
  rw [wanted_eq, hw, if_pos rfl]
  refine .inl ?_
  unfold Oper.wp
  rw [act_eval', exec_callv hf ho hx ha, hall, Oper.upon_enter]
  refine h.mono ?_
  rintro e w' ⟨v, rfl, hk⟩
  show wpList P ops Q rest ((act n ρ).put o.dst v) w'
  rw [hd, act_put]
  exact hk.out

theorem Vts.snoc {w w' : World} {A A' : Option Addr} {l : List Vt} {z : Vt} {B e c : Nat} (h : Vts w A l) (hx : Below w.heap.size w w') (ho : Own fVt 26 w' B e A' c (l ++ [z])) (hz : CmdAt w z.r.cmd z.p) (hs : Slim z.r.cmd) (hw : wfI z.src) (hn : l.length + 1 ≤ 1000) : Vts w' A' (l ++ [z]) :=
  ⟨ho.lies (d := kVt) (fun _ => rfl) (fun _ _ => rfl), ⟨fun v hv => by
    rcases List.mem_append.1 hv with hv | hv
    · exact (h.at_.out v hv).ext hx
    · have : v = z := by simpa using hv
      subst this; exact hz.ext hx⟩, fun v hv => by
    rcases List.mem_append.1 hv with hv | hv
    · exact h.slim v hv
    · have : v = z := by simpa using hv
      subst this; exact hs, fun v hv => by
    rcases List.mem_append.1 hv with hv | hv
    · exact h.wf v hv
    · have : v = z := by simpa using hv
      subst this; exact hw, by simpa using hn⟩

/-! ### The first vote of each replica -/
def isOf (n : Int) (u : Vt) : Bool := decide (u.src = n)
def addVt (acc : List Vt) (v : Vt) : List Vt := if acc.any (isOf v.src) then acc else acc ++ [v]
def counted (l : List Vt) : List Vt := l.foldl addVt []
def cnt (l : List Vt) (q : Int) : Int := (l.countP (isOf q) : Nat)
section
variable {l : List Vt} {k : Nat} {x v : Vt} {q : Int}
theorem counted_snoc (l : List Vt) (v : Vt) : counted (l ++ [v]) = addVt (counted l) v := by simp [counted, List.foldl_append]
theorem fold_any (n : Int) : ∀ (l acc : List Vt), (l.foldl addVt acc).any (isOf n) = (acc.any (isOf n) || l.any (isOf n))
  | [], acc => by simp
  | v :: l, acc => by
    rw [List.foldl_cons, fold_any n l, addVt]
    by_cases h : acc.any (isOf v.src) = true
    · rw [if_pos h]
      by_cases hv : v.src = n
      · subst hv; simp only [h, Bool.true_or]
      · simp [isOf, hv]
    · rw [if_neg h, List.any_append, List.any_cons, List.any_cons, List.any_nil, Bool.or_false, Bool.or_assoc]
theorem counted_any (l : List Vt) (n : Int) : (counted l).any (isOf n) = l.any (isOf n) := by
  rw [counted, fold_any]; simp
theorem fold_mem : ∀ (l acc : List Vt) (v : Vt), v ∈ l.foldl addVt acc → v ∈ acc ∨ v ∈ l
  | [], acc, v, h => .inl h
  | u :: l, acc, v, h => by
    rw [List.foldl_cons] at h
    rcases fold_mem l _ v h with h | h
    · unfold addVt at h
      split at h
      · exact .inl h
      · rcases List.mem_append.1 h with h | h
        · exact .inl h
        · exact .inr (by simp at h; simp [h])
    · exact .inr (by simp [h])
theorem counted_mem (h : v ∈ counted l) : v ∈ l := by
  rcases fold_mem l [] v h with h | h
  · cases h
  · exact h
theorem fold_len : ∀ (l acc : List Vt), (l.foldl addVt acc).length ≤ acc.length + l.length
  | [], acc => by simp
  | u :: l, acc => by
    rw [List.foldl_cons]
    refine Nat.le_trans (fold_len l _) ?_
    unfold addVt
    split <;> simp <;> omega
theorem counted_len (l : List Vt) : (counted l).length ≤ l.length := by
  have := fold_len l []
  simpa [counted] using this
theorem counted_take (l : List Vt) (k : Nat) : (counted (l.take k)).length ≤ k := Nat.le_trans (counted_len _) (by rw [List.length_take]; exact Nat.min_le_left _ _)
theorem counted_add (hx : l[k]? = some x) (h : (l.take k).any (isOf x.src) = false) : counted (l.take (k + 1)) = counted (l.take k) ++ [x] := by
  rw [take_of hx, counted_snoc, addVt, counted_any, h, if_neg (by simp)]
theorem counted_old (hx : l[k]? = some x) (h : (l.take k).any (isOf x.src) = true) : counted (l.take (k + 1)) = counted (l.take k) := by
  rw [take_of hx, counted_snoc, addVt, counted_any, h, if_pos rfl]
theorem cnt_step (hx : l[k]? = some x) (q : Int) : (if q = x.src then cnt (l.take k) x.src + 1 else cnt (l.take k) q) = cnt (l.take (k + 1)) q := by
  rw [take_of hx]
  by_cases h : q = x.src
  · subst h
    rw [if_pos rfl]
    simp [cnt, List.countP_append, isOf]
  · rw [if_neg h]
    simp [cnt, List.countP_append, isOf, Ne.symm h]
theorem cnt_bound (l : List Vt) (k : Nat) (q : Int) : 0 ≤ cnt (l.take k) q ∧ cnt (l.take k) q ≤ k := by
  refine ⟨Int.natCast_nonneg _, ?_⟩
  have h1 : (l.take k).countP (isOf q) ≤ (l.take k).length := List.countP_le_length
  have h2 : (l.take k).length ≤ k := by rw [List.length_take]; exact Nat.min_le_left _ _
  unfold cnt; omega
theorem cnt_any (l : List Vt) (q : Int) : l.any (isOf q) = decide (cnt l q > 0) := by
  rw [Bool.eq_iff_iff, decide_eq_true_iff, List.any_eq_true]
  unfold cnt
  rw [gt_iff_lt, Int.natCast_pos, List.countP_pos_iff]
theorem cnt_one (hx : l[k]? = some x) (h : decide (cnt (l.take (k + 1)) x.src = 1) = true) : (l.take k).any (isOf x.src) = false := by
  rw [← cnt_step hx, if_pos rfl, decide_eq_true_iff] at h
  rw [cnt_any, decide_eq_false_iff_not]
  omega
theorem cnt_more (hx : l[k]? = some x) (h : decide (cnt (l.take (k + 1)) x.src = 1) = false) : (l.take k).any (isOf x.src) = true := by
  rw [← cnt_step hx, if_pos rfl, decide_eq_false_iff_not] at h
  rw [cnt_any, decide_eq_true_iff]
  have := (cnt_bound l k x.src).1
  omega
theorem mod_at {a : Int} {l : List Vt} (ha : 0 ≤ a) (hl : decide ((l.length : Int) = 0) = false) : 0 ≤ a % (l.length : Int) ∧ a % (l.length : Int) < (l.length : Int) := by
  have := of_decide_eq_false hl
  exact ⟨Int.emod_nonneg _ this, Int.emod_lt_of_pos _ (by omega)⟩
theorem wf_of (h0 : -9223372036854775808 ≤ q) (h1 : q ≤ 9223372036854775807) : wfI q := by
  unfold wfI Lit.wf
  simp [IntKind.min, IntKind.max, IntKind.signed, IntKind.bits]
  omega
/-- each replica once -/
def Once (l : List Vt) : Prop := l.Pairwise fun a b => a.src ≠ b.src
theorem fold_once : ∀ (l acc : List Vt), Once acc → Once (l.foldl addVt acc)
  | [], acc, h => h
  | u :: l, acc, h => by
    rw [List.foldl_cons]
    refine fold_once l _ ?_
    unfold addVt
    split
    · exact h
    · rename_i hn
      rw [List.any_eq_true, not_exists] at hn
      refine List.pairwise_append.2 ⟨h, by simp, fun a ha b hb => ?_⟩
      have : b = u := by simpa using hb
      subst this
      exact fun e => hn a ⟨ha, by simp [isOf, e]⟩
theorem counted_once (l : List Vt) : Once (counted l) := fold_once l [] List.Pairwise.nil
theorem fold_keep : ∀ (l acc : List Vt), Once (acc ++ l) → l.foldl addVt acc = acc ++ l
  | [], acc, _ => by simp
  | u :: l, acc, h => by
    rw [List.foldl_cons]
    have hn : ¬ acc.any (isOf u.src) = true := by
      rw [List.any_eq_true]
      rintro ⟨a, ha, e⟩
      have := (List.pairwise_append.1 h).2.2 a ha u (by simp)
      exact this (by simpa [isOf] using e)
    rw [addVt, if_neg hn, fold_keep l (acc ++ [u]) (by simpa using h)]
    simp
theorem once_counted (h : Once l) : counted l = l := by
  have := fold_keep l [] (by simpa using h)
  simpa [counted] using this
theorem counted_counted (l : List Vt) : counted (counted l) = counted l := once_counted (counted_once l)
end

/-! ### What is to be done -/
def sizeF (f : Int) : Int := if f = 1 ∨ f = 2 ∨ f = 3 then 2 * f + 1 else 0
def fastF (f : Int) : Int := if f = 1 ∨ f = 2 ∨ f = 3 then 2 * f else 0
def slowF (f : Int) : Int := if f = 1 ∨ f = 2 ∨ f = 3 then f + 1 else 0
def badVote (f : Int) (i : Inst) (v : Vt) : Bool := decide (v.src < 0) || decide (v.src ≥ sizeF f) || !decide (v.r.inst = i) || !rightRec v.r
def why (f : Int) (i : Inst) (c : List Vt) : Int := if rightInst i = false ∨ i.replica ≥ sizeF f then 1 else if c.any (badVote f i) = true then 1 else if (c.length : Int) < f + 1 then 13 else 0
def quick (v : Vt) : Bool := decide (v.r.status = 1) && decide (v.r.ballot = zBal) && v.r.kept
def fastR (f : Int) (i : Inst) (c : List Vt) : Bool := decide (why f i c = 0) && !c.any (isOf i.replica) && decide (f ≤ (c.countP quick : Nat))
def stepP (p : Vt → Bool) (acc : Option Vt) (v : Vt) : Option Vt := if p v then (match acc with | none => some v | some b => if 0 < cmpBal v.r.ballot b.r.ballot then some v else some b) else acc
def pickV (p : Vt → Bool) (c : List Vt) : Option Vt := c.foldl (stepP p) none
def ofS (k : Int) (v : Vt) : Bool := decide (v.r.status = k)
abbrev zRec : Rec := ⟨⟨0, 0⟩, 0, zBal, zBal, noop, 0, zDep, false⟩
def decC (f : Int) (i : Inst) (c : List Vt) : Rec × Int :=
  if why f i c ≠ 0 then (zRec, why f i c) else
  match c.find? (ofS 3) with
  | some v => (asRec v.r 3, 0)
  | none => match pickV (ofS 2) c with
    | some v => (asRec v.r 2, 0)
    | none => match (if fastR f i c then c.find? quick else none) with
      | some v => (asRec v.r 2, 0)
      | none => match pickV (ofS 1) c with
        | some v => (asRec v.r 1, 0)
        | none => (⟨i, 2, zBal, zBal, noop, 1, zDep, false⟩, 0)
def decR (f : Int) (i : Inst) (l : List Vt) : Rec × Int := decC f i (counted l)
section
variable {l c : List Vt} {k j : Nat} {x v b : Vt} {q f bi : Int} {i : Inst} {p : Vt → Bool} {R : Rec} {E : Int}
theorem pick_snoc (p : Vt → Bool) (l : List Vt) (v : Vt) : pickV p (l ++ [v]) = stepP p (pickV p l) v := by simp [pickV, List.foldl_append]
theorem pick_take (hx : l[k]? = some x) : pickV p (l.take (k + 1)) = stepP p (pickV p (l.take k)) x := by rw [take_of hx, pick_snoc]
/-- where the best so far stands -/
def Best (p : Vt → Bool) (l : List Vt) (k : Nat) (bi : Int) : Prop := (bi = -1 ∧ pickV p (l.take k) = none) ∨ ∃ (j : Nat) (b : Vt), bi = (j : Int) ∧ l[j]? = some b ∧ pickV p (l.take k) = some b
theorem best_none (h : pickV p (l.take k) = none) : Best p l k (-1) := .inl ⟨rfl, h⟩
theorem best_some (h : pickV p (l.take k) = some b) (hj : l[j]? = some b) : Best p l k (j : Int) := .inr ⟨j, b, rfl, hj, h⟩
theorem best_skip (h : Best p l k bi) (hx : l[k]? = some x) (hn : p x = false) : Best p l (k + 1) bi := by
  have e : pickV p (l.take (k + 1)) = pickV p (l.take k) := by rw [pick_take hx]; simp [stepP, hn]
  rcases h with ⟨h1, h2⟩ | ⟨j, b, h1, h2, h3⟩
  · exact .inl ⟨h1, e.trans h2⟩
  · exact .inr ⟨j, b, h1, h2, e.trans h3⟩
theorem best_first (h : pickV p (l.take k) = none) (hx : l[k]? = some x) (hy : p x = true) : Best p l (k + 1) (k : Int) :=
  .inr ⟨k, x, rfl, hx, by rw [pick_take hx, h]; simp [stepP, hy]⟩
theorem best_above (h : pickV p (l.take k) = some b) (hx : l[k]? = some x) (hy : p x = true) (hc : 0 < cmpBal x.r.ballot b.r.ballot) : Best p l (k + 1) (k : Int) :=
  .inr ⟨k, x, rfl, hx, by rw [pick_take hx, h]; simp [stepP, hy, hc]⟩
theorem best_below (h : pickV p (l.take k) = some b) (hj : l[j]? = some b) (hx : l[k]? = some x) (hc : ¬ 0 < cmpBal x.r.ballot b.r.ballot) : Best p l (k + 1) (j : Int) := by
  refine .inr ⟨j, b, rfl, hj, ?_⟩
  rw [pick_take hx, h]
  simp [stepP, hc]
theorem best_end {v' : Option Vt} (h : pickV p (l.take k) = v') (hk : ¬ k < l.length) : pickV p l = v' := by rwa [take_end hk] at h
theorem find_step {p : Vt → Bool} (h : (l.take k).find? p = none) (hx : l[k]? = some x) (hn : p x = false) : (l.take (k + 1)).find? p = none := by
  rw [take_of hx, List.find?_append, h]; simp [hn]
theorem find_hit {p : Vt → Bool} (h : (l.take k).find? p = none) (hx : l[k]? = some x) (hp : p x = true) : l.find? p = some x := by
  have e : l = l.take (k + 1) ++ l.drop (k + 1) := (List.take_append_drop _ _).symm
  rw [e, List.find?_append, take_of hx, List.find?_append, h]
  simp [hp]
theorem find_end {p : Vt → Bool} (h : (l.take k).find? p = none) (hk : ¬ k < l.length) : l.find? p = none := by rwa [take_end hk] at h
theorem fold_stay (p : Vt → Bool) (v : Vt) (hv : p v = true) (he : ∀ a b : Vt, p a = true → p b = true → ¬ 0 < cmpBal a.r.ballot b.r.ballot) : ∀ (c : List Vt), c.foldl (stepP p) (some v) = some v
  | [] => rfl
  | u :: c => by
    rw [List.foldl_cons]
    have e : stepP p (some v) u = some v := by
      unfold stepP
      by_cases hu : p u = true
      · rw [if_pos hu]; simp [he u v hu hv]
      · rw [if_neg hu]
    rw [e, fold_stay p v hv he c]
theorem pick_find (p : Vt → Bool) (he : ∀ a b : Vt, p a = true → p b = true → ¬ 0 < cmpBal a.r.ballot b.r.ballot) : ∀ (c : List Vt), pickV p c = c.find? p
  | [] => rfl
  | u :: c => by
    unfold pickV
    rw [List.foldl_cons, List.find?_cons]
    by_cases hu : p u = true
    · rw [hu]
      have e : stepP p none u = some u := by simp [stepP, hu]
      rw [e, fold_stay p u hu he c]
    · have e : stepP p none u = none := by simp [stepP, hu]
      rw [e]
      have := pick_find p he c
      unfold pickV at this
      rw [this]
      simp [hu]
theorem quick_bal {v : Vt} (h : quick v = true) : v.r.ballot = zBal := by
  simp only [quick, Bool.and_eq_true, decide_eq_true_eq] at h
  exact h.1.2
theorem pick_quick (c : List Vt) : pickV quick c = c.find? quick := pick_find quick (fun a b ha hb => by rw [quick_bal ha, quick_bal hb]; decide) c
theorem fold_some (p : Vt → Bool) : ∀ (c : List Vt) (acc : Option Vt) (v : Vt), c.foldl (stepP p) acc = some v → acc = some v ∨ (v ∈ c ∧ p v = true)
  | [], acc, v, h => .inl h
  | u :: c, acc, v, h => by
    rw [List.foldl_cons] at h
    rcases fold_some p c _ v h with h | ⟨h1, h2⟩
    · unfold stepP at h
      split at h
      · rename_i hu
        cases acc with
        | none => injection h with h; subst h; exact .inr ⟨by simp, hu⟩
        | some b =>
          dsimp only at h
          split at h
          · injection h with h; subst h; exact .inr ⟨by simp, hu⟩
          · exact .inl h
      · exact .inl h
    · exact .inr ⟨by simp [h1], h2⟩
theorem pick_mem (h : pickV p c = some v) : v ∈ c := by
  rcases fold_some p c none v h with h | h
  · cases h
  · exact h.1
theorem pick_such (h : pickV p c = some v) : p v = true := by
  rcases fold_some p c none v h with h | h
  · cases h
  · exact h.2
theorem fast_quick (h : fastR f i c = true) : ∃ v, c.find? quick = some v := by
  simp only [fastR, Bool.and_eq_true, decide_eq_true_eq] at h
  obtain ⟨⟨h1, _⟩, h3⟩ := h
  have hf : 0 < f := by
    unfold why at h1
    split at h1
    · cases h1
    · rename_i hs
      rw [not_or] at hs
      have hi := hs.1
      have hr := hs.2
      simp only [Bool.not_eq_false, rightInst, within, Bool.and_eq_true, decide_eq_true_eq] at hi
      unfold sizeF at hr
      split at hr <;> omega
  have hc : 0 < c.countP quick := by omega
  obtain ⟨v, hv, hq⟩ := List.countP_pos_iff.1 hc
  cases hfd : c.find? quick with
  | some u => exact ⟨u, rfl⟩
  | none => rw [List.find?_eq_none] at hfd; exact absurd hq (hfd v hv)
theorem fast_err (h : why f i c ≠ 0) : fastR f i c = false := by simp [fastR, h]
theorem fast_own (h : c.any (isOf i.replica) = true) : fastR f i c = false := by simp [fastR, h]
theorem fast_end {b : Bool} (h : why f i c = 0) (h1 : c.any (isOf i.replica) = false) (h2 : decide (((c.countP quick : Nat) : Int) ≥ f) = b) : fastR f i c = b := by
  simp only [fastR, h, h1]
  simpa using h2
theorem cp_bound (c : List Vt) (k : Nat) : (c.take k).countP quick ≤ k := Nat.le_trans List.countP_le_length (by rw [List.length_take]; exact Nat.min_le_left _ _)
/-! the ways out -/
theorem dec_err (h : why f i c ≠ 0) : decC f i c = (zRec, why f i c) := by simp [decC, h]
theorem dec_com (h : why f i c = 0) (h1 : c.find? (ofS 3) = some v) : decC f i c = (asRec v.r 3, 0) := by simp [decC, h, h1]
theorem dec_acc (h : why f i c = 0) (h1 : c.find? (ofS 3) = none) (h2 : pickV (ofS 2) c = some v) : decC f i c = (asRec v.r 2, 0) := by simp [decC, h, h1, h2]
theorem dec_fast (h : why f i c = 0) (h1 : c.find? (ofS 3) = none) (h2 : pickV (ofS 2) c = none) (h3 : fastR f i c = true) (h4 : c.find? quick = some v) : decC f i c = (asRec v.r 2, 0) := by simp [decC, h, h1, h2, h3, h4]
theorem dec_pre (h : why f i c = 0) (h1 : c.find? (ofS 3) = none) (h2 : pickV (ofS 2) c = none) (h3 : fastR f i c = false) (h4 : pickV (ofS 1) c = some v) : decC f i c = (asRec v.r 1, 0) := by simp [decC, h, h1, h2, h3, h4]
theorem dec_none (h : why f i c = 0) (h1 : c.find? (ofS 3) = none) (h2 : pickV (ofS 2) c = none) (h3 : fastR f i c = false) (h4 : pickV (ofS 1) c = none) : decC f i c = (⟨i, 2, zBal, zBal, noop, 1, zDep, false⟩, 0) := by simp [decC, h, h1, h2, h3, h4]
theorem dec_none' (h : why f i c = 0) (h1 : c.find? (ofS 3) = none) (h2 : pickV (ofS 2) c = none) (h3 : fastR f i c = false) (h4 : pickV (ofS 1) c = none) : decC f i c = (asRec ⟨i, 0, zBal, zBal, noop, 1, zDep, false⟩ 2, 0) := by rw [dec_none h h1 h2 h3 h4]; rfl
theorem dec_cmd (f : Int) (i : Inst) (c : List Vt) : (decC f i c).1.cmd = noop ∨ ∃ v ∈ c, (decC f i c).1.cmd = v.r.cmd := by
  unfold decC
  split
  · exact .inl rfl
  · split
    · rename_i v h; exact .inr ⟨v, List.mem_of_find?_eq_some h, rfl⟩
    · split
      · rename_i v h; exact .inr ⟨v, pick_mem h, rfl⟩
      · split
        · rename_i v h
          refine .inr ⟨v, ?_, rfl⟩
          split at h
          · exact List.mem_of_find?_eq_some h
          · cases h
        · split
          · rename_i v h; exact .inr ⟨v, pick_mem h, rfl⟩
          · exact .inl rfl
/-! what is told is of the instance, and of a vote -/
def someX (R : Rec) (v : Vt) : Rec := ⟨R.inst, v.r.status, v.r.promise, v.r.ballot, R.cmd, R.seq, R.deps, v.r.kept⟩
def posV (v : Vt) : Bool := decide (v.r.status > 0)
def fromV (R : Rec) (v : Vt) : Bool := posV v && decide (someX R v = v.r)
theorem why_ok (h : why f i c = 0) : rightInst i = true ∧ i.replica < sizeF f ∧ (∀ v ∈ c, v.r.inst = i ∧ rightRec v.r = true) ∧ f + 1 ≤ (c.length : Int) := by
  unfold why at h
  split at h
  · cases h
  · rename_i hs
    rw [not_or] at hs
    split at h
    · cases h
    · rename_i hb
      split at h
      · cases h
      · rename_i hl
        refine ⟨by simpa using hs.1, by omega, fun v hv => ?_, by omega⟩
        have hb' : c.any (badVote f i) = false := by simpa using hb
        have := List.any_eq_false.1 hb' v hv
        simp only [badVote, Bool.or_eq_true, Bool.not_eq_true', decide_eq_true_eq, decide_eq_false_iff_not, not_or, Decidable.not_not, Bool.not_eq_false] at this
        exact ⟨this.1.2, this.2⟩
theorem as_right {r : Rec} {k : Int} (h : rightRec r = true) (hs : r.status ≠ 0) (h1 : 1 ≤ k) (h3 : k ≤ 3) : rightRec (asRec r k) = true := by
  simp only [rightRec, if_neg hs, Bool.and_eq_true] at h
  obtain ⟨⟨⟨⟨⟨⟨hi, _⟩, _⟩, _⟩, _⟩, _⟩, ⟨hc, hq⟩, hd⟩ := h
  have hk : k ≠ 0 := by omega
  have e1 : within k 0 3 = true := by simp [within]; omega
  simp only [rightRec, asRec, if_neg hk, Bool.and_eq_true]
  refine ⟨⟨⟨⟨⟨⟨hi, rfl⟩, rfl⟩, rfl⟩, e1⟩, ?_⟩, ⟨hc, hq⟩, hd⟩
  by_cases hk1 : k = 1 <;> simp [hk1]
theorem any_one {p : Vt → Bool} {x : Vt} {b : Bool} (h : p x = b) : (false || [x].any p) = b := by simp [h]
theorem from_no {R : Rec} {x : Vt} (h : decide (x.r.status > 0) = false) : fromV R x = false := by
  unfold fromV posV; rw [h]; rfl
theorem from_yes {R : Rec} {x : Vt} {b : Bool} (h : decide (x.r.status > 0) = true) (h1 : decide (someX R x = x.r) = b) : fromV R x = b := by
  unfold fromV posV; rw [h, h1]; rfl
structure SomeOk (f : Int) (i : Inst) (c : List Vt) (R : Rec) : Prop where
  inst : R.inst = i
  right : rightRec R = true
  com : c.any (ofS 3) = decide (R.status = 3)
  frm : c.any (fromV R) = c.any posV
  kind : c.any posV = true ∨ R.cmd.kind = 0
theorem some_of_vote (h : why f i c = 0) (hv : v ∈ c) {k s : Int} (hs : ofS s v = true) (hs0 : 0 < s) (h1 : 1 ≤ k) (h3 : k ≤ 3) (hc : c.any (ofS 3) = decide (k = 3)) : SomeOk f i c (asRec v.r k) := by
  obtain ⟨_, _, hall, _⟩ := why_ok h
  have hst : v.r.status = s := of_decide_eq_true hs
  have hpos : posV v = true := by simp [posV, hst, hs0]
  have hany : c.any posV = true := List.any_eq_true.2 ⟨v, hv, hpos⟩
  refine ⟨(hall v hv).1, as_right (hall v hv).2 (by omega) h1 h3, hc, ?_, .inl hany⟩
  rw [hany]
  refine List.any_eq_true.2 ⟨v, hv, ?_⟩
  simp [fromV, hpos, someX, asRec]
theorem pick_none_aux (p : Vt → Bool) : ∀ (c : List Vt) (b : Vt), ∃ b', c.foldl (stepP p) (some b) = some b'
  | [], b => ⟨b, rfl⟩
  | u :: c, b => by
    rw [List.foldl_cons]
    have : ∃ b', stepP p (some b) u = some b' := by
      unfold stepP
      split
      · dsimp only; split
        · exact ⟨_, rfl⟩
        · exact ⟨_, rfl⟩
      · exact ⟨_, rfl⟩
    obtain ⟨b', hb⟩ := this
    rw [hb]
    exact pick_none_aux p c b'
theorem pick_none : ∀ {c : List Vt}, pickV p c = none → c.any p = false
  | [], _ => rfl
  | u :: c, h => by
    unfold pickV at h
    rw [List.foldl_cons] at h
    by_cases hu : p u = true
    · have e : stepP p none u = some u := by simp [stepP, hu]
      rw [e] at h
      obtain ⟨b', hb⟩ := pick_none_aux p c u
      rw [hb] at h
      cases h
    · have e : stepP p none u = none := by simp [stepP, hu]
      rw [e] at h
      have := pick_none (c := c) h
      simp [this, hu]
theorem find_any {p : Vt → Bool} (h : c.find? p = none) : c.any p = false := by
  rw [List.find?_eq_none] at h
  rw [List.any_eq_false]
  exact h
theorem some_ok (hE : (decC f i c).2 = 0) : SomeOk f i c (decC f i c).1 := by
  by_cases h : why f i c = 0
  · cases h3 : c.find? (ofS 3) with
    | some v =>
      rw [dec_com h h3]
      have hv := List.mem_of_find?_eq_some h3
      have hs := List.find?_some h3
      exact some_of_vote h hv hs (by decide) (by decide) (by decide) (List.any_eq_true.2 ⟨v, hv, hs⟩)
    | none =>
      have a3 := find_any h3
      cases h2 : pickV (ofS 2) c with
      | some v => rw [dec_acc h h3 h2]; exact some_of_vote h (pick_mem h2) (pick_such h2) (by decide) (by decide) (by decide) a3
      | none =>
        have a2 := pick_none h2
        have hq : ∀ v, quick v = true → ofS 1 v = true := fun v hv => by
          simp only [quick, Bool.and_eq_true] at hv
          exact hv.1.1
        cases hf : fastR f i c with
        | true =>
          obtain ⟨v, hv⟩ := fast_quick hf
          rw [dec_fast h h3 h2 hf hv]
          exact some_of_vote h (List.mem_of_find?_eq_some hv) (hq v (List.find?_some hv)) (by decide) (by decide) (by decide) a3
        | false =>
          cases h1 : pickV (ofS 1) c with
          | some v => rw [dec_pre h h3 h2 hf h1]; exact some_of_vote h (pick_mem h1) (pick_such h1) (by decide) (by decide) (by decide) a3
          | none =>
            rw [dec_none h h3 h2 hf h1]
            have a1 := pick_none h1
            obtain ⟨hi, _, hall, _⟩ := why_ok h
            have hp : c.any posV = false := by
              rw [List.any_eq_false]
              intro v hv
              have n1 := List.any_eq_false.1 a1 v hv
              have n2 := List.any_eq_false.1 a2 v hv
              have n3 := List.any_eq_false.1 a3 v hv
              have hr := (hall v hv).2
              simp only [rightRec, within, Bool.and_eq_true, decide_eq_true_eq] at hr
              simp only [ofS, decide_eq_true_eq] at n1 n2 n3
              simp only [posV, decide_eq_true_eq]
              omega
            refine ⟨rfl, ?_, by rw [a3]; rfl, ?_, .inr rfl⟩
            · have hn : rightCmd noop = true := by decide
              simp [rightRec, hi, hn, rightBal, within, cmpBal, cmp2, rightDep]
            · rw [hp, List.any_eq_false]
              intro v hv
              have := List.any_eq_false.1 hp v hv
              simp [fromV, this]
  · rw [dec_err h] at hE
    exact absurd hE h
theorem some_bools (hE : decide ((decR f i l).2 ≠ 0) = false) : ∃ b1 b2 : Bool, decide ((decR f i l).1.status = 3) = b1 ∧ (counted l).any (ofS 3) = b1 ∧ (counted l).any (fromV (decR f i l).1) = b2 ∧ (counted l).any posV = b2 ∧ (b2 = false → decide ((decR f i l).1.cmd.kind = 0) = true) ∧ (decR f i l).1.inst = i ∧ rightRec (decR f i l).1 = true := by
  have h := some_ok (f := f) (i := i) (c := counted l) (by have := of_decide_eq_false hE; unfold decR at this; simpa using this)
  exact ⟨_, _, rfl, h.com, h.frm, rfl, fun hb => by
    rcases h.kind with hk | hk
    · rw [hk] at hb; cases hb
    · exact decide_eq_true hk, h.inst, h.right⟩
theorem some_bools' (hd : decR f i l = (R, E)) (hE : decide (E ≠ 0) = false) : ∃ b1 b2 : Bool, decide (R.status = 3) = b1 ∧ (counted l).any (ofS 3) = b1 ∧ (counted l).any (fromV R) = b2 ∧ (counted l).any posV = b2 ∧ (b2 = false → decide (R.cmd.kind = 0) = true) ∧ R.inst = i ∧ rightRec R = true := by
  have h := some_bools (f := f) (i := i) (l := l) (by rw [hd]; exact hE)
  rw [hd] at h
  exact h
theorem dec_slim' (hd : decR f i l = (R, E)) (hs : ∀ v ∈ l, Slim v.r.cmd) : Slim R.cmd := by
  have h := dec_cmd f i (counted l)
  have hd' : decC f i (counted l) = (R, E) := hd
  rw [hd'] at h
  rcases h with h | ⟨v, hv, h⟩
  · dsimp only at h; rw [h]; exact slim_nil rfl rfl
  · dsimp only at h; rw [h]; exact hs v (counted_mem hv)
theorem dec_twice {z y : Vt} (hj : l[j]? = some y) (hz : z.src = y.src) : decR f i (l ++ [z]) = decR f i l := by
  unfold decR
  rw [counted_snoc, addVt, counted_any, if_pos (List.any_eq_true.2 ⟨y, List.mem_of_getElem? hj, by simp [isOf, hz]⟩)]
theorem dec_slim (hs : ∀ v ∈ l, Slim v.r.cmd) : Slim (decR f i l).1.cmd := by
  unfold decR
  rcases dec_cmd f i (counted l) with h | ⟨v, hv, h⟩
  · rw [h]; exact slim_nil rfl rfl
  · rw [h]; exact hs v (counted_mem hv)
abbrev awake1 : Vt := ⟨1, ⟨⟨0, 1⟩, 1, zBal, zBal, noop, 1, zDep, true⟩, ⟨none, 0, none, 0⟩⟩
abbrev awake2 : Vt := ⟨2, ⟨⟨0, 1⟩, 0, zBal, zBal, noop, 0, zDep, false⟩, ⟨none, 0, none, 0⟩⟩
abbrev awakeR : Rec := ⟨⟨0, 1⟩, 2, zBal, zBal, noop, 1, zDep, false⟩
theorem awake_eq : decR 1 ⟨0, 1⟩ [awake1, awake2] = (awakeR, 0) := by decide
theorem awake_row {w : World} {g T : Nat} {cs : List Value} (hb : Box w g T cs) (hc : cs = [awake1, awake2].flatMap fVt) : Vts w (some ⟨g, 0, none⟩) [awake1, awake2] :=
  ⟨lies_box hb hc (fun _ => rfl) (fun _ _ => rfl), ⟨fun v hv => by simp only [List.mem_cons, List.not_mem_nil, or_false] at hv; rcases hv with rfl | rfl <;> exact CmdAt.nil _ rfl rfl⟩,
    fun v hv => by simp only [List.mem_cons, List.not_mem_nil, or_false] at hv; rcases hv with rfl | rfl <;> exact slim_nil rfl rfl,
    fun v hv => by simp only [List.mem_cons, List.not_mem_nil, or_false] at hv; rcases hv with rfl | rfl <;> exact wf_of (by decide) (by decide), by decide⟩
theorem why_arg (h : rightInst i = false ∨ i.replica ≥ sizeF f) : why f i c = 1 := by simp [why, h]
theorem why_bad (h : c.any (badVote f i) = true) : why f i c = 1 := by
  unfold why
  split
  · rfl
  · simp [h]
theorem why_end (h1 : rightInst i = true) (h2 : i.replica < sizeF f) (h3 : c.any (badVote f i) = false) : why f i c = if (c.length : Int) < f + 1 then 13 else 0 := by
  unfold why
  rw [if_neg (by rw [not_or]; exact ⟨by simp [h1], by omega⟩), if_neg (by simp [h3])]
theorem inst_low (h : rightInst i = true) : 0 ≤ i.replica := by
  simp only [rightInst, within, Bool.and_eq_true, decide_eq_true_eq] at h
  exact h.1.1
theorem why_wf (h : why f i c = 0) : wfI i.replica := by
  unfold why at h
  split at h
  · cases h
  · rename_i hs
    rw [not_or] at hs
    have hi := hs.1
    simp only [Bool.not_eq_false, rightInst, within, Bool.and_eq_true, decide_eq_true_eq] at hi
    exact wf_of (by omega) (by omega)
theorem size_slow (h1 : rightInst i = true) (h2 : i.replica < sizeF f) : slowF f = f + 1 ∧ 1 ≤ f ∧ f ≤ 3 := by
  have := inst_low h1
  unfold sizeF at h2
  unfold slowF
  split at h2
  · rename_i h
    rw [if_pos h]
    omega
  · omega
theorem size_low (h2 : sizeF f ≠ 0) : 1 ≤ f ∧ f ≤ 3 := by
  unfold sizeF at h2
  split at h2
  · omega
  · exact absurd rfl h2
end
end Go.Eng
