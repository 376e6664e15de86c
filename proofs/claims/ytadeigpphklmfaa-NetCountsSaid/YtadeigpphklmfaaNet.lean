/- A net: one block of memory, what it holds in plain terms, and what its methods do; operations on pointers and parts of rows. -/
import Derived.Test.YtadeigpphklmfaaRep
import Derived.ArgAppend
import Derived.Laws.Pointers
set_option linter.unusedVariables false
set_option linter.unusedSimpArgs false
namespace Go.Eng
open Go.RowKit

/-! ### Operations -/
section
variable {P : Program} {n : Nat} {ρ : Env} {w : World} {o : Oper}
def ptrT (P : Program) (t : TypeId) : Bool := match P.underlying t with | some (.pointer e) => P.pointee t == e | _ => false
theorem ptrT_spec {t : TypeId} (h : ptrT P t = true) : P.underlying t = some (.pointer (P.pointee t)) := by
  unfold ptrT at h
  split at h
  · rename_i e hu
    have : P.pointee t = e := by simpa using h
    rw [hu, this]
  · cases h
theorem x_nilCheck {x : Operand} {a : Addr} (ho : o.op = .nilCheck x) (hx : ev n ρ x = .pointer (some a)) : Yields P o n ρ w (.pointer (some a)) := by
  simp [Yields, execOp, ho, hx]
theorem x_peqS {t u : TypeId} {x y : Operand} {a : Addr} (hT : ptrT P t = true) (ho : o.op = .binOp .eql t x y u) (hx : ev n ρ x = .pointer (some a)) (hy : ev n ρ y = .pointer none) : Yields P o n ρ w (.bool false) := by
  simp [Yields, execOp, ho, hx, hy, eqGuard, run_eql_pointer_nil w t (some a) (ptrT_spec hT)]
theorem x_peqN {t u : TypeId} {x y : Operand} (hT : ptrT P t = true) (ho : o.op = .binOp .eql t x y u) (hx : ev n ρ x = .pointer none) (hy : ev n ρ y = .pointer none) : Yields P o n ρ w (.bool true) := by
  simp [Yields, execOp, ho, hx, hy, eqGuard, run_eql_pointer_nil w t none (ptrT_spec hT)]
theorem add_zero (a : Addr) : a.add 0 = a := by simp [Addr.add]
theorem map_zero (A : Option Addr) : A.map (·.add 0) = A := by cases A <;> simp [add_zero]
/-- x[:h:m] -/
theorem x_slice3 {t size len cap h m : Nat} {x y z : Operand} {A : Option Addr} {kh km : IntKind} (hT : sliceT P t size = true) (ho : o.op = .slice t x none (some y) (some z)) (hx : ev n ρ x = .slice A len cap) (hy : ev n ρ y = .int kh (h : Int)) (hz : ev n ρ z = .int km (m : Int)) (h1 : h ≤ m) (h2 : m ≤ cap) : Yields P o n ρ w (.slice A h m) := by
  unfold sliceT at hT
  cases hu : P.underlying t with
  | none => rw [hu] at hT; cases hT
  | some d =>
    rw [hu] at hT
    cases d <;> try cases hT
    case slice e =>
      have hs : (P.info? e).map (·.size) = some size := by simpa using hT
      simp [Yields, execOp, ho, hx, hy, hz, Instr.sliceAt, Instr.slice, run_underlying hu, Instr.sliceBounds, Instr.sliceBound, asIntOf, run_sizeOf' hs, h1, h2, map_zero]
/-- x[:h] -/
theorem x_sliceHi {t size len cap h : Nat} {x y : Operand} {A : Option Addr} {kh : IntKind} (hT : sliceT P t size = true) (ho : o.op = .slice t x none (some y) none) (hx : ev n ρ x = .slice A len cap) (hy : ev n ρ y = .int kh (h : Int)) (h1 : h ≤ cap) : Yields P o n ρ w (.slice A h cap) := by
  unfold sliceT at hT
  cases hu : P.underlying t with
  | none => rw [hu] at hT; cases hT
  | some d =>
    rw [hu] at hT
    cases d <;> try cases hT
    case slice e =>
      have hs : (P.info? e).map (·.size) = some size := by simpa using hT
      simp [Yields, execOp, ho, hx, hy, Instr.sliceAt, Instr.slice, run_underlying hu, Instr.sliceBounds, Instr.sliceBound, asIntOf, run_sizeOf' hs, h1, map_zero]
/-- where x[lo:] lies -/
def dropA (A : Option Addr) (cap lo size : Nat) : Option Addr := if cap = lo then A else A.map (·.add (lo * size))
theorem x_sliceLo {t size len cap lo : Nat} {x y : Operand} {A : Option Addr} {kl : IntKind} (hT : sliceT P t size = true) (ho : o.op = .slice t x (some y) none none) (hx : ev n ρ x = .slice A len cap) (hy : ev n ρ y = .int kl (lo : Int)) (h1 : lo ≤ len) : Yields P o n ρ w (.slice (dropA A cap lo size) (len - lo) (cap - lo)) := by
  unfold sliceT at hT
  cases hu : P.underlying t with
  | none => rw [hu] at hT; cases hT
  | some d =>
    rw [hu] at hT
    cases d <;> try cases hT
    case slice e =>
      have hs : (P.info? e).map (·.size) = some size := by simpa using hT
      simp [Yields, execOp, ho, hx, hy, Instr.sliceAt, Instr.slice, run_underlying hu, Instr.sliceBounds, Instr.sliceBound, asIntOf, run_sizeOf' hs, h1, dropA]
end
section
variable {α : Type} {d : Kd α} {w : World} {A : Option Addr} {xs : List α}
theorem Lies.take (h : Lies d w A xs) (k : Nat) : Lies d w A (xs.take k) := fun i x hi => by
  rw [List.getElem?_take] at hi
  split at hi
  · exact h i x hi
  · cases hi
theorem Lies.drop (h : Lies d w A xs) {cap lo : Nat} (hl : xs.length ≤ cap) : Lies d w (dropA A cap lo d.sz) (xs.drop lo) := fun i x hi => by
  rw [List.getElem?_drop] at hi
  have hlt := lt_of hi
  obtain ⟨ad, cs, e, hK, hE⟩ := h (lo + i) x hi
  refine ⟨ad.add (lo * d.sz), cs, ?_, hK, ?_⟩
  · unfold dropA
    rw [if_neg (by omega), e]
    rfl
  · rw [add_add, ← Nat.add_mul]
    exact hE
/-- append(x, z) to a row that is full, z just put into a row of its own: a new row -/
theorem p_appendF {P : Program} {n : Nat} {ρ : Env} {o : Oper} {ops : Array Oper} {Q : Exit → Act → World → Prop} {rest : List Oper} {dd : Nat} {f : α → List Value} {B e bytes t g T c2 : Nat} {s x : Operand} {z : α} {cells : List Value} (hT : elT P t e d.sz bytes = true) (hw : wanted n ops ρ o = true) (hd : o.dst = some dd) (ho : o.op = .call { callee := .builtin .append, args := #[s, x], argTypes := #[t, t] })
    (hs : ev n ρ s = .slice A xs.length xs.length) (hL : Lies d w A xs) (hx : ev n ρ x = .slice (some ⟨g, 0, none⟩) 1 c2) (hb : Box w g T cells) (hc : cells = f z) (hf : ∀ x, (f x).length = d.sz) (hK : ∀ x cs, d.K w x cs → cs = f x) (h1 : ∀ x, allOne (f x) = true) (h63 : (xs.length + 1) * bytes ≤ 140737488355328) (hk63 : xs.length + 1 ≤ 9223372036854775807) (hB : B ≤ w.heap.size)
    (hk : ∀ A' c' w', Own f d.sz w' B e A' c' (xs ++ [z]) → Ext w w' → WL P ops Q rest (act n (up ρ dd (.slice A' (List.length (α := α) (xs ++ [z])) c'))) w') : WL P ops Q (o :: rest) (act n ρ) w := by
  subst hc
  have e1 : xs.length + 1 = (xs ++ [z]).length := by simp
  have e2 : xs.flatMap f ++ f z = (xs ++ [z]).flatMap f := by simp
  cases A with
  | none =>
    have hnil : xs = [] := by
      cases xs with
      | nil => rfl
      | cons y ys => obtain ⟨_, _, e, _⟩ := hL 0 y rfl; cases e
    subst hnil
    refine p_append hT hw hd ho hs (own_nil w B e d.sz) hx (m := 1) (by rw [hf, Nat.one_mul]) hb.put (h1 z) (by simpa using h63) (by omega) hB fun A' c' w' h2 hbw hg h3 h4 => ?_
    refine hk A' c' w' ⟨by simpa using h2, by simpa using h3, h4⟩ ⟨hg.os, hg.tape, hg.output, hg.size, fun k hk => hg.block k hk (by simp [Value.ownBlock])⟩
  | some a =>
    obtain ⟨ht, i, z0, hi, hz, hsz, hby, hzs, hpos⟩ := elT_spec hT
    obtain ⟨v', w', hrun, hown', hg⟩ := run_append_arg_grows (P := P) w t o.type e i z0 d.sz bytes ht hi hz hsz hby hzs hpos a xs.length xs.length (xs.flatMap f) (flat_length hf xs) (lies_cells hL hf hK) ⟨g, 0, none⟩ 1 c2 (f z) (by rw [hf, Nat.one_mul]) hb.put (by omega) (by simpa [maxLen] using hk63) h63
    obtain ⟨A', c', rfl, h3, h4⟩ := own_slice hown'
    rw [e1] at hown' h3 hrun
    rw [e2] at hown'
    refine p_run hw hd (v := .slice A' (xs ++ [z]).length c') (w' := w') ?_ (hk A' c' w' ⟨own_mono hown' hB, h3, h4⟩ ⟨hg.os, hg.tape, hg.output, hg.size, fun k hk => hg.block k hk (by simp)⟩)
    simp only [execOp, ho, resolve, invoke, builtin, Sem.run_bind, Sem.run_pure, Result.andThen_ok, List.map_toArray, List.map_cons, List.map_nil, hs, hx, hrun]
/-- append(x, y...), x a row of our own, y any row that lies -/
theorem p_appendOR {P : Program} {n : Nat} {ρ : Env} {o : Oper} {ops : Array Oper} {Q : Exit → Act → World → Prop} {rest : List Oper} {dd : Nat} {f : α → List Value} {B e bytes t c c2 : Nat} {A2 : Option Addr} {ys : List α} {s x : Operand} (hT : elT P t e d.sz bytes = true) (hw : wanted n ops ρ o = true) (hd : o.dst = some dd) (ho : o.op = .call { callee := .builtin .append, args := #[s, x], argTypes := #[t, t] })
    (hs : ev n ρ s = .slice A xs.length c) (hown : Own f d.sz w B e A c xs) (hx : ev n ρ x = .slice A2 ys.length c2) (hL : Lies d w A2 ys) (hf : ∀ x, (f x).length = d.sz) (hK : ∀ x cs, d.K w x cs → cs = f x) (h1 : ∀ x, allOne (f x) = true) (h63 : (xs.length + ys.length) * bytes ≤ 140737488355328) (hk63 : xs.length + ys.length ≤ 9223372036854775807) (hB : B ≤ w.heap.size)
    (hk : ∀ A' c' w', Own f d.sz w' B e A' c' (xs ++ ys) → Kept B e w w' → WL P ops Q rest (act n (up ρ dd (.slice A' (List.length (α := α) (xs ++ ys)) c'))) w') : WL P ops Q (o :: rest) (act n ρ) w :=
  p_appendR hT hw hd ho hs hown.own hx hL hf hK h1 h63 hk63 hB fun A' c' w' h2 hK' h3 h4 => by
    have e1 : xs.length + ys.length = (xs ++ ys).length := by simp
    have e2 : xs.flatMap f ++ ys.flatMap f = (xs ++ ys).flatMap f := by simp
    rw [e1] at h2 h3 ⊢
    rw [e2] at h2
    exact hk A' c' w' ⟨h2, h3, h4⟩ hK'
end

/-- where the longer row lies: where it lay, or in new memory -/
theorem append_where {P : Program} {w w' : World} {B e size bytes t ty : Nat} {A A' : Option Addr} {k m c c' c2 : Nat} {cs news : List Value} {ad : Addr} (hT : elT P t e size bytes = true) (hown : w.ownsRow B e size (.slice A k c) k cs) (hl : news.length = m * size) (hn : ∀ (j : Nat) (u : Value), news[j]? = some u → w.cell? (ad.add j) = some u) (h1 : allOne news = true) (h63 : (k + m) * bytes ≤ 140737488355328) (hk63 : k + m ≤ 9223372036854775807)
    (hrun : (Builtin.append_ #[t, t] ty #[.slice A k c, .slice (some ad) m c2]).run P w = .ok (.slice A' (k + m) c') w') : ∀ a, A' = some a → A = some a ∨ w.heap.size ≤ a.block := by
  obtain ⟨ht, i, z0, hi, hz, hsz, hby, hzs, hpos⟩ := elT_spec hT
  intro a hA
  rcases hown.2 with ⟨hv, _⟩ | ⟨q, cap, cur, hv, hB, hh, hkc, hcm, hcs, hpre⟩
  · injection hv with e1 e2 e3
    subst e1; subst e2; subst e3
    obtain ⟨v2, w2, hr2, ho2, _⟩ := run_append_own (P := P) w w.heap.size t ty e i z0 size bytes ht hi hz hsz hby hzs hpos (.slice none 0 0) 0 cs ⟨hown.1, .inl ⟨rfl, rfl⟩⟩ ad m c2 news hl hn (allOne_mem h1) (by simpa [maxLen] using hk63) h63 (Nat.le_refl _)
    rw [hrun] at hr2
    injection hr2 with hr2 _
    subst hr2
    exact .inr (own_fresh ho2 a hA)
  · injection hv with e1 e2 e3
    subst e1; subst e3
    by_cases hroom : k + m ≤ c
    · refine .inl ?_
      have hb : Box w q e cur.toList := by unfold Box; simpa using hh
      have hr := run_append_room_cells (P := P) w t ty e i ht hi q 0 k c ad m c2 news (by rw [hsz]; exact hl) hn (allOne_mem h1) hroom (fun j hj => by
        rw [hb.cell, hsz]
        have : k * size + m * size ≤ c * size := by rw [← Nat.add_mul]; exact Nat.mul_le_mul_right _ hroom
        rw [List.getElem?_eq_getElem (by simp; omega)]
        rfl) (fun j hj => hb.frozen _)
      rw [hrun] at hr
      injection hr with hr _
      injection hr with hr _ _
      rw [← hA, hr]
    · obtain ⟨v2, w2, hr2, ho2, _⟩ := run_append_arg_grows (P := P) w t ty e i z0 size bytes ht hi hz hsz hby hzs hpos ⟨q, 0, none⟩ k c cs hown.1 (fun j u hj => by
        have hb : Box w q e cur.toList := by unfold Box; simpa using hh
        have hj' := (List.getElem?_eq_some_iff.1 hj).1
        refine hb.put j u ?_
        rw [← hpre, List.getElem?_take] at hj
        split at hj
        · exact hj
        · cases hj) ad m c2 news hl hn (by omega) (by simpa [maxLen] using hk63) h63
      rw [hrun] at hr2
      injection hr2 with hr2 _
      subst hr2
      exact .inr (own_fresh ho2 a hA)

/-! ### Messages in rows -/
def fMz (z : Msg × Ptr) : List Value := [.int .i64 z.1.kind, .int .i64 z.1.src, .int .i64 z.1.dst, .int .i64 z.1.ballot.number, .int .i64 z.1.ballot.replica, .int .i64 z.1.r.inst.replica, .int .i64 z.1.r.inst.slot, .int .i64 z.1.r.status, .int .i64 z.1.r.promise.number, .int .i64 z.1.r.promise.replica, .int .i64 z.1.r.ballot.number, .int .i64 z.1.r.ballot.replica, .int .i64 z.1.r.cmd.kind, .int .i64 z.1.r.cmd.txn.client, .int .i64 z.1.r.cmd.txn.number, .int .i64 z.1.r.cmd.stp.time, .int .i64 z.1.r.cmd.stp.client, .int .i64 z.1.r.cmd.shards, .slice z.2.A z.1.r.cmd.reads.length z.2.n, .slice z.2.B z.1.r.cmd.writes.length z.2.m, .bool z.1.r.cmd.commit, .int .i64 z.1.r.seq, .int .i64 z.1.r.deps.d0, .int .i64 z.1.r.deps.d1, .int .i64 z.1.r.deps.d2, .int .i64 z.1.r.deps.d3, .int .i64 z.1.r.deps.d4, .int .i64 z.1.r.deps.d5, .int .i64 z.1.r.deps.d6, .bool z.1.r.kept]
def kMz : Kd (Msg × Ptr) := ⟨30, fun _ z cs => cs = fMz z, fun _ h => h⟩
structure MAll (w : World) (zs : List (Msg × Ptr)) : Prop where
  out : ∀ z ∈ zs, CmdAt w z.1.r.cmd z.2
theorem MAll.ext {w w' : World} {zs : List (Msg × Ptr)} (h : MAll w zs) (hx : Ext w w') : MAll w' zs := ⟨fun z hz => (h.out z hz).ext hx⟩

def kMzO : Kd (Msg × Ptr) := ⟨30, fun w z cs => cs = fMz z ∧ CmdAt w z.1.r.cmd z.2, fun hx h => ⟨h.1, h.2.ext hx⟩⟩
structure M0 (w : World) (A : Option Addr) (l : List (Msg × Ptr)) : Prop where
  lies : Lies kMz w A l
  at_ : MAll w l
  len : l.length ≤ 9223372036854775807
theorem M0.of {w : World} {A : Option Addr} {l : List (Msg × Ptr)} (h : Lies kMzO w A l) (hn : l.length ≤ 9223372036854775807) : M0 w A l := by
  have hk : ∀ v ∈ l, CmdAt w v.1.r.cmd v.2 := fun v hv => by
    obtain ⟨i, hi, e⟩ := List.getElem_of_mem hv
    obtain ⟨_, _, _, ⟨_, h1⟩, _⟩ := h i v (by rw [List.getElem?_eq_getElem hi, e])
    exact h1
  exact ⟨fun i x hi => by obtain ⟨ad, cs, e, hK, hE⟩ := h i x hi; exact ⟨ad, cs, e, hK.1, hE⟩, ⟨hk⟩, hn⟩

/-! ### What a net holds -/
structure PN where
  sent : Int
  came : Int
  lost : Int
  l : List Msg
  room : Int
  deriving DecidableEq
/-- its rows lie elsewhere -/
def Apart (p : Ptr) (g : Nat) : Prop := (∀ ad, p.A = some ad → ad.block ≠ g) ∧ (∀ ad, p.B = some ad → ad.block ≠ g)
def RowsOff (b : Nat) (A : Option Addr) (zs : List (Msg × Ptr)) : Prop := (∀ ad, A = some ad → ad.block ≠ b) ∧ ∀ z ∈ zs, Apart z.2 b
/-- rows that lie apart from what was there before stay so -/
def Keeps (w : World) (A : Option Addr) (zs : List (Msg × Ptr)) (A' : Option Addr) (zs' : List (Msg × Ptr)) : Prop := ∀ b, b < w.heap.size → RowsOff b A zs → RowsOff b A' zs'
def Under (p : Ptr) (n : Nat) : Prop := (∀ ad, p.A = some ad → ad.block < n) ∧ (∀ ad, p.B = some ad → ad.block < n)
theorem Under.mono {p : Ptr} {n m : Nat} (h : Under p n) (k : n ≤ m) : Under p m := ⟨fun ad e => Nat.lt_of_lt_of_le (h.1 ad e) k, fun ad e => Nat.lt_of_lt_of_le (h.2 ad e) k⟩
theorem Under.apart {p : Ptr} {n b : Nat} (h : Under p n) (k : n ≤ b) : Apart p b := ⟨fun ad e => by have := h.1 ad e; omega, fun ad e => by have := h.2 ad e; omega⟩
structure NetIn (T : Nat) (w : World) (g : Nat) (s : PN) (A : Option Addr) (c : Nat) (zs : List (Msg × Ptr)) : Prop where
  box : Box w g T [.int .i64 s.sent, .int .i64 s.came, .int .i64 s.lost, .slice A zs.length c, .int .i64 s.room]
  lies : Lies kMz w A zs
  at_ : MAll w zs
  map : zs.map Prod.fst = s.l
  off : ∀ ad, A = some ad → ad.block ≠ g
  apart : ∀ z ∈ zs, Apart z.2 g
  slim : ∀ z ∈ zs, Slim z.1.r.cmd
  le : zs.length ≤ c
  mx : c ≤ 9223372036854775807
  room : (zs.length : Int) ≤ s.room
  r1 : 1 ≤ s.room
  r2 : s.room ≤ 256
  ltA : ∀ ad, A = some ad → ad.block < w.heap.size
  ltP : ∀ z ∈ zs, Under z.2 w.heap.size
theorem NetIn.fresh {T : Nat} {w : World} {g : Nat} {s : PN} {A : Option Addr} {c : Nat} {zs : List (Msg × Ptr)} (h : NetIn T w g s A c zs) {b : Nat} (hb : w.heap.size ≤ b) : RowsOff b A zs := ⟨fun ad e => by have := h.ltA ad e; omega, fun z hz => (h.ltP z hz).apart hb⟩
theorem NetIn.len {T : Nat} {w : World} {g : Nat} {s : PN} {A : Option Addr} {c : Nat} {zs : List (Msg × Ptr)} (h : NetIn T w g s A c zs) : zs.length = s.l.length := by rw [← h.map]; simp
section
variable {T : Nat} {w w' w1 : World} {g : Nat} {s s' : PN} {A A' : Option Addr} {c c' : Nat} {zs : List (Msg × Ptr)}
/-- memory of which but one block may have been written -/
abbrev Off (g : Nat) (w w' : World) : Prop := w.grownBy w' (some g)
theorem Off.of (h : Ext w w') (g : Nat) : Off g w w' := h.grown _
theorem Off.store (h : Stored g w w') : Off g w w' := ⟨h.os, h.tape, h.output, Nat.le_of_eq h.size.symm, fun k _ hne => h.block k (fun e => hne (by rw [e]))⟩
theorem Off.trans {a b : World} (h : Off g w a) (k : Off g a b) : Off g w b := Grown.trans h k (.inl rfl)
theorem Elem.off {a : Addr} {cs : List Value} (h : Elem w a cs) (s : Off g w w') (hne : a.block ≠ g) : Elem w' a cs := fun j v hj => by
  have hc := h j v hj
  have hb : (a.add j).block = a.block := by unfold Addr.add; split <;> rfl
  rw [← hc]
  have hlt : (a.add j).block < w.heap.size := World.block_lt_of_cell? w _ hc
  exact World.cell?_of_block (s.block _ hlt (by rw [hb]; intro e; injection e with e; exact hne e))
theorem Lies.off {α : Type} {d : Kd α} {xs : List α} (h : Lies d w A xs) (s : Off g w w') (hne : ∀ ad, A = some ad → ad.block ≠ g) (hK : ∀ x cs, d.K w x cs → d.K w' x cs) : Lies d w' A xs := fun i x hi =>
  let ⟨ad, cs, e, hk, hc⟩ := h i x hi
  ⟨ad, cs, e, hK x cs hk, hc.off s (by have hb : (ad.add (i * d.sz)).block = ad.block := (by unfold Addr.add; split <;> rfl); rw [hb]; exact hne ad e)⟩
theorem CmdAt.off {m : Cmd} {p : Ptr} (h : CmdAt w m p) (s : Off g w w') (ha : Apart p g) : CmdAt w' m p := ⟨h.reads.off s ha.1 fun _ _ h => h, h.rn, h.rm, h.writes.off s ha.2 fun _ _ h => h, h.wn, h.wm⟩
theorem Box.off {b t t' : Nat} {cs bs : List Value} (h : Box w b t cs) (hb : Box w g t' bs) (s : Off g w w') (hne : t ≠ t') : Box w' b t cs := h.grown s (fun e => by
  injection e with e
  subst e
  unfold Box at h hb
  rw [hb] at h
  injection h with h
  injection h with _ h
  exact hne h.symm)
theorem Own.off {α : Type} {f : α → List Value} {sz B e t' : Nat} {xs : List α} {bs : List Value} (h : Own f sz w B e A c xs) (hb : Box w g t' bs) (s : Off g w w') (hne : e ≠ t') : Own f sz w' B e A c xs := by
  refine ⟨⟨h.own.1, ?_⟩, h.le, h.mx⟩
  rcases h.own.2 with h2 | ⟨q, cap, cur, hv, hB, hh, r⟩
  · exact .inl h2
  · refine .inr ⟨q, cap, cur, hv, hB, ?_, r⟩
    have hx : Box w q e cur.toList := by unfold Box; simpa using hh
    have := hx.off hb s hne
    unfold Box at this
    simpa using this
theorem below_off {B : Nat} (s : Off g w w') (hw : B ≤ w.heap.size) (hB : B ≤ g) : Below B w w' := Below.grown (Below.refl B w) s hw (fun j hj => by injection hj with hj; omega)
theorem NetIn.ext (h : NetIn T w g s A c zs) (hx : Ext w w') : NetIn T w' g s A c zs := ⟨h.box.ext hx, h.lies.ext hx, h.at_.ext hx, h.map, h.off, h.apart, h.slim, h.le, h.mx, h.room, h.r1, h.r2, fun ad e => Nat.lt_of_lt_of_le (h.ltA ad e) hx.size, fun z hz => (h.ltP z hz).mono hx.size⟩
theorem Keeps.refl (w : World) (A : Option Addr) (zs : List (Msg × Ptr)) : Keeps w A zs A zs := fun _ _ h => h
theorem Keeps.trans {w w1 : World} {A A1 A2 : Option Addr} {zs z1 z2 : List (Msg × Ptr)} (h : Keeps w A zs A1 z1) (k : Keeps w1 A1 z1 A2 z2) (hw : w.heap.size ≤ w1.heap.size) : Keeps w A zs A2 z2 := fun b hb hr => k b (Nat.lt_of_lt_of_le hb hw) (h b hb hr)
/-- a write to another block -/
theorem NetIn.other {b : Nat} (h : NetIn T w g s A c zs) (x : Stored b w w') (hne : g ≠ b) (hr : RowsOff b A zs) : NetIn T w' g s A c zs :=
  ⟨h.box.far x hne, h.lies.far x hr.1 (fun _ _ h => h), ⟨fun z hz => (h.at_.out z hz).far x (hr.2 z hz).1 (hr.2 z hz).2⟩, h.map, h.off, h.apart, h.slim, h.le, h.mx, h.room, h.r1, h.r2, fun ad e => by rw [x.size]; exact h.ltA ad e, fun z hz => (h.ltP z hz).mono (Nat.le_of_eq x.size.symm)⟩
theorem Off.fresh {b : Nat} (h : Off g w w1) (x : Stored b w1 w') (hb : w.heap.size ≤ b) : Off g w w' := ⟨x.os.trans h.os, x.tape.trans h.tape, x.output.trans h.output, by rw [x.size]; exact h.size, fun k hk hne => (x.block k (by omega)).trans (h.block k hk hne)⟩
theorem Own.lt {α : Type} {f : α → List Value} {sz B e : Nat} {xs : List α} (h : Own f sz w B e A c xs) (ad : Addr) (hA : A = some ad) : ad.block < w.heap.size := by
  rcases h.own.2 with ⟨hv, _⟩ | ⟨q, cap, cur, hv, hB, hh, r⟩
  · subst hA; cases hv
  · injection hv with h1 _ _
    rw [hA] at h1
    injection h1 with h1
    subst h1
    exact (Array.getElem?_eq_some_iff.1 hh).1
/-- the counts are written, no more -/
theorem NetIn.count (h : NetIn T w g s A c zs) (x : Ext w w1) (o : Off g w1 w') (hb : Box w' g T [.int .i64 s'.sent, .int .i64 s'.came, .int .i64 s'.lost, .slice A zs.length c, .int .i64 s'.room]) (hl : s'.l = s.l) (hr : s'.room = s.room) : NetIn T w' g s' A c zs :=
  ⟨hb, (h.lies.ext x).off o h.off (fun _ _ h => h), ⟨fun z hz => ((h.at_.out z hz).ext x).off o (h.apart z hz)⟩, by rw [hl]; exact h.map, h.off, h.apart, h.slim, h.le, h.mx, by rw [hr]; exact h.room, by rw [hr]; exact h.r1, by rw [hr]; exact h.r2, fun ad e => Nat.lt_of_lt_of_le (h.ltA ad e) (Nat.le_trans x.size o.size), fun z hz => (h.ltP z hz).mono (Nat.le_trans x.size o.size)⟩
theorem fresh_off {p : Ptr} (hg : g < w.heap.size) (ha : ∀ ad, p.A = some ad → w.heap.size ≤ ad.block) (hb : ∀ ad, p.B = some ad → w.heap.size ≤ ad.block) : Apart p g := ⟨fun ad h => by have := ha ad h; omega, fun ad h => by have := hb ad h; omega⟩
/-- a message more -/
theorem NetIn.put {z : Msg × Ptr} {e : Nat} (h : NetIn T w g s A c zs) (x : Ext w w1) (o : Off g w1 w') (hb : Box w' g T [.int .i64 s'.sent, .int .i64 s'.came, .int .i64 s'.lost, .slice A' (List.length (α := Msg × Ptr) (zs ++ [z])) c', .int .i64 s'.room]) (ho : Own fMz 30 w' w.heap.size e A' c' (zs ++ [z])) (hz : CmdAt w' z.1.r.cmd z.2) (ha : ∀ ad, z.2.A = some ad → w.heap.size ≤ ad.block) (hB : ∀ ad, z.2.B = some ad → w.heap.size ≤ ad.block) (hu : Under z.2 w'.heap.size) (hs : Slim z.1.r.cmd) (hl : s'.l = s.l ++ [z.1]) (hr : s'.room = s.room) (hn : (zs.length : Int) ≠ s.room) : NetIn T w' g s' A' c' (zs ++ [z]) :=
  have hg := h.box.lt
  ⟨hb, ho.lies (d := kMz) (fun _ => rfl) (fun _ _ => rfl), ⟨fun v hv => by
    rcases List.mem_append.1 hv with hv | hv
    · exact ((h.at_.out v hv).ext x).off o (h.apart v hv)
    · have : v = z := by simpa using hv
      subst this; exact hz⟩, by rw [hl, List.map_append, h.map]; rfl, fun ad hA => by have := ho.fresh ad hA; omega, fun v hv => by
    rcases List.mem_append.1 hv with hv | hv
    · exact h.apart v hv
    · have : v = z := by simpa using hv
      subst this; exact fresh_off hg ha hB, fun v hv => by
    rcases List.mem_append.1 hv with hv | hv
    · exact h.slim v hv
    · have : v = z := by simpa using hv
      subst this; exact hs, ho.le, ho.mx, by have := h.room; rw [hr]; simp; omega, by rw [hr]; exact h.r1, by rw [hr]; exact h.r2, ho.lt, fun v hv => by
    rcases List.mem_append.1 hv with hv | hv
    · exact (h.ltP v hv).mono (Nat.le_trans x.size o.size)
    · have : v = z := by simpa using hv
      subst this; exact hu⟩
theorem keeps_put {z : Msg × Ptr} {e : Nat} (ho : Own fMz 30 w' w.heap.size e A' c' (zs ++ [z])) (ha : ∀ ad, z.2.A = some ad → w.heap.size ≤ ad.block) (hB : ∀ ad, z.2.B = some ad → w.heap.size ≤ ad.block) : Keeps w A zs A' (zs ++ [z]) := fun b hb hr =>
  ⟨fun ad hA => by have := ho.fresh ad hA; omega, fun v hv => by
    rcases List.mem_append.1 hv with hv | hv
    · exact hr.2 v hv
    · have : v = z := by simpa using hv
      subst this; exact fresh_off hb ha hB⟩
theorem keeps_out {k e : Nat} (ho : Own fMz 30 w' w.heap.size e A' c' (zs.take k ++ zs.drop (k + 1))) : Keeps w A zs A' (zs.take k ++ zs.drop (k + 1)) := fun b hb hr =>
  ⟨fun ad hA => by have := ho.fresh ad hA; omega, fun v hv => hr.2 v (by
    rcases List.mem_append.1 hv with hv | hv
    · exact List.mem_of_mem_take hv
    · exact List.mem_of_mem_drop hv)⟩
/-- a message less -/
theorem NetIn.out {k e : Nat} (h : NetIn T w g s A c zs) (x : Ext w w1) (o : Off g w1 w') (hb : Box w' g T [.int .i64 s'.sent, .int .i64 s'.came, .int .i64 s'.lost, .slice A' (List.length (α := Msg × Ptr) (zs.take k ++ zs.drop (k + 1))) c', .int .i64 s'.room]) (ho : Own fMz 30 w' w.heap.size e A' c' (zs.take k ++ zs.drop (k + 1))) (hl : s'.l = s.l.take k ++ s.l.drop (k + 1)) (hr : s'.room = s.room) : NetIn T w' g s' A' c' (zs.take k ++ zs.drop (k + 1)) :=
  have hg := h.box.lt
  have hm : ∀ z ∈ zs.take k ++ zs.drop (k + 1), z ∈ zs := fun z hz => by
    rcases List.mem_append.1 hz with hz | hz
    · exact List.mem_of_mem_take hz
    · exact List.mem_of_mem_drop hz
  ⟨hb, ho.lies (d := kMz) (fun _ => rfl) (fun _ _ => rfl), ⟨fun v hv => ((h.at_.out v (hm v hv)).ext x).off o (h.apart v (hm v hv))⟩, by rw [hl, List.map_append, List.map_take, List.map_drop, h.map], fun ad hA => by have := ho.fresh ad hA; omega, fun v hv => h.apart v (hm v hv), fun v hv => h.slim v (hm v hv), ho.le, ho.mx, by
    have := h.room
    rw [hr, List.length_append, List.length_take, List.length_drop]
    omega, by rw [hr]; exact h.r1, by rw [hr]; exact h.r2, ho.lt, fun v hv => (h.ltP v (hm v hv)).mono (Nat.le_trans x.size o.size)⟩
end

theorem c_done0 {P : Program} {n : Nat} {ρ : Env} {w : World} {fn : Func} {R : Ending → World → Prop} (hr : fn.results = #[]) (h : R (.returned (.tuple #[])) w) : bodyPost P fn R .normal (act n ρ) w := ⟨rfl, .tuple #[], by simp [results, hr], h⟩

theorem NetIn.grown {T : Nat} {w w' : World} {g : Nat} {s : PN} {A : Option Addr} {c : Nat} {zs : List (Msg × Ptr)} {r : Option Nat} (h : NetIn T w g s A c zs) (hg : w.grownBy w' r) (hr : ∀ b, r = some b → RowsOff b A zs ∧ g ≠ b) : NetIn T w' g s A c zs := by
  cases r with
  | none => exact h.ext ⟨hg.os, hg.tape, hg.output, hg.size, fun k hk => hg.block k hk (by simp)⟩
  | some b =>
    obtain ⟨h1, h2⟩ := hr b rfl
    exact ⟨h.box.grown hg (fun e => h2 (by injection e)), h.lies.off hg h1.1 (fun _ _ h => h), ⟨fun z hz => (h.at_.out z hz).off hg (h1.2 z hz)⟩, h.map, h.off, h.apart, h.slim, h.le, h.mx, h.room, h.r1, h.r2, fun ad e => Nat.lt_of_lt_of_le (h.ltA ad e) hg.size, fun z hz => (h.ltP z hz).mono hg.size⟩
/-- a row of the caller's lies apart from the net's -/
def OffRow (g : Nat) (A2 : Option Addr) (A : Option Addr) (zs : List (Msg × Ptr)) : Prop := ∀ ad, A2 = some ad → RowsOff ad.block A zs ∧ g ≠ ad.block
theorem OffRow.keep {w : World} {g : Nat} {A2 A A' : Option Addr} {zs zs' : List (Msg × Ptr)} (h : OffRow g A2 A zs) (hlt : ∀ ad, A2 = some ad → ad.block < w.heap.size) (k : Keeps w A zs A' zs') : OffRow g A2 A' zs' := fun ad e => ⟨k _ (hlt ad e) (h ad e).1, (h ad e).2⟩
theorem OffRow.more {T : Nat} {w : World} {g : Nat} {s : PN} {A2 A3 A : Option Addr} {c : Nat} {zs : List (Msg × Ptr)} (h : OffRow g A2 A zs) (hN : NetIn T w g s A c zs) (k : ∀ a, A3 = some a → A2 = some a ∨ w.heap.size ≤ a.block) : OffRow g A3 A zs := fun ad e => by
  rcases k ad e with k | k
  · exact h ad k
  · exact ⟨hN.fresh k, by have := hN.box.lt; omega⟩
theorem OffRow.net {T : Nat} {w w' : World} {g : Nat} {s : PN} {A2 A : Option Addr} {c k2 c2 : Nat} {zs : List (Msg × Ptr)} (h : OffRow g A2 A zs) (hN : NetIn T w g s A c zs) (hg : w.grownBy w' (Value.slice A2 k2 c2).ownBlock) : NetIn T w' g s A c zs := hN.grown hg (fun b e => by
  cases A2 with
  | none => simp [Value.ownBlock] at e
  | some a => simp [Value.ownBlock] at e; subst e; exact h a rfl)
theorem p_appendO2 {α : Type} {f : α → List Value} {sz : Nat} {w : World} {B e c : Nat} {A : Option Addr} {xs : List α} {P : Program} {n : Nat} {ρ : Env} {o : Oper} {ops : Array Oper} {Q : Exit → Act → World → Prop} {rest : List Oper} {d : Nat} {bytes t g T c2 : Nat} {s x : Operand} {z : α} {cells : List Value} (hT : elT P t e sz bytes = true) (hw : wanted n ops ρ o = true) (hd : o.dst = some d) (ho : o.op = .call { callee := .builtin .append, args := #[s, x], argTypes := #[t, t] })
    (hs : ev n ρ s = .slice A xs.length c) (hown : Own f sz w B e A c xs) (hx : ev n ρ x = .slice (some ⟨g, 0, none⟩) 1 c2) (hb : Box w g T cells) (hc : cells = f z) (hl : (f z).length = sz) (h1 : allOne (f z) = true) (h63 : (xs.length + 1) * bytes ≤ 140737488355328) (hk63 : xs.length + 1 ≤ 9223372036854775807) (hB : B ≤ w.heap.size)
    (hk : ∀ A' c' w', Own f sz w' B e A' c' (xs ++ [z]) → Kept B e w w' → w.grownBy w' (Value.slice A xs.length c).ownBlock → (∀ a, A' = some a → A = some a ∨ w.heap.size ≤ a.block) → WL P ops Q rest (act n (up ρ d (.slice A' (List.length (α := α) (xs ++ [z])) c'))) w') : WL P ops Q (o :: rest) (act n ρ) w := by
  subst hc
  obtain ⟨ht, i, z0, hi, hz, hsz, hby, hzs, hpos⟩ := elT_spec hT
  obtain ⟨v', w', hrun, hown', hg, _⟩ := run_append_own (P := P) w B t o.type e i z0 sz bytes ht hi hz hsz hby hzs hpos _ xs.length _ hown.own ⟨g, 0, none⟩ 1 c2 (f z) (by rw [hl, Nat.one_mul]) hb.put (allOne_mem h1) (by simpa [maxLen] using hk63) h63 hB
  obtain ⟨A', c', rfl, h3, h4⟩ := own_slice hown'
  have hwh := append_where hT hown.own (by rw [hl, Nat.one_mul]) hb.put h1 h63 hk63 hrun
  have e1 : xs.length + 1 = (xs ++ [z]).length := by simp
  have e2 : xs.flatMap f ++ f z = (xs ++ [z]).flatMap f := by simp
  rw [e1] at hown' h3 hrun
  rw [e2] at hown'
  refine p_run hw hd (v := .slice A' (xs ++ [z]).length c') (w' := w') ?_ (hk A' c' w' ⟨hown', h3, h4⟩ (Kept.of (Below.grown (Below.refl B w) hg hB (fun j hj => own_base hown.own j hj)) hg hown.own) hg hwh)
  simp only [execOp, ho, resolve, invoke, builtin, Sem.run_bind, Sem.run_pure, Result.andThen_ok, List.map_toArray, List.map_cons, List.map_nil, hs, hx, hrun]

theorem c_doneC3 {P : Program} {n : Nat} {ρ : Env} {w : World} {fn : Func} {R : Ending → World → Prop} {a t b v u : Nat} {ad bd : Addr} {x y z : Value} (hr : fn.results = #[.cell a t, .cell b v, .tmp u]) (ha : ev n ρ (.tmp a) = .pointer (some ad)) (hb : ev n ρ (.tmp b) = .pointer (some bd)) (hz : ev n ρ (.tmp u) = z) (hl : LoadsAs P w t ad x) (hm : LoadsAs P w v bd y) (h : R (.returned (.tuple #[x, y, z])) w) : bodyPost P fn R .ret (act n ρ) w := by
  refine ⟨rfl, .tuple #[x, y, z], ?_, h⟩
  have he : (act n ρ).tmps[a]?.getD undef = .pointer (some ad) := by
    have := (act_eval n ρ (.tmp a)).trans ha
    simpa [Act.eval] using this
  have hf : (act n ρ).tmps[b]?.getD undef = .pointer (some bd) := by
    have := (act_eval n ρ (.tmp b)).trans hb
    simpa [Act.eval] using this
  have hg : (act n ρ).tmps[u]?.getD undef = z := by
    have := (act_eval n ρ (.tmp u)).trans hz
    simpa [Act.eval] using this
  unfold LoadsAs at hl hm
  simp [results, hr, he, hf, hg, asAddr, hl, hm]

/-! ### What its methods do -/
abbrev Tame (s : PN) : Prop := 0 ≤ s.sent ∧ s.sent ≤ 4611686018427387904 ∧ 0 ≤ s.came ∧ s.came ≤ 4611686018427387904 ∧ 0 ≤ s.lost ∧ s.lost ≤ 4611686018427387904
abbrev zMsg : Msg := ⟨0, 0, 0, zBal, zRec⟩
def fullP (s : PN) : Bool := decide ((s.l.length : Int) = s.room)
def addP (s : PN) (m : Msg) : PN := ⟨s.sent + 1, s.came, s.lost, s.l ++ [m], s.room⟩
def putP (s : PN) (m : Msg) : PN × Int := if fullP s then (s, 7) else (addP s m, 0)
def sendP (s : PN) (m : Msg) : PN × Int := if rightMsg m then (if fullP s then (⟨s.sent + 1, s.came, s.lost + 1, s.l, s.room⟩, 7) else (addP s m, 0)) else (s, 1)
def isP (s : PN) (k : Int) : Int := if k < 0 ∨ k ≥ (s.l.length : Int) then 10 else 0
def lookP (s : PN) (k : Int) : Msg × Int := if k < 0 ∨ k ≥ (s.l.length : Int) then (zMsg, 10) else (s.l.getD k.toNat zMsg, 0)
def outL (l : List Msg) (k : Nat) : List Msg := l.take k ++ l.drop (k + 1)
def takeP (s : PN) (k : Int) : PN × Msg × Int := if k < 0 ∨ k ≥ (s.l.length : Int) then (s, zMsg, 10) else (⟨s.sent, s.came + 1, s.lost, outL s.l k.toNat, s.room⟩, s.l.getD k.toNat zMsg, 0)
def loseP (s : PN) (k : Int) : PN × Int := if k < 0 ∨ k ≥ (s.l.length : Int) then (s, 10) else (⟨s.sent, s.came, s.lost + 1, outL s.l k.toNat, s.room⟩, 0)
def twiceP (s : PN) (k : Int) : PN × Int := if k < 0 ∨ k ≥ (s.l.length : Int) then (s, 10) else putP s (s.l.getD k.toNat zMsg)
def newP (room : Int) : PN := ⟨0, 0, 0, [], room⟩
theorem is_no {s : PN} {k : Int} (h : decide (isP s k ≠ 0) = true) : k < 0 ∨ k ≥ (s.l.length : Int) := by
  have := of_decide_eq_true h
  unfold isP at this
  split at this
  · assumption
  · exact absurd rfl this
theorem is_yes {s : PN} {k : Int} (h : decide (isP s k ≠ 0) = false) : 0 ≤ k ∧ k < (s.l.length : Int) := by
  have := of_decide_eq_false h
  unfold isP at this
  split at this
  · exact absurd (by decide) this
  · omega
theorem is_ten {s : PN} {k : Int} (h : decide (isP s k ≠ 0) = true) : isP s k = 10 := by
  have := is_no h
  simp [isP, this]
theorem look_no {s : PN} {k : Int} (h : k < 0 ∨ k ≥ (s.l.length : Int)) : lookP s k = (zMsg, 10) := by simp [lookP, h]
theorem look_yes {s : PN} {K : Nat} {m : Msg} (h : s.l[K]? = some m) : lookP s (K : Int) = (m, 0) := by
  have hk := lt_of h
  unfold lookP
  rw [if_neg (by omega)]
  simp [h]
theorem at_map {zs : List (Msg × Ptr)} {l : List Msg} {K : Nat} {z : Msg × Ptr} (h : zs.map Prod.fst = l) (hz : zs[K]? = some z) : l[K]? = some z.1 := by rw [← h]; simp [hz]
theorem send_no {s : PN} {m : Msg} (h : rightMsg m = false) : sendP s m = (s, 1) := by simp [sendP, h]
theorem send_full {s : PN} {m : Msg} (h : rightMsg m = true) (h2 : fullP s = true) : sendP s m = (⟨s.sent + 1, s.came, s.lost + 1, s.l, s.room⟩, 7) := by simp [sendP, h, h2]
theorem send_add {s : PN} {m : Msg} (h : rightMsg m = true) (h2 : fullP s = false) : sendP s m = (addP s m, 0) := by simp [sendP, h, h2]
theorem look_in {s : PN} {k : Int} (h : decide ((lookP s k).2 = 0) = true) : 0 ≤ k ∧ k < (s.l.length : Int) := by
  have := of_decide_eq_true h
  unfold lookP at this
  split at this
  · exact absurd this (by decide)
  · omega
theorem take_yes {s : PN} {k : Int} (h : decide ((lookP s k).2 = 0) = true) : takeP s k = (⟨s.sent, s.came + 1, s.lost, outL s.l k.toNat, s.room⟩, (lookP s k).1, (lookP s k).2) := by
  have hk := look_in h
  have h1 : ¬ (k < 0 ∨ k ≥ (s.l.length : Int)) := by omega
  simp [takeP, lookP, if_neg h1]
theorem take_no {s : PN} {k : Int} (h : decide ((lookP s k).2 = 0) = false) : takeP s k = (s, (lookP s k).1, (lookP s k).2) := by
  have hk := of_decide_eq_false h
  unfold lookP at hk
  split at hk
  · rename_i h1; simp [takeP, lookP, h1]
  · exact absurd rfl hk
theorem lose_no {s : PN} {k : Int} (h : k < 0 ∨ k ≥ (s.l.length : Int)) : loseP s k = (s, isP s k) := by simp [loseP, isP, h]
theorem lose_yes {s : PN} {k : Int} (h : 0 ≤ k ∧ k < (s.l.length : Int)) : loseP s k = (⟨s.sent, s.came, s.lost + 1, outL s.l k.toNat, s.room⟩, isP s k) := by
  have h1 : ¬ (k < 0 ∨ k ≥ (s.l.length : Int)) := by omega
  simp [loseP, isP, if_neg h1]
theorem lose_look_yes {s : PN} {k : Int} (h : decide ((lookP s k).2 = 0) = true) : loseP s k = (⟨s.sent, s.came, s.lost + 1, outL s.l k.toNat, s.room⟩, (lookP s k).2) := by
  have hk := look_in h
  have h1 : ¬ (k < 0 ∨ k ≥ (s.l.length : Int)) := by omega
  simp [loseP, lookP, if_neg h1]
theorem lose_look_no {s : PN} {k : Int} (h : decide ((lookP s k).2 = 0) = false) : loseP s k = (s, (lookP s k).2) := by
  have hk := of_decide_eq_false h
  unfold lookP at hk
  split at hk
  · rename_i h1; simp [loseP, lookP, h1]
  · exact absurd rfl hk
theorem is_yes' {s : PN} {k : Int} (h : decide (isP s k = 0) = true) : 0 ≤ k ∧ k < (s.l.length : Int) := is_yes (by simpa using h)
theorem is_no' {s : PN} {k : Int} (h : decide (isP s k = 0) = false) : k < 0 ∨ k ≥ (s.l.length : Int) := is_no (by simpa using h)
theorem twice_no {s : PN} {k : Int} (h : k < 0 ∨ k ≥ (s.l.length : Int)) : twiceP s k = (s, isP s k) := by simp [twiceP, isP, h]
theorem twice_full {s : PN} {K : Nat} {m : Msg} (h : s.l[K]? = some m) (h2 : fullP s = true) : twiceP s (K : Int) = (s, 7) := by
  have hk := lt_of h
  have h1 : ¬ ((K : Int) < 0 ∨ (K : Int) ≥ (s.l.length : Int)) := by omega
  unfold twiceP
  rw [if_neg h1]
  simp [putP, h2]
theorem twice_add {s : PN} {K : Nat} {m : Msg} (h : s.l[K]? = some m) (h2 : fullP s = false) : twiceP s (K : Int) = (addP s m, 0) := by
  have hk := lt_of h
  have h1 : ¬ ((K : Int) < 0 ∨ (K : Int) ≥ (s.l.length : Int)) := by omega
  unfold twiceP
  rw [if_neg h1]
  simp [putP, h2, h]
/-! the document's net -/
structure RefIn (w : World) (s : PN) (A : Option Addr) (c : Nat) (ys : List (Msg × Ptr)) : Prop where
  lies : Lies kMz w A ys
  map : ys.map Prod.fst = s.l
  slim : ∀ z ∈ ys, Slim z.1.r.cmd
  le : ys.length ≤ c
  mx : c ≤ 9223372036854775807
  room : (ys.length : Int) ≤ s.room
  r1 : 1 ≤ s.room
  r2 : s.room ≤ 256
  ltA : ∀ ad, A = some ad → ad.block < w.heap.size
section
variable {w w' : World} {s s' : PN} {A A' : Option Addr} {c c' : Nat} {ys : List (Msg × Ptr)}
theorem RefIn.ext (h : RefIn w s A c ys) (hx : Ext w w') : RefIn w' s A c ys := ⟨h.lies.ext hx, h.map, h.slim, h.le, h.mx, h.room, h.r1, h.r2, fun ad e => Nat.lt_of_lt_of_le (h.ltA ad e) hx.size⟩
theorem RefIn.len (h : RefIn w s A c ys) : ys.length = s.l.length := by rw [← h.map]; simp
theorem RefIn.same (h : RefIn w s A c ys) (hl : s'.l = s.l) (hr : s'.room = s.room) : RefIn w s' A c ys := ⟨h.lies, by rw [hl]; exact h.map, h.slim, h.le, h.mx, by rw [hr]; exact h.room, by rw [hr]; exact h.r1, by rw [hr]; exact h.r2, h.ltA⟩
theorem RefIn.off {g : Nat} (h : RefIn w s A c ys) (o : Off g w w') (hA : ∀ ad, A = some ad → ad.block ≠ g) : RefIn w' s A c ys := ⟨h.lies.off o hA (fun _ _ h => h), h.map, h.slim, h.le, h.mx, h.room, h.r1, h.r2, fun ad e => Nat.lt_of_lt_of_le (h.ltA ad e) o.size⟩
theorem RefIn.other {b : Nat} (h : RefIn w s A c ys) (x : Stored b w w') (hA : ∀ ad, A = some ad → ad.block ≠ b) : RefIn w' s A c ys := h.off (Off.store x) hA
theorem ref_full (h : RefIn w s A c ys) (hf : decide ((ys.length : Int) ≥ s.room) = true) : fullP s = true := by
  have := of_decide_eq_true hf
  have := h.room
  unfold fullP
  rw [← h.len]
  exact decide_eq_true (by omega)
theorem ref_not (h : RefIn w s A c ys) (hf : decide ((ys.length : Int) ≥ s.room) = false) : fullP s = false := by
  have := of_decide_eq_false hf
  unfold fullP
  rw [← h.len]
  exact decide_eq_false (by omega)
theorem RefIn.more {B e : Nat} {z : Msg × Ptr} (h : RefIn w s A c ys) (ho : Own fMz 30 w' B e A' c' (ys ++ [z])) (hs : Slim z.1.r.cmd) (hf : fullP s = false) : RefIn w' (addP s z.1) A' c' (ys ++ [z]) :=
  ⟨ho.lies (d := kMz) (fun _ => rfl) (fun _ _ => rfl), by simp [addP, h.map], fun v hv => by
    rcases List.mem_append.1 hv with hv | hv
    · exact h.slim v hv
    · have : v = z := by simpa using hv
      subst this; exact hs, ho.le, ho.mx, by
    have h1 := h.room
    have h2 := of_decide_eq_false hf
    rw [← h.len] at h2
    show ((ys ++ [z]).length : Int) ≤ s.room
    simp
    omega, h.r1, h.r2, ho.lt⟩
/-- all but the one at k, of the first i -/
def woR (ys : List (Msg × Ptr)) (k : Int) (i : Nat) : List (Msg × Ptr) := (List.range i).flatMap fun j : Nat => if (j : Int) = k then [] else (ys[j]?).toList
theorem wo_skip {k : Int} {i : Nat} (h : decide ((i : Int) ≠ k) = false) : woR ys k (i + 1) = woR ys k i := by
  have : (i : Int) = k := by simpa using h
  simp [woR, List.range_succ, this]
theorem wo_add {k : Int} {i : Nat} {z : Msg × Ptr} (h : decide ((i : Int) ≠ k) = true) (hz : ys[i]? = some z) : woR ys k (i + 1) = woR ys k i ++ [z] := by
  have : ¬ (i : Int) = k := by simpa using h
  simp [woR, List.range_succ, this, hz]
theorem wo_len {k : Int} : ∀ i : Nat, (woR ys k i).length ≤ i
  | 0 => by simp [woR]
  | i + 1 => by
    have := wo_len (k := k) i
    simp only [woR, List.range_succ, List.flatMap_append, List.length_append] at *
    have h1 : (List.flatMap (fun j : Nat => if (j : Int) = k then [] else (ys[j]?).toList) [i]).length ≤ 1 := by
      simp only [List.flatMap_cons, List.flatMap_nil, List.append_nil]
      split
      · simp
      · cases ys[i]? <;> simp
    omega
theorem wo_take {k : Int} : ∀ i : Nat, (i : Int) ≤ k → i ≤ ys.length → woR ys k i = ys.take i
  | 0, _, _ => by simp [woR]
  | i + 1, h, hl => by
    have hz : ys[i]? = some ys[i] := List.getElem?_eq_getElem (by omega)
    rw [wo_add (decide_eq_true (by omega)) hz, wo_take i (by omega) (by omega), take_of hz]
theorem wo_drop {K : Nat} : ∀ i : Nat, K < i → i ≤ ys.length → woR ys (K : Int) i = ys.take K ++ (ys.take i).drop (K + 1)
  | 0, h, _ => absurd h (by omega)
  | i + 1, h, hl => by
    have hz : ys[i]? = some ys[i] := List.getElem?_eq_getElem (by omega)
    by_cases e : i = K
    · subst e
      rw [wo_skip (by simp), wo_take i (Int.le_refl _) (by omega), List.drop_eq_nil_iff.2 (by rw [List.length_take]; omega), List.append_nil]
    · rw [wo_add (decide_eq_true (by omega)) hz, wo_drop i (by omega) (by omega), take_of hz, List.drop_append_of_le_length (by rw [List.length_take]; omega), List.append_assoc]
theorem wo_end {k : Int} (h0 : 0 ≤ k) (h1 : k < (ys.length : Int)) : woR ys k ys.length = ys.take k.toNat ++ ys.drop (k.toNat + 1) := by
  obtain ⟨K, rfl⟩ := Int.eq_ofNat_of_zero_le h0
  rw [wo_drop ys.length (by omega) (Nat.le_refl _), List.take_of_length_le (Nat.le_refl _)]
  simp
theorem wo_mem {k : Int} {i : Nat} {z : Msg × Ptr} (h : z ∈ woR ys k i) : z ∈ ys := by
  obtain ⟨j, _, hz⟩ := List.mem_flatMap.1 h
  split at hz
  · cases hz
  · have : ys[j]? = some z := by
      cases hy : ys[j]? with
      | none => rw [hy] at hz; cases hz
      | some y => rw [hy] at hz; simp at hz; rw [hz]
    exact List.mem_of_getElem? this
theorem RefIn.out {B e : Nat} {k : Int} (h : RefIn w s A c ys) (ho : Own fMz 30 w' B e A' c' (woR ys k ys.length)) (hk : 0 ≤ k ∧ k < (s.l.length : Int)) (hl : s'.l = outL s.l k.toNat) (hr : s'.room = s.room) : RefIn w' s' A' c' (woR ys k ys.length) :=
  ⟨ho.lies (d := kMz) (fun _ => rfl) (fun _ _ => rfl), by rw [wo_end hk.1 (by rw [h.len]; exact hk.2), hl, List.map_append, List.map_take, List.map_drop, h.map]; rfl, fun v hv => h.slim v (wo_mem hv), ho.le, ho.mx, by
    have := h.room
    have := wo_len (ys := ys) (k := k) ys.length
    rw [hr]
    omega, by rw [hr]; exact h.r1, by rw [hr]; exact h.r2, ho.lt⟩
theorem ref_new {room : Int} (h1 : 1 ≤ room) (h2 : room ≤ 256) (w : World) : RefIn w (newP room) none 0 [] := ⟨Lies.nil _ _ _, rfl, fun z hz => (by cases hz), Nat.le_refl _, Nat.zero_le _, by show (0 : Int) ≤ room; omega, h1, h2, fun ad h => (by cases h)⟩
theorem twice_ref {m : Msg} (h1 : rightMsg m = true) (h2 : fullP s = false) : sendP s m = (addP s m, 0) := send_add h1 h2
end

theorem msg_at {w : World} {ys : List (Msg × Ptr)} {m : Msg} {p : Ptr} (h : (m, p) ∈ ys ∨ (m = zMsg ∧ p = ⟨none, 0, none, 0⟩)) (hM : MAll w ys) : CmdAt w m.r.cmd p := by
  rcases h with h | ⟨e1, e2⟩
  · exact hM.out _ h
  · rw [e1, e2]; exact CmdAt.nil _ rfl rfl
theorem msg_slim {ys : List (Msg × Ptr)} {m : Msg} {p : Ptr} (h : (m, p) ∈ ys ∨ (m = zMsg ∧ p = ⟨none, 0, none, 0⟩)) (hs : ∀ z ∈ ys, Slim z.1.r.cmd) : Slim m.r.cmd := by
  rcases h with h | ⟨e1, e2⟩
  · exact hs _ h
  · rw [e1]; exact slim_nil rfl rfl
theorem msg_in {ys : List (Msg × Ptr)} {m : Msg} {p : Ptr} (h : (m, p) ∈ ys ∨ (m = zMsg ∧ p = ⟨none, 0, none, 0⟩)) (hr : rightMsg m = true) : (m, p) ∈ ys := by
  rcases h with h | ⟨e1, _⟩
  · exact h
  · rw [e1] at hr; exact absurd hr (by decide)
theorem twice_look_no {s : PN} {k : Int} (h : decide ((lookP s k).2 ≠ 0) = true) : twiceP s k = (s, (lookP s k).2) := by
  have hk := of_decide_eq_true h
  unfold lookP at hk
  split at hk
  · rename_i h1; simp [twiceP, lookP, h1]
  · exact absurd rfl hk
theorem look_got {s : PN} {k : Int} (h : decide ((lookP s k).2 ≠ 0) = false) : ∃ K : Nat, k = (K : Int) ∧ s.l[K]? = some (lookP s k).1 := by
  have hk := look_in (by simpa using h)
  obtain ⟨K, rfl⟩ := Int.eq_ofNat_of_zero_le hk.1
  have hK : K < s.l.length := by omega
  refine ⟨K, rfl, ?_⟩
  rw [look_yes (List.getElem?_eq_getElem hK)]
  exact List.getElem?_eq_getElem hK
theorem look_right {s : PN} {k : Int} (h : decide ((lookP s k).2 ≠ 0) = false) (hr : ∀ m ∈ s.l, rightMsg m = true) : rightMsg (lookP s k).1 = true := by
  obtain ⟨K, _, hK⟩ := look_got h
  exact hr _ (List.mem_of_getElem? hK)
theorem twice_look_full {s : PN} {k : Int} (h : decide ((lookP s k).2 ≠ 0) = false) (hf : fullP s = true) : twiceP s k = (s, 7) := by
  obtain ⟨K, rfl, hK⟩ := look_got h
  exact twice_full hK hf
theorem twice_look_add {s : PN} {k : Int} (h : decide ((lookP s k).2 ≠ 0) = false) (hf : fullP s = false) (hr : ∀ m ∈ s.l, rightMsg m = true) : twiceP s k = sendP s (lookP s k).1 := by
  obtain ⟨K, hk, hK⟩ := look_got h
  have hm := hr _ (List.mem_of_getElem? hK)
  rw [send_add hm hf]
  rw [hk] at hK ⊢
  exact twice_add hK hf

/-! the first of those from one to another -/
def fromTo (a b : Int) (m : Msg) : Bool := decide (m.src = a) && decide (m.dst = b)
def fi (p : Msg → Bool) (l : List Msg) (k : Nat) : Int := if (l.drop k).any p then ((k + (l.drop k).findIdx p : Nat) : Int) else -1
section
variable {p : Msg → Bool} {l : List Msg} {k : Nat} {x : Msg}
theorem drop_cons' (hx : l[k]? = some x) : l.drop k = x :: l.drop (k + 1) := by
  have hk := lt_of hx
  rw [List.drop_eq_getElem_cons hk]
  rw [List.getElem?_eq_getElem hk] at hx
  injection hx with hx
  rw [hx]
theorem fi_hit (hx : l[k]? = some x) (hp : p x = true) : fi p l k = (k : Int) := by
  unfold fi
  rw [drop_cons' hx]
  simp [hp, List.findIdx_cons]
theorem fi_miss (hx : l[k]? = some x) (hp : p x = false) : fi p l k = fi p l (k + 1) := by
  unfold fi
  rw [drop_cons' hx]
  simp only [List.any_cons, hp, Bool.false_or, List.findIdx_cons, cond_false]
  split
  · congr 1; omega
  · rfl
theorem fi_end (hk : l.length ≤ k) : fi p l k = -1 := by
  unfold fi
  rw [List.drop_eq_nil_iff.2 hk]
  rfl
end

/-! a message made two -/
theorem tw_1 {m : Msg} (h : rightMsg m = true) : sendP (newP 2) m = (⟨1, 0, 0, [m], 2⟩, 0) := by rw [send_add h (by decide)]; rfl
theorem tw_2 (m : Msg) : twiceP ⟨1, 0, 0, [m], 2⟩ 0 = (⟨2, 0, 0, [m, m], 2⟩, 0) := rfl
theorem tw_3 (m : Msg) : twiceP ⟨2, 0, 0, [m, m], 2⟩ 0 = (⟨2, 0, 0, [m, m], 2⟩, 7) := rfl
theorem tw_4 (m : Msg) : takeP ⟨2, 0, 0, [m, m], 2⟩ 1 = (⟨2, 1, 0, [m], 2⟩, m, 0) := rfl
theorem tw_5 (m : Msg) : takeP ⟨2, 1, 0, [m], 2⟩ 0 = (⟨2, 2, 0, [], 2⟩, m, 0) := rfl
/-! in the order in which it was sent -/
structure Ord1 (s : PN) (k : Nat) (ys : List (Msg × Ptr)) : Prop where
  came : s.came = 0
  l : s.l = ys.map Prod.fst
  s0 : 0 ≤ s.sent
  s1 : s.sent ≤ k
  l0 : 0 ≤ s.lost
  l1 : s.lost ≤ k
theorem Ord1.tame {s : PN} {k : Nat} {ys : List (Msg × Ptr)} (h : Ord1 s k ys) (hk : k ≤ 1000) : Tame s := ⟨h.s0, by have := h.s1; omega, by rw [h.came]; exact Int.le_refl _, by rw [h.came]; decide, h.l0, by have := h.l1; omega⟩
theorem ord_new (room : Int) : Ord1 (newP room) 0 [] := ⟨rfl, rfl, Int.le_refl _, Int.le_refl _, Int.le_refl _, Int.le_refl _⟩
theorem ord_yes {s : PN} {k : Nat} {ys : List (Msg × Ptr)} {y : Msg × Ptr} (h : Ord1 s k ys) (hd : decide ((sendP s y.1).2 = 0) = true) : Ord1 (sendP s y.1).1 (k + 1) (ys ++ [y]) := by
  have hd := of_decide_eq_true hd
  cases hr : rightMsg y.1 with
  | false => rw [send_no hr] at hd; simp at hd
  | true =>
    cases hf : fullP s with
    | true => rw [send_full hr hf] at hd; simp at hd
    | false =>
      rw [send_add hr hf]
      have := h.s1
      have := h.s0
      have := h.l1
      exact ⟨h.came, by show s.l ++ [y.1] = _; rw [h.l]; simp, by show 0 ≤ s.sent + 1; omega, by show s.sent + 1 ≤ _; omega, h.l0, by show s.lost ≤ _; omega⟩
theorem ord_no {s : PN} {k : Nat} {ys : List (Msg × Ptr)} {m : Msg} (h : Ord1 s k ys) (hd : decide ((sendP s m).2 = 0) = false) : Ord1 (sendP s m).1 (k + 1) ys := by
  have hd := of_decide_eq_false hd
  have := h.s1
  have := h.s0
  have := h.l1
  have := h.l0
  cases hr : rightMsg m with
  | false => rw [send_no hr]; exact ⟨h.came, h.l, h.s0, by show s.sent ≤ _; omega, h.l0, by show s.lost ≤ _; omega⟩
  | true =>
    cases hf : fullP s with
    | true =>
      rw [send_full hr hf]
      exact ⟨h.came, h.l, by show 0 ≤ s.sent + 1; omega, by show s.sent + 1 ≤ _; omega, by show 0 ≤ s.lost + 1; omega, by show s.lost + 1 ≤ _; omega⟩
    | false => rw [send_add hr hf] at hd; exact absurd rfl hd
structure Ord2 (s : PN) (j : Nat) (ys : List (Msg × Ptr)) : Prop where
  l : s.l = (ys.drop j).map Prod.fst
  c0 : 0 ≤ s.came
  c1 : s.came ≤ j
  s0 : 0 ≤ s.sent
  s1 : s.sent ≤ 1000
  l0 : 0 ≤ s.lost
  l1 : s.lost ≤ 1000
theorem Ord2.tame {s : PN} {j : Nat} {ys : List (Msg × Ptr)} (h : Ord2 s j ys) (hk : j ≤ 1000) : Tame s := ⟨h.s0, by have := h.s1; omega, h.c0, by have := h.c1; omega, h.l0, by have := h.l1; omega⟩
theorem ord_12 {s : PN} {k : Nat} {ys : List (Msg × Ptr)} (h : Ord1 s k ys) (hk : k ≤ 1000) : Ord2 s 0 ys := ⟨by rw [h.l]; rfl, by rw [h.came]; exact Int.le_refl _, by rw [h.came]; exact Int.le_refl _, h.s0, by have := h.s1; omega, h.l0, by have := h.l1; omega⟩
theorem ord_take {s : PN} {j : Nat} {ys : List (Msg × Ptr)} {y : Msg × Ptr} (h : Ord2 s j ys) (hy : ys[j]? = some y) : takeP s 0 = (⟨s.sent, s.came + 1, s.lost, (ys.drop (j + 1)).map Prod.fst, s.room⟩, y.1, 0) := by
  have hj := lt_of hy
  have e : ys.drop j = y :: ys.drop (j + 1) := by
    rw [List.drop_eq_getElem_cons hj]
    have : ys[j] = y := by rw [List.getElem?_eq_getElem hj] at hy; injection hy
    rw [this]
  have hl : s.l = y.1 :: (ys.drop (j + 1)).map Prod.fst := by rw [h.l, e]; rfl
  unfold takeP
  rw [if_neg (by rw [hl]; simp), hl]
  rfl
theorem ord_next {s : PN} {j : Nat} {ys : List (Msg × Ptr)} (h : Ord2 s j ys) : Ord2 ⟨s.sent, s.came + 1, s.lost, (ys.drop (j + 1)).map Prod.fst, s.room⟩ (j + 1) ys :=
  ⟨rfl, by have := h.c0; show 0 ≤ s.came + 1; omega, by have := h.c1; show s.came + 1 ≤ _; omega, h.s0, h.s1, h.l0, h.l1⟩
theorem ord_nil {s : PN} {j : Nat} {ys : List (Msg × Ptr)} (h : Ord2 s j ys) (hj : ¬ j < ys.length) : s.l = [] := by
  rw [h.l, List.drop_eq_nil_iff.2 (by omega)]; rfl
theorem take_nil {s : PN} (h : s.l = []) : takeP s 0 = (s, zMsg, 10) := by simp [takeP, h]

/-! counts are equal -/
structure Cn where
  a : Int
  b : Int
  c : Int
  deriving DecidableEq
def vCn (x : Cn) : Value := .agg #[.int .i64 x.a, .int .i64 x.b, .int .i64 x.c]
def ints3T (P : Program) (t : TypeId) : Bool := (match P.underlying t with
  | some (.struct fs) => match fs.toList with
    | [f, g, h] => (f.name != "_") && (g.name != "_") && (h.name != "_") && f.offset == 0 && g.offset == 1 && h.offset == 2 && intT P f.type && intT P g.type && intT P h.type
    | _ => false
  | _ => false) && !P.stoodInHeld t && !P.eqGuardType P.depth t
theorem ints3_guard {P : Program} {t : Nat} (h : ints3T P t = true) : P.eqGuardType P.depth t = false := by
  unfold ints3T at h
  rw [Bool.and_eq_true] at h
  simpa using h.2
theorem eq_Cn {P : Program} {t : Nat} (h : ints3T P t = true) (x y : Cn) (w : World) : (Op.equalIn 10000 t (vCn x) (vCn y)).run P w = .ok (decide (x = y)) w := by
  have hg := h
  unfold ints3T at h
  rw [Bool.and_eq_true, Bool.and_eq_true] at h
  obtain ⟨⟨h1, h2⟩, _⟩ := h
  have e : decide (x = y) = (decide (x.a = y.a) && (decide (x.b = y.b) && decide (x.c = y.c))) := by cases x; cases y; simp
  cases hu : P.underlying t with
  | none => rw [hu] at h1; cases h1
  | some D =>
    rw [hu] at h1
    cases D <;> try cases h1
    case struct fs =>
      dsimp only at h1
      split at h1
      case h_2 => cases h1
      case h_1 f g q hfs =>
        simp only [Bool.and_eq_true, bne_iff_ne, ne_eq, beq_iff_eq] at h1
        obtain ⟨⟨⟨⟨⟨⟨⟨⟨n1, n2⟩, n3⟩, o1⟩, o2⟩, o3⟩, i1⟩, i2⟩, i3⟩ := h1
        obtain ⟨k1, u1⟩ := intT_spec i1
        obtain ⟨k2, u2⟩ := intT_spec i2
        obtain ⟨k3, u3⟩ := intT_spec i3
        rw [e]
        refine eqS hu (by simpa using h2) ?_
        rw [hfs]
        have e1 := eqF (P := P) (w := w) (d := 9999) (xs := #[.int .i64 x.a, .int .i64 x.b, .int .i64 x.c]) (ys := #[.int .i64 y.a, .int .i64 y.b, .int .i64 y.c]) (f := f) (fs := [g, q]) (by simpa using n1) (part_one (intT_one i1) (by rw [o1]; rfl) w) (part_one (intT_one i1) (by rw [o1]; rfl) w) (run_equalIn_int w 9998 f.type .i64 k1 x.a y.a u1)
          (eqF (s := (decide (x.c = y.c) && true)) (by simpa using n2) (part_one (intT_one i2) (by rw [o2]; rfl) w) (part_one (intT_one i2) (by rw [o2]; rfl) w) (run_equalIn_int w 9998 g.type .i64 k2 x.b y.b u2)
            (eqF (s := true) (by simpa using n3) (part_one (intT_one i3) (by rw [o3]; rfl) w) (part_one (intT_one i3) (by rw [o3]; rfl) w) (run_equalIn_int w 9998 q.type .i64 k3 x.c y.c u3) (by simp [Op.eqFields])))
        rw [e1]
        simp only [Bool.and_true]
        rfl
theorem x_eqCn {P : Program} {n : Nat} {ρ : Env} {w : World} {o : Oper} {t u : Nat} {x y : Operand} {a b : Cn} (hT : ints3T P t = true) (ho : o.op = .binOp .eql t x y u) (hx : ev n ρ x = vCn a) (hy : ev n ρ y = vCn b) : Yields P o n ρ w (.bool (decide (a = b))) := x_aeql (ints3_guard hT) ho hx hy (eq_Cn hT a b w)
theorem x_neCn {P : Program} {n : Nat} {ρ : Env} {w : World} {o : Oper} {t u : Nat} {x y : Operand} {a b : Cn} (hT : ints3T P t = true) (ho : o.op = .binOp .neq t x y u) (hx : ev n ρ x = vCn a) (hy : ev n ρ y = vCn b) : Yields P o n ρ w (.bool (!decide (a = b))) := x_aneq (ints3_guard hT) ho hx hy (eq_Cn hT a b w)

/-! ### Steps -/
structure Dz where
  verb : Int
  k : Int
  m : Msg
  p : Ptr
def fDz (z : Dz) : List Value := [.int .i64 z.verb, .int .i64 z.k, .int .i64 z.m.kind, .int .i64 z.m.src, .int .i64 z.m.dst, .int .i64 z.m.ballot.number, .int .i64 z.m.ballot.replica, .int .i64 z.m.r.inst.replica, .int .i64 z.m.r.inst.slot, .int .i64 z.m.r.status, .int .i64 z.m.r.promise.number, .int .i64 z.m.r.promise.replica, .int .i64 z.m.r.ballot.number, .int .i64 z.m.r.ballot.replica, .int .i64 z.m.r.cmd.kind, .int .i64 z.m.r.cmd.txn.client, .int .i64 z.m.r.cmd.txn.number, .int .i64 z.m.r.cmd.stp.time, .int .i64 z.m.r.cmd.stp.client, .int .i64 z.m.r.cmd.shards, .slice z.p.A z.m.r.cmd.reads.length z.p.n, .slice z.p.B z.m.r.cmd.writes.length z.p.m, .bool z.m.r.cmd.commit, .int .i64 z.m.r.seq, .int .i64 z.m.r.deps.d0, .int .i64 z.m.r.deps.d1, .int .i64 z.m.r.deps.d2, .int .i64 z.m.r.deps.d3, .int .i64 z.m.r.deps.d4, .int .i64 z.m.r.deps.d5, .int .i64 z.m.r.deps.d6, .bool z.m.r.kept]
def vDz (z : Dz) : Value := .agg (fDz z).toArray
def kDz : Kd Dz := ⟨32, fun _ z cs => cs = fDz z, fun _ h => h⟩
def kDzO : Kd Dz := ⟨32, fun w z cs => cs = fDz z ∧ CmdAt w z.m.r.cmd z.p, fun hx h => ⟨h.1, h.2.ext hx⟩⟩
structure DAll (w : World) (l : List Dz) : Prop where
  out : ∀ z ∈ l, CmdAt w z.m.r.cmd z.p
theorem DAll.ext {w w' : World} {l : List Dz} (h : DAll w l) (hx : Ext w w') : DAll w' l := ⟨fun z hz => (h.out z hz).ext hx⟩
structure D0 (w : World) (A : Option Addr) (l : List Dz) : Prop where
  lies : Lies kDz w A l
  at_ : DAll w l
  len : l.length ≤ 9223372036854775807
theorem D0.ext {w w' : World} {A : Option Addr} {l : List Dz} (h : D0 w A l) (hx : Ext w w') : D0 w' A l := ⟨h.lies.ext hx, h.at_.ext hx, h.len⟩
theorem D0.of {w : World} {A : Option Addr} {l : List Dz} (h : Lies kDzO w A l) (hn : l.length ≤ 9223372036854775807) : D0 w A l := by
  have hk : ∀ v ∈ l, CmdAt w v.m.r.cmd v.p := fun v hv => by
    obtain ⟨i, hi, e⟩ := List.getElem_of_mem hv
    obtain ⟨_, _, _, ⟨_, h1⟩, _⟩ := h i v (by rw [List.getElem?_eq_getElem hi, e])
    exact h1
  exact ⟨fun i x hi => by obtain ⟨ad, cs, e, hK, hE⟩ := h i x hi; exact ⟨ad, cs, e, hK.1, hE⟩, ⟨hk⟩, hn⟩
theorem D0.one {w : World} {g T : Nat} {z : Dz} {cs : List Value} (hb : Box w g T cs) (hc : cs = fDz z) (h : CmdAt w z.m.r.cmd z.p) : D0 w (some ⟨g, 0, none⟩) [z] := by
  refine ⟨lies_box (f := fDz) hb (by rw [hc]; simp) (fun _ => rfl) (fun _ _ => rfl), ⟨fun v hv => ?_⟩, by simp⟩
  have : v = z := by simpa using hv
  subst this
  exact h
def fewD (l : List Dz) : Bool := l.all (fun z => fewOne z.m.r.cmd) && decide (l.length ≤ 40)
theorem fewD_no {l : List Dz} {k : Nat} {x : Dz} (hx : l[k]? = some x) (h : few [(x.m.r.cmd, x.p)] = false) : fewD l = false := by
  have : l.all (fun z => fewOne z.m.r.cmd) = false := all_fail (p := fun z : Dz => fewOne z.m.r.cmd) hx (by simpa [few] using h)
  simp [fewD, this]
theorem fewD_end {l : List Dz} {k : Nat} (h : (l.take k).all (fun z => fewOne z.m.r.cmd) = true) (hk : ¬ k < l.length) : fewD l = decide (l.length ≤ 40) := by
  have := all_end h hk
  simp [fewD, this]

/-! what is awake -/
abbrev awM (a b : Int) : Msg := ⟨6, a, b, zBal, ⟨⟨0, 1⟩, 0, zBal, zBal, noop, 0, zDep, false⟩⟩
abbrev aw1 : PN := ⟨1, 0, 0, [awM 0 1], 2⟩
abbrev aw2 : PN := ⟨2, 0, 0, [awM 0 1, awM 1 0], 2⟩
abbrev aw3 : PN := ⟨3, 0, 1, [awM 0 1, awM 1 0], 2⟩
abbrev aw4 : PN := ⟨3, 1, 1, [awM 1 0], 2⟩
theorem aw_1 : sendP (newP 2) (awM 0 1) = (aw1, 0) := by decide
theorem aw_2 : sendP aw1 (awM 1 0) = (aw2, 0) := by decide
theorem aw_3 : sendP aw2 (awM 2 0) = (aw3, 7) := by decide
theorem aw_4 : takeP aw3 0 = (aw4, awM 0 1, 0) := by decide
theorem full_yes {T : Nat} {w : World} {g : Nat} {s : PN} {A : Option Addr} {c : Nat} {zs : List (Msg × Ptr)} (hN : NetIn T w g s A c zs) (h : decide ((zs.length : Int) = s.room) = true) : fullP s = true := by
  unfold fullP; rw [← hN.len]; exact h
theorem full_no {T : Nat} {w : World} {g : Nat} {s : PN} {A : Option Addr} {c : Nat} {zs : List (Msg × Ptr)} (hN : NetIn T w g s A c zs) (h : decide ((zs.length : Int) = s.room) = false) : fullP s = false := by
  unfold fullP; rw [← hN.len]; exact h
theorem new_in {T : Nat} {w : World} {g : Nat} {room : Int} (hb : Box w g T [.int .i64 0, .int .i64 0, .int .i64 0, .slice none 0 0, .int .i64 room]) (h1 : 1 ≤ room) (h2 : room ≤ 256) : NetIn T w g (newP room) none 0 [] :=
  ⟨hb, Lies.nil _ _ _, ⟨fun z hz => (by cases hz)⟩, rfl, fun ad h => (by cases h), fun z hz => (by cases hz), fun z hz => (by cases hz), Nat.le_refl _, Nat.zero_le _, by show (0 : Int) ≤ room; omega, h1, h2, fun ad h => (by cases h), fun z hz => (by cases hz)⟩
end Go.Eng

