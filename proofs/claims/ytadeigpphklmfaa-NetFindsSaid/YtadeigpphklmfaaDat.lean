/- The data of the program's packages as plain types, how their values lie in memory, and the plain answers of the functions of layers 2 to 7. -/
import Derived.Test.YtadeigpphklmfaaEng
set_option linter.unusedVariables false
set_option linter.unusedSimpArgs false
namespace Go.Eng
open Go.RowKit

theorem add_add (a : Addr) (i j : Nat) : (a.add i).add j = a.add (i + j) := by
  unfold Addr.add
  by_cases hi : i = 0 <;> by_cases hj : j = 0 <;> simp [hi, hj, Nat.add_assoc]

/-- How an element of a row lies in its cells. -/
structure Kd (α : Type) where
  sz : Nat
  K : World → α → List Value → Prop
  ext : ∀ {w w' : World} {x : α} {cs : List Value}, Ext w w' → K w x cs → K w' x cs

/-- The cells from an address on. -/
def Elem (w : World) (a : Addr) (cs : List Value) : Prop := ∀ (j : Nat) (v : Value), cs[j]? = some v → w.cell? (a.add j) = some v
theorem Elem.ext {w w' : World} {a : Addr} {cs : List Value} (h : Elem w a cs) (hx : Ext w w') : Elem w' a cs := fun j v hj => hx.cell (h j v hj)
theorem Elem.one {P : Program} {w : World} {a b : Addr} {cs : List Value} {t : TypeId} {v : Value} (h : Elem w a cs) (ht : oneT P t = true) (j : Nat) (hb : a.add j = b) (hv : cs[j]? = some v) : LoadsAs P w t b v :=
  loads_one ht (by rw [← hb]; exact h j v hv)
theorem Elem.agg {P : Program} {w : World} {a b : Addr} {cs vs : List Value} {t : TypeId} (h : Elem w a cs) (ht : aggT P t vs.length = true) (j : Nat) (hb : a.add j = b) (hv : (cs.drop j).take vs.length = vs) : LoadsAs P w t b (.agg vs.toArray) :=
  loads_agg ht fun i v hi => by
    rw [← hb, add_add]
    refine h _ v ?_
    have hil : i < vs.length := (List.getElem?_eq_some_iff.1 hi).1
    rw [← hv, List.getElem?_take, if_pos hil, List.getElem?_drop] at hi
    exact hi

def Lies {α : Type} (d : Kd α) (w : World) (A : Option Addr) (xs : List α) : Prop :=
  ∀ (i : Nat) (x : α), xs[i]? = some x → ∃ ad cs, A = some ad ∧ d.K w x cs ∧ Elem w (ad.add (i * d.sz)) cs
theorem Lies.ext {α : Type} {d : Kd α} {w w' : World} {A : Option Addr} {xs : List α} (h : Lies d w A xs) (hx : Ext w w') : Lies d w' A xs := fun i x hi =>
  let ⟨ad, cs, e, hk, hc⟩ := h i x hi
  ⟨ad, cs, e, d.ext hx hk, hc.ext hx⟩
theorem Lies.nil {α : Type} (d : Kd α) (w : World) (A : Option Addr) : Lies d w A [] := fun i x h => by simp at h

/-! ### Loops over lists -/
section
variable {α : Type} {l a b : List α} {k n : Nat} {x y : α} {p : α → Bool} {q : Nat → Bool}
theorem meas_up {L : Nat} {v : Value} (e : v = .int .i64 (k : Int)) (h : k < L) : L - (intOf (.int .i64 ((k : Int) + 1))).toNat < L - (intOf v).toNat := by
  rw [e]
  simp only [intOf]
  omega
theorem len_eq {m n : Nat} (h : decide ((m : Int) ≠ (n : Int)) = false) : m = n := by simp at h; omega
theorem len_ne {m n : Nat} (h : decide ((m : Int) ≠ (n : Int)) = true) : m ≠ n := by simp at h; omega
theorem some_of (h : k < l.length) : ∃ x, l[k]? = some x := ⟨_, List.getElem?_eq_getElem h⟩
theorem getD_of {d : α} (h : l[k]? = some x) : l.getD k d = x := by simp [List.getD_eq_getElem?_getD, h]
theorem lt_of (h : l[k]? = some x) : k < l.length := (List.getElem?_eq_some_iff.1 h).1
theorem take_of (h : l[k]? = some x) : l.take (k + 1) = l.take k ++ [x] := by rw [List.take_add_one, h]; rfl
theorem take_end (h : ¬ k < l.length) : l.take k = l := List.take_of_length_le (by omega)
theorem all_step (h : (l.take k).all p = true) (hx : l[k]? = some x) (hp : p x = true) : (l.take (k + 1)).all p = true := by
  rw [take_of hx, List.all_append, h]; simp [hp]
theorem all_fail (hx : l[k]? = some x) (hp : p x = false) : l.all p = false := by
  rw [List.all_eq_false]
  exact ⟨x, List.mem_of_getElem? hx, by simp [hp]⟩
theorem all_end (h : (l.take k).all p = true) (hk : ¬ k < l.length) : l.all p = true := by rwa [take_end hk] at h
theorem any_step (h : (l.take k).any p = false) (hx : l[k]? = some x) (hp : p x = false) : (l.take (k + 1)).any p = false := by
  rw [take_of hx, List.any_append, h]; simp [hp]
theorem any_hit (hx : l[k]? = some x) (hp : p x = true) : l.any p = true := List.any_eq_true.2 ⟨x, List.mem_of_getElem? hx, hp⟩
theorem any_end (h : (l.take k).any p = false) (hk : ¬ k < l.length) : l.any p = false := by rwa [take_end hk] at h
theorem range_step (h : (List.range k).all q = true) (hq : q k = true) : (List.range (k + 1)).all q = true := by
  rw [List.range_succ, List.all_append, h]; simp [hq]
theorem range_fail (hk : k < n) (hq : q k = false) : (List.range n).all q = false := by
  rw [List.all_eq_false]
  exact ⟨k, List.mem_range.2 hk, by simp [hq]⟩
theorem eq_step (h : a.take k = b.take k) (hx : a[k]? = some x) (hy : b[k]? = some y) (e : x = y) : a.take (k + 1) = b.take (k + 1) := by rw [take_of hx, take_of hy, h, e]
theorem eq_end (h : a.take k = b.take k) (hl : a.length = b.length) (hk : ¬ k < a.length) : a = b := by rwa [take_end hk, take_end (by omega)] at h
theorem eq_fail (hx : a[k]? = some x) (hy : b[k]? = some y) (e : x ≠ y) : a ≠ b := fun h => e (by subst h; rw [hx] at hy; injection hy)
end

/-! ### Lists in the making -/
section
variable {α β : Type} {l : List α} {k : Nat} {x : α} {f : α → List Value}
theorem flat_step (hx : l[k]? = some x) : (l.take k).flatMap f ++ f x = (l.take (k + 1)).flatMap f := by rw [take_of hx, List.flatMap_append]; simp
theorem map_of {g : α → β} (hx : l[k]? = some x) : (l.map g)[k]? = some (g x) := by simp [hx]
theorem flat_at {sz : Nat} (hf : ∀ x, (f x).length = sz) : ∀ (l : List α) (i j : Nat) (x : α) (v : Value), l[i]? = some x → (f x)[j]? = some v → (l.flatMap f)[i * sz + j]? = some v
  | [], i, j, x, v, h, _ => by simp at h
  | y :: l, 0, j, x, v, h, hv => by
    have e : y = x := by simpa using h
    subst e
    have hj : j < (f y).length := (List.getElem?_eq_some_iff.1 hv).1
    rw [List.flatMap_cons, Nat.zero_mul, Nat.zero_add, List.getElem?_append_left hj, hv]
  | y :: l, i + 1, j, x, v, h, hv => by
    have h' : l[i]? = some x := by simpa using h
    rw [List.flatMap_cons, List.getElem?_append_right (by rw [hf, Nat.succ_mul]; omega), hf, show (i + 1) * sz + j - sz = i * sz + j from by rw [Nat.succ_mul]; omega]
    exact flat_at hf l i j x v h' hv
end
theorem Box.put {w : World} {g T : Nat} {cs : List Value} (h : Box w g T cs) (j : Nat) (u : Value) (hj : cs[j]? = some u) : w.cell? ((⟨g, 0, none⟩ : Addr).add j) = some u := by
  have hadd : (⟨g, 0, none⟩ : Addr).add j = ⟨g, j, none⟩ := by unfold Addr.add; split <;> simp_all
  rw [hadd, h.cell, hj]
theorem Box.under {w w' : World} {g T B : Nat} {cs : List Value} (h : Box w g T cs) (hb : Below B w w') (hg : g < B) : Box w' g T cs := (hb.block g hg).trans h
theorem own_lies {α : Type} {d : Kd α} {f : α → List Value} {w : World} {B e k c : Nat} {A : Option Addr} {xs : List α} (h : w.ownsRow B e d.sz (.slice A k c) k (xs.flatMap f)) (hk : xs.length = k) (hf : ∀ x, (f x).length = d.sz) (hK : ∀ x, d.K w x (f x)) : Lies d w A xs := fun i x hi => by
  have hi' := lt_of hi
  obtain ⟨g, hA, hg, hc⟩ := own_elem h (by omega)
  refine ⟨_, f x, hA, hK x, fun j v hj => ?_⟩
  rw [add_add]
  exact hc _ v (flat_at hf xs i j x v hi hj)
theorem own_k {w : World} {B e size k c : Nat} {v : Value} {cs : List Value} (h : w.ownsRow B e size v k cs) {k' : Nat} (e' : k = k') : w.ownsRow B e size v k' cs := e' ▸ h
def fStr (s : ByteArray) : List Value := [.string s]

/-! ### Bytes of a string -/
section
variable {a b s : ByteArray} {k : Nat} {x y : UInt8} {r : Bool}
theorem byte_of (h : k < s.size) : ∃ x, s[k]? = some x := ⟨s[k], by simp [h]⟩
theorem drop_of (hx : s[k]? = some x) : s.toList.drop k = x :: s.toList.drop (k + 1) := by
  have hk : k < s.size := by
    rcases Nat.lt_or_ge k s.size with h | h
    · exact h
    · simp [h] at hx
  have hl : k < s.toList.length := by rw [ByteArray.toList_eq, Array.length_toList]; exact hk
  rw [List.drop_eq_getElem_cons hl]
  have : s.toList[k] = x := by
    have h1 : s[k] = x := by simpa [hk] using hx
    rw [← h1]
    simp only [ByteArray.toList_eq]
    rfl
  rw [this]
theorem drop_end (hk : ¬ k < s.size) : s.toList.drop k = [] := by
  rw [List.drop_eq_nil_iff, ByteArray.toList_eq, Array.length_toList]
  exact Nat.le_of_not_lt hk
theorem less_short (h : Op.bytesLess (a.toList.drop k) (b.toList.drop k) = r) (ha : ¬ k < a.size) (hy : b[k]? = some y) : r = true := by
  rw [drop_end ha, drop_of hy] at h
  rw [← h]; rfl
theorem less_end (h : Op.bytesLess (a.toList.drop k) (b.toList.drop k) = r) (hb : ¬ k < b.size) : r = false := by
  rw [drop_end hb] at h
  rw [← h]
  cases a.toList.drop k <;> rfl
theorem less_ne (h : Op.bytesLess (a.toList.drop k) (b.toList.drop k) = r) (hx : a[k]? = some x) (hy : b[k]? = some y) (hne : x ≠ y) : r = decide ((x.toNat : Int) < (y.toNat : Int)) := by
  rw [drop_of hx, drop_of hy] at h
  rw [← h]
  have : (x == y) = false := by simpa using hne
  simp [Op.bytesLess, UInt8.lt_iff_toNat_lt, hne]
theorem less_step (h : Op.bytesLess (a.toList.drop k) (b.toList.drop k) = r) (hx : a[k]? = some x) (hy : b[k]? = some y) (he : x = y) : Op.bytesLess (a.toList.drop (k + 1)) (b.toList.drop (k + 1)) = r := by
  subst he
  rw [drop_of hx, drop_of hy] at h
  rw [← h]
  simp [Op.bytesLess]
theorem u8_eq (h : decide ((x.toNat : Int) ≠ (y.toNat : Int)) = false) : x = y := by
  have : (x.toNat : Int) = (y.toNat : Int) := by simpa using h
  exact UInt8.toNat.inj (by omega)
theorem u8_ne (h : decide ((x.toNat : Int) ≠ (y.toNat : Int)) = true) : x ≠ y := by
  intro e; subst e; simp at h
end

/-! ### Strings and numbers as elements -/
def kStr : Kd ByteArray := ⟨1, fun _ s cs => cs = [.string s], fun _ h => h⟩
def kInt : Kd Int := ⟨1, fun _ n cs => cs = [.int .i64 n], fun _ h => h⟩
def kByte : Kd UInt8 := ⟨1, fun _ b cs => cs = [.int .u8 b.toNat], fun _ h => h⟩

/-! ### The types of package api -/
structure Inst where
  replica : Int
  slot : Int
  deriving DecidableEq
structure Bal where
  number : Int
  replica : Int
  deriving DecidableEq
structure Stp where
  time : Int
  client : Int
  deriving DecidableEq
structure Txn where
  client : Int
  number : Int
  deriving DecidableEq
structure Rd where
  key : ByteArray
  ver : Stp
  deriving DecidableEq
structure Wr where
  key : ByteArray
  val : ByteArray
  deriving DecidableEq
structure Cmd where
  kind : Int
  txn : Txn
  stp : Stp
  shards : Int
  reads : List Rd
  writes : List Wr
  commit : Bool
  deriving DecidableEq
structure Dep where
  d0 : Int
  d1 : Int
  d2 : Int
  d3 : Int
  d4 : Int
  d5 : Int
  d6 : Int
  deriving DecidableEq
structure Rec where
  inst : Inst
  status : Int
  promise : Bal
  ballot : Bal
  cmd : Cmd
  seq : Int
  deps : Dep
  kept : Bool
  deriving DecidableEq
structure Msg where
  kind : Int
  src : Int
  dst : Int
  ballot : Bal
  r : Rec
  deriving DecidableEq

def vInst (i : Inst) : Value := .agg #[.int .i64 i.replica, .int .i64 i.slot]
def vBal (b : Bal) : Value := .agg #[.int .i64 b.number, .int .i64 b.replica]
def vStp (s : Stp) : Value := .agg #[.int .i64 s.time, .int .i64 s.client]
def vTxn (t : Txn) : Value := .agg #[.int .i64 t.client, .int .i64 t.number]
def vRd (r : Rd) : Value := .agg #[.string r.key, .int .i64 r.ver.time, .int .i64 r.ver.client]
def vWr (r : Wr) : Value := .agg #[.string r.key, .string r.val]
def vDep (d : Dep) : Value := .agg #[.int .i64 d.d0, .int .i64 d.d1, .int .i64 d.d2, .int .i64 d.d3, .int .i64 d.d4, .int .i64 d.d5, .int .i64 d.d6]
/-- Where a command's reads and writes lie, and how many there is room for. -/
structure Ptr where
  A : Option Addr
  n : Nat
  B : Option Addr
  m : Nat
def vCmd (c : Cmd) (p : Ptr) : Value := .agg #[.int .i64 c.kind, .int .i64 c.txn.client, .int .i64 c.txn.number, .int .i64 c.stp.time, .int .i64 c.stp.client, .int .i64 c.shards, .slice p.A c.reads.length p.n, .slice p.B c.writes.length p.m, .bool c.commit]
def vRec (r : Rec) (p : Ptr) : Value := .agg #[.int .i64 r.inst.replica, .int .i64 r.inst.slot, .int .i64 r.status, .int .i64 r.promise.number, .int .i64 r.promise.replica, .int .i64 r.ballot.number, .int .i64 r.ballot.replica, .int .i64 r.cmd.kind, .int .i64 r.cmd.txn.client, .int .i64 r.cmd.txn.number, .int .i64 r.cmd.stp.time, .int .i64 r.cmd.stp.client, .int .i64 r.cmd.shards, .slice p.A r.cmd.reads.length p.n, .slice p.B r.cmd.writes.length p.m, .bool r.cmd.commit, .int .i64 r.seq, .int .i64 r.deps.d0, .int .i64 r.deps.d1, .int .i64 r.deps.d2, .int .i64 r.deps.d3, .int .i64 r.deps.d4, .int .i64 r.deps.d5, .int .i64 r.deps.d6, .bool r.kept]
def vMsg (m : Msg) (p : Ptr) : Value := .agg #[.int .i64 m.kind, .int .i64 m.src, .int .i64 m.dst, .int .i64 m.ballot.number, .int .i64 m.ballot.replica, .int .i64 m.r.inst.replica, .int .i64 m.r.inst.slot, .int .i64 m.r.status, .int .i64 m.r.promise.number, .int .i64 m.r.promise.replica, .int .i64 m.r.ballot.number, .int .i64 m.r.ballot.replica, .int .i64 m.r.cmd.kind, .int .i64 m.r.cmd.txn.client, .int .i64 m.r.cmd.txn.number, .int .i64 m.r.cmd.stp.time, .int .i64 m.r.cmd.stp.client, .int .i64 m.r.cmd.shards, .slice p.A m.r.cmd.reads.length p.n, .slice p.B m.r.cmd.writes.length p.m, .bool m.r.cmd.commit, .int .i64 m.r.seq, .int .i64 m.r.deps.d0, .int .i64 m.r.deps.d1, .int .i64 m.r.deps.d2, .int .i64 m.r.deps.d3, .int .i64 m.r.deps.d4, .int .i64 m.r.deps.d5, .int .i64 m.r.deps.d6, .bool m.r.kept]

def kRd : Kd Rd := ⟨3, fun _ r cs => cs = [.string r.key, .int .i64 r.ver.time, .int .i64 r.ver.client], fun _ h => h⟩
def kWr : Kd Wr := ⟨2, fun _ r cs => cs = [.string r.key, .string r.val], fun _ h => h⟩

/-- A command's reads and writes lie where the value says. -/
structure CmdAt (w : World) (c : Cmd) (p : Ptr) : Prop where
  reads : Lies kRd w p.A c.reads
  rn : c.reads.length ≤ p.n
  rm : p.n ≤ 9223372036854775807
  writes : Lies kWr w p.B c.writes
  wn : c.writes.length ≤ p.m
  wm : p.m ≤ 9223372036854775807
theorem CmdAt.ext {w w' : World} {c : Cmd} {p : Ptr} (h : CmdAt w c p) (hx : Ext w w') : CmdAt w' c p := ⟨h.reads.ext hx, h.rn, h.rm, h.writes.ext hx, h.wn, h.wm⟩

theorem CmdAt.nil (w : World) {c : Cmd} {p : Ptr} (h : c.reads = []) (k : c.writes = []) (hn : p.n ≤ 9223372036854775807 := by decide) (hm : p.m ≤ 9223372036854775807 := by decide) : CmdAt w c p := ⟨by rw [h]; exact Lies.nil _ _ _, by rw [h]; exact Nat.zero_le _, hn, by rw [k]; exact Lies.nil _ _ _, by rw [k]; exact Nat.zero_le _, hm⟩

theorem Elem.far {w w' : World} {a : Addr} {cs : List Value} {g : Nat} (h : Elem w a cs) (s : Stored g w w') (hne : a.block ≠ g) : Elem w' a cs := fun j v hj => by
  have hb : (a.add j).block = a.block := by unfold Addr.add; split <;> rfl
  rw [← h j v hj]
  exact World.cell?_of_block (by rw [hb]; exact s.block a.block hne)
theorem Lies.far {α : Type} {d : Kd α} {w w' : World} {A : Option Addr} {xs : List α} {g : Nat} (h : Lies d w A xs) (s : Stored g w w') (hne : ∀ ad, A = some ad → ad.block ≠ g) (hK : ∀ x cs, d.K w x cs → d.K w' x cs) : Lies d w' A xs := fun i x hi =>
  let ⟨ad, cs, e, hk, hc⟩ := h i x hi
  ⟨ad, cs, e, hK x cs hk, hc.far s (by have hb : (ad.add (i * d.sz)).block = ad.block := (by unfold Addr.add; split <;> rfl); rw [hb]; exact hne ad e)⟩
theorem CmdAt.far {w w' : World} {c : Cmd} {p : Ptr} {g : Nat} (h : CmdAt w c p) (s : Stored g w w') (ha : ∀ ad, p.A = some ad → ad.block ≠ g) (hb : ∀ ad, p.B = some ad → ad.block ≠ g) : CmdAt w' c p := ⟨h.reads.far s ha fun _ _ h => h, h.rn, h.rm, h.writes.far s hb fun _ _ h => h, h.wn, h.wm⟩

/-- A command of few reads and writes. -/
def Slim (c : Cmd) : Prop := c.reads.length ≤ 1048576 ∧ c.writes.length ≤ 1048576
theorem slim_nil {c : Cmd} (h : c.reads = []) (k : c.writes = []) : Slim c := ⟨by rw [h]; exact Nat.zero_le _, by rw [k]; exact Nat.zero_le _⟩

/-- The cells of a command. -/
def fCmd (z : Cmd × Ptr) : List Value := [.int .i64 z.1.kind, .int .i64 z.1.txn.client, .int .i64 z.1.txn.number, .int .i64 z.1.stp.time, .int .i64 z.1.stp.client, .int .i64 z.1.shards, .slice z.2.A z.1.reads.length z.2.n, .slice z.2.B z.1.writes.length z.2.m, .bool z.1.commit]
/-- Commands in a row. -/
def kCmd : Kd (Cmd × Ptr) := ⟨9, fun w z cs => cs = fCmd z ∧ CmdAt w z.1 z.2, fun hx h => ⟨h.1, h.2.ext hx⟩⟩
theorem lies_box {α : Type} {d : Kd α} {f : α → List Value} {w : World} {g T : Nat} {xs : List α} {cs : List Value} (hb : Box w g T cs) (hc : cs = xs.flatMap f) (hf : ∀ x, (f x).length = d.sz) (hK : ∀ x ∈ xs, d.K w x (f x)) : Lies d w (some ⟨g, 0, none⟩) xs := fun i x hi => by
  subst hc
  refine ⟨_, f x, rfl, hK x (List.mem_of_getElem? hi), fun j v hj => ?_⟩
  rw [add_add]
  exact hb.put _ v (flat_at hf xs i j x v hi hj)
def fewR (r : Rd) : Bool := decide (r.key.size ≤ 100)
def fewW (x : Wr) : Bool := decide (x.key.size ≤ 100) && decide (x.val.size ≤ 100)
def fewOne (c : Cmd) : Bool := (c.reads.take 21).all fewR && (c.writes.take 21).all fewW && decide (c.reads.length ≤ 20) && decide (c.writes.length ≤ 20)
def few (l : List (Cmd × Ptr)) : Bool := l.all (fun z => fewOne z.1)
theorem all_upto {α : Type} {l : List α} {p : α → Bool} {k n : Nat} (h : (l.take k).all p = true) (hk : l.length ≤ k ∨ n ≤ k) : (l.take n).all p = true := by
  rw [List.all_eq_true] at h ⊢
  intro x hx
  refine h x ?_
  rcases hk with hk | hk
  · rw [List.take_of_length_le hk]; exact List.mem_of_mem_take hx
  · exact (List.take_subset_take_left l hk) hx
theorem fail_upto {α : Type} {l : List α} {p : α → Bool} {k n : Nat} {x : α} (hx : l[k]? = some x) (hk : k < n) (hp : p x = false) : (l.take n).all p = false := by
  rw [List.all_eq_false]
  refine ⟨x, List.mem_of_getElem? (i := k) ?_, by simp [hp]⟩
  rw [List.getElem?_take, if_pos hk, hx]
theorem few_ok {c : Cmd} {k m : Nat} (h1 : (c.reads.take k).all fewR = true) (h2 : (c.writes.take m).all fewW = true) (e1 : c.reads.length ≤ k ∨ 21 ≤ k) (e2 : c.writes.length ≤ m ∨ 21 ≤ m) (h3 : c.reads.length ≤ 20) (h4 : c.writes.length ≤ 20) : fewOne c = true := by
  simp [fewOne, all_upto h1 e1, all_upto h2 e2, h3, h4]
theorem few_r {c : Cmd} {k : Nat} {x : Rd} (hx : c.reads[k]? = some x) (hk : k < 21) (h : fewR x = false) : fewOne c = false := by simp [fewOne, fail_upto hx hk h]
theorem few_w {c : Cmd} {k : Nat} {x : Wr} (hx : c.writes[k]? = some x) (hk : k < 21) (h : fewW x = false) : fewOne c = false := by simp [fewOne, fail_upto hx hk h]
theorem few_n {c : Cmd} (h : 20 < c.reads.length) : fewOne c = false := by simp [fewOne]; omega
theorem few_m {c : Cmd} (h : 20 < c.writes.length) : fewOne c = false := by simp [fewOne]; omega
theorem few_slim {c : Cmd} (h : fewOne c = true) : Slim c := by
  simp only [fewOne, Bool.and_eq_true, decide_eq_true_eq] at h
  unfold Slim; omega

/-! ### '==' of them -/
section
variable {P : Program} {n : Nat} {ρ : Env} {w : World} {o : Oper} {t u : Nat} {x y : Operand}
theorem eq_Inst (hT : ints2T P t = true) (a b : Inst) (w : World) : (Op.equalIn 10000 t (vInst a) (vInst b)).run P w = .ok (decide (a = b)) w := by
  have h := eq_ints2 (w := w) (d := 9998) hT (a := a.replica) (b := a.slot) (c := b.replica) (e := b.slot) (k := .i64)
  have e : decide (a = b) = _ := (by cases a; cases b; simp : decide (a = b) = (decide (a.replica = b.replica) && decide (a.slot = b.slot)))
  rw [e]
  exact h
theorem x_eqInst {a b : Inst} (hT : ints2T P t = true) (ho : o.op = .binOp .eql t x y u) (hx : ev n ρ x = vInst a) (hy : ev n ρ y = vInst b) : Yields P o n ρ w (.bool (decide (a = b))) := x_aeql (ints2_guard hT) ho hx hy (eq_Inst hT a b w)
theorem x_neInst {a b : Inst} (hT : ints2T P t = true) (ho : o.op = .binOp .neq t x y u) (hx : ev n ρ x = vInst a) (hy : ev n ρ y = vInst b) : Yields P o n ρ w (.bool (!decide (a = b))) := x_aneq (ints2_guard hT) ho hx hy (eq_Inst hT a b w)
theorem eq_Bal (hT : ints2T P t = true) (a b : Bal) (w : World) : (Op.equalIn 10000 t (vBal a) (vBal b)).run P w = .ok (decide (a = b)) w := by
  have h := eq_ints2 (w := w) (d := 9998) hT (a := a.number) (b := a.replica) (c := b.number) (e := b.replica) (k := .i64)
  have e : decide (a = b) = _ := (by cases a; cases b; simp : decide (a = b) = (decide (a.number = b.number) && decide (a.replica = b.replica)))
  rw [e]
  exact h
theorem x_eqBal {a b : Bal} (hT : ints2T P t = true) (ho : o.op = .binOp .eql t x y u) (hx : ev n ρ x = vBal a) (hy : ev n ρ y = vBal b) : Yields P o n ρ w (.bool (decide (a = b))) := x_aeql (ints2_guard hT) ho hx hy (eq_Bal hT a b w)
theorem x_neBal {a b : Bal} (hT : ints2T P t = true) (ho : o.op = .binOp .neq t x y u) (hx : ev n ρ x = vBal a) (hy : ev n ρ y = vBal b) : Yields P o n ρ w (.bool (!decide (a = b))) := x_aneq (ints2_guard hT) ho hx hy (eq_Bal hT a b w)
theorem eq_Stp (hT : ints2T P t = true) (a b : Stp) (w : World) : (Op.equalIn 10000 t (vStp a) (vStp b)).run P w = .ok (decide (a = b)) w := by
  have h := eq_ints2 (w := w) (d := 9998) hT (a := a.time) (b := a.client) (c := b.time) (e := b.client) (k := .i64)
  have e : decide (a = b) = _ := (by cases a; cases b; simp : decide (a = b) = (decide (a.time = b.time) && decide (a.client = b.client)))
  rw [e]
  exact h
theorem x_eqStp {a b : Stp} (hT : ints2T P t = true) (ho : o.op = .binOp .eql t x y u) (hx : ev n ρ x = vStp a) (hy : ev n ρ y = vStp b) : Yields P o n ρ w (.bool (decide (a = b))) := x_aeql (ints2_guard hT) ho hx hy (eq_Stp hT a b w)
theorem x_neStp {a b : Stp} (hT : ints2T P t = true) (ho : o.op = .binOp .neq t x y u) (hx : ev n ρ x = vStp a) (hy : ev n ρ y = vStp b) : Yields P o n ρ w (.bool (!decide (a = b))) := x_aneq (ints2_guard hT) ho hx hy (eq_Stp hT a b w)
theorem eq_Txn (hT : ints2T P t = true) (a b : Txn) (w : World) : (Op.equalIn 10000 t (vTxn a) (vTxn b)).run P w = .ok (decide (a = b)) w := by
  have h := eq_ints2 (w := w) (d := 9998) hT (a := a.client) (b := a.number) (c := b.client) (e := b.number) (k := .i64)
  have e : decide (a = b) = _ := (by cases a; cases b; simp : decide (a = b) = (decide (a.client = b.client) && decide (a.number = b.number)))
  rw [e]
  exact h
theorem x_eqTxn {a b : Txn} (hT : ints2T P t = true) (ho : o.op = .binOp .eql t x y u) (hx : ev n ρ x = vTxn a) (hy : ev n ρ y = vTxn b) : Yields P o n ρ w (.bool (decide (a = b))) := x_aeql (ints2_guard hT) ho hx hy (eq_Txn hT a b w)
theorem x_neTxn {a b : Txn} (hT : ints2T P t = true) (ho : o.op = .binOp .neq t x y u) (hx : ev n ρ x = vTxn a) (hy : ev n ρ y = vTxn b) : Yields P o n ρ w (.bool (!decide (a = b))) := x_aneq (ints2_guard hT) ho hx hy (eq_Txn hT a b w)
theorem eq_Rd (hT : rdT P t = true) (a b : Rd) (w : World) : (Op.equalIn 10000 t (vRd a) (vRd b)).run P w = .ok (decide (a = b)) w := by
  have h := eq_rd (w := w) (d := 9997) hT (s := a.key) (s' := b.key) (a := a.ver.time) (b := a.ver.client) (c := b.ver.time) (e := b.ver.client) (k := .i64)
  have e : decide (a = b) = _ := (by obtain ⟨k, ⟨a, c⟩⟩ := a; obtain ⟨k', ⟨a', c'⟩⟩ := b; simp : decide (a = b) = (decide (a.key = b.key) && (decide (a.ver.time = b.ver.time) && decide (a.ver.client = b.ver.client))))
  rw [e]
  exact h
theorem x_eqRd {a b : Rd} (hT : rdT P t = true) (ho : o.op = .binOp .eql t x y u) (hx : ev n ρ x = vRd a) (hy : ev n ρ y = vRd b) : Yields P o n ρ w (.bool (decide (a = b))) := x_aeql (rd_guard hT) ho hx hy (eq_Rd hT a b w)
theorem x_neRd {a b : Rd} (hT : rdT P t = true) (ho : o.op = .binOp .neq t x y u) (hx : ev n ρ x = vRd a) (hy : ev n ρ y = vRd b) : Yields P o n ρ w (.bool (!decide (a = b))) := x_aneq (rd_guard hT) ho hx hy (eq_Rd hT a b w)
theorem eq_Wr (hT : strs2T P t = true) (a b : Wr) (w : World) : (Op.equalIn 10000 t (vWr a) (vWr b)).run P w = .ok (decide (a = b)) w := by
  have h := eq_strs2 (w := w) (d := 9998) hT (a := a.key) (b := a.val) (c := b.key) (e := b.val)
  have e : decide (a = b) = _ := (by cases a; cases b; simp : decide (a = b) = (decide (a.key = b.key) && decide (a.val = b.val)))
  rw [e]
  exact h
theorem x_eqWr {a b : Wr} (hT : strs2T P t = true) (ho : o.op = .binOp .eql t x y u) (hx : ev n ρ x = vWr a) (hy : ev n ρ y = vWr b) : Yields P o n ρ w (.bool (decide (a = b))) := x_aeql (strs2_guard hT) ho hx hy (eq_Wr hT a b w)
theorem x_neWr {a b : Wr} (hT : strs2T P t = true) (ho : o.op = .binOp .neq t x y u) (hx : ev n ρ x = vWr a) (hy : ev n ρ y = vWr b) : Yields P o n ρ w (.bool (!decide (a = b))) := x_aneq (strs2_guard hT) ho hx hy (eq_Wr hT a b w)
theorem eq_Dep (hT : intsT P t 7 = true) (a b : Dep) (w : World) : (Op.equalIn 10000 t (vDep a) (vDep b)).run P w = .ok (decide (a = b)) w := by
  have h := eq_ints7 (w := w) (d := 9998) hT (k := .i64) (a0 := a.d0) (a1 := a.d1) (a2 := a.d2) (a3 := a.d3) (a4 := a.d4) (a5 := a.d5) (a6 := a.d6) (b0 := b.d0) (b1 := b.d1) (b2 := b.d2) (b3 := b.d3) (b4 := b.d4) (b5 := b.d5) (b6 := b.d6)
  have e : decide (a = b) = _ := (by cases a; cases b; simp : decide (a = b) = (decide (a.d0 = b.d0) && (decide (a.d1 = b.d1) && (decide (a.d2 = b.d2) && (decide (a.d3 = b.d3) && (decide (a.d4 = b.d4) && (decide (a.d5 = b.d5) && (decide (a.d6 = b.d6)))))))))
  rw [e]
  exact h
theorem x_eqDep {a b : Dep} (hT : intsT P t 7 = true) (ho : o.op = .binOp .eql t x y u) (hx : ev n ρ x = vDep a) (hy : ev n ρ y = vDep b) : Yields P o n ρ w (.bool (decide (a = b))) := x_aeql (ints_guard hT) ho hx hy (eq_Dep hT a b w)
theorem x_neDep {a b : Dep} (hT : intsT P t 7 = true) (ho : o.op = .binOp .neq t x y u) (hx : ev n ρ x = vDep a) (hy : ev n ρ y = vDep b) : Yields P o n ρ w (.bool (!decide (a = b))) := x_aneq (ints_guard hT) ho hx hy (eq_Dep hT a b w)
end

/-! ### The plain answers -/
def within (n low high : Int) : Bool := decide (low ≤ n) && decide (n ≤ high)
def rightBal (b : Bal) : Bool := within b.number 0 1099511627776 && within b.replica 0 6
def rightStp (s : Stp) : Bool := within s.time 0 1099511627776 && within s.client 0 3
def rightTxn (t : Txn) : Bool := within t.client 0 3 && within t.number 1 1099511627776
def rightInst (i : Inst) : Bool := within i.replica 0 6 && within i.slot 1 1048576
def cmp2 (a b c d : Int) : Int := if a < c then -1 else if a > c then 1 else if b < d then -1 else if b > d then 1 else 0
def cmpBal (a b : Bal) : Int := cmp2 a.number a.replica b.number b.replica
def cmpStp (a b : Stp) : Int := cmp2 a.time a.client b.time b.client
theorem cmpBal_swap (a b : Bal) : cmpBal a b = - cmpBal b a := by
  unfold cmpBal cmp2
  (repeat' split) <;> omega
theorem cmpStp_swap (a b : Stp) : cmpStp a b = - cmpStp b a := by
  unfold cmpStp cmp2
  (repeat' split) <;> omega
def rightDep (d : Dep) : Bool := within d.d0 0 1048576 && within d.d1 0 1048576 && within d.d2 0 1048576 && within d.d3 0 1048576 && within d.d4 0 1048576 && within d.d5 0 1048576 && within d.d6 0 1048576
def rightKey (s : ByteArray) : Bool := decide (1 ≤ s.size) && decide (s.size ≤ 8)
def strLt (a b : ByteArray) : Bool := Op.bytesLess a.toList b.toList
/-- a key that may be, and is above the one before it -/
def keyOk (l : List ByteArray) (i : Nat) : Bool := rightKey (l.getD i ByteArray.empty) && (decide (i = 0) || strLt (l.getD (i - 1) ByteArray.empty) (l.getD i ByteArray.empty))
def keysTo (l : List ByteArray) (k : Nat) : Bool := (List.range k).all (keyOk l)
def rightKeys (l : List ByteArray) : Bool := keysTo l l.length && decide (l.length ≤ 8)
theorem right_size {s : ByteArray} (h : rightKey s = true) : s.size ≤ 9223372036854775807 := by
  simp only [rightKey, Bool.and_eq_true, decide_eq_true_eq] at h
  omega
theorem keys_prev {l : List ByteArray} {k j : Nat} {z : ByteArray} (h : keysTo l k = true) (hj : j < k) (hz : l[j]? = some z) : rightKey z = true := by
  have := List.all_eq_true.1 h j (List.mem_range.2 hj)
  simp only [keyOk, getD_of hz, Bool.and_eq_true] at this
  exact this.1
abbrev zStp : Stp := ⟨0, 0⟩
abbrev zTxn : Txn := ⟨0, 0⟩
abbrev zBal : Bal := ⟨0, 0⟩
abbrev zDep : Dep := ⟨0, 0, 0, 0, 0, 0, 0⟩
abbrev noop : Cmd := ⟨0, zTxn, zStp, 0, [], [], false⟩
def oldRd (c : Cmd) (r : Rd) : Bool := rightStp r.ver && decide (cmpStp r.ver c.stp < 0)
def rightCmd (c : Cmd) : Bool :=
  if c.kind = 0 then decide (c = noop)
  else decide (c.kind = 1 ∨ c.kind = 2) && rightTxn c.txn && rightStp c.stp && decide (1 ≤ c.stp.time) && decide (c.stp.client = c.txn.client) && decide (1 ≤ c.shards) && decide (c.shards ≤ 15)
    && !(c.reads.isEmpty && c.writes.isEmpty) && !(c.commit && decide (c.kind = 1)) && c.reads.all (oldRd c) && c.writes.all (fun x => decide (x.val.size ≤ 8)) && rightKeys (c.reads.map (·.key)) && rightKeys (c.writes.map (·.key))
theorem stp_low {s : Stp} (h : rightStp s = true) : 0 ≤ s.time := by
  simp only [rightStp, within, Bool.and_eq_true, decide_eq_true_eq] at h
  omega
theorem rightCmd_reads {c : Cmd} (hk : c.kind ≠ 0) (h : c.reads.all (oldRd c) = false) : rightCmd c = false := by simp [rightCmd, if_neg hk, h]
theorem rightCmd_writes {c : Cmd} (hk : c.kind ≠ 0) (h : c.writes.all (fun x : Wr => decide (x.val.size ≤ 8)) = false) : rightCmd c = false := by simp only [rightCmd, if_neg hk, h]; simp
theorem rightCmd_end {c : Cmd} (hk : c.kind ≠ 0) {x y : Bool} (hr : c.reads.all (oldRd c) = true) (hw : c.writes.all (fun x : Wr => decide (x.val.size ≤ 8)) = true) (hx : rightKeys (c.reads.map (·.key)) = x) (hy : x = true → rightKeys (c.writes.map (·.key)) = y) (hy' : x = false → y = false)
    (hh : (decide (c.kind = 1 ∨ c.kind = 2) && rightTxn c.txn && rightStp c.stp && decide (1 ≤ c.stp.time) && decide (c.stp.client = c.txn.client) && decide (1 ≤ c.shards) && decide (c.shards ≤ 15) && !(c.reads.isEmpty && c.writes.isEmpty) && !(c.commit && decide (c.kind = 1))) = true) : y = rightCmd c := by
  simp only [rightCmd, if_neg hk, hh, hr, hw, hx]
  cases x
  · simp [hy' rfl]
  · simp [hy rfl]
theorem rightCmd_head {c : Cmd} (hk : c.kind ≠ 0) (hh : (decide (c.kind = 1 ∨ c.kind = 2) && rightTxn c.txn && rightStp c.stp && decide (1 ≤ c.stp.time) && decide (c.stp.client = c.txn.client) && decide (1 ≤ c.shards) && decide (c.shards ≤ 15) && !(c.reads.isEmpty && c.writes.isEmpty) && !(c.commit && decide (c.kind = 1))) = false) : rightCmd c = false := by
  simp only [rightCmd, if_neg hk, hh]
  simp
theorem empty_len {α : Type} (l : List α) : l.isEmpty = decide (l.length = 0) := by cases l <;> simp
def rightRec (r : Rec) : Bool :=
  rightInst r.inst && rightBal r.promise && rightBal r.ballot && decide (cmpBal r.ballot r.promise ≤ 0) && within r.status 0 3 && !(r.kept && decide (r.status ≠ 1)) &&
  (if r.status = 0 then decide (r.ballot = zBal) && decide (r.seq = 0) && decide (r.deps = zDep) && decide (r.cmd = noop) else rightCmd r.cmd && within r.seq 1 1099511627776 && rightDep r.deps)
def rightMsg (m : Msg) : Bool := within m.kind 1 8 && within m.src 0 6 && within m.dst 0 6 && rightBal m.ballot && rightRec m.r
/-- a record to be done, of a status -/
def asRec (r : Rec) (k : Int) : Rec := ⟨r.inst, k, zBal, zBal, r.cmd, r.seq, r.deps, decide (k = 1)⟩
end Go.Eng
