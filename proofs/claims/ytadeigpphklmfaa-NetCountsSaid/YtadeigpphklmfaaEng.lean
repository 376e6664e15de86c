/- The walker's laws: a frame told as a function from slots to values, one law an operation, one law a form of code; contracts of functions that add memory and change none. Generic over the program. -/
import Derived.WalkKit
import Derived.WalkLawsBesides
import Derived.Deep.Quiet
import Derived.KernelRfl
set_option linter.unusedVariables false
set_option linter.unusedSimpArgs false
namespace Go.Eng
open Go.RowKit

/-! ### 1. The frame -/
abbrev Env := Nat → Value
def up (ρ : Env) (d : Nat) (v : Value) : Env := fun k => bif Nat.beq k d then v else ρ k
def act (n : Nat) (ρ : Env) : Act := ⟨((List.range n).map ρ).toArray, []⟩
def ev (n : Nat) (ρ : Env) : Operand → Value
  | .tmp t => bif Nat.blt t n then ρ t else undef
  | .const v => v
  | .global g => .pointer (some ⟨g, 0, none⟩)
  | .func f => .func (.func f) #[] #[]

theorem up_same (ρ : Env) (d : Nat) (v : Value) : up ρ d v d = v := by simp [up]
theorem up_ne (ρ : Env) {d k : Nat} (v : Value) (h : k ≠ d) : up ρ d v k = ρ k := by
  unfold up
  rw [show Nat.beq k d = false from by rw [Bool.eq_false_iff]; intro e; exact h (Nat.eq_of_beq_eq_true e)]
  rfl

theorem blt_eq (a b : Nat) : Nat.blt a b = decide (a < b) := by
  rw [Bool.eq_iff_iff]
  simp [Nat.blt_eq]

theorem act_eval (n : Nat) (ρ : Env) (x : Operand) : (act n ρ).eval x = ev n ρ x := by
  cases x with
  | tmp t =>
    simp only [Act.eval, act, ev, blt_eq]
    by_cases h : t < n
    · simp [h]
    · simp [h]
  | const v => rfl
  | global g => rfl
  | func f => rfl

theorem act_eval' (n : Nat) (ρ : Env) : (act n ρ).eval = ev n ρ := funext (act_eval n ρ)

theorem act_put (n : Nat) (ρ : Env) (d : Nat) (v : Value) : (act n ρ).put (some d) v = act n (up ρ d v) := by
  simp only [Act.put, act, Act.mk.injEq, and_true]
  apply Array.ext
  · simp
  · intro i h1 h2
    simp only [List.setIfInBounds_toArray, List.getElem_toArray, List.getElem_set, List.getElem_map, List.getElem_range]
    by_cases e : d = i
    · subst e; simp [up]
    · rw [if_neg e, up_ne _ _ (Ne.symm e)]

theorem act_put_none (n : Nat) (ρ : Env) (v : Value) : (act n ρ).put none v = act n ρ := rfl

def start (args : Array Value) : Env := fun k => args.getD k undef

theorem act_init (args : Array Value) (n : Nat) (h : args.size ≤ n) : (⟨args ++ Array.replicate (n - args.size) undef, []⟩ : Act) = act n (start args) := by
  simp only [act, Act.mk.injEq, and_true]
  apply Array.ext
  · simp; omega
  · intro i h1 h2
    simp only [List.getElem_toArray, List.getElem_map, List.getElem_range, start]
    by_cases hi : i < args.size
    · rw [Array.getElem_append_left hi]
      simp [hi]
    · rw [Array.getElem_append_right (by omega)]
      simp [Array.getD, hi]

/-- Is the operation performed? -/
def wanted (n : Nat) (ops : Array Oper) (ρ : Env) (o : Oper) : Bool :=
  match o.guard with
  | none => true
  | some (j, b) => match (ops[j]?).bind (·.dst) with
    | some s => match (bif Nat.blt s n then ρ s else undef) with
      | .bool b' => bif b then b' else !b'
      | _ => false
    | none => false

theorem tmps_get (n : Nat) (ρ : Env) (s : Nat) : (act n ρ).tmps[s]? = bif Nat.blt s n then some (ρ s) else none := by
  simp only [act, blt_eq, List.getElem?_toArray, List.getElem?_map]
  by_cases h : s < n
  · simp [h]
  · simp [h]

theorem wanted_eq (n : Nat) (ops : Array Oper) (ρ : Env) (o : Oper) : Region.wanted o (yielded ops (act n ρ).tmps) = wanted n ops ρ o := by
  unfold Region.wanted wanted yielded
  cases o.guard with
  | none => rfl
  | some g =>
    obtain ⟨j, b⟩ := g
    simp only
    cases (ops[j]?).bind (·.dst) with
    | none => simp
    | some s =>
      simp only [Option.bind_some, tmps_get]
      cases Nat.blt s n with
      | false => simp [undef]
      | true =>
        simp only [cond_true]
        cases ρ s <;> simp
        case bool x => cases b <;> cases x <;> rfl

/-! ### 2. What stays: memory is added, none is changed -/
abbrev Ext (w w' : World) : Prop := Below w.heap.size w w'
theorem Ext.refl (w : World) : Ext w w := Below.refl _ _
theorem Ext.trans {a b c : World} (h : Ext a b) (k : Ext b c) : Ext a c := Below.trans h (k.mono h.size)
theorem Ext.drew {a b : World} (h : Ext a b) : Ext a b.drew := Below.drew h
theorem Ext.alloc {a b : World} (h : Ext a b) (o : Obj) : Ext a (b.alloc o) := Below.alloc h h.size o
theorem Ext.cell {w w' : World} (h : Ext w w') {a : Addr} {v : Value} (hc : w.cell? a = some v) : w'.cell? a = some v :=
  (Below.cell h (World.block_lt_of_cell? w a hc)).trans hc

/-- The contract of a function that hands back one known value and changes no memory. -/
def Ret (w : World) (v : Value) (e : Ending) (w' : World) : Prop := e = .returned v ∧ Ext w w'
theorem Ret.mk {w w' : World} {v v' : Value} (h : v' = v) (hx : Ext w w') : Ret w v (.returned v') w' := ⟨by rw [h], hx⟩

/-- Block g holds just these cells. -/
def Box (w : World) (g : Nat) (t : TypeId) (cs : List Value) : Prop := w.heap[g]? = some (.cells cs.toArray t (0, 0))
theorem Box.lt {w : World} {g : Nat} {t : TypeId} {cs : List Value} (h : Box w g t cs) : g < w.heap.size := by
  rcases Nat.lt_or_ge g w.heap.size with hlt | hge
  · exact hlt
  · unfold Box at h; rw [Array.getElem?_eq_none hge] at h; cases h
theorem Box.ext {w w' : World} {g : Nat} {t : TypeId} {cs : List Value} (h : Box w g t cs) (hx : Ext w w') : Box w' g t cs := (hx.block g h.lt).trans h
theorem Box.new (w : World) (t : TypeId) (cs : Array Value) : Box (w.alloc (.cells cs t)) w.heap.size t cs.toList := by
  exact heap_alloc_new w _
theorem Box.cell {w : World} {g : Nat} {t : TypeId} {cs : List Value} (h : Box w g t cs) (i : Nat) : w.cell? ⟨g, i, none⟩ = cs[i]? := by
  unfold Box at h
  simp [World.cell?, h]
theorem Box.frozen {w : World} {g : Nat} {t : TypeId} {cs : List Value} (h : Box w g t cs) (i : Nat) : w.frozen? ⟨g, i, none⟩ = false := by
  unfold Box at h
  simp [World.frozen?, h]
theorem Box.alloc {w : World} {g : Nat} {t : TypeId} {cs : List Value} (h : Box w g t cs) (o : Obj) : Box (w.alloc o) g t cs := h.ext ((Ext.refl w).alloc o)
theorem Box.drew {w : World} {g : Nat} {t : TypeId} {cs : List Value} (h : Box w g t cs) : Box w.drew g t cs := h

/-! ### 3. One operation: what it yields -/
theorem beq_str (a b : ByteArray) : (a.toList == b.toList) = decide (a = b) := by
  rw [Bool.eq_iff_iff, beq_iff_eq, decide_eq_true_iff, ByteArray.toList_eq, ByteArray.toList_eq]
  exact ⟨fun h => WideShapes.bytes_inj h, fun h => by rw [h]⟩
theorem run_equal_bool {P : Program} {t : TypeId} (hu : P.underlying t = some .bool) (a b : Bool) (w : World) : (Op.equal t (.bool a) (.bool b)).run P w = .ok (a == b) w := by
  show (Op.equalIn (9999 + 1) t (.bool a) (.bool b)).run P w = _
  rw [Op.equalIn]
  simp only [Sem.run_bind, run_underlying hu, Result.andThen_ok]
  rfl
def Yields (P : Program) (o : Oper) (n : Nat) (ρ : Env) (w : World) (v : Value) : Prop := (execOp (ev n ρ) o).run P w = .ok (.value v) w

section
variable {P : Program} {n : Nat} {ρ : Env} {w : World} {o : Oper}

theorem x_move {x : Operand} {v : Value} (ho : o.op = .move x) (hv : ev n ρ x = v) : Yields P o n ρ w v := by
  simp [Yields, execOp, ho, hv]
theorem x_assign {x : Operand} {v : Value} (ho : o.op = .assign x) (hv : ev n ρ x = v) : Yields P o n ρ w v := by
  simp [Yields, execOp, ho, hv]
theorem x_pick_t {c a b : Operand} {v : Value} (ho : o.op = .pick c a b) (hc : ev n ρ c = .bool true) (hv : ev n ρ a = v) : Yields P o n ρ w v := by
  simp [Yields, execOp, ho, hc, hv, asBool]
theorem x_pick_f {c a b : Operand} {v : Value} (ho : o.op = .pick c a b) (hc : ev n ρ c = .bool false) (hv : ev n ρ b = v) : Yields P o n ρ w v := by
  simp [Yields, execOp, ho, hc, hv, asBool]
theorem x_not {t : TypeId} {x : Operand} {b : Bool} (ho : o.op = .unOp .not t x) (hx : ev n ρ x = .bool b) : Yields P o n ρ w (.bool !b) := by
  simp [Yields, execOp, ho, hx, Op.unary]
theorem x_neg {t : TypeId} {x : Operand} {a : Int} (ho : o.op = .unOp .neg t x) (hx : ev n ρ x = .int .i64 a) : Yields P o n ρ w (.int .i64 (IntKind.i64.wrap (0 - a))) := by
  simp [Yields, execOp, ho, hx, Op.unary, Op.intArith]
section cmp
variable {x y : Operand} {t u : TypeId} {k : IntKind} {a b : Int}
theorem x_lss (ho : o.op = .binOp .lss t x y u) (hx : ev n ρ x = .int k a) (hy : ev n ρ y = .int k b) : Yields P o n ρ w (.bool (decide (a < b))) := by
  simp [Yields, execOp, ho, hx, hy, eqGuard, binOp, Op.intCmp]
theorem x_leq (ho : o.op = .binOp .leq t x y u) (hx : ev n ρ x = .int k a) (hy : ev n ρ y = .int k b) : Yields P o n ρ w (.bool (decide (a ≤ b))) := by
  simp [Yields, execOp, ho, hx, hy, eqGuard, binOp, Op.intCmp]
theorem x_gtr (ho : o.op = .binOp .gtr t x y u) (hx : ev n ρ x = .int k a) (hy : ev n ρ y = .int k b) : Yields P o n ρ w (.bool (decide (a > b))) := by
  simp [Yields, execOp, ho, hx, hy, eqGuard, binOp, Op.intCmp]
theorem x_geq (ho : o.op = .binOp .geq t x y u) (hx : ev n ρ x = .int k a) (hy : ev n ρ y = .int k b) : Yields P o n ρ w (.bool (decide (a ≥ b))) := by
  simp [Yields, execOp, ho, hx, hy, eqGuard, binOp, Op.intCmp]
theorem x_eql (ho : o.op = .binOp .eql t x y u) (hx : ev n ρ x = .int k a) (hy : ev n ρ y = .int k b) : Yields P o n ρ w (.bool (decide (a = b))) := by
  simp [Yields, execOp, ho, hx, hy, eqGuard, binOp, Op.intCmp]
  rfl
theorem x_neq (ho : o.op = .binOp .neq t x y u) (hx : ev n ρ x = .int k a) (hy : ev n ρ y = .int k b) : Yields P o n ρ w (.bool (decide (a ≠ b))) := by
  simp [Yields, execOp, ho, hx, hy, eqGuard, binOp, Op.intCmp]
  rfl
theorem x_add {c : Int} (ho : o.op = .binOp .add t x y u) (hx : ev n ρ x = .int k a) (hy : ev n ρ y = .int k b) (hc : k.wrap (a + b) = c) : Yields P o n ρ w (.int k c) := by
  simp [Yields, execOp, ho, hx, hy, eqGuard, binOp, Op.intArith, hc]
theorem x_sub {c : Int} (ho : o.op = .binOp .sub t x y u) (hx : ev n ρ x = .int k a) (hy : ev n ρ y = .int k b) (hc : k.wrap (a - b) = c) : Yields P o n ρ w (.int k c) := by
  simp [Yields, execOp, ho, hx, hy, eqGuard, binOp, Op.intArith, hc]
theorem x_mul {c : Int} (ho : o.op = .binOp .mul t x y u) (hx : ev n ρ x = .int k a) (hy : ev n ρ y = .int k b) (hc : k.wrap (a * b) = c) : Yields P o n ρ w (.int k c) := by
  simp [Yields, execOp, ho, hx, hy, eqGuard, binOp, Op.intArith, hc]
theorem x_quo {c : Int} (ho : o.op = .binOp .quo t x y u) (hx : ev n ρ x = .int k a) (hy : ev n ρ y = .int k b) (hb : b ≠ 0) (hc : k.wrap (a.tdiv b) = c) : Yields P o n ρ w (.int k c) := by
  simp [Yields, execOp, ho, hx, hy, eqGuard, binOp, Op.intDiv, hb, hc]
theorem x_rem {c : Int} (ho : o.op = .binOp .rem t x y u) (hx : ev n ρ x = .int k a) (hy : ev n ρ y = .int k b) (hb : b ≠ 0) (hc : a.tmod b = c) : Yields P o n ρ w (.int k c) := by
  simp [Yields, execOp, ho, hx, hy, eqGuard, binOp, Op.intDiv, hb, hc]
end cmp
section str
variable {x y : Operand} {t u : TypeId} {a b : ByteArray}
theorem x_seql (ho : o.op = .binOp .eql t x y u) (hx : ev n ρ x = .string a) (hy : ev n ρ y = .string b) : Yields P o n ρ w (.bool (decide (a = b))) := by
  simp [Yields, execOp, ho, hx, hy, eqGuard, binOp, Op.stringOp, beq_str]
theorem x_sneq (ho : o.op = .binOp .neq t x y u) (hx : ev n ρ x = .string a) (hy : ev n ρ y = .string b) : Yields P o n ρ w (.bool (decide (a ≠ b))) := by
  simp [Yields, execOp, ho, hx, hy, eqGuard, binOp, Op.stringOp, beq_str]
end str
theorem x_slss {x y : Operand} {t u : TypeId} {a b : ByteArray} (ho : o.op = .binOp .lss t x y u) (hx : ev n ρ x = .string a) (hy : ev n ρ y = .string b) : Yields P o n ρ w (.bool (Op.bytesLess a.toList b.toList)) := by
  simp [Yields, execOp, ho, hx, hy, eqGuard, binOp, Op.stringOp]
theorem x_sgeq {x y : Operand} {t u : TypeId} {a b : ByteArray} (ho : o.op = .binOp .geq t x y u) (hx : ev n ρ x = .string a) (hy : ev n ρ y = .string b) : Yields P o n ρ w (.bool (!Op.bytesLess a.toList b.toList)) := by
  simp [Yields, execOp, ho, hx, hy, eqGuard, binOp, Op.stringOp]
section bools
variable {x y : Operand} {t u : TypeId} {a b : Bool}
def isBoolT (P : Program) (t : TypeId) : Bool := match P.underlying t with | some .bool => true | _ => false
theorem x_beql (hT : isBoolT P t = true) (ho : o.op = .binOp .eql t x y u) (hx : ev n ρ x = .bool a) (hy : ev n ρ y = .bool b) : Yields P o n ρ w (.bool (a == b)) := by
  have hu : P.underlying t = some .bool := by unfold isBoolT at hT; split at hT <;> simp_all
  simp [Yields, execOp, ho, hx, hy, eqGuard, binOp, run_equal_bool hu]
theorem x_bneq (hT : isBoolT P t = true) (ho : o.op = .binOp .neq t x y u) (hx : ev n ρ x = .bool a) (hy : ev n ρ y = .bool b) : Yields P o n ρ w (.bool (!(a == b))) := by
  have hu : P.underlying t = some .bool := by unfold isBoolT at hT; split at hT <;> simp_all
  simp [Yields, execOp, ho, hx, hy, eqGuard, binOp, run_equal_bool hu]
end bools

/-! ### 4. Memory that is read -/
def aggDesc : TypeDesc → Bool
  | .struct _ | .array _ _ => true
  | _ => false
/-- a type of one cell -/
def oneT (P : Program) (t : TypeId) : Bool := match P.underlying t with | none => false | some d => !aggDesc d
/-- a struct or an array of k cells -/
def aggT (P : Program) (t : TypeId) (k : Nat) : Bool := (match P.underlying t with | some d => aggDesc d | none => false) && ((P.info? t).map (·.size)) == some k
def fieldT (P : Program) (t : TypeId) (j off : Nat) : Bool := match P.underlying t with
  | some (.struct fs) => match fs[j]? with
    | some f => f.offset == off && (match P.info? f.type with | some i => i.size != 0 | none => false)
    | none => false
  | _ => false
def sliceT (P : Program) (t size : Nat) : Bool := match P.underlying t with
  | some (.slice e) => ((P.info? e).map (·.size)) == some size
  | _ => false
def stringT (P : Program) (t : Nat) : Bool := match P.underlying t with
  | some .string => true
  | _ => false

def LoadsAs (P : Program) (w : World) (t : TypeId) (a : Addr) (v : Value) : Prop := (loadVar t a).run P w = .ok v w

theorem run_typeInfo' {P : Program} {t : TypeId} {i : TypeInfo} (h : P.info? t = some i) (w : World) : (typeInfo t).run P w = .ok i w := by
  simp [typeInfo, program, h, Sem.run]
theorem run_sizeOf' {P : Program} {t : TypeId} {k : Nat} (h : (P.info? t).map (·.size) = some k) (w : World) : (sizeOf t).run P w = .ok k w := by
  cases hi : P.info? t with
  | none => rw [hi] at h; cases h
  | some i =>
    rw [hi] at h
    simp only [Option.map_some, Option.some.injEq] at h
    simp [sizeOf, run_typeInfo' hi, h]

theorem run_isAgg {P : Program} {t : TypeId} {d : TypeDesc} (hu : P.underlying t = some d) (w : World) : (isAgg t).run P w = .ok (aggDesc d) w := by
  unfold isAgg
  simp only [Sem.run_bind, run_underlying hu, Result.andThen_ok]
  cases d <;> rfl
theorem loads_one {t : TypeId} {a : Addr} {v : Value} (h : oneT P t = true) (hc : w.cell? a = some v) : LoadsAs P w t a v := by
  unfold LoadsAs loadVar
  unfold oneT at h
  have hl : (load a).run P w = .ok v w := by simp [load, Sem.run, hc]
  cases hu : P.underlying t with
  | none => rw [hu] at h; cases h
  | some d =>
    rw [hu] at h
    have h' : aggDesc d = false := by simpa using h
    simp only [Sem.run_bind, run_isAgg hu, Result.andThen_ok, h', Bool.false_eq_true, if_false]
    exact hl
theorem loads_agg {t : TypeId} {a : Addr} {vs : List Value} (h : aggT P t vs.length = true) (hc : ∀ j v, vs[j]? = some v → w.cell? (a.add j) = some v) : LoadsAs P w t a (.agg vs.toArray) := by
  unfold aggT at h
  rw [Bool.and_eq_true] at h
  obtain ⟨h1, h2⟩ := h
  have h2' : (P.info? t).map (·.size) = some vs.length := by simpa using h2
  have hl := run_loadCells_list (P := P) (w := w) a vs hc
  unfold LoadsAs loadVar
  cases hu : P.underlying t with
  | none => rw [hu] at h1; cases h1
  | some d =>
    rw [hu] at h1
    dsimp only at h1
    simp only [Sem.run_bind, run_isAgg hu, Result.andThen_ok, h1, if_true, run_sizeOf' h2', hl]
    rfl

theorem x_load {t : TypeId} {x : Operand} {a : Addr} {v : Value} (ho : o.op = .load t x) (hx : ev n ρ x = .pointer (some a)) (h : LoadsAs P w t a v) : Yields P o n ρ w v := by
  unfold LoadsAs at h
  simp [Yields, execOp, ho, hx, Instr.loadAt, Instr.sureAddr, h]

/-- a field of a variable in a block -/
theorem Box.one {g i : Nat} {t T : TypeId} {cs : List Value} {v : Value} (h : Box w g T cs) (ht : oneT P t = true) (hv : cs[i]? = some v) : LoadsAs P w t ⟨g, i, none⟩ v :=
  loads_one ht ((h.cell i).trans hv)
theorem Box.agg {g i : Nat} {t T : TypeId} {cs vs : List Value} (h : Box w g T cs) (ht : aggT P t vs.length = true) (hv : (cs.drop i).take vs.length = vs) : LoadsAs P w t ⟨g, i, none⟩ (.agg vs.toArray) :=
  loads_agg ht fun j v hj => by
    have : (⟨g, i, none⟩ : Addr).add j = ⟨g, i + j, none⟩ := by unfold Addr.add; split <;> simp_all
    rw [this, h.cell]
    rw [← hv] at hj
    have hjl : j < vs.length := by
      have := (List.getElem?_eq_some_iff.1 hj).1
      simp only [List.length_take] at this
      omega
    rw [List.getElem?_take, if_pos hjl, List.getElem?_drop] at hj
    exact hj

theorem x_fieldAddr {t : TypeId} {x : Operand} {j off : Nat} {a b : Addr} (hT : fieldT P t j off = true) (ho : o.op = .fieldAddr t x j) (hx : ev n ρ x = .pointer (some a)) (hb : a.add off = b) : Yields P o n ρ w (.pointer (some b)) := by
  unfold fieldT at hT
  cases hu : P.underlying t with
  | none => rw [hu] at hT; cases hT
  | some d =>
    rw [hu] at hT
    cases d <;> try cases hT
    case struct fs =>
      dsimp only at hT
      cases hf : fs[j]? with
      | none => rw [hf] at hT; cases hT
      | some f =>
        rw [hf] at hT
        dsimp only at hT
        rw [Bool.and_eq_true] at hT
        obtain ⟨h1, h2⟩ := hT
        cases hi : P.info? f.type with
        | none => rw [hi] at h2; cases h2
        | some i =>
          rw [hi] at h2
          have ho' : f.offset = off := by simpa using h1
          have hs : i.size ≠ 0 := by simpa using h2
          simp [Yields, execOp, ho, hx, Instr.fieldAt, run_underlying hu, hf, Instr.sureAddr, fieldPlace, sizeOf, run_typeInfo' hi, hs, ho', hb]

theorem sliceT_spec {t size : Nat} (h : sliceT P t size = true) : ∃ e, P.underlying t = some (.slice e) ∧ (P.info? e).map (·.size) = some size := by
  unfold sliceT at h
  cases hu : P.underlying t with
  | none => rw [hu] at h; cases h
  | some d =>
    rw [hu] at h
    cases d <;> try cases h
    case slice e => exact ⟨e, rfl, by simpa using h⟩
theorem stringT_spec {t : Nat} (h : stringT P t = true) : P.underlying t = some .string := by
  unfold stringT at h
  cases hu : P.underlying t with
  | none => rw [hu] at h; cases h
  | some d =>
    rw [hu] at h
    cases d <;> try cases h
    rfl

theorem x_indexAddr {t size : Nat} {x y : Operand} {A : Option Addr} {a b : Addr} {len cap : Nat} {k : IntKind} {i : Int} (hT : sliceT P t size = true) (ho : o.op = .indexAddr t x y) (hx : ev n ρ x = .slice A len cap) (hA : A = some a) (hy : ev n ρ y = .int k i) (h0 : 0 ≤ i) (h1 : i < len) (hb : a.add (i.toNat * size) = b) : Yields P o n ρ w (.pointer (some b)) := by
  obtain ⟨e, hu, hs⟩ := sliceT_spec hT
  subst hA
  simp [Yields, execOp, ho, hx, hy, Instr.indexAt, asIntOf, run_underlying hu, run_sizeOf' hs, h0, h1, hb]
def arrT (P : Program) (t len : Nat) : Bool := match P.underlying t with
  | some (.array n e) => n == len && ((P.info? e).map (·.size)) == some 1 && oneT P e
  | _ => false
theorem arrT_spec {t len : Nat} (h : arrT P t len = true) : ∃ e, P.underlying t = some (.array len e) ∧ (P.info? e).map (·.size) = some 1 ∧ oneT P e = true := by
  unfold arrT at h
  cases hu : P.underlying t with
  | none => rw [hu] at h; cases h
  | some d =>
    rw [hu] at h
    cases d <;> try cases h
    case array m e =>
      dsimp only at h
      rw [Bool.and_eq_true, Bool.and_eq_true] at h
      obtain ⟨⟨h1, h2⟩, h3⟩ := h
      have : m = len := by simpa using h1
      subst this
      exact ⟨e, rfl, by simpa using h2, h3⟩
theorem x_index_array {t len : Nat} {x y : Operand} {cs : Array Value} {k : IntKind} {i : Int} {v : Value} (hT : arrT P t len = true) (ho : o.op = .index t x y) (hx : ev n ρ x = .agg cs) (hy : ev n ρ y = .int k i) (h0 : 0 ≤ i) (h1 : i < len) (hv : cs[i.toNat]? = some v) : Yields P o n ρ w v := by
  obtain ⟨e, hu, hs, ho1⟩ := arrT_spec hT
  have hp : (part e cs (i.toNat * 1)).run P w = .ok v w := by
    unfold part
    unfold oneT at ho1
    cases hue : P.underlying e with
    | none => rw [hue] at ho1; cases ho1
    | some d =>
      rw [hue] at ho1
      have h' : aggDesc d = false := by simpa using ho1
      simp only [Sem.run_bind, run_isAgg hue, Result.andThen_ok, h', Bool.false_eq_true, if_false, Nat.mul_one, hv]
      rfl
  simp only [Yields, execOp, ho, hx, hy, Instr.index, asIntOf, Sem.run_bind, Sem.run_pure, run_underlying hu, Result.andThen_ok, h0, h1, and_self, if_true, run_sizeOf' hs, hp]
theorem x_indexAddr_array {t len : Nat} {x y : Operand} {a b : Addr} {k : IntKind} {i : Int} (hT : arrT P t len = true) (ho : o.op = .indexAddr t x y) (hx : ev n ρ x = .pointer (some a)) (hy : ev n ρ y = .int k i) (h0 : 0 ≤ i) (h1 : i < len) (hb : a.add i.toNat = b) : Yields P o n ρ w (.pointer (some b)) := by
  obtain ⟨e, hu, hs, ho1⟩ := arrT_spec hT
  simp [Yields, execOp, ho, hx, hy, Instr.indexAt, asIntOf, Instr.sureAddr, run_underlying hu, run_sizeOf' hs, h0, h1, hb]
def bldS (P : Program) (t : TypeId) : Bool := match P.underlying t with | some (.struct fs) => fs.all (fun f => (P.info? f.type).isSome) | _ => false
def bldA (P : Program) (t : TypeId) : Bool := match P.underlying t with | some (.array _ e) => (P.info? e).isSome | _ => false
theorem x_build0a {t : Nat} {cs : Array Value} (hz : (P.info? t).bind (·.zero) = some (.agg cs)) (hst' : bldA P t = true) (ho : o.op = .build t #[]) : Yields P o n ρ w (.agg cs) := by
  have hst := hst'
  unfold bldA at hst
  have hzv : (zeroValue t).run P w = .ok (.agg cs) w := by
    cases hi : P.info? t with
    | none => rw [hi] at hz; cases hz
    | some i =>
      rw [hi] at hz
      simp only [Option.bind_some] at hz
      simp [zeroValue, run_typeInfo' hi, hz]
  cases hu : P.underlying t with
  | none => rw [hu] at hst; cases hst
  | some d =>
    rw [hu] at hst
    cases d <;> try cases hst
    case array m e =>
      dsimp only at hst
      obtain ⟨i, hi⟩ := Option.isSome_iff_exists.1 hst
      simp only [Yields, execOp, ho, Instr.build, Sem.run_bind, hzv, run_underlying hu, Result.andThen_ok, sizeOf, run_typeInfo' hi]
      simp [Instr.fill, Value.cells]
theorem x_build0 {t : Nat} {cs : Array Value} (hz : (P.info? t).bind (·.zero) = some (.agg cs)) (hst' : bldS P t = true) (ho : o.op = .build t #[]) : Yields P o n ρ w (.agg cs) := by
  have hst := hst'
  unfold bldS at hst
  have hzv : (zeroValue t).run P w = .ok (.agg cs) w := by
    cases hi : P.info? t with
    | none => rw [hi] at hz; cases hz
    | some i =>
      rw [hi] at hz
      simp only [Option.bind_some] at hz
      simp [zeroValue, run_typeInfo' hi, hz]
  cases hu : P.underlying t with
  | none => rw [hu] at hst; cases hst
  | some d =>
    rw [hu] at hst
    cases d <;> try cases hst
    case struct fs =>
      dsimp only at hst
      have hm : ∀ (l : List Field), (l.all fun f => (P.info? f.type).isSome) = true → ∃ r, (l.mapM fun f => (do pure (f.offset, ← sizeOf f.type) : Sem (Nat × Nat))).run P w = .ok r w := by
        intro l
        induction l with
        | nil => intro _; exact ⟨[], by simp⟩
        | cons f l ih =>
          intro hl
          rw [List.all_cons, Bool.and_eq_true] at hl
          obtain ⟨r, hr⟩ := ih hl.2
          obtain ⟨i, hi⟩ := Option.isSome_iff_exists.1 hl.1
          refine ⟨(f.offset, i.size) :: r, ?_⟩
          have h1 : ((do pure (f.offset, ← sizeOf f.type)) : Sem (Nat × Nat)).run P w = .ok (f.offset, i.size) w := by
            simp only [sizeOf, Sem.run_bind, run_typeInfo' hi, Result.andThen_ok, Sem.run_pure]
          rw [List.mapM_cons, Sem.run_bind, h1, Result.andThen_ok, Sem.run_bind, hr]
          rfl
      obtain ⟨r, hr⟩ := hm fs.toList (by simpa using hst)
      have hr' : (fs.mapM fun f => (do pure (f.offset, ← sizeOf f.type) : Sem (Nat × Nat))).run P w = .ok r.toArray w := by
        rw [Array.mapM_eq_mapM_toList]
        simp only [Sem.run_map, hr, Result.andThen_ok]
      simp only [Yields, execOp, ho, Instr.build, Sem.run_bind, hzv, run_underlying hu, Result.andThen_ok]
      simp only [Value.cells]
      rw [hr']
      simp [Instr.fill]
theorem x_len_slice {t size : Nat} {x : Operand} {a : Option Addr} {len cap : Nat} (hT : sliceT P t size = true) (ho : o.op = .call { callee := .builtin .len, args := #[x], argTypes := #[t] }) (hx : ev n ρ x = .slice a len cap) : Yields P o n ρ w (.int .i64 len) := by
  obtain ⟨e, hu, hs⟩ := sliceT_spec hT
  simp [Yields, execOp, ho, hx, resolve, invoke, builtin, Builtin.len_, run_underlying hu, goInt]
theorem x_len_string {t : Nat} {x : Operand} {s : ByteArray} (hT : stringT P t = true) (ho : o.op = .call { callee := .builtin .len, args := #[x], argTypes := #[t] }) (hx : ev n ρ x = .string s) : Yields P o n ρ w (.int .i64 s.size) := by
  simp [Yields, execOp, ho, hx, resolve, invoke, builtin, Builtin.len_, run_underlying (stringT_spec hT), goInt]
theorem x_index_string {t : Nat} {x y : Operand} {s : ByteArray} {k : IntKind} {i : Int} {b : UInt8} (hT : stringT P t = true) (ho : o.op = .index t x y) (hx : ev n ρ x = .string s) (hy : ev n ρ y = .int k i) (h0 : 0 ≤ i) (hb : s[i.toNat]? = some b) : Yields P o n ρ w (.int .u8 b.toNat) := by
  simp [Yields, execOp, ho, hx, hy, Instr.index, asIntOf, run_underlying (stringT_spec hT), h0, hb]
theorem x_extract {x : Operand} {j : Nat} {vs : Array Value} {v : Value} (ho : o.op = .extract x j) (hx : ev n ρ x = .tuple vs) (hv : vs[j]? = some v) : Yields P o n ρ w v := by
  simp [Yields, execOp, ho, hx, Instr.extract, hv]

theorem partsI1 {j0 : Nat} {x0 : Operand} {a0 : Value} (h0 : ev n ρ x0 = a0) : #[(j0, x0)].map (fun (i, x) => (i, ev n ρ x)) = #[(j0, a0)] := by simp [h0]
theorem partsI2 {j0 j1 : Nat} {x0 x1 : Operand} {a0 a1 : Value} (h0 : ev n ρ x0 = a0) (h1 : ev n ρ x1 = a1) : #[(j0, x0), (j1, x1)].map (fun (i, x) => (i, ev n ρ x)) = #[(j0, a0), (j1, a1)] := by simp [h0, h1]
theorem partsI3 {j0 j1 j2 : Nat} {x0 x1 x2 : Operand} {a0 a1 a2 : Value} (h0 : ev n ρ x0 = a0) (h1 : ev n ρ x1 = a1) (h2 : ev n ρ x2 = a2) : #[(j0, x0), (j1, x1), (j2, x2)].map (fun (i, x) => (i, ev n ρ x)) = #[(j0, a0), (j1, a1), (j2, a2)] := by simp [h0, h1, h2]
theorem partsI4 {j0 j1 j2 j3 : Nat} {x0 x1 x2 x3 : Operand} {a0 a1 a2 a3 : Value} (h0 : ev n ρ x0 = a0) (h1 : ev n ρ x1 = a1) (h2 : ev n ρ x2 = a2) (h3 : ev n ρ x3 = a3) : #[(j0, x0), (j1, x1), (j2, x2), (j3, x3)].map (fun (i, x) => (i, ev n ρ x)) = #[(j0, a0), (j1, a1), (j2, a2), (j3, a3)] := by simp [h0, h1, h2, h3]
theorem partsI5 {j0 j1 j2 j3 j4 : Nat} {x0 x1 x2 x3 x4 : Operand} {a0 a1 a2 a3 a4 : Value} (h0 : ev n ρ x0 = a0) (h1 : ev n ρ x1 = a1) (h2 : ev n ρ x2 = a2) (h3 : ev n ρ x3 = a3) (h4 : ev n ρ x4 = a4) : #[(j0, x0), (j1, x1), (j2, x2), (j3, x3), (j4, x4)].map (fun (i, x) => (i, ev n ρ x)) = #[(j0, a0), (j1, a1), (j2, a2), (j3, a3), (j4, a4)] := by simp [h0, h1, h2, h3, h4]
theorem partsI6 {j0 j1 j2 j3 j4 j5 : Nat} {x0 x1 x2 x3 x4 x5 : Operand} {a0 a1 a2 a3 a4 a5 : Value} (h0 : ev n ρ x0 = a0) (h1 : ev n ρ x1 = a1) (h2 : ev n ρ x2 = a2) (h3 : ev n ρ x3 = a3) (h4 : ev n ρ x4 = a4) (h5 : ev n ρ x5 = a5) : #[(j0, x0), (j1, x1), (j2, x2), (j3, x3), (j4, x4), (j5, x5)].map (fun (i, x) => (i, ev n ρ x)) = #[(j0, a0), (j1, a1), (j2, a2), (j3, a3), (j4, a4), (j5, a5)] := by simp [h0, h1, h2, h3, h4, h5]
theorem partsI7 {j0 j1 j2 j3 j4 j5 j6 : Nat} {x0 x1 x2 x3 x4 x5 x6 : Operand} {a0 a1 a2 a3 a4 a5 a6 : Value} (h0 : ev n ρ x0 = a0) (h1 : ev n ρ x1 = a1) (h2 : ev n ρ x2 = a2) (h3 : ev n ρ x3 = a3) (h4 : ev n ρ x4 = a4) (h5 : ev n ρ x5 = a5) (h6 : ev n ρ x6 = a6) : #[(j0, x0), (j1, x1), (j2, x2), (j3, x3), (j4, x4), (j5, x5), (j6, x6)].map (fun (i, x) => (i, ev n ρ x)) = #[(j0, a0), (j1, a1), (j2, a2), (j3, a3), (j4, a4), (j5, a5), (j6, a6)] := by simp [h0, h1, h2, h3, h4, h5, h6]
theorem partsI8 {j0 j1 j2 j3 j4 j5 j6 j7 : Nat} {x0 x1 x2 x3 x4 x5 x6 x7 : Operand} {a0 a1 a2 a3 a4 a5 a6 a7 : Value} (h0 : ev n ρ x0 = a0) (h1 : ev n ρ x1 = a1) (h2 : ev n ρ x2 = a2) (h3 : ev n ρ x3 = a3) (h4 : ev n ρ x4 = a4) (h5 : ev n ρ x5 = a5) (h6 : ev n ρ x6 = a6) (h7 : ev n ρ x7 = a7) : #[(j0, x0), (j1, x1), (j2, x2), (j3, x3), (j4, x4), (j5, x5), (j6, x6), (j7, x7)].map (fun (i, x) => (i, ev n ρ x)) = #[(j0, a0), (j1, a1), (j2, a2), (j3, a3), (j4, a4), (j5, a5), (j6, a6), (j7, a7)] := by simp [h0, h1, h2, h3, h4, h5, h6, h7]
/-- parts that follow each other fill a row -/
theorem put_fold (off : Nat) : ∀ (v : List Value) (j0 : Nat) (cells : Array Value), off + j0 + v.length ≤ cells.size →
    ((v.zipIdx j0).foldl (fun cs (c, j) => cs.setIfInBounds (off + j) c) cells).size = cells.size ∧
    ∀ i, ((v.zipIdx j0).foldl (fun cs (c, j) => cs.setIfInBounds (off + j) c) cells)[i]? = if off + j0 ≤ i ∧ i < off + j0 + v.length then v[i - (off + j0)]? else cells[i]? := by
  intro v
  induction v with
  | nil =>
    intro j0 cells _
    refine ⟨rfl, fun i => ?_⟩
    simp only [List.zipIdx_nil, List.foldl_nil, List.length_nil]
    rw [if_neg (by omega)]
  | cons x v ih =>
    intro j0 cells h
    simp only [List.length_cons] at h
    simp only [List.zipIdx_cons, List.foldl_cons]
    obtain ⟨h1, h2⟩ := ih (j0 + 1) (cells.setIfInBounds (off + j0) x) (by simp; omega)
    refine ⟨by rw [h1]; simp, fun i => ?_⟩
    rw [h2 i]
    simp only [List.length_cons]
    by_cases he : i = off + j0
    · subst he
      rw [if_neg (by omega), if_pos (by omega)]
      simp [show off + j0 < cells.size from by omega]
    · by_cases hr : off + (j0 + 1) ≤ i ∧ i < off + (j0 + 1) + v.length
      · rw [if_pos hr, if_pos (by omega), show i - (off + j0) = (i - (off + (j0 + 1))) + 1 from by omega]
        rfl
      · rw [if_neg hr, if_neg (by omega), Array.getElem?_setIfInBounds_ne (by omega)]
def placesOf (P : Program) (t : TypeId) : Option (List (Nat × Nat)) := match P.underlying t with
  | some (.struct fs) => fs.toList.mapM fun f => (P.info? f.type).map fun i => (f.offset, i.size)
  | _ => none
theorem run_places {fs : List Field} : ∀ {r : List (Nat × Nat)}, (fs.mapM fun f => (P.info? f.type).map fun i => (f.offset, i.size)) = some r → (fs.mapM fun f => (do pure (f.offset, ← sizeOf f.type) : Sem (Nat × Nat))).run P w = .ok r w := by
  induction fs with
  | nil => intro r h; simp only [List.mapM_nil, Option.pure_def, Option.some.injEq] at h; subst h; simp
  | cons f fs ih =>
    intro r h
    rw [List.mapM_cons] at h
    simp only [Option.bind_eq_bind, Option.bind_eq_some_iff, Option.map_eq_some_iff, Option.pure_def, Option.some.injEq] at h
    obtain ⟨p, ⟨i, hi, rfl⟩, q, hq, rfl⟩ := h
    have h1 : ((do pure (f.offset, ← sizeOf f.type)) : Sem (Nat × Nat)).run P w = .ok (f.offset, i.size) w := by
      simp only [sizeOf, Sem.run_bind, run_typeInfo' hi, Result.andThen_ok, Sem.run_pure]
    rw [List.mapM_cons, Sem.run_bind, h1, Result.andThen_ok, Sem.run_bind, ih hq]
    rfl
theorem fill_nil {place : Nat → Option (Nat × Nat)} {cs : List Value} : Instr.fill place cs.toArray [] = some cs.toArray := rfl
theorem fill_cons {place : Nat → Option (Nat × Nat)} {i off size : Nat} {v : Value} {rest : List (Nat × Value)} {cs vs cs' r : List Value} (hp : place i = some (off, size)) (hv : v.cells = vs.toArray) (hl : vs.length = size) (hfit' : Nat.ble (off + size) cs.length = true) (hcs : cs.take off ++ vs ++ cs.drop (off + size) = cs') (hr : Instr.fill place cs'.toArray rest = some r.toArray) : Instr.fill place cs.toArray ((i, v) :: rest) = some r.toArray := by
  have hfit := Nat.le_of_ble_eq_true hfit'
  subst hl
  simp only [Instr.fill, hp]
  rw [if_neg (by simp only [hv]; simp; omega)]
  have hz : v.cells.zipIdx.foldl (fun cs (c, j) => cs.setIfInBounds (off + j) c) cs.toArray = cs'.toArray := by
    rw [← Array.foldl_toList, Array.toList_zipIdx, hv]
    obtain ⟨h1, h2⟩ := put_fold off vs 0 cs.toArray (by simpa using hfit)
    apply Array.ext_getElem?
    intro k
    have := h2 k
    simp only [Nat.add_zero] at this
    rw [this, ← hcs]
    simp only [List.getElem?_toArray]
    by_cases hk : off ≤ k ∧ k < off + vs.length
    · rw [if_pos hk, List.append_assoc, List.getElem?_append_right (by rw [List.length_take]; omega), List.length_take, Nat.min_eq_left (by omega), List.getElem?_append_left (by omega)]
    · rw [if_neg hk]
      by_cases hlo : k < off
      · rw [List.append_assoc, List.getElem?_append_left (by rw [List.length_take]; omega), List.getElem?_take, if_pos hlo]
      · rw [List.getElem?_append_right (by simp only [List.length_append, List.length_take]; omega)]
        simp only [List.length_append, List.length_take, List.getElem?_drop]
        rw [show off + vs.length + (k - (min off cs.length + vs.length)) = k from by omega]
  rw [hz]
  exact hr
theorem x_build {t : Nat} {z r : List Value} {pl : List (Nat × Nat)} {parts : Array (Nat × Operand)} {vals : Array (Nat × Value)} (hz : (P.info? t).bind (·.zero) = some (.agg z.toArray)) (hpl : placesOf P t = some pl) (ho : o.op = .build t parts) (hv : parts.map (fun (i, x) => (i, ev n ρ x)) = vals) (hf : Instr.fill (fun i => pl.toArray[i]?) z.toArray vals.toList = some r.toArray) : Yields P o n ρ w (.agg r.toArray) := by
  have hzv : (zeroValue t).run P w = .ok (.agg z.toArray) w := by
    cases hi : P.info? t with
    | none => rw [hi] at hz; cases hz
    | some i =>
      rw [hi] at hz
      simp only [Option.bind_some] at hz
      simp [zeroValue, run_typeInfo' hi, hz]
  unfold placesOf at hpl
  cases hu : P.underlying t with
  | none => rw [hu] at hpl; cases hpl
  | some d =>
    rw [hu] at hpl
    cases d <;> try cases hpl
    case struct fs =>
      dsimp only at hpl
      have hr' : (fs.mapM fun f => (do pure (f.offset, ← sizeOf f.type) : Sem (Nat × Nat))).run P w = .ok pl.toArray w := by
        rw [Array.mapM_eq_mapM_toList]
        simp only [Sem.run_map, run_places hpl, Result.andThen_ok]
      simp only [Yields, execOp, ho, Instr.build, Sem.run_bind, hzv, run_underlying hu, Result.andThen_ok]
      simp only [Value.cells]
      rw [hr']
      simp only [Result.andThen_ok]
      rw [hv, hf]
      rfl
/-! '==' of structs and arrays -/
section eq
def intT (P : Program) (t : TypeId) : Bool := match P.underlying t with | some (.int _) => true | _ => false
theorem intT_spec {t : TypeId} (h : intT P t = true) : ∃ k, P.underlying t = some (.int k) := by
  unfold intT at h
  cases hu : P.underlying t with
  | none => rw [hu] at h; cases h
  | some d => rw [hu] at h; cases d <;> first | exact ⟨_, rfl⟩ | cases h
theorem part_one {t off : Nat} {xs : Array Value} {v : Value} (h : oneT P t = true) (hv : xs[off]? = some v) (w : World) : (part t xs off).run P w = .ok v w := by
  unfold part
  unfold oneT at h
  cases hu : P.underlying t with
  | none => rw [hu] at h; cases h
  | some d =>
    rw [hu] at h
    have h' : aggDesc d = false := by simpa using h
    simp only [Sem.run_bind, run_isAgg hu, Result.andThen_ok, h', Bool.false_eq_true, if_false, hv]
    rfl
theorem part_agg {t off k : Nat} {xs : Array Value} (h : aggT P t k = true) (w : World) : (part t xs off).run P w = .ok (.agg (xs.extract off (off + k))) w := by
  unfold aggT at h
  rw [Bool.and_eq_true] at h
  obtain ⟨h1, h2⟩ := h
  have h2' : (P.info? t).map (·.size) = some k := by simpa using h2
  unfold part
  cases hu : P.underlying t with
  | none => rw [hu] at h1; cases h1
  | some d =>
    rw [hu] at h1
    dsimp only at h1
    simp only [Sem.run_bind, run_isAgg hu, Result.andThen_ok, h1, if_true, run_sizeOf' h2', Sem.run_pure]
theorem intT_one {t : TypeId} (h : intT P t = true) : oneT P t = true := by
  obtain ⟨k, hk⟩ := intT_spec h
  simp [oneT, hk, aggDesc]
theorem stringT_one {t : TypeId} (h : stringT P t = true) : oneT P t = true := by
  simp [oneT, stringT_spec h, aggDesc]
/-- one field more -/
theorem eqF {d : Nat} {xs ys : Array Value} {f : Field} {fs : List Field} {a b : Value} {r s : Bool} (hn : (f.name == "_") = false) (ha : (part f.type xs f.offset).run P w = .ok a w) (hb : (part f.type ys f.offset).run P w = .ok b w) (he : (Op.equalIn d f.type a b).run P w = .ok r w) (hr : (Op.eqFields d xs ys fs).run P w = .ok s w) : (Op.eqFields d xs ys (f :: fs)).run P w = .ok (r && s) w := by
  have hn' : f.name ≠ "_" := by simpa using hn
  rw [Op.eqFields]
  simp only [if_pos hn', Sem.run_bind, ha, hb, he, Result.andThen_ok]
  cases r
  · simp
  · simpa using hr
theorem eqS {d : Nat} {t : TypeId} {xs ys : Array Value} {fs : Array Field} {r : Bool} (hu : P.underlying t = some (.struct fs)) (hp : P.stoodInHeld t = false) (h : (Op.eqFields d xs ys fs.toList).run P w = .ok r w) : (Op.equalIn (d + 1) t (.agg xs) (.agg ys)).run P w = .ok r w := by
  have hf : P.fieldsOf t = fs := by simp [Program.fieldsOf, hu]
  rw [run_equalIn_struct (P := P) w d t xs ys (by rw [hf]; exact hu) hp, hf]
  exact h
/-- a struct of two whole numbers -/
def ints2T (P : Program) (t : TypeId) : Bool := (match P.underlying t with
  | some (.struct fs) => match fs.toList with
    | [f, g] => (f.name != "_") && (g.name != "_") && f.offset == 0 && g.offset == 1 && intT P f.type && intT P g.type
    | _ => false
  | _ => false) && !P.stoodInHeld t && !P.eqGuardType P.depth t
theorem eq_ints2 {d t : Nat} (h : ints2T P t = true) {a b c e : Int} {k : IntKind} : (Op.equalIn (d + 2) t (.agg #[.int k a, .int k b]) (.agg #[.int k c, .int k e])).run P w = .ok (decide (a = c) && decide (b = e)) w := by
  unfold ints2T at h
  rw [Bool.and_eq_true, Bool.and_eq_true] at h
  obtain ⟨⟨h1, h2⟩, _⟩ := h
  cases hu : P.underlying t with
  | none => rw [hu] at h1; cases h1
  | some D =>
    rw [hu] at h1
    cases D <;> try cases h1
    case struct fs =>
      dsimp only at h1
      split at h1
      case h_2 => cases h1
      case h_1 f g hfs =>
        simp only [Bool.and_eq_true, bne_iff_ne, ne_eq, beq_iff_eq] at h1
        obtain ⟨⟨⟨⟨⟨n1, n2⟩, o1⟩, o2⟩, i1⟩, i2⟩ := h1
        obtain ⟨k1, u1⟩ := intT_spec i1
        obtain ⟨k2, u2⟩ := intT_spec i2
        refine eqS hu (by simpa using h2) ?_
        rw [hfs]
        have e1 := eqF (P := P) (w := w) (d := d + 1) (xs := #[.int k a, .int k b]) (ys := #[.int k c, .int k e]) (f := f) (fs := [g]) (by simpa using n1) (part_one (intT_one i1) (by rw [o1]; rfl) w) (part_one (intT_one i1) (by rw [o1]; rfl) w) (run_equalIn_int w d f.type k k1 a c u1)
          (eqF (s := true) (by simpa using n2) (part_one (intT_one i2) (by rw [o2]; rfl) w) (part_one (intT_one i2) (by rw [o2]; rfl) w) (run_equalIn_int w d g.type k k2 b e u2) (by simp [Op.eqFields]))
        rw [e1]
        simp only [Bool.and_true]
        rfl
theorem guard_agg {op : BinOp} {t : TypeId} {x y : Operand} {xs ys : Array Value} (h : P.eqGuardType P.depth t = false) : (eqGuard op t x y (.agg xs) (.agg ys)).run P w = .ok () w := run_eqGuard_agg w op t x y xs ys h
theorem x_aeql {t u : TypeId} {x y : Operand} {xs ys : Array Value} {b : Bool} (hg : P.eqGuardType P.depth t = false) (ho : o.op = .binOp .eql t x y u) (hx : ev n ρ x = .agg xs) (hy : ev n ρ y = .agg ys) (he : (Op.equalIn 10000 t (.agg xs) (.agg ys)).run P w = .ok b w) : Yields P o n ρ w (.bool b) := by
  simp [Yields, execOp, ho, hx, hy, guard_agg hg, run_eql_struct, he]
theorem x_aneq {t u : TypeId} {x y : Operand} {xs ys : Array Value} {b : Bool} (hg : P.eqGuardType P.depth t = false) (ho : o.op = .binOp .neq t x y u) (hx : ev n ρ x = .agg xs) (hy : ev n ρ y = .agg ys) (he : (Op.equalIn 10000 t (.agg xs) (.agg ys)).run P w = .ok b w) : Yields P o n ρ w (.bool (!b)) := by
  simp [Yields, execOp, ho, hx, hy, guard_agg hg, run_neq_struct, he]
theorem ints2_guard {t : Nat} (h : ints2T P t = true) : P.eqGuardType P.depth t = false := by
  unfold ints2T at h
  rw [Bool.and_eq_true] at h
  simpa using h.2
/-- a string and a struct of two whole numbers -/
def rdT (P : Program) (t : TypeId) : Bool := (match P.underlying t with
  | some (.struct fs) => match fs.toList with
    | [f, g] => (f.name != "_") && (g.name != "_") && f.offset == 0 && g.offset == 1 && stringT P f.type && ints2T P g.type && aggT P g.type 2
    | _ => false
  | _ => false) && !P.stoodInHeld t && !P.eqGuardType P.depth t
theorem eq_rd {d t : Nat} (h : rdT P t = true) {s s' : ByteArray} {a b c e : Int} {k : IntKind} : (Op.equalIn (d + 3) t (.agg #[.string s, .int k a, .int k b]) (.agg #[.string s', .int k c, .int k e])).run P w = .ok (decide (s = s') && (decide (a = c) && decide (b = e))) w := by
  unfold rdT at h
  rw [Bool.and_eq_true, Bool.and_eq_true] at h
  obtain ⟨⟨h1, h2⟩, _⟩ := h
  cases hu : P.underlying t with
  | none => rw [hu] at h1; cases h1
  | some D =>
    rw [hu] at h1
    cases D <;> try cases h1
    case struct fs =>
      dsimp only at h1
      split at h1
      case h_2 => cases h1
      case h_1 f g hfs =>
        simp only [Bool.and_eq_true, bne_iff_ne, ne_eq, beq_iff_eq] at h1
        obtain ⟨⟨⟨⟨⟨⟨n1, n2⟩, o1⟩, o2⟩, i1⟩, i2⟩, i3⟩ := h1
        refine eqS hu (by simpa using h2) ?_
        rw [hfs]
        have e1 := eqF (P := P) (w := w) (d := d + 2) (xs := #[.string s, .int k a, .int k b]) (ys := #[.string s', .int k c, .int k e]) (f := f) (fs := [g]) (by simpa using n1) (part_one (stringT_one i1) (by rw [o1]; rfl) w) (part_one (stringT_one i1) (by rw [o1]; rfl) w) (run_equalIn_string w (d + 1) f.type s s' (stringT_spec i1))
          (eqF (s := true) (by simpa using n2) (by rw [o2]; exact part_agg i3 w) (by rw [o2]; exact part_agg i3 w) (by exact eq_ints2 (d := d) i2) (by simp [Op.eqFields]))
        rw [e1]
        simp only [Bool.and_true, beq_str]
def strs2T (P : Program) (t : TypeId) : Bool := (match P.underlying t with
  | some (.struct fs) => match fs.toList with
    | [f, g] => (f.name != "_") && (g.name != "_") && f.offset == 0 && g.offset == 1 && stringT P f.type && stringT P g.type
    | _ => false
  | _ => false) && !P.stoodInHeld t && !P.eqGuardType P.depth t
theorem eq_strs2 {d t : Nat} (h : strs2T P t = true) {a b c e : ByteArray} : (Op.equalIn (d + 2) t (.agg #[.string a, .string b]) (.agg #[.string c, .string e])).run P w = .ok (decide (a = c) && decide (b = e)) w := by
  unfold strs2T at h
  rw [Bool.and_eq_true, Bool.and_eq_true] at h
  obtain ⟨⟨h1, h2⟩, _⟩ := h
  cases hu : P.underlying t with
  | none => rw [hu] at h1; cases h1
  | some D =>
    rw [hu] at h1
    cases D <;> try cases h1
    case struct fs =>
      dsimp only at h1
      split at h1
      case h_2 => cases h1
      case h_1 f g hfs =>
        simp only [Bool.and_eq_true, bne_iff_ne, ne_eq, beq_iff_eq] at h1
        obtain ⟨⟨⟨⟨⟨n1, n2⟩, o1⟩, o2⟩, i1⟩, i2⟩ := h1
        refine eqS hu (by simpa using h2) ?_
        rw [hfs]
        have e1 := eqF (P := P) (w := w) (d := d + 1) (xs := #[.string a, .string b]) (ys := #[.string c, .string e]) (f := f) (fs := [g]) (by simpa using n1) (part_one (stringT_one i1) (by rw [o1]; rfl) w) (part_one (stringT_one i1) (by rw [o1]; rfl) w) (run_equalIn_string w d f.type a c (stringT_spec i1))
          (eqF (s := true) (by simpa using n2) (part_one (stringT_one i2) (by rw [o2]; rfl) w) (part_one (stringT_one i2) (by rw [o2]; rfl) w) (run_equalIn_string w d g.type b e (stringT_spec i2)) (by simp [Op.eqFields]))
        rw [e1]
        simp only [Bool.and_true, beq_str]
theorem rd_guard {t : Nat} (h : rdT P t = true) : P.eqGuardType P.depth t = false := by
  unfold rdT at h
  rw [Bool.and_eq_true] at h
  simpa using h.2
theorem strs2_guard {t : Nat} (h : strs2T P t = true) : P.eqGuardType P.depth t = false := by
  unfold strs2T at h
  rw [Bool.and_eq_true] at h
  simpa using h.2
/-- an array of whole numbers -/
def intsT (P : Program) (t len : Nat) : Bool := (match P.underlying t with
  | some (.array m e) => m == len && intT P e && ((P.info? e).map (·.size)) == some 1
  | _ => false) && !P.eqGuardType P.depth t
theorem ints_guard {t len : Nat} (h : intsT P t len = true) : P.eqGuardType P.depth t = false := by
  unfold intsT at h
  rw [Bool.and_eq_true] at h
  simpa using h.2
theorem eq_ints {d t len : Nat} (h : intsT P t len = true) {k : IntKind} {xs ys : Array Value} (f g : Nat → Int) (hx : ∀ i, i < len → xs[i]? = some (.int k (f i))) (hy : ∀ i, i < len → ys[i]? = some (.int k (g i))) : (Op.equalIn (d + 2) t (.agg xs) (.agg ys)).run P w = .ok ((List.range len).all fun i => decide (f i = g i)) w := by
  unfold intsT at h
  rw [Bool.and_eq_true] at h
  obtain ⟨h1, _⟩ := h
  cases hu : P.underlying t with
  | none => rw [hu] at h1; cases h1
  | some D =>
    rw [hu] at h1
    cases D <;> try cases h1
    case array m e =>
      simp only [Bool.and_eq_true, beq_iff_eq] at h1
      obtain ⟨⟨rfl, i1⟩, hs⟩ := h1
      obtain ⟨k1, u1⟩ := intT_spec i1
      have px : ∀ (i : Nat) (xs : Array Value) (v : Value), xs[i]? = some v → (part e xs (i * 1)).run P w = .ok v w := fun i xs v hv => part_one (intT_one i1) (by rw [Nat.mul_one]; exact hv) w
      rw [Op.equalIn]
      simp only [Sem.run_bind, run_underlying hu, Result.andThen_ok, run_sizeOf' hs]
      simp only [Std.Legacy.Range.forIn_eq_forIn_range', Std.Legacy.Range.size]
      have hsz : (m - 0 + 1 - 1) / 1 = m := by omega
      rw [hsz, ← List.range_eq_range']
      have hl : ∀ i ∈ List.range m, i < m := fun i hi => List.mem_range.1 hi
      generalize List.range m = l at hl
      induction l with
      | nil => simp
      | cons i l ih =>
        have hi := hl i (List.mem_cons_self ..)
        simp only [List.forIn_cons, Sem.run_bind, px i xs _ (hx i hi), px i ys _ (hy i hi), run_equalIn_int w d e k k1 _ _ u1, Result.andThen_ok, List.all_cons]
        by_cases hc : f i = g i
        · have ih' := ih (fun j hj => hl j (List.mem_cons_of_mem _ hj))
          simp only [hc, beq_self_eq_true, Bool.not_true, Bool.false_eq_true, if_false, Sem.run_pure, Result.andThen_ok, decide_true, Bool.true_and]
          simpa using ih'
        · have hb : (f i == g i) = false := by simpa using hc
          simp [hb, hc]
theorem eq_ints7 {d t : Nat} (h : intsT P t 7 = true) {k : IntKind} {a0 a1 a2 a3 a4 a5 a6 b0 b1 b2 b3 b4 b5 b6 : Int} : (Op.equalIn (d + 2) t (.agg #[.int k a0, .int k a1, .int k a2, .int k a3, .int k a4, .int k a5, .int k a6]) (.agg #[.int k b0, .int k b1, .int k b2, .int k b3, .int k b4, .int k b5, .int k b6])).run P w = .ok (decide (a0 = b0) && (decide (a1 = b1) && (decide (a2 = b2) && (decide (a3 = b3) && (decide (a4 = b4) && (decide (a5 = b5) && decide (a6 = b6))))))) w := by
  rw [eq_ints h (fun i => [a0, a1, a2, a3, a4, a5, a6].getD i 0) (fun i => [b0, b1, b2, b3, b4, b5, b6].getD i 0)
    (fun i hi => by match i, hi with | 0, _ | 1, _ | 2, _ | 3, _ | 4, _ | 5, _ | 6, _ => rfl)
    (fun i hi => by match i, hi with | 0, _ | 1, _ | 2, _ | 3, _ | 4, _ | 5, _ | 6, _ => rfl)]
  simp [List.range_succ]
end eq

/-! ### 5. Regions that only read, in whatever order -/
/-- wpQuiet, behind a wall: no reduction runs the list. -/
structure WQ (P : Program) (ops : Array Oper) (C : World → Prop) (Q : Act → Prop) (l : List Oper) (a : Act) : Prop where
  out : wpQuiet P ops C Q l a
/-- wpList, behind a wall. -/
structure WL (P : Program) (ops : Array Oper) (Q : Exit → Act → World → Prop) (l : List Oper) (a : Act) (w : World) : Prop where
  out : wpList P ops Q l a w
section quiet
variable {ops : Array Oper} {C : World → Prop} {Q : Act → Prop} {rest : List Oper} {d : Nat} {v : Value}
theorem q_nil {a : Act} (h : Q a) : WQ P ops C Q [] a := ⟨h⟩
theorem q_val (hw : wanted n ops ρ o = true) (hd : o.dst = some d) (h : ∀ w', C w' → Yields P o n ρ w' v) (hk : WQ P ops C Q rest (act n (up ρ d v))) : WQ P ops C Q (o :: rest) (act n ρ) := by
  refine ⟨?_⟩
  unfold wpQuiet
  rw [wanted_eq, hw, if_pos rfl]
  refine ⟨v, fun w' hw' => ?_, by rw [hd, act_put]; exact hk.out⟩
  have := h w' hw'
  unfold Yields at this
  unfold Oper.quietAt
  rw [act_eval', this]
  exact ⟨rfl, rfl⟩
theorem q_bool {b : Bool} (hw : wanted n ops ρ o = true) (hd : o.dst = some d) (h : ∀ w', C w' → Yields P o n ρ w' (.bool b)) (ht : b = true → WQ P ops C Q rest (act n (up ρ d (.bool true)))) (hf : b = false → WQ P ops C Q rest (act n (up ρ d (.bool false)))) : WQ P ops C Q (o :: rest) (act n ρ) := by
  cases b with
  | true => exact q_val hw hd h (ht rfl)
  | false => exact q_val hw hd h (hf rfl)
theorem q_skip (hw : wanted n ops ρ o = false) (hd : o.dst = some d) (hk : WQ P ops C Q rest (act n (up ρ d undef))) : WQ P ops C Q (o :: rest) (act n ρ) := by
  refine ⟨?_⟩
  unfold wpQuiet
  rw [wanted_eq, hw, if_neg (by simp), hd, act_put]
  exact hk.out
def fnT (P : Program) (f : FuncId) : Bool := match P.funcs[f]? with
  | some fn => fn.name != "runtime.NumGoroutine" && fn.body.isSome
  | none => false
theorem run_callFunc {f : FuncId} (hf : fnT P f = true) (vs : Array Value) (w : World) : (callFunc f vs).run P w = .ok (.enter f vs) w := by
  unfold fnT at hf
  cases hfn : P.funcs[f]? with
  | none => rw [hfn] at hf; cases hf
  | some fn =>
    rw [hfn] at hf
    dsimp only at hf
    rw [Bool.and_eq_true] at hf
    obtain ⟨h1, h2⟩ := hf
    have h1' : ¬ fn.name = "runtime.NumGoroutine" := by simpa using h1
    have h2' : ¬ fn.body = none := by intro e; rw [e] at h2; cases h2
    simp only [callFunc, program, Sem.run_bind]
    simp [Sem.run, hfn, h1', h2']
theorem exec_call {f : FuncId} {as : Array Operand} {ts : Array TypeId} {vs : Array Value} (hf : fnT P f = true) (ho : o.op = .call { callee := .value (.func f), args := as, argTypes := ts }) (ha : as.map (ev n ρ) = vs) (w : World) : (execOp (ev n ρ) o).run P w = .ok (.enter f vs) w := by
  simp [execOp, ho, resolve, ev, Deferred.ofValue, invoke, run_callFunc hf, ha]
theorem q_call {f : FuncId} {as : Array Operand} {ts : Array TypeId} {vs : Array Value} (hf : fnT P f = true) (hw : wanted n ops ρ o = true) (hd : o.dst = some d) (ho : o.op = .call { callee := .value (.func f), args := as, argTypes := ts }) (ha : as.map (ev n ρ) = vs) {W : World}
    (h : ∀ w', Ext W w' → Calls P f vs w' (Ret w' v)) (hk : WQ P ops (Ext W) Q rest (act n (up ρ d v))) : WQ P ops (Ext W) Q (o :: rest) (act n ρ) := by
  refine ⟨?_⟩
  unfold wpQuiet
  rw [wanted_eq, hw, if_pos rfl]
  refine ⟨v, fun w' hw' => ?_, by rw [hd, act_put]; exact hk.out⟩
  unfold Oper.quietAt
  rw [act_eval', exec_call hf ho ha]
  exact ⟨rfl, (h w' hw').mono fun e w'' ⟨he, hx⟩ => ⟨he, hw'.trans hx⟩⟩
theorem q_callb {f : FuncId} {as : Array Operand} {ts : Array TypeId} {vs : Array Value} {b : Bool} (hf : fnT P f = true) (hw : wanted n ops ρ o = true) (hd : o.dst = some d) (ho : o.op = .call { callee := .value (.func f), args := as, argTypes := ts }) (ha : as.map (ev n ρ) = vs) {W : World}
    (h : ∀ w', Ext W w' → Calls P f vs w' (Ret w' (.bool b))) (ht : b = true → WQ P ops (Ext W) Q rest (act n (up ρ d (.bool true)))) (hff : b = false → WQ P ops (Ext W) Q rest (act n (up ρ d (.bool false)))) : WQ P ops (Ext W) Q (o :: rest) (act n ρ) := by
  cases b with
  | true => exact q_call hf hw hd ho ha h (ht rfl)
  | false => exact q_call hf hw hd ho ha h (hff rfl)
/-! shorter names -/
abbrev iJ (n : Int) : Value := .int .i64 n
abbrev pJ (g : Nat) : Value := .pointer (some ⟨g, 0, none⟩)
theorem qv (v : Value) (h : ∀ w', C w' → Yields P o n ρ w' v) (hk : WQ P ops C Q rest (act n (up ρ d v))) (hw : wanted n ops ρ o = true := by rfl) (hd : o.dst = some d := by rfl) : WQ P ops C Q (o :: rest) (act n ρ) := q_val hw hd h hk
theorem qk (hw : wanted n ops ρ o = false) (hd : o.dst = some d) (hk : WQ P ops C Q rest (act n (up ρ d undef))) : WQ P ops C Q (o :: rest) (act n ρ) := q_skip hw hd hk
/-- No order drawn: the operations in their order. -/
theorem list_of_quiet {Q' : Exit → Act → World → Prop} : ∀ (l : List Oper) (a : Act) (w : World), C w → wpQuiet P ops C (fun a' => ∀ w', C w' → Q' .normal a' w') l a → wpList P ops Q' l a w
  | [], a, w, hw, h => h w hw
  | o :: l, a, w, hw, h => by
    unfold wpQuiet at h
    unfold wpList
    by_cases hg : Region.wanted o (yielded ops a.tmps) = true
    · rw [if_pos hg] at h ⊢
      exact .inl (Oper.wp_of_quiet hw (fun a' w' hw' hk => list_of_quiet l a' w' hw' hk) h)
    · rw [if_neg hg] at h ⊢
      exact list_of_quiet l _ w hw h
end quiet
section code
variable {Q : Exit → Act → World → Prop} {id : Nat} {l : List Oper}
theorem c_quiet (h : WQ P l.toArray (Ext w) (fun a' => ∀ w', Ext w w' → Q .normal a' w') l (act n ρ)) : (Code.region id l.toArray false).wp P Q (act n ρ) w :=
  wp_region_list (by simpa using list_of_quiet (C := Ext w) l _ w (Ext.refl w) h.out)
theorem c_draw (hm : P.follows .mixedOrders = true) (hB : Region.lexB .any l.toArray = true) (h : WQ P l.toArray (Ext w) (fun a' => ∀ w', Ext w w' → Q .normal a' w') l (act n ρ)) : (Code.region id l.toArray true).wp P Q (act n ρ) w :=
  wp_region_quiet (C := Ext w) hm hB (Ext.refl w).drew (by simpa using h.out)
theorem c_seq {x y : Code} (h : x.wp P (Exit.then (y.wp P Q) Q) (act n ρ) w) : (Code.seq x y).wp P Q (act n ρ) w := wp_seq h
theorem c_true {c : Operand} {x y : Code} (hc : ev n ρ c = .bool true) (h : x.wp P Q (act n ρ) w) : (Code.cond c x y).wp P Q (act n ρ) w := wp_cond_true (by rw [act_eval]; exact hc) h
theorem c_false {c : Operand} {x y : Code} (hc : ev n ρ c = .bool false) (h : y.wp P Q (act n ρ) w) : (Code.cond c x y).wp P Q (act n ρ) w := wp_cond_false (by rw [act_eval]; exact hc) h
theorem c_skip (h : Q .normal (act n ρ) w) : Code.skip.wp P Q (act n ρ) w := wp_skip h
theorem c_exit (h : Q (.exit id) (act n ρ) w) : (Code.exit id).wp P Q (act n ρ) w := wp_exit h
theorem c_ret (h : Q .ret (act n ρ) w) : Code.ret.wp P Q (act n ρ) w := wp_ret h
theorem c_block {c : Code} (h : c.wp P (Exit.inBlock id Q) (act n ρ) w) : (Code.block id c).wp P Q (act n ρ) w := wp_block h
def norm (n : Nat) (ρ : Env) : Env := fun k => bif Nat.blt k n then ρ k else undef
def envOf (a : Act) : Env := fun k => a.tmps.getD k undef
theorem envOf_act (n : Nat) (ρ : Env) : envOf (act n ρ) = norm n ρ := funext fun k => act_eval n ρ (.tmp k)
theorem act_norm (n : Nat) (ρ : Env) : act n (norm n ρ) = act n ρ := by
  simp only [act, Act.mk.injEq, and_true]
  congr 1
  refine List.map_congr_left fun k hk => ?_
  simp only [norm, blt_eq]
  rw [List.mem_range] at hk
  simp [hk]
/-- A loop: what holds of the slots and the world at each round's head, and a number that goes down. -/
theorem c_loop {c : Code} (I : Env → World → Prop) (μ : Env → World → Nat) (h0 : I (norm n ρ) w)
    (round : ∀ ρ w, I ρ w → c.wp P (Exit.then (fun a' w' => ∃ ρ', a' = act n ρ' ∧ I (norm n ρ') w' ∧ μ (norm n ρ') w' < μ ρ w) Q) (act n ρ) w) : (Code.loop c).wp P Q (act n ρ) w := by
  refine wp_loop (fun a w => I (envOf a) w ∧ a = act n (envOf a)) (fun a w => μ (envOf a) w) ⟨by rw [envOf_act]; exact h0, by rw [envOf_act, act_norm]⟩ ?_
  intro a w' hI
  obtain ⟨hI, ha⟩ := hI
  generalize envOf a = ρ1 at *
  subst ha
  refine wp_mono (round ρ1 w' hI) ?_
  intro e a' w'' h
  cases e with
  | normal =>
    obtain ⟨ρ', rfl, h1, h2⟩ := h
    exact ⟨⟨by rw [envOf_act]; exact h1, by rw [envOf_act, act_norm]⟩, by rw [envOf_act]; exact h2⟩
  | _ => exact h
theorem c_enter {f : FuncId} {fn : Func} {c : Code} {args : Array Value} {R : Ending → World → Prop} (hf : P.funcs[f]? = some fn) (hb : fn.body = some c) (hn : fn.ntmps = n) (ha : Nat.ble args.size n = true) (h : c.wp P (bodyPost P fn R) (act n (start args)) w) : Calls P f args w R :=
  calls_of_wp hf hb (by rw [hn, act_init _ _ (Nat.le_of_ble_eq_true ha)]; exact h)
theorem c_done {fn : Func} {R : Ending → World → Prop} {t : Nat} {v : Value} (hr : fn.results = #[.tmp t]) (hv : ev n ρ (.tmp t) = v) (h : R (.returned v) w) : bodyPost P fn R .ret (act n ρ) w := by
  refine ⟨rfl, v, ?_, h⟩
  have he : (act n ρ).tmps[t]?.getD undef = v := by
    have := (act_eval n ρ (.tmp t)).trans hv
    simpa [Act.eval] using this
  simp [results, hr, he]
/-! ways out of the forms of code -/
theorem t_norm {K : Act → World → Prop} {a : Act} (h : K a w) : Exit.then K Q .normal a w := h
theorem t_exit {K : Act → World → Prop} {a : Act} (h : Q (.exit id) a w) : Exit.then K Q (.exit id) a w := h
theorem t_ret {K : Act → World → Prop} {a : Act} (h : Q .ret a w) : Exit.then K Q .ret a w := h
theorem b_norm {a : Act} (h : Q .normal a w) : Exit.inBlock id Q .normal a w := h
theorem b_exit {a : Act} (h : Q .normal a w) : Exit.inBlock id Q (.exit id) a w := by
  simpa [Exit.inBlock] using h
theorem b_exit_ne {id' : Nat} {a : Act} (hne : id' ≠ id) (h : Q (.exit id') a w) : Exit.inBlock id Q (.exit id') a w := by
  simpa [Exit.inBlock, hne] using h
theorem b_ret {a : Act} (h : Q .ret a w) : Exit.inBlock id Q .ret a w := h
theorem r_round {c : Code} {m : Nat} {a : Act} (h : c.wp P (Exit.then (Code.rounds P c Q m) Q) a w) : Code.rounds P c Q (m + 1) a w := h
/-- Ways that meet: what holds behind the first part. -/
theorem c_cut {x y : Code} (J : Env → World → Prop) (hx : x.wp P (Exit.then (fun a' w' => ∃ ρ', a' = act n ρ' ∧ J (norm n ρ') w') Q) (act n ρ) w) (hy : ∀ ρ' w', J ρ' w' → y.wp P Q (act n ρ') w') : (Code.seq x y).wp P Q (act n ρ) w := by
  refine wp_seq (wp_mono hx ?_)
  intro e a w h
  cases e with
  | normal =>
    obtain ⟨ρ', rfl, hJ⟩ := h
    have := hy _ _ hJ
    rwa [act_norm] at this
  | _ => exact h
theorem j_end {J : Env → World → Prop} (h : J (norm n ρ) w) : Exit.then (fun a' w' => ∃ ρ', a' = act n ρ' ∧ J (norm n ρ') w') Q .normal (act n ρ) w := ⟨ρ, rfl, h⟩
/-- the end of a round -/
theorem r_end {I : Env → World → Prop} {μ : Env → World → Nat} {m : Nat} (hI : I (norm n ρ) w) (hm : μ (norm n ρ) w < m) : Exit.then (fun a' w' => ∃ ρ', a' = act n ρ' ∧ I (norm n ρ') w' ∧ μ (norm n ρ') w' < m) Q .normal (act n ρ) w := ⟨ρ, rfl, hI, hm⟩
end code

/-! ### 6. Regions whose operations act, in their own order -/
section plain
variable {ops : Array Oper} {Q : Exit → Act → World → Prop} {rest : List Oper} {d : Nat} {v : Value} {id : Nat} {l : List Oper}
theorem c_plain (h : WL P l.toArray Q l (act n ρ) w) : (Code.region id l.toArray false).wp P Q (act n ρ) w :=
  wp_region_list (by simpa using h.out)
theorem p_nil (h : Q .normal (act n ρ) w) : WL P ops Q [] (act n ρ) w := ⟨h⟩
theorem p_val (hw : wanted n ops ρ o = true) (hd : o.dst = some d) (h : Yields P o n ρ w v) (hk : WL P ops Q rest (act n (up ρ d v)) w) : WL P ops Q (o :: rest) (act n ρ) w := by
  refine ⟨?_⟩
  unfold wpList
  rw [wanted_eq, hw, if_pos rfl]
  refine .inl ?_
  unfold Yields at h
  unfold Oper.wp
  rw [act_eval', h, Oper.upon_value, hd, act_put]
  exact hk.out
theorem pv (v : Value) (h : Yields P o n ρ w v) (hk : WL P ops Q rest (act n (up ρ d v)) w) (hw : wanted n ops ρ o = true := by rfl) (hd : o.dst = some d := by rfl) : WL P ops Q (o :: rest) (act n ρ) w := p_val hw hd h hk
theorem p_bool {b : Bool} (hw : wanted n ops ρ o = true) (hd : o.dst = some d) (h : Yields P o n ρ w (.bool b)) (ht : b = true → WL P ops Q rest (act n (up ρ d (.bool true))) w) (hf : b = false → WL P ops Q rest (act n (up ρ d (.bool false))) w) : WL P ops Q (o :: rest) (act n ρ) w := by
  cases b with
  | true => exact p_val hw hd h (ht rfl)
  | false => exact p_val hw hd h (hf rfl)
theorem p_skip (hw : wanted n ops ρ o = false) (hd : o.dst = some d) (hk : WL P ops Q rest (act n (up ρ d undef)) w) : WL P ops Q (o :: rest) (act n ρ) w := by
  refine ⟨?_⟩
  unfold wpList
  rw [wanted_eq, hw, if_neg (by simp), hd, act_put]
  exact hk.out
/-- an operation that yields a value and another world -/
theorem p_run {w' : World} (hw : wanted n ops ρ o = true) (hd : o.dst = some d) (h : (execOp (ev n ρ) o).run P w = .ok (.value v) w') (hk : WL P ops Q rest (act n (up ρ d v)) w') : WL P ops Q (o :: rest) (act n ρ) w := by
  refine ⟨?_⟩
  unfold wpList
  rw [wanted_eq, hw, if_pos rfl]
  refine .inl ?_
  unfold Oper.wp
  rw [act_eval', h, Oper.upon_value, hd, act_put]
  exact hk.out
theorem run_newVar' (t : TypeId) (v : Value) (w : World) : (newVar t v).run P w = .ok ⟨w.heap.size, 0, none⟩ (w.alloc (.cells v.cells t)) := by
  simp [newVar, newRow, newObj, Sem.run, World.alloc_eq]
theorem p_box {t : TypeId} {x : Operand} {cs : List Value} (hw : wanted n ops ρ o = true) (hd : o.dst = some d) (ho : o.op = .box t x) (hx : ev n ρ x = .agg cs.toArray) (hk : ∀ w', Box w' w.heap.size t cs → Ext w w' → w'.heap.size = w.heap.size + 1 → WL P ops Q rest (act n (up ρ d (.pointer (some ⟨w.heap.size, 0, none⟩)))) w') : WL P ops Q (o :: rest) (act n ρ) w := by
  refine p_run hw hd (v := .pointer (some ⟨w.heap.size, 0, none⟩)) (w' := w.alloc (.cells cs.toArray t)) ?_ (hk _ (by simpa using Box.new w t cs.toArray) ((Ext.refl w).alloc _) (by simp))
  simp only [execOp, ho, hx, Instr.box, Sem.run_bind, run_newVar', Result.andThen_ok, Value.cells]
  rfl
theorem p_box1 {t : TypeId} {x : Operand} (hw : wanted n ops ρ o = true) (hd : o.dst = some d) (ho : o.op = .box t x) (hx : ev n ρ x = v) (h1 : v.cells = #[v]) (hk : ∀ w', Box w' w.heap.size t [v] → Ext w w' → w'.heap.size = w.heap.size + 1 → WL P ops Q rest (act n (up ρ d (.pointer (some ⟨w.heap.size, 0, none⟩)))) w') : WL P ops Q (o :: rest) (act n ρ) w := by
  refine p_run hw hd (v := .pointer (some ⟨w.heap.size, 0, none⟩)) (w' := w.alloc (.cells #[v] t)) ?_ (hk _ (by simpa using Box.new w t #[v]) ((Ext.refl w).alloc _) (by simp))
  simp only [execOp, ho, hx, Instr.box, Sem.run_bind, run_newVar', Result.andThen_ok, h1]
  rfl
theorem p_call {f : FuncId} {as : Array Operand} {ts : Array TypeId} {vs : Array Value} (hf : fnT P f = true) (hw : wanted n ops ρ o = true) (hd : o.dst = some d) (ho : o.op = .call { callee := .value (.func f), args := as, argTypes := ts }) (ha : as.map (ev n ρ) = vs)
    (h : Calls P f vs w (fun e w' => ∃ v, e = .returned v ∧ WL P ops Q rest (act n (up ρ d v)) w')) : WL P ops Q (o :: rest) (act n ρ) w := by
  refine ⟨?_⟩
  unfold wpList
  rw [wanted_eq, hw, if_pos rfl]
  refine .inl ?_
  unfold Oper.wp
  rw [act_eval', exec_call hf ho ha, Oper.upon_enter]
  refine h.mono ?_
  rintro e w' ⟨v, rfl, hk⟩
  show wpList P ops Q rest ((act n ρ).put o.dst v) w'
  rw [hd, act_put]
  exact hk.out
end plain
/-! ### 7. Memory of the call's own that is written -/
structure Stored (g : Nat) (w w' : World) : Prop where
  os : w'.os = w.os
  tape : w'.tape = w.tape
  output : w'.output = w.output
  size : w'.heap.size = w.heap.size
  block : ∀ k, k ≠ g → w'.heap[k]? = w.heap[k]?
theorem Ext.stored {a w w' : World} {g : Nat} (h : Ext a w) (hg : a.heap.size ≤ g) (s : Stored g w w') : Ext a w' :=
  ⟨s.os.trans h.os, s.tape.trans h.tape, s.output.trans h.output, by rw [s.size]; exact h.size, fun k hk => (s.block k (by omega)).trans (h.block k hk)⟩
theorem Box.far {w w' : World} {g g' : Nat} {t : TypeId} {cs : List Value} (h : Box w g t cs) (s : Stored g' w w') (hne : g ≠ g') : Box w' g t cs := (s.block g hne).trans h
def sizeT (P : Program) (t k : Nat) : Bool := ((P.info? t).map (·.size)) == some k
def allOne (vs : List Value) : Bool := vs.all (·.oneCell')
theorem allOne_mem {vs : List Value} (h : allOne vs = true) : ∀ v ∈ vs, v.oneCell' = true := by
  unfold allOne at h
  rw [List.all_eq_true] at h
  exact h
theorem run_store {g off t T : Nat} {cs vs : List Value} {v : Value} (h : Box w g T cs) (hs : sizeT P t vs.length = true) (hfit : off + vs.length ≤ cs.length) (h1 : allOne vs = true) (hv : v.cells = vs.toArray) :
    ∃ w', (Instr.storeAt t (.pointer (some ⟨g, off, none⟩)) v).run P w = .ok () w' ∧ Box w' g T (cs.take off ++ vs ++ cs.drop (off + vs.length)) ∧ Stored g w w' := by
  have hs' : (P.info? t).map (·.size) = some vs.length := by simpa [sizeT] using hs
  have hb : w.heap[g]? = some (.cells cs.toArray T (0, 0)) := h
  have hr := run_storeCells_at (P := P) g off T vs 0 cs.toArray w hb (by simpa using hfit) (allOne_mem h1)
  simp only [Nat.add_zero] at hr
  refine ⟨w.setRow g (cs.take off ++ vs ++ cs.drop (off + vs.length)).toArray, ?_, setRow_heap w g _ _ T _ hb, rfl, rfl, rfl, setRow_size _ _ _, fun k hk => setRow_other w g k _ hk⟩
  simp only [Instr.storeAt, Instr.sureAddr, storeVar, Sem.run_bind, Sem.run_pure, Result.andThen_ok, run_sizeOf' hs', hv]
  simpa using hr
section own
variable {ops : Array Oper} {Q : Exit → Act → World → Prop} {rest : List Oper} {d : Nat} {v : Value} {l : List Oper}
theorem p_store {t T g off : Nat} {p x : Operand} {cs vs cs' : List Value} (hw : wanted n ops ρ o = true) (hd : o.dst = none) (ho : o.op = .store t p x) (hp : ev n ρ p = .pointer (some ⟨g, off, none⟩)) (hx : ev n ρ x = v) (hv : v.cells = vs.toArray) (hb : Box w g T cs) (hs : sizeT P t vs.length = true) (hfit : Nat.ble (off + vs.length) cs.length = true) (h1 : allOne vs = true) (hcs : cs.take off ++ vs ++ cs.drop (off + vs.length) = cs')
    (hk : ∀ w', Box w' g T cs' → Stored g w w' → WL P ops Q rest (act n ρ) w') : WL P ops Q (o :: rest) (act n ρ) w := by
  obtain ⟨w', hr, hb', hst⟩ := run_store (P := P) hb hs (Nat.le_of_ble_eq_true hfit) h1 hv
  rw [hcs] at hb'
  refine ⟨?_⟩
  unfold wpList
  rw [wanted_eq, hw, if_pos rfl]
  refine .inl ?_
  unfold Oper.wp
  have he : (execOp (ev n ρ) o).run P w = .ok .skip w' := by
    simp only [execOp, ho, hp, hx, Sem.run_bind, hr, Result.andThen_ok, Sem.run_pure]
  rw [act_eval', he, Oper.upon_skip, hd]
  exact (hk w' hb' hst).out
theorem run_zero {t : Nat} {z : Value} (hz : (P.info? t).bind (·.zero) = some z) (w : World) : (zeroValue t).run P w = .ok z w := by
  cases hi : P.info? t with
  | none => rw [hi] at hz; cases hz
  | some i =>
    rw [hi] at hz
    simp only [Option.bind_some] at hz
    simp [zeroValue, run_typeInfo' hi, hz]
theorem exec_alloc {t : Nat} {z : Value} (ho : o.op = .alloc t) (hz : (P.info? t).bind (·.zero) = some z) (w : World) : (execOp (ev n ρ) o).run P w = .ok (.value (.pointer (some ⟨w.heap.size, 0, none⟩))) (w.alloc (.cells z.cells t)) := by
  simp only [execOp, ho, Instr.alloc, Sem.run_bind, run_zero hz, Result.andThen_ok, run_newVar']
  rfl
theorem p_alloc {t : Nat} {z : Value} {cs : List Value} (hw : wanted n ops ρ o = true) (hd : o.dst = some d) (ho : o.op = .alloc t) (hz : (P.info? t).bind (·.zero) = some z) (hc : z.cells = cs.toArray) (hk : ∀ w', Box w' w.heap.size t cs → Ext w w' → w'.heap.size = w.heap.size + 1 → WL P ops Q rest (act n (up ρ d (.pointer (some ⟨w.heap.size, 0, none⟩)))) w') : WL P ops Q (o :: rest) (act n ρ) w :=
  p_run hw hd (exec_alloc ho hz w) (hk _ (by rw [hc]; simpa using Box.new w t cs.toArray) ((Ext.refl w).alloc _) (by simp))
/-- a variable that is made and set at once -/
theorem p_var {o1 o2 : Oper} {t : Nat} {x : Operand} {z : Value} {vs : List Value} (hw1 : wanted n ops ρ o1 = true) (hd1 : o1.dst = some d) (ho1 : o1.op = .alloc t) (hz : (P.info? t).bind (·.zero) = some z) (hzs : z.cells.size = vs.length)
    (hw2 : wanted n ops (up ρ d (.pointer (some ⟨w.heap.size, 0, none⟩))) o2 = true) (hd2 : o2.dst = none) (ho2 : o2.op = .store t (.tmp d) x) (hdn : Nat.blt d n = true) (hx : ev n (up ρ d (.pointer (some ⟨w.heap.size, 0, none⟩))) x = v) (hv : v.cells = vs.toArray) (hs : sizeT P t vs.length = true) (h1 : allOne vs = true)
    (hk : ∀ w', Box w' w.heap.size t vs → Ext w w' → w'.heap.size = w.heap.size + 1 → WL P ops Q rest (act n (up ρ d (.pointer (some ⟨w.heap.size, 0, none⟩)))) w') : WL P ops Q (o1 :: o2 :: rest) (act n ρ) w := by
  refine p_alloc (cs := z.cells.toList) hw1 hd1 ho1 hz (by simp) (fun w1 b1 x1 z1 => ?_)
  refine p_store (off := 0) (cs' := vs) hw2 hd2 ho2 (by simp [ev, hdn, up_same]) hx hv b1 hs (by simp [hzs, Nat.ble_eq]) h1 (by simp [hzs]) (fun w2 b2 s2 => ?_)
  exact hk w2 b2 (x1.stored (Nat.le_refl _) s2) (by rw [s2.size, z1])
/-! slices that are made, and appended to -/
def elT (P : Program) (t e size bytes : Nat) : Bool := (match P.underlying t with | some (.slice e') => e' == e | _ => false) && (match P.info? e with | some i => i.size == size && i.bytes == bytes && (match i.zero with | some z => z.cells.size == size | none => false) | none => false) && size != 0
theorem elT_spec {t e size bytes : Nat} (h : elT P t e size bytes = true) : P.underlying t = some (.slice e) ∧ ∃ i z, P.info? e = some i ∧ i.zero = some z ∧ i.size = size ∧ i.bytes = bytes ∧ z.cells.size = size ∧ 0 < size := by
  unfold elT at h
  rw [Bool.and_eq_true, Bool.and_eq_true] at h
  obtain ⟨⟨h1, h2⟩, h3⟩ := h
  refine ⟨?_, ?_⟩
  · cases hu : P.underlying t with
    | none => rw [hu] at h1; cases h1
    | some D =>
      rw [hu] at h1
      cases D <;> try cases h1
      case slice e' =>
        have : e' = e := by simpa using h1
        rw [this]
  · cases hi : P.info? e with
    | none => rw [hi] at h2; cases h2
    | some i =>
      rw [hi] at h2
      dsimp only at h2
      cases hz : i.zero with
      | none => rw [hz] at h2; simp at h2
      | some z =>
        rw [hz] at h2
        simp only [Bool.and_eq_true, beq_iff_eq] at h2
        exact ⟨i, z, rfl, hz, h2.1.1, h2.1.2, h2.2, by simp at h3; omega⟩
theorem own_slice {w : World} {B e size : Nat} {v : Value} {k : Nat} {cs : List Value} (h : w.ownsRow B e size v k cs) : ∃ A c, v = .slice A k c ∧ k ≤ c ∧ c ≤ 9223372036854775807 := by
  rcases h.2 with ⟨rfl, rfl⟩ | ⟨g, cap, cur, rfl, _, _, h1, h2, _⟩
  · exact ⟨none, 0, rfl, Nat.le_refl _, by omega⟩
  · exact ⟨_, cap, rfl, h1, h2⟩
theorem own_base {w : World} {B e size : Nat} {v : Value} {k : Nat} {cs : List Value} (h : w.ownsRow B e size v k cs) (j : Nat) (hj : v.ownBlock = some j) : B ≤ j := by
  rcases h.2 with ⟨rfl, _⟩ | ⟨g, cap, cur, rfl, hb, _⟩
  · simp [Value.ownBlock] at hj
  · have : g = j := by simpa [Value.ownBlock] using hj
    omega
theorem own_ext {w w' : World} {B e size : Nat} {v : Value} {k : Nat} {cs : List Value} (h : w.ownsRow B e size v k cs) (hx : Ext w w') : w'.ownsRow B e size v k cs := by
  refine ⟨h.1, ?_⟩
  rcases h.2 with h2 | ⟨g, cap, cur, hv, hb, hh, r⟩
  · exact .inl h2
  · exact .inr ⟨g, cap, cur, hv, hb, (hx.block g (Array.getElem?_eq_some_iff.1 hh).1).trans hh, r⟩
theorem own_far {w w' : World} {B e size g' : Nat} {v : Value} {k : Nat} {cs : List Value} (h : w.ownsRow B e size v k cs) (s : Stored g' w w') (hg : v.ownBlock ≠ some g') : w'.ownsRow B e size v k cs := by
  refine ⟨h.1, ?_⟩
  rcases h.2 with h2 | ⟨g, cap, cur, hv, hb, hh, r⟩
  · exact .inl h2
  · refine .inr ⟨g, cap, cur, hv, hb, (s.block g (fun e => hg ?_)).trans hh, r⟩
    subst hv
    simp [Value.ownBlock, e]
theorem own_mono {w : World} {B B' e size : Nat} {v : Value} {k : Nat} {cs : List Value} (h : w.ownsRow B e size v k cs) (hB : B' ≤ B) : w.ownsRow B' e size v k cs := by
  refine ⟨h.1, ?_⟩
  rcases h.2 with h2 | ⟨g, cap, cur, hv, hb, r⟩
  · exact .inl h2
  · exact .inr ⟨g, cap, cur, hv, by omega, r⟩
theorem own_nil (w : World) (B e size : Nat) : w.ownsRow B e size (.slice none 0 0) 0 [] := ⟨by simp, .inl ⟨rfl, rfl⟩⟩
theorem own_elem {w : World} {B e size : Nat} {A : Option Addr} {k c : Nat} {cs : List Value} (h : w.ownsRow B e size (.slice A k c) k cs) (hk : 0 < k) : ∃ g, A = some ⟨g, 0, none⟩ ∧ B ≤ g ∧ ∀ (j : Nat) (v : Value), cs[j]? = some v → w.cell? ((⟨g, 0, none⟩ : Addr).add j) = some v := by
  rcases h.2 with ⟨_, h0⟩ | ⟨g, cap, cur, hv, hb, hh, _, _, hcs, ht⟩
  · omega
  · injection hv with hA _ _
    refine ⟨g, hA, hb, fun j v hj => ?_⟩
    have hadd : (⟨g, 0, none⟩ : Addr).add j = ⟨g, j, none⟩ := by unfold Addr.add; split <;> simp_all
    rw [hadd]
    simp only [World.cell?, hh]
    rw [← ht] at hj
    rw [List.getElem?_take] at hj
    split at hj
    · simpa using hj
    · cases hj
theorem Box.grown {w w' : World} {g t : Nat} {cs : List Value} {row : Option Nat} (h : Box w g t cs) (hg : w.grownBy w' row) (hne : some g ≠ row) : Box w' g t cs := (hg.block g h.lt hne).trans h
theorem own_box_ne {w : World} {B e size g T : Nat} {v : Value} {k : Nat} {cs bs : List Value} (h : w.ownsRow B e size v k cs) (hb : Box w g T bs) (hne : e ≠ T) : some g ≠ v.ownBlock := by
  rcases h.2 with ⟨rfl, _⟩ | ⟨g', cap, cur, rfl, _, hh, _⟩
  · simp [Value.ownBlock]
  · intro he
    have : g = g' := by simpa [Value.ownBlock] using he
    subst this
    unfold Box at hb
    rw [hh] at hb
    injection hb with hb
    injection hb with _ ht _
    exact hne ht
theorem Ext.below {a w w' : World} {B : Nat} (h : Ext a w) (hB : a.heap.size ≤ B) (b : Below B w w') : Ext a w' := Below.trans h (b.mono hB)
theorem p_append {B e size bytes t : Nat} {s x : Operand} {v : Value} {k m c : Nat} {cs news : List Value} {ad : Addr} (hT : elT P t e size bytes = true) (hw : wanted n ops ρ o = true) (hd : o.dst = some d) (ho : o.op = .call { callee := .builtin .append, args := #[s, x], argTypes := #[t, t] })
    (hs : ev n ρ s = v) (hown : w.ownsRow B e size v k cs) (hx : ev n ρ x = .slice (some ad) m c) (hl : news.length = m * size) (hn : ∀ (j : Nat) (u : Value), news[j]? = some u → w.cell? (ad.add j) = some u) (h1 : allOne news = true) (h63 : (k + m) * bytes ≤ 140737488355328) (hk63 : k + m ≤ 9223372036854775807) (hB : B ≤ w.heap.size)
    (hk : ∀ A c' w', w'.ownsRow B e size (.slice A (k + m) c') (k + m) (cs ++ news) → Below B w w' → w.grownBy w' v.ownBlock → k + m ≤ c' → c' ≤ 9223372036854775807 → WL P ops Q rest (act n (up ρ d (.slice A (k + m) c'))) w') : WL P ops Q (o :: rest) (act n ρ) w := by
  obtain ⟨ht, i, z, hi, hz, hsz, hby, hzs, hpos⟩ := elT_spec hT
  obtain ⟨v', w', hrun, hown', hg, _⟩ := run_append_own (P := P) w B t o.type e i z size bytes ht hi hz hsz hby hzs hpos v k cs hown ad m c news hl hn (allOne_mem h1) (by simpa [maxLen] using hk63) h63 hB
  obtain ⟨A, c', rfl, hc1, hc2⟩ := own_slice hown'
  refine p_run hw hd (v := .slice A (k + m) c') (w' := w') ?_ (hk A c' w' hown' (Below.grown (Below.refl B w) hg hB (fun j hj => own_base hown j hj)) hg hc1 hc2)
  simp only [execOp, ho, resolve, invoke, builtin, Sem.run_bind, Sem.run_pure, Result.andThen_ok, List.map_toArray, List.map_cons, List.map_nil, hs, hx, hrun]
theorem p_append_nil {B e size bytes t : Nat} {s x : Operand} {v : Value} {k c : Nat} {cs : List Value} (hT : elT P t e size bytes = true) (hw : wanted n ops ρ o = true) (hd : o.dst = some d) (ho : o.op = .call { callee := .builtin .append, args := #[s, x], argTypes := #[t, t] })
    (hs : ev n ρ s = v) (hown : w.ownsRow B e size v k cs) (hx : ev n ρ x = .slice none 0 c) (hk : WL P ops Q rest (act n (up ρ d v)) w) : WL P ops Q (o :: rest) (act n ρ) w := by
  obtain ⟨ht, i, z, hi, hz, hsz, hby, hzs, hpos⟩ := elT_spec hT
  refine p_run hw hd (v := v) (w' := w) ?_ hk
  have hrun : (Builtin.append_ #[t, t] o.type #[v, .slice none 0 c]).run P w = .ok v w := by
    rcases hown.2 with ⟨rfl, rfl⟩ | ⟨g, cap, cur, rfl, _, _, hnc, _⟩
    · simp [Builtin.append_, run_underlying ht, sizeOf, typeInfo, hi, Builtin.lenOf, Builtin.firstCells]
    · simp [Builtin.append_, run_underlying ht, sizeOf, typeInfo, hi, Builtin.lenOf, Builtin.firstCells, hnc, storeCells]
  simp only [execOp, ho, resolve, invoke, builtin, Sem.run_bind, Sem.run_pure, Result.andThen_ok, List.map_toArray, List.map_cons, List.map_nil, hs, hx, hrun]
theorem parts1 {x0 : Operand} {a0 : Value} (h0 : ev n ρ x0 = a0) : #[(0, x0)].map (fun (i, x) => (i, ev n ρ x)) = #[(0, a0)] := by simp [h0]
theorem parts2 {x0 x1 : Operand} {a0 a1 : Value} (h0 : ev n ρ x0 = a0) (h1 : ev n ρ x1 = a1) : #[(0, x0), (1, x1)].map (fun (i, x) => (i, ev n ρ x)) = #[(0, a0), (1, a1)] := by simp [h0, h1]
theorem parts3 {x0 x1 x2 : Operand} {a0 a1 a2 : Value} (h0 : ev n ρ x0 = a0) (h1 : ev n ρ x1 = a1) (h2 : ev n ρ x2 = a2) : #[(0, x0), (1, x1), (2, x2)].map (fun (i, x) => (i, ev n ρ x)) = #[(0, a0), (1, a1), (2, a2)] := by simp [h0, h1, h2]
theorem parts4 {x0 x1 x2 x3 : Operand} {a0 a1 a2 a3 : Value} (h0 : ev n ρ x0 = a0) (h1 : ev n ρ x1 = a1) (h2 : ev n ρ x2 = a2) (h3 : ev n ρ x3 = a3) : #[(0, x0), (1, x1), (2, x2), (3, x3)].map (fun (i, x) => (i, ev n ρ x)) = #[(0, a0), (1, a1), (2, a2), (3, a3)] := by simp [h0, h1, h2, h3]
theorem parts5 {x0 x1 x2 x3 x4 : Operand} {a0 a1 a2 a3 a4 : Value} (h0 : ev n ρ x0 = a0) (h1 : ev n ρ x1 = a1) (h2 : ev n ρ x2 = a2) (h3 : ev n ρ x3 = a3) (h4 : ev n ρ x4 = a4) : #[(0, x0), (1, x1), (2, x2), (3, x3), (4, x4)].map (fun (i, x) => (i, ev n ρ x)) = #[(0, a0), (1, a1), (2, a2), (3, a3), (4, a4)] := by simp [h0, h1, h2, h3, h4]
theorem parts6 {x0 x1 x2 x3 x4 x5 : Operand} {a0 a1 a2 a3 a4 a5 : Value} (h0 : ev n ρ x0 = a0) (h1 : ev n ρ x1 = a1) (h2 : ev n ρ x2 = a2) (h3 : ev n ρ x3 = a3) (h4 : ev n ρ x4 = a4) (h5 : ev n ρ x5 = a5) : #[(0, x0), (1, x1), (2, x2), (3, x3), (4, x4), (5, x5)].map (fun (i, x) => (i, ev n ρ x)) = #[(0, a0), (1, a1), (2, a2), (3, a3), (4, a4), (5, a5)] := by simp [h0, h1, h2, h3, h4, h5]
theorem parts7 {x0 x1 x2 x3 x4 x5 x6 : Operand} {a0 a1 a2 a3 a4 a5 a6 : Value} (h0 : ev n ρ x0 = a0) (h1 : ev n ρ x1 = a1) (h2 : ev n ρ x2 = a2) (h3 : ev n ρ x3 = a3) (h4 : ev n ρ x4 = a4) (h5 : ev n ρ x5 = a5) (h6 : ev n ρ x6 = a6) : #[(0, x0), (1, x1), (2, x2), (3, x3), (4, x4), (5, x5), (6, x6)].map (fun (i, x) => (i, ev n ρ x)) = #[(0, a0), (1, a1), (2, a2), (3, a3), (4, a4), (5, a5), (6, a6)] := by simp [h0, h1, h2, h3, h4, h5, h6]
theorem parts8 {x0 x1 x2 x3 x4 x5 x6 x7 : Operand} {a0 a1 a2 a3 a4 a5 a6 a7 : Value} (h0 : ev n ρ x0 = a0) (h1 : ev n ρ x1 = a1) (h2 : ev n ρ x2 = a2) (h3 : ev n ρ x3 = a3) (h4 : ev n ρ x4 = a4) (h5 : ev n ρ x5 = a5) (h6 : ev n ρ x6 = a6) (h7 : ev n ρ x7 = a7) : #[(0, x0), (1, x1), (2, x2), (3, x3), (4, x4), (5, x5), (6, x6), (7, x7)].map (fun (i, x) => (i, ev n ρ x)) = #[(0, a0), (1, a1), (2, a2), (3, a3), (4, a4), (5, a5), (6, a6), (7, a7)] := by simp [h0, h1, h2, h3, h4, h5, h6, h7]
theorem parts9 {x0 x1 x2 x3 x4 x5 x6 x7 x8 : Operand} {a0 a1 a2 a3 a4 a5 a6 a7 a8 : Value} (h0 : ev n ρ x0 = a0) (h1 : ev n ρ x1 = a1) (h2 : ev n ρ x2 = a2) (h3 : ev n ρ x3 = a3) (h4 : ev n ρ x4 = a4) (h5 : ev n ρ x5 = a5) (h6 : ev n ρ x6 = a6) (h7 : ev n ρ x7 = a7) (h8 : ev n ρ x8 = a8) : #[(0, x0), (1, x1), (2, x2), (3, x3), (4, x4), (5, x5), (6, x6), (7, x7), (8, x8)].map (fun (i, x) => (i, ev n ρ x)) = #[(0, a0), (1, a1), (2, a2), (3, a3), (4, a4), (5, a5), (6, a6), (7, a7), (8, a8)] := by simp [h0, h1, h2, h3, h4, h5, h6, h7, h8]
theorem parts10 {x0 x1 x2 x3 x4 x5 x6 x7 x8 x9 : Operand} {a0 a1 a2 a3 a4 a5 a6 a7 a8 a9 : Value} (h0 : ev n ρ x0 = a0) (h1 : ev n ρ x1 = a1) (h2 : ev n ρ x2 = a2) (h3 : ev n ρ x3 = a3) (h4 : ev n ρ x4 = a4) (h5 : ev n ρ x5 = a5) (h6 : ev n ρ x6 = a6) (h7 : ev n ρ x7 = a7) (h8 : ev n ρ x8 = a8) (h9 : ev n ρ x9 = a9) : #[(0, x0), (1, x1), (2, x2), (3, x3), (4, x4), (5, x5), (6, x6), (7, x7), (8, x8), (9, x9)].map (fun (i, x) => (i, ev n ρ x)) = #[(0, a0), (1, a1), (2, a2), (3, a3), (4, a4), (5, a5), (6, a6), (7, a7), (8, a8), (9, a9)] := by simp [h0, h1, h2, h3, h4, h5, h6, h7, h8, h9]
theorem parts11 {x0 x1 x2 x3 x4 x5 x6 x7 x8 x9 x10 : Operand} {a0 a1 a2 a3 a4 a5 a6 a7 a8 a9 a10 : Value} (h0 : ev n ρ x0 = a0) (h1 : ev n ρ x1 = a1) (h2 : ev n ρ x2 = a2) (h3 : ev n ρ x3 = a3) (h4 : ev n ρ x4 = a4) (h5 : ev n ρ x5 = a5) (h6 : ev n ρ x6 = a6) (h7 : ev n ρ x7 = a7) (h8 : ev n ρ x8 = a8) (h9 : ev n ρ x9 = a9) (h10 : ev n ρ x10 = a10) : #[(0, x0), (1, x1), (2, x2), (3, x3), (4, x4), (5, x5), (6, x6), (7, x7), (8, x8), (9, x9), (10, x10)].map (fun (i, x) => (i, ev n ρ x)) = #[(0, a0), (1, a1), (2, a2), (3, a3), (4, a4), (5, a5), (6, a6), (7, a7), (8, a8), (9, a9), (10, a10)] := by simp [h0, h1, h2, h3, h4, h5, h6, h7, h8, h9, h10]
theorem parts12 {x0 x1 x2 x3 x4 x5 x6 x7 x8 x9 x10 x11 : Operand} {a0 a1 a2 a3 a4 a5 a6 a7 a8 a9 a10 a11 : Value} (h0 : ev n ρ x0 = a0) (h1 : ev n ρ x1 = a1) (h2 : ev n ρ x2 = a2) (h3 : ev n ρ x3 = a3) (h4 : ev n ρ x4 = a4) (h5 : ev n ρ x5 = a5) (h6 : ev n ρ x6 = a6) (h7 : ev n ρ x7 = a7) (h8 : ev n ρ x8 = a8) (h9 : ev n ρ x9 = a9) (h10 : ev n ρ x10 = a10) (h11 : ev n ρ x11 = a11) : #[(0, x0), (1, x1), (2, x2), (3, x3), (4, x4), (5, x5), (6, x6), (7, x7), (8, x8), (9, x9), (10, x10), (11, x11)].map (fun (i, x) => (i, ev n ρ x)) = #[(0, a0), (1, a1), (2, a2), (3, a3), (4, a4), (5, a5), (6, a6), (7, a7), (8, a8), (9, a9), (10, a10), (11, a11)] := by simp [h0, h1, h2, h3, h4, h5, h6, h7, h8, h9, h10, h11]
theorem fill_seq {size : Nat} : ∀ (vs : List Value) (i0 : Nat) (cells : Array Value), (∀ v ∈ vs, v.cells.size = size) → (i0 + vs.length) * size ≤ cells.size →
    ∃ r, Instr.fill (fun i => some (i * size, size)) cells ((vs.zipIdx i0).map fun x => (x.2, x.1)) = some r ∧ r.size = cells.size ∧ ∀ i, r[i]? = if i0 * size ≤ i ∧ i < (i0 + vs.length) * size then (vs.flatMap fun v => v.cells.toList)[i - i0 * size]? else cells[i]? := by
  intro vs
  induction vs with
  | nil =>
    intro i0 cells _ _
    refine ⟨cells, rfl, rfl, fun i => ?_⟩
    rw [if_neg (by simp only [List.length_nil, Nat.add_zero]; omega)]
  | cons v vs ih =>
    intro i0 cells hs hfit
    have hv : v.cells.size = size := hs v (List.mem_cons_self ..)
    have hmul : (i0 + (vs.length + 1)) * size = i0 * size + size + vs.length * size := by
      rw [Nat.add_mul, Nat.add_mul]; omega
    have hmul1 : (i0 + 1) * size = i0 * size + size := by rw [Nat.add_mul]; omega
    simp only [List.length_cons] at hfit
    obtain ⟨p1, p2⟩ := put_fold (i0 * size) v.cells.toList 0 cells (by simp only [Array.length_toList, hv]; rw [hmul] at hfit; omega)
    have hz : v.cells.zipIdx.foldl (fun cs (c, j) => cs.setIfInBounds (i0 * size + j) c) cells = (v.cells.toList.zipIdx 0).foldl (fun cs (c, j) => cs.setIfInBounds (i0 * size + j) c) cells := by
      rw [← Array.foldl_toList, Array.toList_zipIdx]
    obtain ⟨r, hr, hrs, hri⟩ := ih (i0 + 1) (v.cells.zipIdx.foldl (fun cs (c, j) => cs.setIfInBounds (i0 * size + j) c) cells) (fun u hu => hs u (List.mem_cons_of_mem _ hu)) (by
      rw [hz, p1, show (i0 + 1 + vs.length) * size = (i0 + (vs.length + 1)) * size from by rw [show i0 + 1 + vs.length = i0 + (vs.length + 1) from by omega]]; exact hfit)
    refine ⟨r, ?_, by rw [hrs, hz, p1], fun i => ?_⟩
    · simp only [List.zipIdx_cons, List.map_cons, Instr.fill]
      rw [if_neg (by simp only [hv, Nat.not_lt, Bool.or_eq_true, decide_eq_true_eq, ne_eq, not_true_eq_false, false_or, gt_iff_lt]; rw [hmul] at hfit; omega)]
      exact hr
    · rw [hri i, hz, p2 i]
      simp only [List.length_cons, List.flatMap_cons, Array.length_toList, hv, Nat.add_zero, hmul1]
      have hmul2 : (i0 + 1 + vs.length) * size = i0 * size + size + vs.length * size := by
        rw [show i0 + 1 + vs.length = i0 + (vs.length + 1) from by omega, hmul]
      rw [hmul2, hmul]
      by_cases h1 : i0 * size + size ≤ i ∧ i < i0 * size + size + vs.length * size
      · rw [if_pos h1, if_pos (by omega), List.getElem?_append_right (by simp only [Array.length_toList, hv]; omega)]
        simp only [Array.length_toList, hv]
        rw [show i - i0 * size - size = i - (i0 * size + size) from by omega]
      · rw [if_neg h1]
        by_cases h2 : i0 * size ≤ i ∧ i < i0 * size + size
        · rw [if_pos h2, if_pos (by omega), List.getElem?_append_left (by simp only [Array.length_toList, hv]; omega)]
        · rw [if_neg h2, if_neg (by omega)]
theorem fill_of {size : Nat} (vs : List Value) (cs : List Value) (hs : ∀ v ∈ vs, v.cells.size = size) (hc : (vs.flatMap fun v => v.cells.toList) = cs) : ∀ z : Array Value, z.size = size → Instr.fill (fun i => some (i * size, size)) ((Array.range (vs.length * size)).map (fun j => z[j % z.size]!)) ((vs.zipIdx 0).map fun x => (x.2, x.1)) = some cs.toArray := by
  intro z _
  obtain ⟨r, hr, hrs, hri⟩ := fill_seq (size := size) vs 0 ((Array.range (vs.length * size)).map (fun j => z[j % z.size]!)) hs (by simp)
  rw [hr, ← hc]
  have hlen : (vs.flatMap fun v => v.cells.toList).length = vs.length * size := by
    clear hr hri hrs hc
    induction vs with
    | nil => simp
    | cons v vs ih =>
      have h1 := hs v (List.mem_cons_self ..)
      have h2 := ih (fun u hu => hs u (List.mem_cons_of_mem _ hu))
      simp only [List.flatMap_cons, List.length_append, Array.length_toList, h1, h2, List.length_cons, Nat.add_mul]
      omega
  congr 1
  apply Array.ext_getElem?
  intro i
  rw [hri i]
  simp only [Nat.zero_mul, Nat.zero_le, true_and, Nat.zero_add, Nat.sub_zero]
  by_cases h : i < vs.length * size
  · rw [if_pos h]; simp
  · rw [if_neg h]
    have h1 : ¬ i < (Array.map (fun j => z[j % z.size]!) (Array.range (vs.length * size))).size := by simpa using h
    rw [Array.getElem?_eq_none (by omega)]
    have h2 : (vs.flatMap fun v => v.cells.toList).length ≤ i := by omega
    simp [List.getElem?_eq_none h2]
theorem fill_ok {size : Nat} (vs : List Value) (cs : List Value) (h : vs.all (fun v => v.cells.size == size) = true) (hc : (vs.flatMap fun v => v.cells.toList) = cs) : ∀ z : Array Value, z.size = size → Instr.fill (fun i => some (i * size, size)) ((Array.range (vs.length * size)).map (fun j => z[j % z.size]!)) ((vs.zipIdx 0).map fun x => (x.2, x.1)) = some cs.toArray :=
  fill_of vs cs (fun v hv => by simpa using List.all_eq_true.1 h v hv) hc
theorem exec_buildSlice {t e size bytes len : Nat} {parts : Array (Nat × Operand)} {vals : Array (Nat × Value)} {cs : List Value} (hT : elT P t e size bytes = true) (ho : o.op = .buildSlice t len parts) (hv : parts.map (fun (i, x) => (i, ev n ρ x)) = vals) (hlen : 0 < len) (hmax : len * size ≤ 16777216)
    (hf : ∀ z : Array Value, z.size = size → Instr.fill (fun i => some (i * size, size)) ((Array.range (len * size)).map (fun j => z[j % z.size]!)) vals.toList = some cs.toArray) (w : World) : (execOp (ev n ρ) o).run P w = .ok (.value (.slice (some ⟨w.heap.size, 0, none⟩) len len)) (w.alloc (.cells cs.toArray e)) := by
  obtain ⟨ht, i, z, hi, hz, hsz, hby, hzs, hpos⟩ := elT_spec hT
  have h0 : ¬ len * size = 0 := by
    intro h; rcases Nat.mul_eq_zero.1 h with h | h <;> omega
  have hgt : ¬ len * size > 2 ^ 24 := by omega
  have hf' := hf z.cells hzs
  have hzv : (zeroValue e).run P w = .ok z w := run_zero (by simp [hi, hz]) w
  have hnr : ∀ cells : Array Value, (newRow e cells).run P w = .ok ⟨w.heap.size, 0, none⟩ (w.alloc (.cells cells e)) := fun cells => by
    simp [newRow, newObj, Sem.run, World.alloc_eq]
  have hss : (P.info? e).map (·.size) = some size := by simp [hi, hsz]
  simp only [execOp, ho, Instr.buildSlice, Sem.run_bind, run_underlying ht, Result.andThen_ok, run_sizeOf' hss, if_neg hgt, if_neg h0, hzv, Sem.run_pure]
  rw [hv, hf']
  simp only [Sem.run_bind, hnr, Result.andThen_ok, Sem.run_pure]
theorem p_buildSlice {t e size bytes len : Nat} {parts : Array (Nat × Operand)} {vals : Array (Nat × Value)} {cs : List Value} (hT : elT P t e size bytes = true) (hw : wanted n ops ρ o = true) (hd : o.dst = some d) (ho : o.op = .buildSlice t len parts) (hv : parts.map (fun (i, x) => (i, ev n ρ x)) = vals) (hlen : 0 < len) (hmax : len * size ≤ 16777216)
    (hf : ∀ z : Array Value, z.size = size → Instr.fill (fun i => some (i * size, size)) ((Array.range (len * size)).map (fun j => z[j % z.size]!)) vals.toList = some cs.toArray)
    (hk : ∀ w', Box w' w.heap.size e cs → Ext w w' → w'.heap.size = w.heap.size + 1 → WL P ops Q rest (act n (up ρ d (.slice (some ⟨w.heap.size, 0, none⟩) len len))) w') : WL P ops Q (o :: rest) (act n ρ) w :=
  p_run hw hd (exec_buildSlice hT ho hv hlen hmax hf w) (hk _ (by simpa using Box.new w e cs.toArray) ((Ext.refl w).alloc _) (by simp))
/-! closures -/
theorem x_makeFunc {f : FuncId} {cap : Array Operand} {vs : Array Value} (ho : o.op = .makeFunc (.func f) #[] cap) (hc : cap.map (ev n ρ) = vs) : Yields P o n ρ w (.func (.func f) #[] vs) := by
  simp [Yields, execOp, ho, Instr.makeFunc, hc]
theorem exec_callv {f : FuncId} {x : Operand} {as : Array Operand} {ts : Array TypeId} {vs cap : Array Value} (hf : fnT P f = true) (ho : o.op = .call { callee := .value x, args := as, argTypes := ts }) (hx : ev n ρ x = .func (.func f) #[] cap) (ha : as.map (ev n ρ) = vs) (w : World) : (execOp (ev n ρ) o).run P w = .ok (.enter f (vs ++ cap)) w := by
  simp [execOp, ho, resolve, hx, Deferred.ofValue, invoke, run_callFunc hf, ha]
theorem q_callv {f : FuncId} {x : Operand} {as : Array Operand} {ts : Array TypeId} {vs cap all : Array Value} {Q : Act → Prop} (hf : fnT P f = true) (hw : wanted n ops ρ o = true) (hd : o.dst = some d) (ho : o.op = .call { callee := .value x, args := as, argTypes := ts }) (hx : ev n ρ x = .func (.func f) #[] cap) (ha : as.map (ev n ρ) = vs) (hall : vs ++ cap = all) {W : World}
    (h : ∀ w', Ext W w' → Calls P f all w' (Ret w' v)) (hk : WQ P ops (Ext W) Q rest (act n (up ρ d v))) : WQ P ops (Ext W) Q (o :: rest) (act n ρ) := by
  refine ⟨?_⟩
  unfold wpQuiet
  rw [wanted_eq, hw, if_pos rfl]
  refine ⟨v, fun w' hw' => ?_, by rw [hd, act_put]; exact hk.out⟩
  unfold Oper.quietAt
  rw [act_eval', exec_callv hf ho hx ha, hall]
  exact ⟨rfl, (h w' hw').mono fun e w'' ⟨he, hx⟩ => ⟨he, hw'.trans hx⟩⟩
theorem q_callvb {f : FuncId} {x : Operand} {as : Array Operand} {ts : Array TypeId} {vs cap all : Array Value} {Q : Act → Prop} {b : Bool} (hf : fnT P f = true) (hw : wanted n ops ρ o = true) (hd : o.dst = some d) (ho : o.op = .call { callee := .value x, args := as, argTypes := ts }) (hx : ev n ρ x = .func (.func f) #[] cap) (ha : as.map (ev n ρ) = vs) (hall : vs ++ cap = all) {W : World}
    (h : ∀ w', Ext W w' → Calls P f all w' (Ret w' (.bool b))) (ht : b = true → WQ P ops (Ext W) Q rest (act n (up ρ d (.bool true)))) (hff : b = false → WQ P ops (Ext W) Q rest (act n (up ρ d (.bool false)))) : WQ P ops (Ext W) Q (o :: rest) (act n ρ) := by
  cases b with
  | true => exact q_callv hf hw hd ho hx ha hall h (ht rfl)
  | false => exact q_callv hf hw hd ho hx ha hall h (hff rfl)
end own
/-! operands of a call -/
theorem args0 : (#[] : Array Operand).map (ev n ρ) = #[] := by simp
theorem args1 {x : Operand} {a : Value} (h : ev n ρ x = a) : #[x].map (ev n ρ) = #[a] := by simp [h]
theorem args2 {x y : Operand} {a b : Value} (h : ev n ρ x = a) (k : ev n ρ y = b) : #[x, y].map (ev n ρ) = #[a, b] := by simp [h, k]
theorem args3 {x y z : Operand} {a b c : Value} (h : ev n ρ x = a) (k : ev n ρ y = b) (l : ev n ρ z = c) : #[x, y, z].map (ev n ρ) = #[a, b, c] := by simp [h, k, l]
theorem args4 {x y z u : Operand} {a b c d : Value} (h : ev n ρ x = a) (k : ev n ρ y = b) (l : ev n ρ z = c) (m : ev n ρ u = d) : #[x, y, z, u].map (ev n ρ) = #[a, b, c, d] := by simp [h, k, l, m]
theorem wrap_eq {c d : Int} (h : c = d) (h1 : -9223372036854775808 ≤ d) (h2 : d ≤ 9223372036854775807) : IntKind.i64.wrap c = d := by rw [h]; exact IntWalk.i64_in d ⟨h1, h2⟩
theorem wrap_of {c : Int} (h1 : -9223372036854775808 ≤ c) (h2 : c ≤ 9223372036854775807) : IntKind.i64.wrap c = c := IntWalk.i64_in c ⟨h1, h2⟩
theorem quo_of {a b : Int} (h1 : 0 ≤ a) (h2 : 0 ≤ b) (h3 : a ≤ 9223372036854775807) : IntKind.i64.wrap (a.tdiv b) = a / b := by
  rw [Int.tdiv_eq_ediv_of_nonneg h1]
  refine wrap_of ?_ ?_
  · have := Int.ediv_nonneg h1 h2; omega
  · have := Int.ediv_le_self b h1; omega
theorem rem_of {a b : Int} (h1 : 0 ≤ a) : a.tmod b = a % b := Int.tmod_eq_emod_of_nonneg h1
theorem yb {b c : Bool} (h : Yields P o n ρ w (.bool b)) (e : b = c) : Yields P o n ρ w (.bool c) := e ▸ h
theorem Ret.b {b c : Bool} {w' : World} (h : b = c) (hx : Ext w w') : Ret w (.bool c) (.returned (.bool b)) w' := ⟨by rw [h], hx⟩
theorem Ret.i {k : IntKind} {b c : Int} {w' : World} (h : b = c) (hx : Ext w w') : Ret w (.int k c) (.returned (.int k b)) w' := ⟨by rw [h], hx⟩
theorem Ret.v {b c : Value} {w' : World} (h : b = c) (hx : Ext w w') : Ret w c (.returned b) w' := ⟨by rw [h], hx⟩
end
end Go.Eng
