/- Regions that draw their order and act: taken operation by operation, with what may be read kept as a condition on the world. -/
import Derived.Test.YtadeigpphklmfaaEng
import Derived.OrdersHeld
import Derived.Lib.AppendStr
import Derived.Lib.ConvBytes
set_option linter.unusedVariables false
set_option linter.unusedSimpArgs false
namespace Go.Eng
open Go.RowKit

/-- wpAnyH, behind a wall; with what its laws ask of the region once for all. -/
structure WD (P : Program) (ops : Array Oper) (Q : Exit → Act → World → Prop) (S : World → Prop) (fuel : Nat) (L : List Bool) (a : Act) (w : World) : Prop where
  out : Region.noSelect ops = true → (∀ (c : List PanicEntry) (a : Act) (d : Nat) (v : Value) (w : World), Q (.panic c) (a.put (some d) v) w → Q (.panic c) a w) → wpAnyH P .any ops Q S fuel L.toArray a w
section
variable {P : Program} {n : Nat} {ρ : Env} {w : World} {o : Oper} {ops : Array Oper} {Q : Exit → Act → World → Prop} {S : World → Prop} {fuel i d id : Nat} {L L' : List Bool} {l : List Oper} {v : Value}

theorem ext_drew (w : World) : Ext w w.drew := (Ext.refl w).drew
theorem c_drawn (hm : P.follows .mixedOrders = true) (hs : Region.noSelect l.toArray = true) (hQ : ∀ (c : List PanicEntry) (a : Act) (d : Nat) (v : Value) (w : World), Q (.panic c) (a.put (some d) v) w → Q (.panic c) a w) (S : World → World → Prop) (N : Nat) (hN : l.length = N)
    (h : ∀ w1, Ext w w1 → w1.heap.size = w.heap.size → WD P l.toArray Q (S w1) N (List.replicate N false) (act n ρ) w1) : (Code.region id l.toArray true).wp P Q (act n ρ) w :=
  wp_region_any hm (wpAny_of_held (S := S w.drew) _ _ _ _ (by
    have := (h w.drew (ext_drew w) rfl).out hs hQ
    subst hN
    simpa using this))
/-- the Bool checks of a take, at once -/
def takeT (ops : Array Oper) (L : List Bool) (i : Nat) (d : Nat) (L' : List Bool) : Bool := Region.free .any ops L.toArray i && (Region.ready .any ops L.toArray).contains i && L.set i true == L' && ((ops[i]?).map (·.dst) == some (some d))
theorem takeT_spec (h : takeT ops L i d L' = true) : Region.free .any ops L.toArray i = true ∧ (Region.ready .any ops L.toArray).contains i = true ∧ L.toArray.setIfInBounds i true = L'.toArray ∧ ∃ o, ops[i]? = some o ∧ o.dst = some d := by
  simp only [takeT, Bool.and_eq_true, beq_iff_eq] at h
  obtain ⟨⟨⟨h1, h2⟩, h3⟩, h4⟩ := h
  refine ⟨h1, h2, by rw [← h3]; simp, ?_⟩
  cases ho : ops[i]? with
  | none => rw [ho] at h4; cases h4
  | some o => rw [ho] at h4; exact ⟨o, rfl, by simpa using h4⟩
theorem d_take (ho : ops[i]? = some o) (hT : takeT ops L i d L' = true) (hw : wanted n ops ρ o = true) (hS : S w) (hy : ∀ w', S w' → Yields P o n ρ w' v) (hk : WD P ops Q S fuel L' (act n (up ρ d v)) w) : WD P ops Q S (fuel + 1) L (act n ρ) w := by
  obtain ⟨h1, h2, h3, o', ho', hd⟩ := takeT_spec hT
  have e : o' = o := by rw [ho] at ho'; exact (Option.some.inj ho').symm
  subst e
  refine ⟨fun hs hQ => wpAnyH_take ho' hs h1 h2 (fun c a w => by rw [hd]; exact hQ c a d v w) (v := v) (.inl ⟨by rw [wanted_eq, hw], fun w' hw' => ?_⟩) hS ?_⟩
  · have := hy w' hw'
    unfold Yields at this
    rw [act_eval', this]
  · rw [h3, hd, act_put]; exact hk.out hs hQ
theorem d_bool {b : Bool} (ho : ops[i]? = some o) (hT : takeT ops L i d L' = true) (hw : wanted n ops ρ o = true) (hS : S w) (hy : ∀ w', S w' → Yields P o n ρ w' (.bool b)) (ht : b = true → WD P ops Q S fuel L' (act n (up ρ d (.bool true))) w) (hf : b = false → WD P ops Q S fuel L' (act n (up ρ d (.bool false))) w) : WD P ops Q S (fuel + 1) L (act n ρ) w := by
  cases b with
  | true => exact d_take ho hT hw hS hy (ht rfl)
  | false => exact d_take ho hT hw hS hy (hf rfl)
theorem d_skip (ho : ops[i]? = some o) (hT : takeT ops L i d L' = true) (hw : wanted n ops ρ o = false) (hS : S w) (hk : WD P ops Q S fuel L' (act n (up ρ d undef)) w) : WD P ops Q S (fuel + 1) L (act n ρ) w := by
  obtain ⟨h1, h2, h3, o', ho', hd⟩ := takeT_spec hT
  have e : o' = o := by rw [ho] at ho'; exact (Option.some.inj ho').symm
  subst e
  refine ⟨fun hs hQ => wpAnyH_take ho' hs h1 h2 (fun c a w => by rw [hd]; exact hQ c a d undef w) (v := undef) (.inr ⟨by rw [wanted_eq, hw], rfl⟩) hS ?_⟩
  rw [h3, hd, act_put]; exact hk.out hs hQ
/-- An operation that acts, as a list of one. -/
theorem op_of_list {K : Act → World → Prop} {a : Act} (ho : ops[i]? = some o) (h : WL P ops (Exit.then K Q) [o] a w) : wpOp P ops Q i K a w := by
  have h := h.out
  unfold wpOp
  rw [ho]
  unfold wpList at h
  dsimp only
  have hout : LetsOut (Exit.then K Q) → LetsOut Q := fun ⟨a, w, h⟩ => ⟨a, w, h⟩
  have hK : ∀ a w, wpList P ops (Exit.then K Q) [] a w → K a w := fun a w h => h
  split
  · rename_i hw
    rw [if_pos hw] at h
    refine h.imp (fun h => ?_) (fun h => ⟨h.1, hout h.2⟩)
    unfold Oper.wp at *
    generalize (execOp a.eval o).run P w = r at *
    cases r with
    | ok x w' =>
      cases x <;> simp only [Oper.upon] at h ⊢ <;> first
        | exact hK _ _ h
        | exact Calls.mono h (fun e w'' he => by cases e <;> first | exact hK _ _ he | exact hout he | exact he)
        | exact Rows.mono h (fun _ _ he => hK _ _ he)
    | halt x w' => cases x <;> simp only [Oper.upon] at h ⊢ <;> exact h
  · rename_i hw
    rw [if_neg hw] at h
    exact hK _ _ h
/-- What stands behind an operation that acted. -/
def Then (P : Program) (ops : Array Oper) (Q : Exit → Act → World → Prop) (S : World → Prop) (fuel : Nat) (L : List Bool) (a : Act) (w : World) : Prop := S w ∧ WD P ops Q S fuel L a w
theorem d_next (hS : S w) (h : WD P ops Q S fuel L (act n ρ) w) : WL P ops (Exit.then (Then P ops Q S fuel L) Q) [] (act n ρ) w := ⟨⟨hS, h⟩⟩
/-- the Bool checks of what may come up, at once -/
def actT (ops : Array Oper) (L : List Bool) (rs : List Nat) : Bool := Region.ready .any ops L.toArray == rs
theorem d_act1 {i : Nat} (hT : actT ops L [i] = true) (ho : ops[i]? = some o) (hL : L.set i true = L') (h : WL P ops (Exit.then (Then P ops Q S fuel L') Q) [o] (act n ρ) w) : WD P ops Q S (fuel + 1) L (act n ρ) w := by
  refine ⟨fun hs hQ => wpAnyH_all (rs := [i]) (by simpa [actT] using hT) (by simp) fun j hj => ?_⟩
  have : j = i := by simpa using hj
  subst this
  refine wpOp_mono ?_ (op_of_list ho h)
  rintro a' w' ⟨h1, h2⟩
  refine ⟨h1, ?_⟩
  have e : L.toArray.setIfInBounds j true = L'.toArray := by rw [← hL]; simp
  rw [e]; exact h2.out hs hQ
theorem d_act2 {i j : Nat} {o' : Oper} {L'' : List Bool} (hT : actT ops L [i, j] = true) (ho : ops[i]? = some o) (ho' : ops[j]? = some o') (hL : L.set i true = L') (hL' : L.set j true = L'') (h : WL P ops (Exit.then (Then P ops Q S fuel L') Q) [o] (act n ρ) w) (h' : WL P ops (Exit.then (Then P ops Q S fuel L'') Q) [o'] (act n ρ) w) : WD P ops Q S (fuel + 1) L (act n ρ) w := by
  refine ⟨fun hs hQ => wpAnyH_all (rs := [i, j]) (by simpa [actT] using hT) (by simp) fun k hk => ?_⟩
  have : k = i ∨ k = j := by simpa using hk
  rcases this with rfl | rfl
  · refine wpOp_mono ?_ (op_of_list ho h)
    rintro a' w' ⟨h1, h2⟩
    refine ⟨h1, ?_⟩
    have e : L.toArray.setIfInBounds k true = L'.toArray := by rw [← hL]; simp
    rw [e]; exact h2.out hs hQ
  · refine wpOp_mono ?_ (op_of_list ho' h')
    rintro a' w' ⟨h1, h2⟩
    refine ⟨h1, ?_⟩
    have e : L.toArray.setIfInBounds k true = L''.toArray := by rw [← hL']; simp
    rw [e]; exact h2.out hs hQ
theorem d_end (hT : actT ops L [] = true) (h : Q .normal (act n ρ) w) : WD P ops Q S fuel L (act n ρ) w := by
  have hr : Region.ready .any ops L.toArray = [] := by simpa [actT] using hT
  refine ⟨fun _ _ => ?_⟩
  cases fuel with
  | zero => exact ⟨hr, h⟩
  | succ m => exact ⟨fun _ => h, fun i hi => by rw [hr] at hi; cases hi⟩
/-- Ways that meet, at any piece of code. -/
theorem c_meet {x : Code} (J : Env → World → Prop) (hx : x.wp P (Exit.then (fun a' w' => ∃ ρ', a' = act n ρ' ∧ J (norm n ρ') w') Q) (act n ρ) w) (hy : ∀ ρ' w', J ρ' w' → Q .normal (act n ρ') w') : x.wp P Q (act n ρ) w := by
  refine wp_mono hx ?_
  intro e a w h
  cases e with
  | normal =>
    obtain ⟨ρ', rfl, hJ⟩ := h
    have := hy _ _ hJ
    rwa [act_norm] at this
  | _ => exact h
/-! Memory of which but one row of our own may have been written. -/
theorem Grown.refl (w : World) (r : Option Nat) : w.grownBy w r := ⟨rfl, rfl, rfl, Nat.le_refl _, fun _ _ _ => rfl⟩
theorem Grown.ext {w0 w w' : World} {r : Option Nat} (h : w0.grownBy w r) (hx : Ext w w') : w0.grownBy w' r := ⟨hx.os.trans h.os, hx.tape.trans h.tape, hx.output.trans h.output, Nat.le_trans h.size hx.size, fun k hk hne => (hx.block k (Nat.lt_of_lt_of_le hk h.size)).trans (h.block k hk hne)⟩
theorem Grown.trans {w0 w w' : World} {r r' : Option Nat} (h : w0.grownBy w r) (h' : w.grownBy w' r') (hr : r' = r ∨ ∀ k, r' = some k → w0.heap.size ≤ k) : w0.grownBy w' r := ⟨h'.os.trans h.os, h'.tape.trans h.tape, h'.output.trans h.output, Nat.le_trans h.size h'.size, fun k hk hne => (h'.block k (Nat.lt_of_lt_of_le hk h.size) (by
  rcases hr with rfl | hr
  · exact hne
  · intro e; have := hr k e.symm; omega)).trans (h.block k hk hne)⟩
theorem Ext.grown {w w' : World} (h : Ext w w') (r : Option Nat) : w.grownBy w' r := Grown.ext (Grown.refl w r) h

/-- Below B all is as it was; every block whose type is another than e is as it was. -/
structure Kept (B e : Nat) (w w' : World) : Prop where
  below : Below B w w'
  boxes : ∀ (g T : Nat) (bs : List Value), T ≠ e → Box w g T bs → Box w' g T bs
  maps : ∀ (g : Nat) (es : Array MapEntry) (cl : Nat), w.heap[g]? = some (.map es cl) → w'.heap[g]? = some (.map es cl)
theorem Kept.refl (B e : Nat) (w : World) : Kept B e w w := ⟨Below.refl B w, fun _ _ _ _ h => h, fun _ _ _ h => h⟩
theorem Kept.trans {B e : Nat} {a b c : World} (h : Kept B e a b) (k : Kept B e b c) : Kept B e a c := ⟨h.below.trans k.below, fun g T bs hT hb => k.boxes g T bs hT (h.boxes g T bs hT hb), fun g es cl hm => k.maps g es cl (h.maps g es cl hm)⟩
theorem Kept.ext {B e : Nat} {a w w' : World} (h : Kept B e a w) (hx : Ext w w') (hB : B ≤ w.heap.size) : Kept B e a w' := h.trans ⟨hx.mono hB, fun _ _ _ _ hb => hb.ext hx, fun g es cl hm => (hx.block g (Array.getElem?_eq_some_iff.1 hm).1).trans hm⟩
theorem Kept.of {B e size k : Nat} {w w' : World} {v : Value} {cs : List Value} (hb : Below B w w') (hg : w.grownBy w' v.ownBlock) (hown : w.ownsRow B e size v k cs) : Kept B e w w' :=
  ⟨hb, fun _ _ _ hT h => h.grown hg (own_box_ne hown h (Ne.symm hT)), fun g es cl hm => (hg.block g (Array.getElem?_eq_some_iff.1 hm).1 (by
    rcases hown.2 with ⟨rfl, _⟩ | ⟨g', cap, cur, rfl, _, hh, _⟩
    · simp [Value.ownBlock]
    · intro he
      have e1 : g = g' := by simpa [Value.ownBlock] using he
      subst e1
      rw [hh] at hm
      cases hm)).trans hm⟩
theorem Box.kept {w w' : World} {g T B e : Nat} {bs : List Value} (h : Box w g T bs) (hk : Kept B e w w') (hT : T ≠ e) : Box w' g T bs := hk.boxes g T bs hT h
/-- A row just built is a row of our own. -/
theorem own_box {w : World} {g e size k B : Nat} {cs : List Value} (hb : Box w g e cs) (hB : B ≤ g) (hl : cs.length = k * size) (hk : k ≤ 9223372036854775807) : w.ownsRow B e size (.slice (some ⟨g, 0, none⟩) k k) k cs :=
  ⟨hl, .inr ⟨g, k, cs.toArray, rfl, hB, hb, Nat.le_refl _, hk, by simp [hl], by simp [← hl]⟩⟩

def cvT (P : Program) (t : TypeId) (k : IntKind) : Bool := match P.underlying t with | some (.int q) => decide (q = k) | _ => false
theorem x_convert {src dst : TypeId} {x : Operand} {k k' : IntKind} {a c : Int} (hT : cvT P dst k' = true) (hS : (P.underlying src).isSome = true) (ho : o.op = .convert src dst x) (hx : ev n ρ x = .int k a) (hc : k'.wrap a = c) : Yields P o n ρ w (.int k' c) := by
  obtain ⟨s, hs⟩ := Option.isSome_iff_exists.1 hS
  have hd : P.underlying dst = some (.int k') := by
    unfold cvT at hT
    split at hT
    · rename_i q hq; rw [hq]; have := of_decide_eq_true hT; rw [this]
    · cases hT
  subst hc
  cases s <;> simp [Yields, execOp, ho, hx, convert, run_underlying hs, run_underlying hd, Conv.intToInt]
def plainT (P : Program) (t : TypeId) : Bool := match P.underlying t with
  | some (.interface _) => false
  | some _ => true
  | none => false
theorem plainT_spec {P : Program} {t : TypeId} (h : plainT P t = true) : ∃ u, P.underlying t = some u ∧ ∀ m, u ≠ .interface m := by
  unfold plainT at h
  cases hu : P.underlying t with
  | none => rw [hu] at h; cases h
  | some u => exact ⟨u, rfl, fun m e => by subst e; rw [hu] at h; cases h⟩
theorem x_makeIface {t : TypeId} {x : Operand} {v : Value} (hT : plainT P t = true) (ho : o.op = .makeInterface t x) (hx : ev n ρ x = v) : Yields P o n ρ w (.iface t v) := by
  obtain ⟨u, hu, hne⟩ := plainT_spec hT
  cases u <;> first | exact absurd rfl (hne _) | simp [Yields, execOp, ho, hx, Instr.makeInterface, run_underlying hu]
theorem x_assert_yes {t s : TypeId} {x : Operand} {v : Value} (hT : plainT P t = true) (ho : o.op = .typeAssert x s t true) (hx : ev n ρ x = .iface t v) : Yields P o n ρ w (.tuple #[v, .bool true]) := by
  obtain ⟨u, hu, hne⟩ := plainT_spec hT
  cases u <;> first | exact absurd rfl (hne _) | simp [Yields, execOp, ho, hx, Instr.typeAssert, run_underlying hu]
theorem x_assert_one {t s : TypeId} {x : Operand} {v : Value} (hT : plainT P t = true) (ho : o.op = .typeAssert x s t false) (hx : ev n ρ x = .iface t v) : Yields P o n ρ w v := by
  obtain ⟨u, hu, hne⟩ := plainT_spec hT
  cases u <;> first | exact absurd rfl (hne _) | simp [Yields, execOp, ho, hx, Instr.typeAssert, run_underlying hu]
theorem x_assert_no {t t' s : TypeId} {x : Operand} {v z : Value} (hT : plainT P t = true) (hne' : t' ≠ t) (hz : (P.info? t).bind (·.zero) = some z) (ho : o.op = .typeAssert x s t true) (hx : ev n ρ x = .iface t' v) : Yields P o n ρ w (.tuple #[z, .bool false]) := by
  obtain ⟨u, hu, hne⟩ := plainT_spec hT
  cases u <;> first | exact absurd rfl (hne _) | simp [Yields, execOp, ho, hx, Instr.typeAssert, run_underlying hu, hne', run_zero hz]
theorem x_assert_nil {t s : TypeId} {x : Operand} {z : Value} (hT : plainT P t = true) (hz : (P.info? t).bind (·.zero) = some z) (ho : o.op = .typeAssert x s t true) (hx : ev n ρ x = .nilIface) : Yields P o n ρ w (.tuple #[z, .bool false]) := by
  obtain ⟨u, hu, hne⟩ := plainT_spec hT
  cases u <;> first | exact absurd rfl (hne _) | simp [Yields, execOp, ho, hx, Instr.typeAssert, run_underlying hu, run_zero hz]
def arrE (P : Program) (t len size : Nat) : Bool := match P.underlying t with
  | some (.array n e) => n == len && ((P.info? e).map (·.size)) == some size
  | _ => false
theorem x_slice_all {t len size : Nat} {x : Operand} {a : Addr} (hT : arrE P t len size = true) (ho : o.op = .slice t x none none none) (hx : ev n ρ x = .pointer (some a)) : Yields P o n ρ w (.slice (some a) len len) := by
  unfold arrE at hT
  cases hu : P.underlying t with
  | none => rw [hu] at hT; cases hT
  | some u =>
    rw [hu] at hT
    cases u <;> try cases hT
    case array m e =>
      simp only [Bool.and_eq_true, beq_iff_eq] at hT
      obtain ⟨rfl, hs⟩ := hT
      have ha : a.add 0 = a := by simp [Addr.add]
      simp [Yields, execOp, ho, hx, Instr.sliceAt, run_underlying hu, Instr.sureAddr, Instr.sliceBounds, run_sizeOf' hs, ha]

variable {rest : List Oper}
theorem p_appendK {B e size bytes t : Nat} {s x : Operand} {v : Value} {k m c : Nat} {cs news : List Value} {ad : Addr} (hT : elT P t e size bytes = true) (hw : wanted n ops ρ o = true) (hd : o.dst = some d) (ho : o.op = .call { callee := .builtin .append, args := #[s, x], argTypes := #[t, t] })
    (hs : ev n ρ s = v) (hown : w.ownsRow B e size v k cs) (hx : ev n ρ x = .slice (some ad) m c) (hl : news.length = m * size) (hn : ∀ (j : Nat) (u : Value), news[j]? = some u → w.cell? (ad.add j) = some u) (h1 : allOne news = true) (h63 : (k + m) * bytes ≤ 140737488355328) (hk63 : k + m ≤ 9223372036854775807) (hB : B ≤ w.heap.size)
    (hk : ∀ A c' w', w'.ownsRow B e size (.slice A (k + m) c') (k + m) (cs ++ news) → Kept B e w w' → k + m ≤ c' → c' ≤ 9223372036854775807 → WL P ops Q rest (act n (up ρ d (.slice A (k + m) c'))) w') : WL P ops Q (o :: rest) (act n ρ) w :=
  p_append hT hw hd ho hs hown hx hl hn h1 h63 hk63 hB fun A c' w' h2 hb hg h3 h4 => hk A c' w' h2 (Kept.of hb hg hown) h3 h4
def isStrT (P : Program) (t : TypeId) : Bool := match P.underlying t with | some .string => true | _ => false
def u8T (P : Program) (e : TypeId) : Bool := match P.info? e with
  | some i => i.size == 1 && i.bytes == 1 && (match i.zero with | some (.int .u8 0) => true | _ => false)
  | none => false
theorem p_appendS {B e bytes t u : Nat} {s x : Operand} {v : Value} {k : Nat} {cs : List Value} {z : ByteArray} (hT : elT P t e 1 bytes = true) (hu : isStrT P u = true) (h8 : u8T P e = true) (hw : wanted n ops ρ o = true) (hd : o.dst = some d) (ho : o.op = .call { callee := .builtin .append, args := #[s, x], argTypes := #[t, u] })
    (hs : ev n ρ s = v) (hown : w.ownsRow B e 1 v k cs) (hx : ev n ρ x = .string z) (h63 : k + z.size ≤ 140737488355328) (hB : B ≤ w.heap.size)
    (hk : ∀ A c' w', w'.ownsRow B e 1 (.slice A (k + z.size) c') (k + z.size) (cs ++ Lib.strCells z) → Kept B e w w' → k + z.size ≤ c' → c' ≤ 9223372036854775807 → WL P ops Q rest (act n (up ρ d (.slice A (k + z.size) c'))) w') : WL P ops Q (o :: rest) (act n ρ) w := by
  obtain ⟨ht, _⟩ := elT_spec hT
  have hus : P.underlying u = some .string := by unfold isStrT at hu; split at hu <;> simp_all
  unfold u8T at h8
  split at h8
  · rename_i i hi
    simp only [Bool.and_eq_true, beq_iff_eq] at h8
    obtain ⟨⟨hsz, hby⟩, hz⟩ := h8
    have hz' : i.zero = some (.int .u8 0) := by split at hz <;> simp_all
    obtain ⟨v', w', hr, h2, h3, _⟩ := Lib.run_append_own_string (P := P) w B t u o.type e i ht hus hi hz' hsz hby v k cs hown z (by unfold maxLen; omega) h63 hB
    obtain ⟨A, c', rfl, h4, h5⟩ := own_slice h2
    refine p_run hw hd (v := .slice A (k + z.size) c') (w' := w') ?_ (hk A c' w' h2 (Kept.of (Below.grown (Below.refl B w) h3 hB (fun j hj => own_base hown j hj)) h3 hown) h4 h5)
    simp only [execOp, ho, resolve, invoke, builtin, Sem.run_bind, Sem.run_pure, Result.andThen_ok, List.map_toArray, List.map_cons, List.map_nil, hs, hx, hr]
  · cases h8

/-! Rows of bytes of our own. -/
def cB (bs : List UInt8) : List Value := bs.map fun b => .int .u8 (b.toNat : Int)
theorem cB_length (bs : List UInt8) : (cB bs).length = bs.length := by simp [cB]
theorem cB_append (a b : List UInt8) : cB (a ++ b) = cB a ++ cB b := by simp [cB]
structure Byt (w : World) (B e : Nat) (A : Option Addr) (c : Nat) (bs : List UInt8) : Prop where
  own : w.ownsRow B e 1 (.slice A bs.length c) bs.length (cB bs)
  le : bs.length ≤ c
  mx : c ≤ 9223372036854775807
theorem Byt.nil (w : World) (B e : Nat) : Byt w B e none 0 [] := ⟨own_nil w B e 1, Nat.le_refl _, by decide⟩
theorem Byt.ext {w w' : World} {B e c : Nat} {A : Option Addr} {bs : List UInt8} (h : Byt w B e A c bs) (hx : Ext w w') : Byt w' B e A c bs := ⟨own_ext h.own hx, h.le, h.mx⟩
theorem Byt.box {w : World} {g B e : Nat} {cs : List Value} {bs : List UInt8} (hb : Box w g e cs) (hc : cs = cB bs) (hB : B ≤ g) (hl : bs.length ≤ 9223372036854775807) : Byt w B e (some ⟨g, 0, none⟩) bs.length bs := ⟨own_box (by rw [← hc]; exact hb) hB (by rw [cB_length, Nat.mul_one]) hl, Nat.le_refl _, hl⟩
theorem Byt.mono {w : World} {B B' e c : Nat} {A : Option Addr} {bs : List UInt8} (h : Byt w B e A c bs) (hB : B' ≤ B) : Byt w B' e A c bs := ⟨own_mono h.own hB, h.le, h.mx⟩
/-- where its bytes lie -/
theorem Byt.cell {w : World} {B e c : Nat} {A : Option Addr} {bs : List UInt8} (h : Byt w B e A c bs) {ad : Addr} (hA : A = some ad) (j : Nat) (u : Value) (hj : (cB bs)[j]? = some u) : w.cell? (ad.add j) = some u := by
  have hl : j < (cB bs).length := (List.getElem?_eq_some_iff.1 hj).1
  rw [cB_length] at hl
  obtain ⟨g, hg, _, hc⟩ := own_elem h.own (by omega)
  rw [hg] at hA
  injection hA with hA
  subst hA
  exact hc j u hj
theorem Box.puts {w : World} {g T : Nat} {cs : List Value} {bs : List UInt8} (h : Box w g T cs) (hc : cs = cB bs) (j : Nat) (u : Value) (hj : (cB bs)[j]? = some u) : w.cell? ((⟨g, 0, none⟩ : Addr).add j) = some u := by
  subst hc
  have hadd : (⟨g, 0, none⟩ : Addr).add j = ⟨g, j, none⟩ := by unfold Addr.add; split <;> simp_all
  rw [hadd, h.cell, hj]
theorem cB_one (bs : List UInt8) : allOne (cB bs) = true := by
  simp only [allOne, List.all_eq_true, cB, List.mem_map]
  rintro _ ⟨b, _, rfl⟩
  rfl
theorem p_appendB {B e bytes t m c c2 : Nat} {A : Option Addr} {s x : Operand} {bs nb : List UInt8} {ad : Addr} (hT : elT P t e 1 bytes = true) (hw : wanted n ops ρ o = true) (hd : o.dst = some d) (ho : o.op = .call { callee := .builtin .append, args := #[s, x], argTypes := #[t, t] })
    (hs : ev n ρ s = .slice A bs.length c) (hown : Byt w B e A c bs) (hx : ev n ρ x = .slice (some ad) m c2) (hm : nb.length = m) (hn : ∀ (j : Nat) (u : Value), (cB nb)[j]? = some u → w.cell? (ad.add j) = some u) (h63 : (bs.length + m) * bytes ≤ 140737488355328) (h64 : bs.length + m ≤ 140737488355328) (hB : B ≤ w.heap.size)
    (hk : ∀ A c' w', Byt w' B e A c' (bs ++ nb) → Kept B e w w' → WL P ops Q rest (act n (up ρ d (.slice A (bs ++ nb).length c'))) w') : WL P ops Q (o :: rest) (act n ρ) w :=
  p_appendK hT hw hd ho hs hown.own hx (by rw [cB_length, hm, Nat.mul_one]) hn (cB_one nb) h63 (by omega) hB fun A c' w' h2 hK h3 h4 => by
    have e : bs.length + m = (bs ++ nb).length := by rw [List.length_append, hm]
    rw [e] at h2 h3 ⊢
    exact hk A c' w' ⟨by rw [cB_append]; exact h2, h3, h4⟩ hK
theorem strCells_cB (z : ByteArray) : Lib.strCells z = cB z.toList := by rw [Lib.strCells, cB, ByteArray.toList_eq]
theorem p_appendT {B e bytes t u c : Nat} {A : Option Addr} {s x : Operand} {bs : List UInt8} {z : ByteArray} (hT : elT P t e 1 bytes = true) (hu : isStrT P u = true) (h8 : u8T P e = true) (hw : wanted n ops ρ o = true) (hd : o.dst = some d) (ho : o.op = .call { callee := .builtin .append, args := #[s, x], argTypes := #[t, u] })
    (hs : ev n ρ s = .slice A bs.length c) (hown : Byt w B e A c bs) (hx : ev n ρ x = .string z) (h63 : bs.length + z.size ≤ 140737488355328) (hB : B ≤ w.heap.size)
    (hk : ∀ A c' w', Byt w' B e A c' (bs ++ z.toList) → Kept B e w w' → WL P ops Q rest (act n (up ρ d (.slice A (bs ++ z.toList).length c'))) w') : WL P ops Q (o :: rest) (act n ρ) w :=
  p_appendS hT hu h8 hw hd ho hs hown.own hx h63 hB fun A c' w' h2 hK h3 h4 => by
    have e : bs.length + z.size = (bs ++ z.toList).length := by rw [List.length_append, ByteArray.toList_eq, Array.length_toList]; rfl
    rw [e] at h2 h3 ⊢
    exact hk A c' w' ⟨by rw [cB_append, ← strCells_cB]; exact h2, h3, h4⟩ hK

theorem c_done2 {fn : Func} {R : Ending → World → Prop} {t u : Nat} {v x : Value} (hr : fn.results = #[.tmp t, .tmp u]) (hv : ev n ρ (.tmp t) = v) (hx : ev n ρ (.tmp u) = x) (h : R (.returned (.tuple #[v, x])) w) : bodyPost P fn R .ret (act n ρ) w := by
  refine ⟨rfl, .tuple #[v, x], ?_, h⟩
  have he : (act n ρ).tmps[t]?.getD undef = v := by
    have := (act_eval n ρ (.tmp t)).trans hv
    simpa [Act.eval] using this
  have he' : (act n ρ).tmps[u]?.getD undef = x := by
    have := (act_eval n ρ (.tmp u)).trans hx
    simpa [Act.eval] using this
  simp [results, hr, he, he']
theorem Calls.asBool {f : FuncId} {vs : Array Value} {b c : Bool} (h : b = c) (hc : Calls P f vs w (Ret w (.bool b))) : Calls P f vs w (Ret w (.bool c)) := h ▸ hc

theorem toList_len (z : ByteArray) : z.toList.length = z.size := by rw [ByteArray.toList_eq, Array.length_toList]; rfl
theorem Byt.none {w : World} {B e c : Nat} {bs : List UInt8} (h : Byt w B e none c bs) : bs = [] := by
  rcases h.own.2 with ⟨_, h0⟩ | ⟨g, cap, cur, hv, _⟩
  · have : bs.length = 0 := h0
    exact List.eq_nil_of_length_eq_zero this
  · injection hv with h1 _ _
    cases h1
theorem p_appendY {B B2 e e2 bytes t c c2 : Nat} {A A2 : Option Addr} {s x : Operand} {bs nb : List UInt8} (hT : elT P t e 1 bytes = true) (hw : wanted n ops ρ o = true) (hd : o.dst = some d) (ho : o.op = .call { callee := .builtin .append, args := #[s, x], argTypes := #[t, t] })
    (hs : ev n ρ s = .slice A bs.length c) (hown : Byt w B e A c bs) (hx : ev n ρ x = .slice A2 nb.length c2) (hy : Byt w B2 e2 A2 c2 nb) (h63 : (bs.length + nb.length) * bytes ≤ 140737488355328) (h64 : bs.length + nb.length ≤ 140737488355328) (hB : B ≤ w.heap.size)
    (hk : ∀ A c' w', Byt w' B e A c' (bs ++ nb) → Kept B e w w' → WL P ops Q rest (act n (up ρ d (.slice A (bs ++ nb).length c'))) w') : WL P ops Q (o :: rest) (act n ρ) w := by
  cases A2 with
  | some ad => exact p_appendB hT hw hd ho hs hown hx rfl (fun j u hj => hy.cell rfl j u hj) h63 h64 hB hk
  | none =>
    have := hy.none
    subst this
    have e1 : bs ++ [] = bs := List.append_nil bs
    refine p_append_nil hT hw hd ho hs hown.own hx ?_
    have := hk A c w (by rw [e1]; exact hown) (Kept.refl _ _ _)
    rwa [e1] at this
def bytesT (P : Program) (src dst e : TypeId) : Bool := (P.underlying src).isSome && (match P.underlying dst with | some (.slice q) => q == e | _ => false) && (match P.underlying e with | some (.int .u8) => true | _ => false)
theorem p_convB {src dst e : TypeId} {x : Operand} {z : ByteArray} (hT : bytesT P src dst e = true) (hw : wanted n ops ρ o = true) (hd : o.dst = some d) (ho : o.op = .convert src dst x) (hx : ev n ρ x = .string z)
    (hk : ∀ c w', (∀ (j : Nat) (u : Value), (cB z.toList)[j]? = some u → w'.cell? ((⟨w.heap.size, 0, .none⟩ : Addr).add j) = some u) → Ext w w' → w'.heap.size = w.heap.size + 1 → WL P ops Q rest (act n (up ρ d (.slice (some ⟨w.heap.size, 0, .none⟩) z.size c))) w') : WL P ops Q (o :: rest) (act n ρ) w := by
  simp only [bytesT, Bool.and_eq_true] at hT
  obtain ⟨⟨h1, h2⟩, h3⟩ := hT
  obtain ⟨u, hu⟩ := Option.isSome_iff_exists.1 h1
  have hds : P.underlying dst = some (.slice e) := by split at h2 <;> simp_all
  have hes : P.underlying e = some (.int .u8) := by split at h3 <;> simp_all
  refine p_run hw hd (v := .slice (some ⟨w.heap.size, 0, .none⟩) z.size (grownCap w z.size 0 e)) (w' := Lib.bytesWorld w e z) ?_ (hk _ _ (fun j v hj => ?_) ⟨?_, ?_, ?_, ?_, fun k hk => ?_⟩ (Lib.bytesWorld_size w e z))
  · simp only [execOp, ho, hx, Sem.run_bind, Lib.run_convert_string_bytes w src dst e z hu hds hes, Result.andThen_ok]
    rfl
  · have hl : j < (cB z.toList).length := (List.getElem?_eq_some_iff.1 hj).1
    rw [cB_length, ByteArray.toList_eq, Array.length_toList] at hl
    have hl' : j < z.size := hl
    have hadd : (⟨w.heap.size, 0, Option.none⟩ : Addr).add j = ⟨w.heap.size, j, Option.none⟩ := by unfold Addr.add; split <;> simp_all
    rw [hadd, Lib.bytesWorld_cell w e z j hl', ← hj, cB, List.getElem?_map, ByteArray.toList_eq, List.getD_eq_getElem?_getD]
    have hl2 : j < z.data.toList.length := by rw [Array.length_toList]; exact hl'
    rw [List.getElem?_eq_getElem hl2]
    rfl
  · rfl
  · rfl
  · rfl
  · rw [Lib.bytesWorld_size]; omega
  · exact Lib.bytesWorld_at_old w e z k hk
end
end Go.Eng
