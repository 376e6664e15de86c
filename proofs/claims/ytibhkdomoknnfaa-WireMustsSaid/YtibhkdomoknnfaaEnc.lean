/- The bytes of numbers, commands, records and messages, as plain lists. -/
import Derived.Test.YtibhkdomoknnfaaDat
import Derived.Test.YtibhkdomoknnfaaDrw
set_option linter.unusedVariables false
set_option linter.unusedSimpArgs false
namespace Go.Eng
open Go.RowKit

def encNum (n : Nat) : List UInt8 := if n < 128 then [UInt8.ofNat n] else UInt8.ofNat (n % 128 + 128) :: encNum (n / 128)
termination_by n
decreasing_by omega
def encInt (x : Int) : List UInt8 := encNum x.toNat
def encInts (l : List Int) : List UInt8 := l.flatMap encInt
def encStr (s : ByteArray) : List UInt8 := encNum s.size ++ s.toList
def encRd (r : Rd) : List UInt8 := encStr r.key ++ encInts [r.ver.time, r.ver.client]
def encWr (x : Wr) : List UInt8 := encStr x.key ++ encStr x.val
def encBool (b : Bool) : List UInt8 := if b then [1] else [0]
def encCmd (c : Cmd) : List UInt8 := [1] ++ encInts [c.kind, c.txn.client, c.txn.number, c.stp.time, c.stp.client, c.shards, (c.reads.length : Int)] ++ c.reads.flatMap encRd ++ encInts [(c.writes.length : Int)] ++ c.writes.flatMap encWr ++ encBool c.commit
def encRec (r : Rec) : List UInt8 := [2] ++ encInts [r.inst.replica, r.inst.slot, r.status, r.promise.number, r.promise.replica, r.ballot.number, r.ballot.replica, r.seq] ++ encInts [r.deps.d0, r.deps.d1, r.deps.d2, r.deps.d3, r.deps.d4, r.deps.d5, r.deps.d6] ++ encBool r.kept ++ encCmd r.cmd
def encMsg (m : Msg) : List UInt8 := [3] ++ encInts [m.kind, m.src, m.dst, m.ballot.number, m.ballot.replica] ++ encRec m.r

theorem enc_hi {m : Int} (h : 128 ≤ m) : encInt m = UInt8.ofNat (m.toNat % 128 + 128) :: encInt (m / 128) := by
  unfold encInt
  rw [encNum, if_neg (by omega)]
  have : (m / 128).toNat = m.toNat / 128 := by omega
  rw [this]
theorem enc_lo {m : Int} (h0 : 0 ≤ m) (h : m < 128) : encInt m = [UInt8.ofNat m.toNat] := by
  unfold encInt
  rw [encNum, if_pos (by omega)]
theorem u8_hi {m : Int} (h : 0 ≤ m) : ((UInt8.ofNat (m.toNat % 128 + 128)).toNat : Int) = m % 128 + 128 := by
  rw [UInt8.toNat_ofNat']; omega
theorem u8_lo {m : Int} (h : 0 ≤ m) (h' : m < 128) : ((UInt8.ofNat m.toNat).toNat : Int) = m := by
  rw [UInt8.toNat_ofNat']; omega
theorem wrap_u8 {a : Int} (h : 0 ≤ a) (h' : a ≤ 255) : IntKind.u8.wrap a = a := by
  simp only [IntKind.wrap, IntKind.bits, IntKind.signed]
  simp
  omega
theorem encNum_len : ∀ (j n : Nat), n < 128 ^ (j + 1) → (encNum n).length ≤ j + 1
  | 0, n, h => by rw [encNum, if_pos (by simpa using h)]; simp
  | j + 1, n, h => by
    rw [encNum]
    split
    · simp
    · have := encNum_len j (n / 128) (by rw [Nat.pow_succ] at h; exact (Nat.div_lt_iff_lt_mul (by decide)).2 h)
      simp only [List.length_cons]; omega
theorem encInt_len {x : Int} (h : x ≤ 9223372036854775807) : (encInt x).length ≤ 9 := by
  have := encNum_len 8 x.toNat (by have : (128 : Nat) ^ (8 + 1) = 9223372036854775808 := by decide
                                   omega)
  unfold encInt; omega
theorem encInts_len : ∀ (l : List Int), (∀ x ∈ l, x ≤ 9223372036854775807) → (encInts l).length ≤ 9 * l.length
  | [], _ => by simp [encInts]
  | x :: l, h => by
    have h1 := encInt_len (h x (List.mem_cons_self ..))
    have h2 := encInts_len l fun y hy => h y (List.mem_cons_of_mem _ hy)
    simp only [encInts, List.flatMap_cons, List.length_append, List.length_cons] at *
    omega
theorem encInts_take {l : List Int} {i : Nat} {x : Int} (hx : l[i]? = some x) : encInts (l.take (i + 1)) = encInts (l.take i) ++ encInt x := by
  rw [take_of hx]; simp [encInts]
theorem encTake_len (l : List Int) (i : Nat) (h : ∀ x ∈ l, x ≤ 9223372036854775807) : (encInts (l.take i)).length ≤ 9 * l.length := by
  refine Nat.le_trans (encInts_len _ fun x hx => h x (List.mem_of_mem_take hx)) ?_
  have := List.length_take_le' i l
  omega
/-- A row of numbers inside a block. -/
theorem lies_in {w : World} {g T off : Nat} {bs : List Value} {l : List Int} (hb : Box w g T bs) (hl : ∀ (i : Nat) (x : Int), l[i]? = some x → bs[off + i]? = some (.int .i64 x)) : Lies kInt w (some ⟨g, off, none⟩) l := fun i x hi => by
  refine ⟨_, [.int .i64 x], rfl, rfl, fun j v hj => ?_⟩
  have hj0 : j = 0 := by
    rcases j with _ | j
    · rfl
    · simp at hj
  subst hj0
  have hv : Value.int .i64 x = v := by simpa using hj
  subst hv
  have e : ((⟨g, off, none⟩ : Addr).add (i * kInt.sz)).add 0 = ⟨g, off + i, none⟩ := by
    rw [add_add]
    unfold Addr.add
    have : i * kInt.sz + 0 = i := by show i * 1 + 0 = i; omega
    rw [this]
    split
    · rename_i h; subst h; rfl
    · rfl
  rw [e, hb.cell, hl i x hi]
theorem ints_at {cs : List Value} {l : List Int} {off : Nat} (h : (cs.drop off).take l.length = l.map (fun x => .int .i64 x)) (i : Nat) (x : Int) (hx : l[i]? = some x) : cs[off + i]? = some (.int .i64 x) := by
  have hl : i < l.length := lt_of hx
  have : ((cs.drop off).take l.length)[i]? = some (.int .i64 x) := by rw [h]; simp [hx]
  rw [List.getElem?_take, if_pos hl, List.getElem?_drop] at this
  exact this
theorem meas_div {m : Int} {v : Value} (e : v = .int .i64 m) (h : 128 ≤ m) : (intOf (.int .i64 (m / 128))).toNat < (intOf v).toNat := by
  rw [e]
  simp only [intOf]
  omega
/-- A command of right numbers, and its texts not long. -/
structure GoodCmd (c : Cmd) : Prop where
  nums : 0 ≤ c.kind ∧ c.kind ≤ 2 ∧ 0 ≤ c.txn.client ∧ c.txn.client ≤ 3 ∧ 0 ≤ c.txn.number ∧ c.txn.number ≤ 1099511627776 ∧ 0 ≤ c.stp.time ∧ c.stp.time ≤ 1099511627776 ∧ 0 ≤ c.stp.client ∧ c.stp.client ≤ 3 ∧ 0 ≤ c.shards ∧ c.shards ≤ 15
  rn : c.reads.length ≤ 8
  wn : c.writes.length ≤ 8
  reads : ∀ r ∈ c.reads, r.key.size ≤ 8 ∧ 0 ≤ r.ver.time ∧ r.ver.time ≤ 1099511627776 ∧ 0 ≤ r.ver.client ∧ r.ver.client ≤ 3
  writes : ∀ x ∈ c.writes, x.key.size ≤ 8 ∧ x.val.size ≤ 8
theorem keys_all {l : List ByteArray} (h : rightKeys l = true) : l.length ≤ 8 ∧ ∀ s ∈ l, s.size ≤ 8 := by
  simp only [rightKeys, Bool.and_eq_true, decide_eq_true_eq] at h
  refine ⟨h.2, fun s hs => ?_⟩
  obtain ⟨i, hi⟩ := List.getElem?_of_mem hs
  have := keys_prev h.1 (lt_of hi) hi
  simp only [rightKey, Bool.and_eq_true, decide_eq_true_eq] at this
  omega
theorem good_of {c : Cmd} (h : rightCmd c = true) : GoodCmd c := by
  unfold rightCmd at h
  split at h
  · have := of_decide_eq_true h
    subst this
    exact ⟨by decide, by decide, by decide, by simp, by simp⟩
  · simp only [Bool.and_eq_true, decide_eq_true_eq, rightTxn, rightStp, within] at h
    obtain ⟨⟨⟨⟨⟨⟨⟨⟨⟨⟨⟨⟨h1, h2⟩, h3⟩, h4⟩, h5⟩, h6⟩, h7⟩, h8⟩, h9⟩, h10⟩, h11⟩, h12⟩, h13⟩ := h
    obtain ⟨k1, k2⟩ := keys_all h12
    obtain ⟨k3, k4⟩ := keys_all h13
    refine ⟨by omega, by simpa using k1, by simpa using k3, fun r hr => ?_, fun x hx => ?_⟩
    · have := List.all_eq_true.1 h10 r hr
      simp only [oldRd, rightStp, within, Bool.and_eq_true, decide_eq_true_eq] at this
      have := k2 r.key (List.mem_map.2 ⟨r, hr, rfl⟩)
      omega
    · have := List.all_eq_true.1 h11 x hx
      have := k4 x.key (List.mem_map.2 ⟨x, hx, rfl⟩)
      simp only [decide_eq_true_eq] at *
      omega
theorem flat_len {α : Type} {f : α → List UInt8} {b : Nat} : ∀ (l : List α), (∀ x ∈ l, (f x).length ≤ b) → (l.flatMap f).length ≤ b * l.length
  | [], _ => by simp
  | x :: l, h => by
    have h1 := h x (List.mem_cons_self ..)
    have h2 := flat_len l fun y hy => h y (List.mem_cons_of_mem _ hy)
    simp only [List.flatMap_cons, List.length_append, List.length_cons, Nat.mul_succ]
    omega
theorem encNum_small {n : Nat} (h : n < 128) : (encNum n).length = 1 := by rw [encNum, if_pos h]; rfl
theorem encStr_len {s : ByteArray} (h : s.size ≤ 8) : (encStr s).length ≤ 9 := by
  rw [encStr, List.length_append, encNum_small (by omega), ByteArray.toList_eq, Array.length_toList]
  show 1 + s.size ≤ 9
  omega
theorem encStr_len' {s : ByteArray} (h : s.size ≤ 1000) : (encStr s).length ≤ 1010 := by
  have := encNum_len 8 s.size (by have : (128 : Nat) ^ (8 + 1) = 9223372036854775808 := by decide
                                  omega)
  have e : s.data.toList.length = s.size := rfl
  rw [encStr, List.length_append, ByteArray.toList_eq, e]
  omega
theorem encRd_len {r : Rd} (h : r.key.size ≤ 8) (h1 : r.ver.time ≤ 1099511627776) (h2 : r.ver.client ≤ 3) : (encRd r).length ≤ 27 := by
  have h3 := encStr_len h
  have h4 := encInts_len [r.ver.time, r.ver.client] (by intro x hx; simp only [List.mem_cons, List.not_mem_nil, or_false] at hx; omega)
  rw [encRd, List.length_append]
  simp only [List.length_cons, List.length_nil] at h4
  omega
theorem encWr_len {x : Wr} (h : x.key.size ≤ 8) (h1 : x.val.size ≤ 8) : (encWr x).length ≤ 18 := by
  have h3 := encStr_len h
  have h4 := encStr_len h1
  rw [encWr, List.length_append]
  omega
theorem reads_len {c : Cmd} (h : GoodCmd c) (k : Nat) : ((c.reads.take k).flatMap encRd).length ≤ 216 := by
  have := flat_len (f := encRd) (b := 27) (c.reads.take k) fun r hr => let ⟨a, _, b, _, d⟩ := h.reads r (List.mem_of_mem_take hr); encRd_len a b d
  have := List.length_take_le' k c.reads
  have := h.rn
  omega
theorem writes_len {c : Cmd} (h : GoodCmd c) (k : Nat) : ((c.writes.take k).flatMap encWr).length ≤ 144 := by
  have := flat_len (f := encWr) (b := 18) (c.writes.take k) fun r hr => let ⟨a, b⟩ := h.writes r (List.mem_of_mem_take hr); encWr_len a b
  have := List.length_take_le' k c.writes
  have := h.wn
  omega
theorem head_len {c : Cmd} (h : GoodCmd c) : (encInts [c.kind, c.txn.client, c.txn.number, c.stp.time, c.stp.client, c.shards, (c.reads.length : Int)]).length ≤ 63 := by
  have hn := h.nums
  have hr := h.rn
  have := encInts_len [c.kind, c.txn.client, c.txn.number, c.stp.time, c.stp.client, c.shards, (c.reads.length : Int)] (by intro x hx; simp only [List.mem_cons, List.not_mem_nil, or_false] at hx; omega)
  simpa using this
theorem count_len {c : Cmd} (h : GoodCmd c) : (encInts [(c.writes.length : Int)]).length ≤ 9 := by
  have hr := h.wn
  have := encInts_len [(c.writes.length : Int)] (by intro x hx; simp only [List.mem_cons, List.not_mem_nil, or_false] at hx; omega)
  simpa using this
theorem encBool_len (b : Bool) : (encBool b).length = 1 := by cases b <;> rfl
theorem encCmd_len {c : Cmd} (h : GoodCmd c) : (encCmd c).length ≤ 434 := by
  have h1 := head_len h
  have h2 := count_len h
  have h3 := reads_len h c.reads.length
  have h4 := writes_len h c.writes.length
  rw [List.take_length] at h3 h4
  simp only [encCmd, List.length_append, List.length_cons, List.length_nil, encBool_len]
  omega
/-- A record of right numbers. -/
structure GoodRec (r : Rec) : Prop where
  nums : 0 ≤ r.inst.replica ∧ r.inst.replica ≤ 6 ∧ 0 ≤ r.inst.slot ∧ r.inst.slot ≤ 1048576 ∧ 0 ≤ r.status ∧ r.status ≤ 3 ∧ 0 ≤ r.promise.number ∧ r.promise.number ≤ 1099511627776 ∧ 0 ≤ r.promise.replica ∧ r.promise.replica ≤ 6 ∧ 0 ≤ r.ballot.number ∧ r.ballot.number ≤ 1099511627776 ∧ 0 ≤ r.ballot.replica ∧ r.ballot.replica ≤ 6 ∧ 0 ≤ r.seq ∧ r.seq ≤ 1099511627776
  deps : 0 ≤ r.deps.d0 ∧ r.deps.d0 ≤ 1048576 ∧ 0 ≤ r.deps.d1 ∧ r.deps.d1 ≤ 1048576 ∧ 0 ≤ r.deps.d2 ∧ r.deps.d2 ≤ 1048576 ∧ 0 ≤ r.deps.d3 ∧ r.deps.d3 ≤ 1048576 ∧ 0 ≤ r.deps.d4 ∧ r.deps.d4 ≤ 1048576 ∧ 0 ≤ r.deps.d5 ∧ r.deps.d5 ≤ 1048576 ∧ 0 ≤ r.deps.d6 ∧ r.deps.d6 ≤ 1048576
  cmd : GoodCmd r.cmd
theorem good_rec {r : Rec} (h : rightRec r = true) : GoodRec r := by
  simp only [rightRec, rightInst, rightBal, within, Bool.and_eq_true, decide_eq_true_eq] at h
  obtain ⟨⟨⟨⟨⟨⟨h1, h2⟩, h3⟩, h4⟩, h5⟩, h6⟩, h7⟩ := h
  split at h7
  · simp only [Bool.and_eq_true, decide_eq_true_eq] at h7
    obtain ⟨⟨⟨g1, g2⟩, g3⟩, g4⟩ := h7
    refine ⟨by omega, by rw [g3]; decide, good_of (by rw [g4]; decide)⟩
  · simp only [Bool.and_eq_true, decide_eq_true_eq, rightDep, within] at h7
    obtain ⟨⟨g1, g2⟩, g3⟩ := h7
    exact ⟨by omega, by omega, good_of g1⟩
theorem recHead_len {r : Rec} (h : GoodRec r) : (encInts [r.inst.replica, r.inst.slot, r.status, r.promise.number, r.promise.replica, r.ballot.number, r.ballot.replica, r.seq]).length ≤ 72 := by
  have hn := h.nums
  have := encInts_len [r.inst.replica, r.inst.slot, r.status, r.promise.number, r.promise.replica, r.ballot.number, r.ballot.replica, r.seq] (by intro x hx; simp only [List.mem_cons, List.not_mem_nil, or_false] at hx; omega)
  simpa using this
theorem recDeps_len {r : Rec} (h : GoodRec r) : (encInts [r.deps.d0, r.deps.d1, r.deps.d2, r.deps.d3, r.deps.d4, r.deps.d5, r.deps.d6]).length ≤ 63 := by
  have hn := h.deps
  have := encInts_len [r.deps.d0, r.deps.d1, r.deps.d2, r.deps.d3, r.deps.d4, r.deps.d5, r.deps.d6] (by intro x hx; simp only [List.mem_cons, List.not_mem_nil, or_false] at hx; omega)
  simpa using this
theorem encRec_len {r : Rec} (h : GoodRec r) : (encRec r).length ≤ 571 := by
  have h1 := recHead_len h
  have h2 := recDeps_len h
  have h3 := encCmd_len h.cmd
  simp only [encRec, List.length_append, List.length_cons, List.length_nil, encBool_len]
  omega
structure GoodMsg (m : Msg) : Prop where
  nums : 0 ≤ m.kind ∧ m.kind ≤ 8 ∧ 0 ≤ m.src ∧ m.src ≤ 6 ∧ 0 ≤ m.dst ∧ m.dst ≤ 6 ∧ 0 ≤ m.ballot.number ∧ m.ballot.number ≤ 1099511627776 ∧ 0 ≤ m.ballot.replica ∧ m.ballot.replica ≤ 6
  r : GoodRec m.r
theorem good_msg {m : Msg} (h : rightMsg m = true) : GoodMsg m := by
  simp only [rightMsg, rightBal, within, Bool.and_eq_true, decide_eq_true_eq] at h
  obtain ⟨⟨⟨⟨h1, h2⟩, h3⟩, h4⟩, h5⟩ := h
  exact ⟨by omega, good_rec h5⟩
theorem msgHead_len {m : Msg} (h : GoodMsg m) : (encInts [m.kind, m.src, m.dst, m.ballot.number, m.ballot.replica]).length ≤ 45 := by
  have hn := h.nums
  have := encInts_len [m.kind, m.src, m.dst, m.ballot.number, m.ballot.replica] (by intro x hx; simp only [List.mem_cons, List.not_mem_nil, or_false] at hx; omega)
  simpa using this
theorem encMsg_len {m : Msg} (h : GoodMsg m) : (encMsg m).length ≤ 617 := by
  have h1 := msgHead_len h
  have h2 := encRec_len h.r
  simp only [encMsg, List.length_append, List.length_cons, List.length_nil]
  omega
/-- What Encode answers: bytes, and whether. -/
def outC (c : Cmd) : List UInt8 := if rightCmd c then encCmd c else []
def outR (r : Rec) : List UInt8 := if rightRec r then encRec r else []
def outM (m : Msg) : List UInt8 := if rightMsg m then encMsg m else []
def errOf (b : Bool) : Int := if b then 0 else 1
def fByte (b : UInt8) : List Value := [.int .u8 (b.toNat : Int)]
theorem cB_flat (bs : List UInt8) : cB bs = bs.flatMap fByte := by
  induction bs with
  | nil => rfl
  | cons b bs ih => rw [List.flatMap_cons, ← ih]; rfl
theorem Byt.lies {w : World} {B e c : Nat} {A : Option Addr} {bs : List UInt8} (h : Byt w B e A c bs) : Lies kByte w A bs := by
  have h1 := h.own
  rw [cB_flat] at h1
  exact own_lies (d := kByte) h1 rfl (fun _ => rfl) (fun _ => rfl)
theorem Byt.small {w : World} {B e c : Nat} {A : Option Addr} {bs : List UInt8} (h : Byt w B e A c bs) : bs.length ≤ 9223372036854775807 := Nat.le_trans h.le h.mx
theorem lies_lit {w : World} {g T : Nat} {cs : List Value} {bs : List UInt8} (hb : Box w g T cs) (hc : cs = cB bs) : Lies kByte w (some ⟨g, 0, none⟩) bs := lies_box (f := fByte) hb (by rw [hc, cB_flat]) (fun _ => rfl) (fun _ _ => rfl)
theorem enc0 : encInt 0 = [0] := enc_lo (by decide) (by decide)
theorem right_noop : rightCmd noop = true := by decide
theorem noop_bytes : outC noop = [1, 0, 0, 0, 0, 0, 0, 0, 0, 0] := by
  unfold outC
  rw [if_pos right_noop]
  simp only [encCmd, encInts, encBool, noop, zTxn, zStp, List.flatMap_cons, List.flatMap_nil, List.length_nil]
  simp [enc0]
theorem outC_len (c : Cmd) : ((outC c).length : Int) ≤ 4096 := by
  unfold outC
  split
  · rename_i h; have := encCmd_len (good_of h); omega
  · simp
theorem outR_len (r : Rec) : ((outR r).length : Int) ≤ 4096 := by
  unfold outR
  split
  · rename_i h; have := encRec_len (good_rec h); omega
  · simp
theorem outM_len (m : Msg) : ((outM m).length : Int) ≤ 4096 := by
  unfold outM
  split
  · rename_i h; have := encMsg_len (good_msg h); omega
  · simp
theorem outM_more (m : Msg) : ((outM m).length : Int) = 0 ∨ ((outR m.r).length : Int) < ((outM m).length : Int) := by
  unfold outM
  split
  · rename_i h
    have hr : rightRec m.r = true := by
      simp only [rightMsg, Bool.and_eq_true] at h
      exact h.2
    right
    rw [outR, if_pos hr, encMsg]
    simp only [List.length_append, List.length_cons, List.length_nil]
    omega
  · simp
theorem errOf_eq (b : Bool) : decide (errOf b = 0) = b := by cases b <;> rfl
end Go.Eng
