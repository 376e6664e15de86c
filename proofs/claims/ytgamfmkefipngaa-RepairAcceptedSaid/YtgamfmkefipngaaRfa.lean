/- Plain laws for what a fast quorum, and what a majority, left behind. -/
import Derived.Test.YtgamfmkefipngaaRep
set_option linter.unusedVariables false
set_option linter.unusedSimpArgs false
namespace Go.Eng
open Go.RowKit

/-! ### Sets of replicas -/
def u64w (n : Int) : Int := IntKind.u64.wrap n
theorem u64w_b (n : Int) : 0 ≤ u64w n ∧ u64w n ≤ 18446744073709551615 := by
  unfold u64w
  simp [IntKind.wrap, IntKind.bits, IntKind.signed]
  omega
def halv (x : Int) : Nat → Int
  | 0 => x
  | j + 1 => halv x j / 2
theorem halv_b {x : Int} (h : 0 ≤ x ∧ x ≤ 18446744073709551615) : ∀ j, 0 ≤ halv x j ∧ halv x j ≤ 18446744073709551615
  | 0 => h
  | j + 1 => by have := halv_b h j; simp only [halv]; omega
def hasF (set k : Int) : Bool := if k < 0 ∨ k > 6 then false else decide (halv (u64w set) k.toNat % 2 = 1)
theorem has_out {set k : Int} (h : k < 0 ∨ k > 6) : hasF set k = false := by simp [hasF, h]
theorem has_in {set : Int} {j : Nat} (h : (j : Int) ≤ 6) : hasF set j = decide (halv (u64w set) j % 2 = 1) := by
  unfold hasF
  rw [if_neg (by omega)]
  simp
theorem has_end {set : Int} {j k : Nat} {b : Bool} (h : decide (halv (u64w set) j % 2 = 1) = b) (ek : j = k) (hk : (k : Int) ≤ 6) : b = hasF set k := by
  subst ek
  rw [has_in hk, h]
def cntF (set : Int) (k : Nat) : Nat := (List.range k).countP fun j : Nat => hasF set j
theorem cntF_step (set : Int) (k : Nat) : cntF set (k + 1) = cntF set k + (if hasF set k then 1 else 0) := by
  simp [cntF, List.range_succ, List.countP_append, List.countP_cons]
theorem cntF_le (set : Int) (k : Nat) : cntF set k ≤ k := by
  unfold cntF
  refine Nat.le_trans List.countP_le_length ?_
  simp
def majF (f set : Int) : Bool := decide (sizeF f > 0) && decide ((cntF set (sizeF f).toNat : Int) ≥ slowF f)

theorem quo64 {a : Int} (h : 0 ≤ a ∧ a ≤ 18446744073709551615) : IntKind.u64.wrap (a.tdiv 2) = a / 2 := by
  rw [Int.tdiv_eq_ediv_of_nonneg h.1]
  exact IntWalk.u64_in _ (by omega)
theorem size_nat (f : Int) : ∃ N : Nat, sizeF f = (N : Int) ∧ N ≤ 7 := ⟨(sizeF f).toNat, by unfold sizeF; split <;> omega, by unfold sizeF; split <;> omega⟩
theorem maj_end {f set : Int} {N : Nat} {b : Bool} (hN : sizeF f = (N : Int)) (h1 : decide (sizeF f > 0) = true) (h2 : decide (((cntF set N : Nat) : Int) ≥ slowF f) = b) : b = majF f set := by
  unfold majF
  rw [h1, hN, Int.toNat_natCast, h2]
  rfl
theorem maj_no {f set : Int} (h1 : decide (sizeF f > 0) = false) : false = majF f set := by
  unfold majF
  rw [h1]
  rfl

/-! ### Rows of votes built replica by replica -/
section
variable {g : Nat → List Vt} {k n : Nat} {v : Vt}
def built (g : Nat → List Vt) (k : Nat) : List Vt := (List.range k).flatMap g
theorem built_step (g : Nat → List Vt) (k : Nat) : built g (k + 1) = built g k ++ g k := by simp [built, List.range_succ]
/-- each replica tells at most one vote, its own -/
def Each (g : Nat → List Vt) : Prop := ∀ k, (g k).length ≤ 1 ∧ ∀ v ∈ g k, v.src = (k : Int)
theorem built_mem (h : v ∈ built g n) : ∃ k, k < n ∧ v ∈ g k := by
  obtain ⟨k, hk, hv⟩ := List.mem_flatMap.1 h
  exact ⟨k, List.mem_range.1 hk, hv⟩
theorem mem_built (hk : k < n) (hv : v ∈ g k) : v ∈ built g n := List.mem_flatMap.2 ⟨k, List.mem_range.2 hk, hv⟩
theorem built_len (h : Each g) : ∀ n, (built g n).length ≤ n
  | 0 => by simp [built]
  | n + 1 => by rw [built_step, List.length_append]; have := built_len h n; have := (h n).1; omega
theorem built_once (h : Each g) : ∀ n, Once (built g n)
  | 0 => List.Pairwise.nil
  | n + 1 => by
    rw [built_step]
    refine List.pairwise_append.2 ⟨built_once h n, ?_, fun a ha b hb => ?_⟩
    · have hl := (h n).1
      cases hg : g n with
      | nil => exact List.Pairwise.nil
      | cons x xs =>
        rw [hg] at hl
        have : xs = [] := List.eq_nil_of_length_eq_zero (by simp at hl; simp [hl])
        subst this
        simp
    · obtain ⟨k, hk, hv⟩ := built_mem ha
      rw [(h k).2 a hv, (h n).2 b hb]
      omega
end

section
variable {f who set own : Int} {i : Inst} {R O : Rec} {pr po : Ptr} {n k : Nat} {v : Vt}
/-- what a replica tells, if all but one know of it just that it was pre-accepted -/
def fOne (own who set : Int) (R O : Rec) (pr po : Ptr) (k : Nat) : List Vt := if (k : Int) = own then [] else if hasF set k = false then [] else if (k : Int) = who then [⟨k, O, po⟩] else [⟨k, R, pr⟩]
def fVs (own who set : Int) (R O : Rec) (pr po : Ptr) (k : Nat) : List Vt := built (fOne own who set R O pr po) k
theorem f_own (h : decide ((k : Int) = own) = true) : fVs own who set R O pr po (k + 1) = fVs own who set R O pr po k := by
  have := of_decide_eq_true h
  simp [fVs, built_step, fOne, this]
theorem f_not (h : hasF set k = false) : fVs own who set R O pr po (k + 1) = fVs own who set R O pr po k := by
  simp [fVs, built_step, fOne, h]
theorem f_odd (h : decide ((k : Int) = own) = false) (h1 : hasF set k = true) (h2 : decide ((k : Int) = who) = true) : fVs own who set R O pr po (k + 1) = fVs own who set R O pr po k ++ [⟨k, O, po⟩] := by
  have e1 := of_decide_eq_false h
  have e2 := of_decide_eq_true h2
  simp only [fVs, built_step, fOne, if_neg e1, h1, if_pos e2]
  rfl
theorem f_one (h : decide ((k : Int) = own) = false) (h1 : hasF set k = true) (h2 : decide ((k : Int) = who) = false) : fVs own who set R O pr po (k + 1) = fVs own who set R O pr po k ++ [⟨k, R, pr⟩] := by
  have e1 := of_decide_eq_false h
  have e2 := of_decide_eq_false h2
  simp only [fVs, built_step, fOne, if_neg e1, h1, if_neg e2]
  rfl
theorem fOne_mem (h : v ∈ fOne own who set R O pr po k) : v.src = (k : Int) ∧ (k : Int) ≠ own ∧ (v = ⟨k, O, po⟩ ∨ v = ⟨k, R, pr⟩) := by
  unfold fOne at h
  split at h
  · cases h
  · rename_i h1
    split at h
    · cases h
    · split at h
      · have : v = ⟨k, O, po⟩ := by simpa using h
        subst this; exact ⟨rfl, h1, .inl rfl⟩
      · have : v = ⟨k, R, pr⟩ := by simpa using h
        subst this; exact ⟨rfl, h1, .inr rfl⟩
theorem f_each : Each (fOne own who set R O pr po) := fun k => ⟨by unfold fOne; (repeat' split) <;> simp, fun v hv => (fOne_mem hv).1⟩
theorem f_mem (h : v ∈ fVs own who set R O pr po n) : ∃ k, k < n ∧ v.src = (k : Int) ∧ (k : Int) ≠ own ∧ (v = ⟨k, O, po⟩ ∨ v = ⟨k, R, pr⟩) := by
  obtain ⟨k, hk, hv⟩ := built_mem h
  exact ⟨k, hk, fOne_mem hv⟩
theorem f_len : (fVs own who set R O pr po n).length ≤ n := built_len f_each n
theorem f_count (hR : ∀ k, quick ⟨k, R, pr⟩ = true) : ∀ n, (fVs own who set R O pr po n).length ≤ (fVs own who set R O pr po n).countP quick + (if 0 ≤ who ∧ who < (n : Int) then 1 else 0)
  | 0 => by simp [fVs, built]
  | n + 1 => by
    have ih := f_count hR n
    have e : fVs own who set R O pr po (n + 1) = fVs own who set R O pr po n ++ fOne own who set R O pr po n := built_step _ _
    rw [e, List.length_append, List.countP_append]
    have hc : (fOne own who set R O pr po n).length ≤ (fOne own who set R O pr po n).countP quick + (if (n : Int) = who then 1 else 0) := by
      unfold fOne
      (repeat' split) <;> simp_all
    by_cases h1 : (n : Int) = who
    · rw [if_pos h1] at hc
      rw [if_neg (by omega)] at ih
      rw [if_pos (by omega)]
      omega
    · rw [if_neg h1] at hc
      by_cases h2 : 0 ≤ who ∧ who < (n : Int)
      · rw [if_pos h2] at ih
        rw [if_pos (by omega)]
        omega
      · rw [if_neg h2] at ih
        rw [if_neg (by omega)]
        omega
theorem pick_no {p : Vt → Bool} : ∀ {c : List Vt}, c.any p = false → pickV p c = none
  | [], _ => rfl
  | u :: c, h => by
    rw [List.any_cons, Bool.or_eq_false_iff] at h
    have e : stepP p none u = none := by simp [stepP, h.1]
    unfold pickV
    rw [List.foldl_cons, e]
    exact pick_no h.2
theorem why_few {c : List Vt} (h1 : rightInst i = true) (h2 : i.replica < sizeF f) (h3 : c.any (badVote f i) = false) (h4 : (c.length : Int) < f + 1) : why f i c = 13 := by rw [why_end h1 h2 h3, if_pos h4]
theorem why_zero {c : List Vt} (h1 : rightInst i = true) (h2 : i.replica < sizeF f) (h3 : c.any (badVote f i) = false) (h4 : ¬ (c.length : Int) < f + 1) : why f i c = 0 := by rw [why_end h1 h2 h3, if_neg h4]
theorem not_bad {c : List Vt} (h : ∀ v ∈ c, 0 ≤ v.src ∧ v.src < sizeF f ∧ v.r.inst = i ∧ rightRec v.r = true) : c.any (badVote f i) = false := by
  rw [List.any_eq_false]
  intro v hv
  obtain ⟨h1, h2, h3, h4⟩ := h v hv
  simp [badVote, h3, h4]
  omega
theorem right_inst {r : Rec} (h : rightRec r = true) : rightInst r.inst = true := by
  simp only [rightRec, Bool.and_eq_true] at h
  exact h.1.1.1.1.1.1
/-- any majority without the own one tells it as Accepted -/
theorem fast_law {N : Nat} (hN : sizeF f = (N : Int)) (hR : rightRec R = true) (hO : rightRec O = true) (hi : O.inst = R.inst) (ho : R.inst.replica < sizeF f) (h1 : R.status = 1) (h2 : R.ballot = zBal) (h3 : R.kept = true) (h4 : O.status ≤ 1) (h5 : O.kept = false) :
    (((fVs R.inst.replica who set R O pr po N).length : Int) < f + 1 ∧ decR f R.inst (fVs R.inst.replica who set R O pr po N) = (zRec, 13)) ∨ (¬ ((fVs R.inst.replica who set R O pr po N).length : Int) < f + 1 ∧ decR f R.inst (fVs R.inst.replica who set R O pr po N) = (asRec R 2, 0)) := by
  have hl : counted (fVs R.inst.replica who set R O pr po N) = fVs R.inst.replica who set R O pr po N := once_counted (built_once f_each N)
  have hm : ∀ v ∈ fVs R.inst.replica who set R O pr po N, v.src ≠ R.inst.replica ∧ (v.r = O ∨ v.r = R) ∧ 0 ≤ v.src ∧ v.src < sizeF f := fun v hv => by
    obtain ⟨k, hk, hs, hne, hv⟩ := f_mem hv
    refine ⟨by rw [hs]; exact hne, ?_, by omega, by omega⟩
    rcases hv with rfl | rfl
    · exact .inl rfl
    · exact .inr rfl
  have hri := right_inst hR
  have hb : (fVs R.inst.replica who set R O pr po N).any (badVote f R.inst) = false := not_bad fun v hv => by
    obtain ⟨_, h, h6, h7⟩ := hm v hv
    refine ⟨h6, h7, ?_⟩
    rcases h with h | h
    · rw [h]; exact ⟨hi, hO⟩
    · rw [h]; exact ⟨rfl, hR⟩
  have hq : ∀ k, quick ⟨k, R, pr⟩ = true := fun k => by simp [quick, h1, h2, h3]
  by_cases hlen : ((fVs R.inst.replica who set R O pr po N).length : Int) < f + 1
  · refine .inl ⟨hlen, ?_⟩
    unfold decR
    rw [hl]
    have hw := why_few hri ho hb hlen
    rw [dec_err (by rw [hw]; decide), hw]
  · refine .inr ⟨hlen, ?_⟩
    unfold decR
    rw [hl]
    have hw := why_zero hri ho hb hlen
    have a3 : (fVs R.inst.replica who set R O pr po N).find? (ofS 3) = none := by
      rw [List.find?_eq_none]
      intro v hv
      obtain ⟨_, h, _⟩ := hm v hv
      simp only [ofS, decide_eq_true_eq]
      rcases h with h | h <;> rw [h] <;> omega
    have a2 : pickV (ofS 2) (fVs R.inst.replica who set R O pr po N) = none := pick_no (by
      rw [List.any_eq_false]
      intro v hv
      obtain ⟨_, h, _⟩ := hm v hv
      simp only [ofS, decide_eq_true_eq]
      rcases h with h | h <;> rw [h] <;> omega)
    have ow : (fVs R.inst.replica who set R O pr po N).any (isOf R.inst.replica) = false := by
      rw [List.any_eq_false]
      intro v hv
      obtain ⟨h, _⟩ := hm v hv
      simp [isOf, h]
    have hc := f_count (own := R.inst.replica) (who := who) (set := set) (O := O) (po := po) hq N
    have hc' : (fVs R.inst.replica who set R O pr po N).length ≤ (fVs R.inst.replica who set R O pr po N).countP quick + 1 := by
      refine Nat.le_trans hc ?_
      split <;> omega
    have hf : fastR f R.inst (fVs R.inst.replica who set R O pr po N) = true := fast_end hw ow (decide_eq_true (by omega))
    obtain ⟨v, hv⟩ := fast_quick hf
    rw [dec_fast hw a3 a2 hf hv]
    have hqv := List.find?_some hv
    obtain ⟨_, h, _⟩ := hm v (List.mem_of_find?_eq_some hv)
    rcases h with h | h
    · exfalso
      simp only [quick, Bool.and_eq_true] at hqv
      rw [h, h5] at hqv
      exact absurd hqv.2 (by decide)
    · rw [h]
theorem f_vts {w : World} {B e c : Nat} {A : Option Addr} (h : Own fVt 26 w B e A c (fVs own who set R O pr po n)) (h1 : CmdAt w R.cmd pr) (h2 : CmdAt w O.cmd po) (s1 : Slim R.cmd) (s2 : Slim O.cmd) (hn : n ≤ 7) : Vts w A (fVs own who set R O pr po n) := by
  have hm : ∀ v ∈ fVs own who set R O pr po n, CmdAt w v.r.cmd v.p ∧ Slim v.r.cmd ∧ wfI v.src := fun v hv => by
    obtain ⟨k, hk, hs, _, hv⟩ := f_mem hv
    refine ⟨?_, ?_, wf_of (by omega) (by omega)⟩ <;> rcases hv with rfl | rfl <;> assumption
  exact ⟨h.lies (d := kVt) (fun _ => rfl) (fun _ _ => rfl), ⟨fun v hv => (hm v hv).1⟩, fun v hv => (hm v hv).2.1, fun v hv => (hm v hv).2.2, Nat.le_trans f_len (by omega)⟩
end

/-! ### Rows of records -/
def fRc (z : Rec × Ptr) : List Value := [.int .i64 z.1.inst.replica, .int .i64 z.1.inst.slot, .int .i64 z.1.status, .int .i64 z.1.promise.number, .int .i64 z.1.promise.replica, .int .i64 z.1.ballot.number, .int .i64 z.1.ballot.replica, .int .i64 z.1.cmd.kind, .int .i64 z.1.cmd.txn.client, .int .i64 z.1.cmd.txn.number, .int .i64 z.1.cmd.stp.time, .int .i64 z.1.cmd.stp.client, .int .i64 z.1.cmd.shards, .slice z.2.A z.1.cmd.reads.length z.2.n, .slice z.2.B z.1.cmd.writes.length z.2.m, .bool z.1.cmd.commit, .int .i64 z.1.seq, .int .i64 z.1.deps.d0, .int .i64 z.1.deps.d1, .int .i64 z.1.deps.d2, .int .i64 z.1.deps.d3, .int .i64 z.1.deps.d4, .int .i64 z.1.deps.d5, .int .i64 z.1.deps.d6, .bool z.1.kept]
def kRc : Kd (Rec × Ptr) := ⟨25, fun _ z cs => cs = fRc z, fun _ h => h⟩
def kRcO : Kd (Rec × Ptr) := ⟨25, fun w z cs => cs = fRc z ∧ CmdAt w z.1.cmd z.2, fun hx h => ⟨h.1, h.2.ext hx⟩⟩
structure RAll (w : World) (xs : List (Rec × Ptr)) : Prop where
  out : ∀ z ∈ xs, CmdAt w z.1.cmd z.2
theorem RAll.ext {w w' : World} {xs : List (Rec × Ptr)} (h : RAll w xs) (hx : Ext w w') : RAll w' xs := ⟨fun z hz => (h.out z hz).ext hx⟩
structure Rc0 (w : World) (A : Option Addr) (xs : List (Rec × Ptr)) : Prop where
  lies : Lies kRc w A xs
  at_ : RAll w xs
  len : xs.length ≤ 9223372036854775807
theorem Rc0.of {w : World} {A : Option Addr} {l : List (Rec × Ptr)} (h : Lies kRcO w A l) (hn : l.length ≤ 9223372036854775807) : Rc0 w A l := by
  have hk : ∀ v ∈ l, CmdAt w v.1.cmd v.2 := fun v hv => by
    obtain ⟨i, hi, e⟩ := List.getElem_of_mem hv
    obtain ⟨_, _, _, ⟨_, h1⟩, _⟩ := h i v (by rw [List.getElem?_eq_getElem hi, e])
    exact h1
  exact ⟨fun i x hi => by obtain ⟨ad, cs, e, hK, hE⟩ := h i x hi; exact ⟨ad, cs, e, hK.1, hE⟩, ⟨hk⟩, hn⟩

/-! ### What a majority accepted -/
section
variable {f had set : Int} {i : Inst} {R : Rec} {pr : Ptr} {n k : Nat} {v : Vt} {xs : List (Rec × Ptr)}
/-- the record of another one, as of the instance -/
def atI (i : Inst) (o : Rec) : Rec := ⟨i, o.status, o.promise, o.ballot, o.cmd, o.seq, o.deps, o.kept⟩
def aOne (had set : Int) (R : Rec) (pr : Ptr) (xs : List (Rec × Ptr)) (k : Nat) : List Vt := if hasF set k = false then [] else if hasF had k then [⟨k, R, pr⟩] else match xs[k]? with | some o => [⟨k, atI R.inst o.1, o.2⟩] | none => []
def aVs (had set : Int) (R : Rec) (pr : Ptr) (xs : List (Rec × Ptr)) (k : Nat) : List Vt := built (aOne had set R pr xs) k
theorem a_not (h : hasF set k = false) : aVs had set R pr xs (k + 1) = aVs had set R pr xs k := by
  simp [aVs, built_step, aOne, h]
theorem a_had (h : hasF set k = true) (h1 : hasF had k = true) : aVs had set R pr xs (k + 1) = aVs had set R pr xs k ++ [⟨k, R, pr⟩] := by
  simp [aVs, built_step, aOne, h, h1]
theorem a_oth {o : Rec × Ptr} (h : hasF set k = true) (h1 : hasF had k = false) (hx : xs[k]? = some o) : aVs had set R pr xs (k + 1) = aVs had set R pr xs k ++ [⟨k, atI R.inst o.1, o.2⟩] := by
  simp [aVs, built_step, aOne, h, h1, hx]
theorem aOne_mem (h : v ∈ aOne had set R pr xs k) : v.src = (k : Int) ∧ ((hasF had k = true ∧ v = ⟨k, R, pr⟩) ∨ ∃ o, xs[k]? = some o ∧ v = ⟨k, atI R.inst o.1, o.2⟩) := by
  unfold aOne at h
  split at h
  · cases h
  · split at h
    · rename_i h1
      have : v = ⟨k, R, pr⟩ := by simpa using h
      subst this; exact ⟨rfl, .inl ⟨h1, rfl⟩⟩
    · split at h
      · rename_i o ho
        have : v = ⟨k, atI R.inst o.1, o.2⟩ := by simpa using h
        subst this; exact ⟨rfl, .inr ⟨o, ho, rfl⟩⟩
      · cases h
theorem a_each : Each (aOne had set R pr xs) := fun k => ⟨by unfold aOne; (repeat' split) <;> simp, fun v hv => (aOne_mem hv).1⟩
theorem a_len : (aVs had set R pr xs n).length ≤ n := built_len a_each n
theorem a_mem (h : v ∈ aVs had set R pr xs n) : ∃ k, k < n ∧ v.src = (k : Int) ∧ ((hasF had k = true ∧ v = ⟨k, R, pr⟩) ∨ ∃ o, xs[k]? = some o ∧ v = ⟨k, atI R.inst o.1, o.2⟩) := by
  obtain ⟨k, hk, hv⟩ := built_mem h
  exact ⟨k, hk, aOne_mem hv⟩
theorem a_count (hx : n ≤ xs.length) : (aVs had set R pr xs n).length = cntF set n := by
  induction n with
  | zero => simp [aVs, built, cntF]
  | succ n ih =>
    rw [cntF_step, show aVs had set R pr xs (n + 1) = aVs had set R pr xs n ++ aOne had set R pr xs n from built_step _ _, List.length_append, ih (by omega)]
    have hn : n < xs.length := by omega
    unfold aOne
    by_cases h : hasF set n = true
    · rw [if_neg (by simp [h]), if_pos h]
      by_cases h1 : hasF had n = true
      · rw [if_pos h1]; rfl
      · rw [if_neg h1, List.getElem?_eq_getElem hn]; rfl
    · rw [if_pos (by simpa using h), if_neg h]; rfl
theorem a_vts {w : World} {B e c : Nat} {A : Option Addr} (h : Own fVt 26 w B e A c (aVs had set R pr xs n)) (h1 : CmdAt w R.cmd pr) (h2 : ∀ z ∈ xs, CmdAt w z.1.cmd z.2) (s1 : Slim R.cmd) (s2 : (xs.take n).all (fun o => fewOne o.1.cmd) = true) (hn : n ≤ 7) : Vts w A (aVs had set R pr xs n) := by
  have hm : ∀ v ∈ aVs had set R pr xs n, CmdAt w v.r.cmd v.p ∧ Slim v.r.cmd ∧ wfI v.src := fun v hv => by
    obtain ⟨k, hk, hs, hv⟩ := a_mem hv
    refine ⟨?_, ?_, wf_of (by omega) (by omega)⟩
    · rcases hv with ⟨_, rfl⟩ | ⟨o, ho, rfl⟩
      · exact h1
      · exact h2 o (List.mem_of_getElem? ho)
    · rcases hv with ⟨_, rfl⟩ | ⟨o, ho, rfl⟩
      · exact s1
      · exact few_slim (List.all_eq_true.1 s2 o (List.mem_of_getElem? (i := k) (by rw [List.getElem?_take, if_pos hk]; exact ho)))
  exact ⟨h.lies (d := kVt) (fun _ => rfl) (fun _ _ => rfl), ⟨fun v hv => (hm v hv).1⟩, fun v hv => (hm v hv).2.1, fun v hv => (hm v hv).2.2, Nat.le_trans a_len (by omega)⟩
/-- two majorities meet -/
theorem both {a b : Int} : ∀ n : Nat, n < cntF a n + cntF b n → ∃ k : Nat, k < n ∧ hasF a k = true ∧ hasF b k = true
  | 0, h => by simp [cntF] at h
  | n + 1, h => by
    rw [cntF_step, cntF_step] at h
    by_cases h1 : hasF a n = true ∧ hasF b n = true
    · exact ⟨n, by omega, h1⟩
    · have h2 : n < cntF a n + cntF b n := by
        by_cases ha : hasF a n = true <;> by_cases hb : hasF b n = true
        · exact absurd ⟨ha, hb⟩ h1
        · rw [if_pos ha, if_neg hb] at h; omega
        · rw [if_neg ha, if_pos hb] at h; omega
        · rw [if_neg ha, if_neg hb] at h; omega
      obtain ⟨k, hk, h3⟩ := both n h2
      exact ⟨k, by omega, h3⟩
theorem cmp_refl (b : Bal) : cmpBal b b = 0 := by
  unfold cmpBal cmp2
  (repeat' split) <;> omega
/-- the greatest ballot is told -/
theorem pick_top (p : Vt → Bool) (R : Rec) : ∀ (c : List Vt) (acc : Option Vt), (∀ u ∈ c, p u = true → u.r = R ∨ cmpBal u.r.ballot R.ballot < 0) → (∀ b, acc = some b → b.r = R ∨ cmpBal b.r.ballot R.ballot < 0) → ((∃ b, acc = some b ∧ b.r = R) ∨ ∃ u ∈ c, p u = true ∧ u.r = R) → ∃ v, c.foldl (stepP p) acc = some v ∧ v.r = R
  | [], acc, _, _, h => by
    rcases h with ⟨b, h1, h2⟩ | ⟨u, hu, _⟩
    · exact ⟨b, h1, h2⟩
    · cases hu
  | u :: c, acc, hc, ha, h => by
    rw [List.foldl_cons]
    refine pick_top p R c _ (fun v hv => hc v (List.mem_cons_of_mem _ hv)) (fun b hb => ?_) ?_
    · unfold stepP at hb
      split at hb
      · rename_i hu
        have hu' := hc u (List.mem_cons_self ..) hu
        cases acc with
        | none => injection hb with hb; subst hb; exact hu'
        | some b0 =>
          dsimp only at hb
          split at hb
          · injection hb with hb; subst hb; exact hu'
          · injection hb with hb; subst hb; exact ha b0 rfl
      · exact ha b hb
    · rcases h with ⟨b, h1, h2⟩ | ⟨x, hx, hpx, hxR⟩
      · subst h1
        refine .inl ?_
        unfold stepP
        split
        · rename_i hu
          have hu' := hc u (List.mem_cons_self ..) hu
          dsimp only
          split
          · rename_i hlt
            rw [h2] at hlt
            rcases hu' with e | e
            · exact ⟨u, rfl, e⟩
            · omega
          · exact ⟨b, rfl, h2⟩
        · exact ⟨b, rfl, h2⟩
      · rcases List.mem_cons.1 hx with rfl | hx
        · refine .inl ?_
          unfold stepP
          rw [if_pos hpx]
          cases acc with
          | none => exact ⟨x, rfl, hxR⟩
          | some b0 =>
            dsimp only
            by_cases hlt : 0 < cmpBal x.r.ballot b0.r.ballot
            · rw [if_pos hlt]; exact ⟨x, rfl, hxR⟩
            · rw [if_neg hlt]
              rcases ha b0 rfl with e | e
              · exact ⟨b0, rfl, e⟩
              · rw [cmpBal_swap, ← hxR] at e
                omega
        · exact .inr ⟨x, hx, hpx, hxR⟩
/-- may another one know that? -/
def othOk (R : Rec) (o : Rec) : Bool := rightRec (atI R.inst o) && !decide (o.status = 3) && !(decide (o.status = 2) && !decide (cmpBal o.ballot R.ballot < 0))
theorem oth_ok {o : Rec} (h1 : rightRec (atI R.inst o) = true) (h2 : decide (o.status = 3) = false) (h3 : decide (o.status = 2) = false ∨ decide (cmpBal o.ballot R.ballot < 0) = true) : othOk R o = true := by
  unfold othOk
  rw [h1, h2]
  rcases h3 with h | h <;> rw [h] <;> simp
theorem acc_law {N : Nat} (hN : sizeF f = (N : Int)) (hx : N ≤ xs.length) (hR : rightRec R = true) (ho : R.inst.replica < sizeF f) (h2 : R.status = 2) (hh : majF f had = true) (hs : majF f set = true) (hoth : (xs.take N).all (fun o => othOk R o.1) = true) :
    decR f R.inst (aVs had set R pr xs N) = (asRec R 2, 0) := by
  have hl : counted (aVs had set R pr xs N) = aVs had set R pr xs N := once_counted (built_once a_each N)
  have hoo : ∀ k o, k < N → xs[k]? = some o → othOk R o.1 = true := fun k o hk he =>
    List.all_eq_true.1 hoth o (List.mem_of_getElem? (i := k) (by rw [List.getElem?_take, if_pos hk]; exact he))
  have hm : ∀ v ∈ aVs had set R pr xs N, 0 ≤ v.src ∧ v.src < sizeF f ∧ v.r.inst = R.inst ∧ rightRec v.r = true ∧ v.r.status ≠ 3 ∧ (v.r.status = 2 → v.r = R ∨ cmpBal v.r.ballot R.ballot < 0) := fun v hv => by
    obtain ⟨k, hk, hsr, hv⟩ := a_mem hv
    refine ⟨by omega, by omega, ?_⟩
    rcases hv with ⟨_, rfl⟩ | ⟨o, ho', rfl⟩
    · exact ⟨rfl, hR, by rw [h2]; decide, fun _ => .inl rfl⟩
    · have := hoo k o hk ho'
      simp only [othOk, Bool.and_eq_true, Bool.not_eq_true', decide_eq_false_iff_not] at this
      obtain ⟨⟨q1, q2⟩, q3⟩ := this
      refine ⟨rfl, q1, q2, fun hst => .inr ?_⟩
      have hst' : o.1.status = 2 := hst
      rw [hst'] at q3
      simpa [atI] using q3
  have hri := right_inst hR
  have hb : (aVs had set R pr xs N).any (badVote f R.inst) = false := not_bad fun v hv => by
    obtain ⟨q1, q2, q3, q4, _⟩ := hm v hv
    exact ⟨q1, q2, q3, q4⟩
  simp only [majF, Bool.and_eq_true, decide_eq_true_eq, hN, Int.toNat_natCast] at hh hs
  have hsl := size_slow hri ho
  have hN2 : (N : Int) = 2 * f + 1 := by
    have := hsl.2
    unfold sizeF at hN
    rw [if_pos (by omega)] at hN
    exact hN.symm
  obtain ⟨k, hk, hk1, hk2⟩ := both (a := had) (b := set) N (by omega)
  have hlen := a_count (had := had) (set := set) (R := R) (pr := pr) hx
  have hw := why_zero hri ho hb (by omega)
  unfold decR
  rw [hl]
  have a3 : (aVs had set R pr xs N).find? (ofS 3) = none := by
    rw [List.find?_eq_none]
    intro v hv
    obtain ⟨_, _, _, _, q, _⟩ := hm v hv
    simp [ofS, q]
  obtain ⟨v, hv, hvR⟩ := pick_top (ofS 2) R (aVs had set R pr xs N) none (fun u hu hp => (hm u hu).2.2.2.2.2 (of_decide_eq_true hp)) (fun b hb => by cases hb)
    (.inr ⟨⟨k, R, pr⟩, mem_built hk (by simp [aOne, hk1, hk2]), by simp [ofS, h2], rfl⟩)
  rw [dec_acc hw a3 hv, hvR]
end
end Go.Eng
