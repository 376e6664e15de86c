/- It is proved that NetTwice answers true at every input that can be read, and leaves the input as it was; no condition is added. -/
import Derived.Test.YtadeigpphklmfaaOp
import Derived.Test.YtadeigpphklmfaaLNetTwice
import Derived.Test.YtadeigpphklmfaaRows
import Derived.WalkKit
import Derived.ProofKit
import Derived.OpenShut
import Derived.ShutString
import Derived.ChangeOld
import Derived.Below
import Derived.SizedLaws
import Derived.Carry
import Derived.Lib.SmallJoins
namespace Go.Proofs.Ytadeigpphklmfaa
open Go.RowKit Go.Eng Go.ChangeShapes Go.WideShapes Go.ChangeAt
set_option linter.unusedVariables false
set_option linter.unusedSimpArgs false
namespace RNetTwice
theorem own : ownKnob Try.prog.godebug = none := by kernel_rfl
theorem laidOut : laidOutB Try.prog = true := by kernel_rfl
set_option maxHeartbeats 4000000 in
set_option maxRecDepth 100000 in
theorem lifted (os : Os) (started : os.Started) (H : Type) (enc : TypeId × Value → H) :
    ReturnsInHanded {} Try.checked os 4 .any (Rows.netTwiceSpec.pre6 enc Try.prog Try.f4 Rows.netTwiceRow.domain false) (Rows.netTwiceSpec.post enc Try.prog Try.f4 false true false false) := by
  refine returnsInHanded_of_change_sized (C := Try.checked) own started (by kernel_rfl) Try.func4
    (ChangeSpec.witness6 (enc := enc) (C := Try.checked) false ⟨#[], #[.agg #[.int .i64 0, .int .i64 0, .int .i64 0, .int .i64 0, .int .i64 0, .int .i64 0, .int .i64 0, .int .i64 0, .int .i64 0, .int .i64 0, .int .i64 0, .int .i64 0, .int .i64 0, .int .i64 0, .int .i64 0, .int .i64 0, .int .i64 0, .int .i64 0, .slice none 0 0, .slice none 0 0, .bool false, .int .i64 0, .int .i64 0, .int .i64 0, .int .i64 0, .int .i64 0, .int .i64 0, .int .i64 0, .int .i64 0, .bool false]], []⟩ 8 (by kernel_rfl) (by kernel_rfl) (by kernel_rfl) (by kernel_rfl)) ?_
  intro W base args ds gs before hval0 hW hcnd hsz0 _
  have hval : ∀ (j : Nat) t v, Try.f4.params[j]? = some t → args[j]? = some v → Value.okWide Try.prog W .any base t v := hval0
  have hW' := hW
  obtain ⟨p, q, hA0, hV, rfl, hfz, hnd⟩ := hW
  have hA : DataW.TrodAll enc Try.prog W 0 (fun _ => true) true Try.f4.params.toList args.toList ds p := hA0
  rw [Try.params4] at hA hval
  obtain ⟨v0, vs0, d0, ds0, p0, q0, hargs, rfl, rfl, h0, r0⟩ := trodAll_cons hA
  obtain ⟨rfl, rfl, rfl⟩ := trodAll_nil r0
  obtain rfl : args = #[v0] := by cases args; simp_all
  obtain ⟨rfl, rfl⟩ := trodVars_none hV
  have k0 := h0
  have lt0 : ∀ x ∈ p0, x.block < W.heap.size := by obtain ⟨m, hm⟩ := k0; exact DataW.trod_lt m _ _ _ hm
  obtain ⟨cs0, e0, _⟩ := okWide_struct Try.underlying43 (hval 0 43 v0 rfl rfl)
  subst e0
  obtain ⟨m, p, f0, hm⟩ := op_Msg (tr_of h0)
  obtain rfl : cs0 = #[.int .i64 m.kind, .int .i64 m.src, .int .i64 m.dst, .int .i64 m.ballot.number, .int .i64 m.ballot.replica, .int .i64 m.r.inst.replica, .int .i64 m.r.inst.slot, .int .i64 m.r.status, .int .i64 m.r.promise.number, .int .i64 m.r.promise.replica, .int .i64 m.r.ballot.number, .int .i64 m.r.ballot.replica, .int .i64 m.r.cmd.kind, .int .i64 m.r.cmd.txn.client, .int .i64 m.r.cmd.txn.number, .int .i64 m.r.cmd.stp.time, .int .i64 m.r.cmd.stp.client, .int .i64 m.r.cmd.shards, .slice p.A m.r.cmd.reads.length p.n, .slice p.B m.r.cmd.writes.length p.m, .bool m.r.cmd.commit, .int .i64 m.r.seq, .int .i64 m.r.deps.d0, .int .i64 m.r.deps.d1, .int .i64 m.r.deps.d2, .int .i64 m.r.deps.d3, .int .i64 m.r.deps.d4, .int .i64 m.r.deps.d5, .int .i64 m.r.deps.d6, .bool m.r.kept] := arr_of f0
  clear hA0 hval0 hsz0
  refine (C_NetTwice W m p hm).mono fun e W' ⟨he, bel⟩ => ?_
  subst he
  exact ⟨_, rfl, _, _, _, [], _, [], hW', trodAll_mk1 (shut_bool Try.underlying4 _), (trodAll_cons_mk (Below.trod laidOut (by kernel_rfl) (of_decide_eq_true (by kernel_rfl)) k0 bel lt0) trodAll_mk0), rfl, bel.frame _, fun h => by cases h⟩
end RNetTwice
open RNetTwice in
theorem netTwice_holds : Rows.NetTwiceSaid :=
  OpenClaim.holds_of_wide 4 Try.f4 rfl rfl rfl rfl rfl rfl rfl ⟨rfl, rfl, rfl, rfl, rfl⟩ rfl rfl rfl rfl rfl (by kernel_rfl) Try.func4 (by kernel_rfl)
    (of_decide_eq_true (by kernel_rfl)) (by unfold Func.isWrapper; first | (rw [if_pos (by decide +kernel)]; kernel_rfl) | (rw [if_neg (by decide +kernel)]; exact ⟨rfl, rfl⟩))
    (fun os started H enc _ => lifted os started H enc)
#print axioms netTwice_holds
end Go.Proofs.Ytadeigpphklmfaa
