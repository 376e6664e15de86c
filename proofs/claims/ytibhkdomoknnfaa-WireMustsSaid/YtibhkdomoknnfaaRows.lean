/-
  No cell of these rows narrows 'for every input' (looked for: loops, veiled, ifaces, maps, wideKeys, modest, calm, conditions, laid).
  DERIVED. THE GIVEN ROWS OF THIS SEAT. 4 by the template 'for every input the law returns true; each argument reads behind the call as it read before'; 0 by the template 'total and deterministic' (their statements: YtibhkdomoknnfaaTotals.lean).
  GIVEN WITH THE SEED: the statements are not yours to turn. If you find one false, say at which input.
  Laid BY PROGRAM, IN A SANDBOX (cutbox-rows.mjs): the forced cells as the released guide's own fill.sh prints them over the translation 64edefa2b1d9e052… (all of the seat's roots in one cut). By AI agents, Wed Nov 11 2026. No macro, syntax, notation, axiom, sorry.
-/
import Derived.Test.YtibhkdomoknnfaaChecked
import GoSem.Claim
import GoSem.ClaimJoined
import GoSem.ClaimMapViews
import Derived.JoinedTies
import Derived.KernelRfl
namespace Go.Proofs.Ytibhkdomoknnfaa
/- THE CELL 'sum', in the pinned program and in every row, IS THE sha256 OF THE DUMP (.gsa) THAT YtibhkdomoknnfaaProg.lean LOADS. Nothing in Lean hashes anything: it is a label: what it is worth is what the hold of that sum in a sandbox is worth. -/
noncomputable def Try.pinned : Pinned := { name := "ytibhkdomoknnfaa", sum := "64edefa2b1d9e0526200b27cff24a8afe66f42b0f25950d8b4ad1d5c4477c3f4", checked := Try.checked }
namespace Rows
def none {H : Type} : Left H := { results := [], args := [] }

/-- 'althinglaw07.WireRights': WHATEVER THE INPUT: true; the input reads as it did. -/
def wireRightsSpec : ChangeSpec := { name := "wireRights", fn := fun _ => fun
  | [d1, d2, d3] => { results := [.lit (.bool true)], args := [d1, d2, d3] }
  | _ => none }
def wireRightsRow : OpenClaim := { program := "ytibhkdomoknnfaa", sum := "64edefa2b1d9e0526200b27cff24a8afe66f42b0f25950d8b4ad1d5c4477c3f4", func := "althing/althinglaw07.WireRights", spec := "wireRights", unfollowed := true, recurses := true, apart := false }
def WireRightsSaid : Prop := wireRightsRow.holds Try.pinned (OpenSpec.ofChange wireRightsSpec)

/-- ITS FALSE NEIGHBOUR: 'it returns false'. Refute it at one input. -/
def wireRightsWrong : ChangeSpec := { name := "wireRights", fn := fun _ => fun
  | [d1, d2, d3] => { results := [.lit (.bool false)], args := [d1, d2, d3] }
  | _ => none }
def WireRightsWrongFalsely : Prop := wireRightsRow.holds Try.pinned (OpenSpec.ofChange wireRightsWrong)

/-- 'althinglaw07.WirePuts': WHATEVER THE INPUT: true; the input reads as it did. -/
def wirePutsSpec : ChangeSpec := { name := "wirePuts", fn := fun _ => fun
  | [d1, d2, d3] => { results := [.lit (.bool true)], args := [d1, d2, d3] }
  | _ => none }
def wirePutsRow : OpenClaim := { program := "ytibhkdomoknnfaa", sum := "64edefa2b1d9e0526200b27cff24a8afe66f42b0f25950d8b4ad1d5c4477c3f4", func := "althing/althinglaw07.WirePuts", spec := "wirePuts", unfollowed := true, recurses := true, apart := false }
def WirePutsSaid : Prop := wirePutsRow.holds Try.pinned (OpenSpec.ofChange wirePutsSpec)

/-- ITS FALSE NEIGHBOUR: 'it returns false'. Refute it at one input. -/
def wirePutsWrong : ChangeSpec := { name := "wirePuts", fn := fun _ => fun
  | [d1, d2, d3] => { results := [.lit (.bool false)], args := [d1, d2, d3] }
  | _ => none }
def WirePutsWrongFalsely : Prop := wirePutsRow.holds Try.pinned (OpenSpec.ofChange wirePutsWrong)

/-- 'althinglaw07.WireLong': WHATEVER THE INPUT: true; the input reads as it did. -/
def wireLongSpec : ChangeSpec := { name := "wireLong", fn := fun _ => fun
  | [d1, d2] => { results := [.lit (.bool true)], args := [d1, d2] }
  | _ => none }
def wireLongRow : OpenClaim := { program := "ytibhkdomoknnfaa", sum := "64edefa2b1d9e0526200b27cff24a8afe66f42b0f25950d8b4ad1d5c4477c3f4", func := "althing/althinglaw07.WireLong", spec := "wireLong", unfollowed := true, recurses := true, apart := false }
def WireLongSaid : Prop := wireLongRow.holds Try.pinned (OpenSpec.ofChange wireLongSpec)

/-- ITS FALSE NEIGHBOUR: 'it returns false'. Refute it at one input. -/
def wireLongWrong : ChangeSpec := { name := "wireLong", fn := fun _ => fun
  | [d1, d2] => { results := [.lit (.bool false)], args := [d1, d2] }
  | _ => none }
def WireLongWrongFalsely : Prop := wireLongRow.holds Try.pinned (OpenSpec.ofChange wireLongWrong)

/-- 'althinglaw07.WireMusts': WHATEVER THE INPUT: true; the input reads as it did. -/
def wireMustsSpec : ChangeSpec := { name := "wireMusts", fn := fun _ => fun
  | [d1, d2, d3] => { results := [.lit (.bool true)], args := [d1, d2, d3] }
  | _ => none }
def wireMustsRow : OpenClaim := { program := "ytibhkdomoknnfaa", sum := "64edefa2b1d9e0526200b27cff24a8afe66f42b0f25950d8b4ad1d5c4477c3f4", func := "althing/althinglaw07.WireMusts", spec := "wireMusts", unfollowed := true, recurses := true, apart := false }
def WireMustsSaid : Prop := wireMustsRow.holds Try.pinned (OpenSpec.ofChange wireMustsSpec)

/-- ITS FALSE NEIGHBOUR: 'it returns false'. Refute it at one input. -/
def wireMustsWrong : ChangeSpec := { name := "wireMusts", fn := fun _ => fun
  | [d1, d2, d3] => { results := [.lit (.bool false)], args := [d1, d2, d3] }
  | _ => none }
def WireMustsWrongFalsely : Prop := wireMustsRow.holds Try.pinned (OpenSpec.ofChange wireMustsWrong)

/- THE SECOND FORM. 'bulk': how many values and letters a reading holds, each counted each time it is reached (what is shared counts as often as it is met; a slice's spare places count too). A statement '..UptoSaid' is the law's where the arguments, and the package variables that the reading takes, are together of bulk at most 1048576: NARROWER than '..Said'. Prove '..Said' where nothing that the law and all that it calls make is longer than what came in: it says more and counts as full. Else prove '..UptoSaid'. A law counts once. -/
mutual
def uptoBulk {H : Type} : DataW H → Nat
  | .lit (.string bytes) => bytes.length + 1
  | .lit _ => 1
  | .nil => 1
  | .ptr d => uptoBulk d + 1
  | .slice elems spare => uptoBulkAll elems + uptoBulkAll spare + 1
  | .agg parts => uptoBulkAll parts + 1
  | .iface _ d => uptoBulk d + 1
  | .map entries => uptoBulkEntries entries + 1
  | .held _ => 1
def uptoBulkAll {H : Type} : List (DataW H) → Nat
  | [] => 0
  | d :: r => uptoBulk d + uptoBulkAll r
def uptoBulkEntries {H : Type} : List (Lit × DataW H) → Nat
  | [] => 0
  | x :: r => uptoBulkEntry x + uptoBulkEntries r
def uptoBulkEntry {H : Type} : Lit × DataW H → Nat
  | (.string bytes, d) => bytes.length + uptoBulk d + 1
  | (_, d) => uptoBulk d + 1
 end
def uptoSmall : (H : Type) → List (DataW H) → Bool := fun _ ds => decide (uptoBulkAll ds ≤ 1048576)
def OpenSpec.upto (s : _root_.Go.ChangeSpec) : _root_.Go.OpenSpec := { _root_.Go.OpenSpec.ofChange s with cond := some uptoSmall }

/-- 'althinglaw07.WireRights', WHERE WHAT IT READS IS OF BULK AT MOST 1048576: true; the input reads as it did. -/
def wireRightsUptoRow : OpenClaim := { program := "ytibhkdomoknnfaa", sum := "64edefa2b1d9e0526200b27cff24a8afe66f42b0f25950d8b4ad1d5c4477c3f4", func := "althing/althinglaw07.WireRights", spec := "wireRights", unfollowed := true, recurses := true, apart := false, narrowed := true }
def WireRightsUptoSaid : Prop := wireRightsUptoRow.holds Try.pinned (OpenSpec.upto wireRightsSpec)

/-- 'althinglaw07.WirePuts', WHERE WHAT IT READS IS OF BULK AT MOST 1048576: true; the input reads as it did. -/
def wirePutsUptoRow : OpenClaim := { program := "ytibhkdomoknnfaa", sum := "64edefa2b1d9e0526200b27cff24a8afe66f42b0f25950d8b4ad1d5c4477c3f4", func := "althing/althinglaw07.WirePuts", spec := "wirePuts", unfollowed := true, recurses := true, apart := false, narrowed := true }
def WirePutsUptoSaid : Prop := wirePutsUptoRow.holds Try.pinned (OpenSpec.upto wirePutsSpec)

/-- 'althinglaw07.WireLong', WHERE WHAT IT READS IS OF BULK AT MOST 1048576: true; the input reads as it did. -/
def wireLongUptoRow : OpenClaim := { program := "ytibhkdomoknnfaa", sum := "64edefa2b1d9e0526200b27cff24a8afe66f42b0f25950d8b4ad1d5c4477c3f4", func := "althing/althinglaw07.WireLong", spec := "wireLong", unfollowed := true, recurses := true, apart := false, narrowed := true }
def WireLongUptoSaid : Prop := wireLongUptoRow.holds Try.pinned (OpenSpec.upto wireLongSpec)

/-- 'althinglaw07.WireMusts', WHERE WHAT IT READS IS OF BULK AT MOST 1048576: true; the input reads as it did. -/
def wireMustsUptoRow : OpenClaim := { program := "ytibhkdomoknnfaa", sum := "64edefa2b1d9e0526200b27cff24a8afe66f42b0f25950d8b4ad1d5c4477c3f4", func := "althing/althinglaw07.WireMusts", spec := "wireMusts", unfollowed := true, recurses := true, apart := false, narrowed := true }
def WireMustsUptoSaid : Prop := wireMustsUptoRow.holds Try.pinned (OpenSpec.upto wireMustsSpec)

end Rows
end Go.Proofs.Ytibhkdomoknnfaa
