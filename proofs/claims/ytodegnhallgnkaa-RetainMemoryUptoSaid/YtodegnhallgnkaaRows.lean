/-
  No cell of these rows narrows 'for every input' (looked for: loops, veiled, ifaces, maps, wideKeys, modest, calm, conditions, laid).
  DERIVED. THE GIVEN ROWS OF THIS SEAT. 4 by the template 'for every input the law returns true; each argument reads behind the call as it read before'; 0 by the template 'total and deterministic' (their statements: YtodegnhallgnkaaTotals.lean).
  GIVEN WITH THE SEED: the statements are not yours to turn. If you find one false, say at which input.
  Laid BY PROGRAM, IN A SANDBOX (cutbox-rows.mjs): the forced cells as the released guide's own fill.sh prints them over the translation b3e91fd45559145f… (all of the seat's roots in one cut). By AI agents, Wed Nov 11 2026. No macro, syntax, notation, axiom, sorry.
-/
import Derived.Test.YtodegnhallgnkaaChecked
import GoSem.Claim
import GoSem.ClaimJoined
import GoSem.ClaimMapViews
import Derived.JoinedTies
import Derived.KernelRfl
namespace Go.Proofs.Ytodegnhallgnkaa
/- THE CELL 'sum', in the pinned program and in every row, IS THE sha256 OF THE DUMP (.gsa) THAT YtodegnhallgnkaaProg.lean LOADS. Nothing in Lean hashes anything: it is a label: what it is worth is what the hold of that sum in a sandbox is worth. -/
noncomputable def Try.pinned : Pinned := { name := "ytodegnhallgnkaa", sum := "b3e91fd45559145f04aaa4909674be9332caea7b9c4f5ae29eddaa59f2a7b5ac", checked := Try.checked }
namespace Rows
def none {H : Type} : Left H := { results := [], args := [] }

/-- 'rampartlaw12.RetainMemory': WHATEVER THE INPUT: true; the input reads as it did. -/
def retainMemorySpec : ChangeSpec := { name := "retainMemory", fn := fun _ => fun
  | [d] => { results := [.lit (.bool true)], args := [d] }
  | _ => none }
def retainMemoryRow : OpenClaim := { program := "ytodegnhallgnkaa", sum := "b3e91fd45559145f04aaa4909674be9332caea7b9c4f5ae29eddaa59f2a7b5ac", func := "rampart/rampartlaw12.RetainMemory", spec := "retainMemory", inPlace := ["slices.overlaps[rampart/api.ID]"], unfollowed := true, recurses := true, plainKeys := false, apart := false }
def RetainMemorySaid : Prop := retainMemoryRow.holds Try.pinned (OpenSpec.ofChange retainMemorySpec)

/-- ITS FALSE NEIGHBOUR: 'it returns false'. Refute it at one input. -/
def retainMemoryWrong : ChangeSpec := { name := "retainMemory", fn := fun _ => fun
  | [d] => { results := [.lit (.bool false)], args := [d] }
  | _ => none }
def RetainMemoryWrongFalsely : Prop := retainMemoryRow.holds Try.pinned (OpenSpec.ofChange retainMemoryWrong)

/-- 'rampartlaw12.RetainTime': WHATEVER THE INPUT: true; the input reads as it did. -/
def retainTimeSpec : ChangeSpec := { name := "retainTime", fn := fun _ => fun
  | [d1, d2] => { results := [.lit (.bool true)], args := [d1, d2] }
  | _ => none }
def retainTimeRow : OpenClaim := { program := "ytodegnhallgnkaa", sum := "b3e91fd45559145f04aaa4909674be9332caea7b9c4f5ae29eddaa59f2a7b5ac", func := "rampart/rampartlaw12.RetainTime", spec := "retainTime", inPlace := ["slices.overlaps[rampart/api.ID]"], unfollowed := true, recurses := true, plainKeys := false, apart := false }
def RetainTimeSaid : Prop := retainTimeRow.holds Try.pinned (OpenSpec.ofChange retainTimeSpec)

/-- ITS FALSE NEIGHBOUR: 'it returns false'. Refute it at one input. -/
def retainTimeWrong : ChangeSpec := { name := "retainTime", fn := fun _ => fun
  | [d1, d2] => { results := [.lit (.bool false)], args := [d1, d2] }
  | _ => none }
def RetainTimeWrongFalsely : Prop := retainTimeRow.holds Try.pinned (OpenSpec.ofChange retainTimeWrong)

/-- 'rampartlaw12.RetainSteps': WHATEVER THE INPUT: true; the input reads as it did. -/
def retainStepsSpec : ChangeSpec := { name := "retainSteps", fn := fun _ => fun
  | [d1, d2, d3] => { results := [.lit (.bool true)], args := [d1, d2, d3] }
  | _ => none }
def retainStepsRow : OpenClaim := { program := "ytodegnhallgnkaa", sum := "b3e91fd45559145f04aaa4909674be9332caea7b9c4f5ae29eddaa59f2a7b5ac", func := "rampart/rampartlaw12.RetainSteps", spec := "retainSteps", inPlace := ["slices.overlaps[rampart/api.ID]"], unfollowed := true, recurses := true, plainKeys := false, apart := false }
def RetainStepsSaid : Prop := retainStepsRow.holds Try.pinned (OpenSpec.ofChange retainStepsSpec)

/-- ITS FALSE NEIGHBOUR: 'it returns false'. Refute it at one input. -/
def retainStepsWrong : ChangeSpec := { name := "retainSteps", fn := fun _ => fun
  | [d1, d2, d3] => { results := [.lit (.bool false)], args := [d1, d2, d3] }
  | _ => none }
def RetainStepsWrongFalsely : Prop := retainStepsRow.holds Try.pinned (OpenSpec.ofChange retainStepsWrong)

/-- 'rampartlaw12.RetainKeeps': WHATEVER THE INPUT: true; the input reads as it did. -/
def retainKeepsSpec : ChangeSpec := { name := "retainKeeps", fn := fun _ => fun
  | [d1, d2, d3] => { results := [.lit (.bool true)], args := [d1, d2, d3] }
  | _ => none }
def retainKeepsRow : OpenClaim := { program := "ytodegnhallgnkaa", sum := "b3e91fd45559145f04aaa4909674be9332caea7b9c4f5ae29eddaa59f2a7b5ac", func := "rampart/rampartlaw12.RetainKeeps", spec := "retainKeeps", inPlace := ["slices.overlaps[rampart/api.ID]"], unfollowed := true, recurses := true, plainKeys := false, apart := false }
def RetainKeepsSaid : Prop := retainKeepsRow.holds Try.pinned (OpenSpec.ofChange retainKeepsSpec)

/-- ITS FALSE NEIGHBOUR: 'it returns false'. Refute it at one input. -/
def retainKeepsWrong : ChangeSpec := { name := "retainKeeps", fn := fun _ => fun
  | [d1, d2, d3] => { results := [.lit (.bool false)], args := [d1, d2, d3] }
  | _ => none }
def RetainKeepsWrongFalsely : Prop := retainKeepsRow.holds Try.pinned (OpenSpec.ofChange retainKeepsWrong)

/- THE SECOND FORM. 'bulk': how many values and letters a reading holds, each counted each time it is reached (what is shared counts as often as it is met; a slice's spare places count too). A statement '..UptoSaid' is the law's where the arguments, and the package variables that the reading takes, are together of bulk at most 1048576: NARROWER than '..Said'. Prove '..Said' where nothing that the law and all that it calls make is longer than what came in: it says more and counts as full. Else prove '..UptoSaid'. A law counts once. -/
mutual
def uptoBulk {H : Type} : DataW H → Nat
  | .lit (.string bytes) => bytes.length + 1
  | .lit _ => 1
  | .nil => 1
  | .ptr d => uptoBulk d + 1
  | .slice elems spare => uptoBulkAll elems + uptoBulkAll spare + 1
  | .agg parts => uptoBulkAll parts + 1
  | .iface _ d => uptoBulk d + 1
  | .map entries => uptoBulkEntries entries + 1
  | .held _ => 1
def uptoBulkAll {H : Type} : List (DataW H) → Nat
  | [] => 0
  | d :: r => uptoBulk d + uptoBulkAll r
def uptoBulkEntries {H : Type} : List (Lit × DataW H) → Nat
  | [] => 0
  | x :: r => uptoBulkEntry x + uptoBulkEntries r
def uptoBulkEntry {H : Type} : Lit × DataW H → Nat
  | (.string bytes, d) => bytes.length + uptoBulk d + 1
  | (_, d) => uptoBulk d + 1
 end
def uptoSmall : (H : Type) → List (DataW H) → Bool := fun _ ds => decide (uptoBulkAll ds ≤ 1048576)
def OpenSpec.upto (s : _root_.Go.ChangeSpec) : _root_.Go.OpenSpec := { _root_.Go.OpenSpec.ofChange s with cond := some uptoSmall }

/-- 'rampartlaw12.RetainMemory', WHERE WHAT IT READS IS OF BULK AT MOST 1048576: true; the input reads as it did. -/
def retainMemoryUptoRow : OpenClaim := { program := "ytodegnhallgnkaa", sum := "b3e91fd45559145f04aaa4909674be9332caea7b9c4f5ae29eddaa59f2a7b5ac", func := "rampart/rampartlaw12.RetainMemory", spec := "retainMemory", inPlace := ["slices.overlaps[rampart/api.ID]"], unfollowed := true, recurses := true, plainKeys := false, apart := false, narrowed := true }
def RetainMemoryUptoSaid : Prop := retainMemoryUptoRow.holds Try.pinned (OpenSpec.upto retainMemorySpec)

/-- 'rampartlaw12.RetainTime', WHERE WHAT IT READS IS OF BULK AT MOST 1048576: true; the input reads as it did. -/
def retainTimeUptoRow : OpenClaim := { program := "ytodegnhallgnkaa", sum := "b3e91fd45559145f04aaa4909674be9332caea7b9c4f5ae29eddaa59f2a7b5ac", func := "rampart/rampartlaw12.RetainTime", spec := "retainTime", inPlace := ["slices.overlaps[rampart/api.ID]"], unfollowed := true, recurses := true, plainKeys := false, apart := false, narrowed := true }
def RetainTimeUptoSaid : Prop := retainTimeUptoRow.holds Try.pinned (OpenSpec.upto retainTimeSpec)

/-- 'rampartlaw12.RetainSteps', WHERE WHAT IT READS IS OF BULK AT MOST 1048576: true; the input reads as it did. -/
def retainStepsUptoRow : OpenClaim := { program := "ytodegnhallgnkaa", sum := "b3e91fd45559145f04aaa4909674be9332caea7b9c4f5ae29eddaa59f2a7b5ac", func := "rampart/rampartlaw12.RetainSteps", spec := "retainSteps", inPlace := ["slices.overlaps[rampart/api.ID]"], unfollowed := true, recurses := true, plainKeys := false, apart := false, narrowed := true }
def RetainStepsUptoSaid : Prop := retainStepsUptoRow.holds Try.pinned (OpenSpec.upto retainStepsSpec)

/-- 'rampartlaw12.RetainKeeps', WHERE WHAT IT READS IS OF BULK AT MOST 1048576: true; the input reads as it did. -/
def retainKeepsUptoRow : OpenClaim := { program := "ytodegnhallgnkaa", sum := "b3e91fd45559145f04aaa4909674be9332caea7b9c4f5ae29eddaa59f2a7b5ac", func := "rampart/rampartlaw12.RetainKeeps", spec := "retainKeeps", inPlace := ["slices.overlaps[rampart/api.ID]"], unfollowed := true, recurses := true, plainKeys := false, apart := false, narrowed := true }
def RetainKeepsUptoSaid : Prop := retainKeepsUptoRow.holds Try.pinned (OpenSpec.upto retainKeepsSpec)

end Rows
end Go.Proofs.Ytodegnhallgnkaa
