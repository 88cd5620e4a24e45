/-
  No cell of these rows narrows 'for every input' (looked for: loops, veiled, ifaces, maps, wideKeys, modest, calm, conditions, laid).
  DERIVED. THE GIVEN ROWS OF THIS SEAT. 6 by the template 'for every input the law returns true; each argument reads behind the call as it read before'; 0 by the template 'total and deterministic' (their statements: YtobnjpgggocdlaaTotals.lean).
  GIVEN WITH THE SEED: the statements are not yours to turn. If you find one false, say at which input.
  Laid BY PROGRAM, IN A SANDBOX (cutbox-rows.mjs): the forced cells as the released guide's own fill.sh prints them over the translation 7f0a6d562939e4a6… (all of the seat's roots in one cut). By AI agents, Wed Nov 11 2026. No macro, syntax, notation, axiom, sorry.
-/
import Derived.Test.YtobnjpgggocdlaaChecked
import GoSem.Claim
import GoSem.ClaimJoined
import GoSem.ClaimMapViews
import Derived.JoinedTies
import Derived.KernelRfl
namespace Go.Proofs.Ytobnjpgggocdlaa
/- THE CELL 'sum', in the pinned program and in every row, IS THE sha256 OF THE DUMP (.gsa) THAT YtobnjpgggocdlaaProg.lean LOADS. Nothing in Lean hashes anything: it is a label: what it is worth is what the hold of that sum in a sandbox is worth. -/
noncomputable def Try.pinned : Pinned := { name := "ytobnjpgggocdlaa", sum := "7f0a6d562939e4a61f2051b6188b6c16982714abd8714f8956a25176a2435395", checked := Try.checked }
namespace Rows
def none {H : Type} : Left H := { results := [], args := [] }

/-- 'rampartlaw17.FixAsks': WHATEVER THE INPUT: true; the input reads as it did. -/
def fixAsksSpec : ChangeSpec := { name := "fixAsks", fn := fun _ => fun
  | [d] => { results := [.lit (.bool true)], args := [d] }
  | _ => none }
def fixAsksRow : OpenClaim := { program := "ytobnjpgggocdlaa", sum := "7f0a6d562939e4a61f2051b6188b6c16982714abd8714f8956a25176a2435395", func := "rampart/rampartlaw17.FixAsks", spec := "fixAsks", unfollowed := true, recurses := true, plainKeys := false, apart := false }
def FixAsksSaid : Prop := fixAsksRow.holds Try.pinned (OpenSpec.ofChange fixAsksSpec)

/-- ITS FALSE NEIGHBOUR: 'it returns false'. Refute it at one input. -/
def fixAsksWrong : ChangeSpec := { name := "fixAsks", fn := fun _ => fun
  | [d] => { results := [.lit (.bool false)], args := [d] }
  | _ => none }
def FixAsksWrongFalsely : Prop := fixAsksRow.holds Try.pinned (OpenSpec.ofChange fixAsksWrong)

/-- 'rampartlaw17.FixMends': WHATEVER THE INPUT: true; the input reads as it did. -/
def fixMendsSpec : ChangeSpec := { name := "fixMends", fn := fun _ => fun
  | [d1, d2] => { results := [.lit (.bool true)], args := [d1, d2] }
  | _ => none }
def fixMendsRow : OpenClaim := { program := "ytobnjpgggocdlaa", sum := "7f0a6d562939e4a61f2051b6188b6c16982714abd8714f8956a25176a2435395", func := "rampart/rampartlaw17.FixMends", spec := "fixMends", unfollowed := true, recurses := true, plainKeys := false, apart := false }
def FixMendsSaid : Prop := fixMendsRow.holds Try.pinned (OpenSpec.ofChange fixMendsSpec)

/-- ITS FALSE NEIGHBOUR: 'it returns false'. Refute it at one input. -/
def fixMendsWrong : ChangeSpec := { name := "fixMends", fn := fun _ => fun
  | [d1, d2] => { results := [.lit (.bool false)], args := [d1, d2] }
  | _ => none }
def FixMendsWrongFalsely : Prop := fixMendsRow.holds Try.pinned (OpenSpec.ofChange fixMendsWrong)

/-- 'rampartlaw17.FixWhole': WHATEVER THE INPUT: true; the input reads as it did. -/
def fixWholeSpec : ChangeSpec := { name := "fixWhole", fn := fun _ => fun
  | [d1, d2, d3, d4, d5] => { results := [.lit (.bool true)], args := [d1, d2, d3, d4, d5] }
  | _ => none }
def fixWholeRow : OpenClaim := { program := "ytobnjpgggocdlaa", sum := "7f0a6d562939e4a61f2051b6188b6c16982714abd8714f8956a25176a2435395", func := "rampart/rampartlaw17.FixWhole", spec := "fixWhole", unfollowed := true, recurses := true, plainKeys := false, apart := false }
def FixWholeSaid : Prop := fixWholeRow.holds Try.pinned (OpenSpec.ofChange fixWholeSpec)

/-- ITS FALSE NEIGHBOUR: 'it returns false'. Refute it at one input. -/
def fixWholeWrong : ChangeSpec := { name := "fixWhole", fn := fun _ => fun
  | [d1, d2, d3, d4, d5] => { results := [.lit (.bool false)], args := [d1, d2, d3, d4, d5] }
  | _ => none }
def FixWholeWrongFalsely : Prop := fixWholeRow.holds Try.pinned (OpenSpec.ofChange fixWholeWrong)

/-- 'rampartlaw17.FixMissing': WHATEVER THE INPUT: true; the input reads as it did. -/
def fixMissingSpec : ChangeSpec := { name := "fixMissing", fn := fun _ => fun
  | [d1, d2, d3, d4, d5] => { results := [.lit (.bool true)], args := [d1, d2, d3, d4, d5] }
  | _ => none }
def fixMissingRow : OpenClaim := { program := "ytobnjpgggocdlaa", sum := "7f0a6d562939e4a61f2051b6188b6c16982714abd8714f8956a25176a2435395", func := "rampart/rampartlaw17.FixMissing", spec := "fixMissing", unfollowed := true, recurses := true, plainKeys := false, apart := false }
def FixMissingSaid : Prop := fixMissingRow.holds Try.pinned (OpenSpec.ofChange fixMissingSpec)

/-- ITS FALSE NEIGHBOUR: 'it returns false'. Refute it at one input. -/
def fixMissingWrong : ChangeSpec := { name := "fixMissing", fn := fun _ => fun
  | [d1, d2, d3, d4, d5] => { results := [.lit (.bool false)], args := [d1, d2, d3, d4, d5] }
  | _ => none }
def FixMissingWrongFalsely : Prop := fixMissingRow.holds Try.pinned (OpenSpec.ofChange fixMissingWrong)

/-- 'rampartlaw17.FixOdd': WHATEVER THE INPUT: true; the input reads as it did. -/
def fixOddSpec : ChangeSpec := { name := "fixOdd", fn := fun _ => fun
  | [d1, d2, d3, d4, d5] => { results := [.lit (.bool true)], args := [d1, d2, d3, d4, d5] }
  | _ => none }
def fixOddRow : OpenClaim := { program := "ytobnjpgggocdlaa", sum := "7f0a6d562939e4a61f2051b6188b6c16982714abd8714f8956a25176a2435395", func := "rampart/rampartlaw17.FixOdd", spec := "fixOdd", unfollowed := true, recurses := true, plainKeys := false, apart := false }
def FixOddSaid : Prop := fixOddRow.holds Try.pinned (OpenSpec.ofChange fixOddSpec)

/-- ITS FALSE NEIGHBOUR: 'it returns false'. Refute it at one input. -/
def fixOddWrong : ChangeSpec := { name := "fixOdd", fn := fun _ => fun
  | [d1, d2, d3, d4, d5] => { results := [.lit (.bool false)], args := [d1, d2, d3, d4, d5] }
  | _ => none }
def FixOddWrongFalsely : Prop := fixOddRow.holds Try.pinned (OpenSpec.ofChange fixOddWrong)

/-- 'rampartlaw17.FixKeeps': WHATEVER THE INPUT: true; the input reads as it did. -/
def fixKeepsSpec : ChangeSpec := { name := "fixKeeps", fn := fun _ => fun
  | [d1, d2, d3] => { results := [.lit (.bool true)], args := [d1, d2, d3] }
  | _ => none }
def fixKeepsRow : OpenClaim := { program := "ytobnjpgggocdlaa", sum := "7f0a6d562939e4a61f2051b6188b6c16982714abd8714f8956a25176a2435395", func := "rampart/rampartlaw17.FixKeeps", spec := "fixKeeps", unfollowed := true, recurses := true, plainKeys := false, apart := false }
def FixKeepsSaid : Prop := fixKeepsRow.holds Try.pinned (OpenSpec.ofChange fixKeepsSpec)

/-- ITS FALSE NEIGHBOUR: 'it returns false'. Refute it at one input. -/
def fixKeepsWrong : ChangeSpec := { name := "fixKeeps", fn := fun _ => fun
  | [d1, d2, d3] => { results := [.lit (.bool false)], args := [d1, d2, d3] }
  | _ => none }
def FixKeepsWrongFalsely : Prop := fixKeepsRow.holds Try.pinned (OpenSpec.ofChange fixKeepsWrong)

/- THE SECOND FORM. 'bulk': how many values and letters a reading holds, each counted each time it is reached (what is shared counts as often as it is met; a slice's spare places count too). A statement '..UptoSaid' is the law's where the arguments, and the package variables that the reading takes, are together of bulk at most 1048576: NARROWER than '..Said'. Prove '..Said' where nothing that the law and all that it calls make is longer than what came in: it says more and counts as full. Else prove '..UptoSaid'. A law counts once. -/
mutual
def uptoBulk {H : Type} : DataW H → Nat
  | .lit (.string bytes) => bytes.length + 1
  | .lit _ => 1
  | .nil => 1
  | .ptr d => uptoBulk d + 1
  | .slice elems spare => uptoBulkAll elems + uptoBulkAll spare + 1
  | .agg parts => uptoBulkAll parts + 1
  | .iface _ d => uptoBulk d + 1
  | .map entries => uptoBulkEntries entries + 1
  | .held _ => 1
def uptoBulkAll {H : Type} : List (DataW H) → Nat
  | [] => 0
  | d :: r => uptoBulk d + uptoBulkAll r
def uptoBulkEntries {H : Type} : List (Lit × DataW H) → Nat
  | [] => 0
  | x :: r => uptoBulkEntry x + uptoBulkEntries r
def uptoBulkEntry {H : Type} : Lit × DataW H → Nat
  | (.string bytes, d) => bytes.length + uptoBulk d + 1
  | (_, d) => uptoBulk d + 1
 end
def uptoSmall : (H : Type) → List (DataW H) → Bool := fun _ ds => decide (uptoBulkAll ds ≤ 1048576)
def OpenSpec.upto (s : _root_.Go.ChangeSpec) : _root_.Go.OpenSpec := { _root_.Go.OpenSpec.ofChange s with cond := some uptoSmall }

/-- 'rampartlaw17.FixAsks', WHERE WHAT IT READS IS OF BULK AT MOST 1048576: true; the input reads as it did. -/
def fixAsksUptoRow : OpenClaim := { program := "ytobnjpgggocdlaa", sum := "7f0a6d562939e4a61f2051b6188b6c16982714abd8714f8956a25176a2435395", func := "rampart/rampartlaw17.FixAsks", spec := "fixAsks", unfollowed := true, recurses := true, plainKeys := false, apart := false, narrowed := true }
def FixAsksUptoSaid : Prop := fixAsksUptoRow.holds Try.pinned (OpenSpec.upto fixAsksSpec)

/-- 'rampartlaw17.FixMends', WHERE WHAT IT READS IS OF BULK AT MOST 1048576: true; the input reads as it did. -/
def fixMendsUptoRow : OpenClaim := { program := "ytobnjpgggocdlaa", sum := "7f0a6d562939e4a61f2051b6188b6c16982714abd8714f8956a25176a2435395", func := "rampart/rampartlaw17.FixMends", spec := "fixMends", unfollowed := true, recurses := true, plainKeys := false, apart := false, narrowed := true }
def FixMendsUptoSaid : Prop := fixMendsUptoRow.holds Try.pinned (OpenSpec.upto fixMendsSpec)

/-- 'rampartlaw17.FixWhole', WHERE WHAT IT READS IS OF BULK AT MOST 1048576: true; the input reads as it did. -/
def fixWholeUptoRow : OpenClaim := { program := "ytobnjpgggocdlaa", sum := "7f0a6d562939e4a61f2051b6188b6c16982714abd8714f8956a25176a2435395", func := "rampart/rampartlaw17.FixWhole", spec := "fixWhole", unfollowed := true, recurses := true, plainKeys := false, apart := false, narrowed := true }
def FixWholeUptoSaid : Prop := fixWholeUptoRow.holds Try.pinned (OpenSpec.upto fixWholeSpec)

/-- 'rampartlaw17.FixMissing', WHERE WHAT IT READS IS OF BULK AT MOST 1048576: true; the input reads as it did. -/
def fixMissingUptoRow : OpenClaim := { program := "ytobnjpgggocdlaa", sum := "7f0a6d562939e4a61f2051b6188b6c16982714abd8714f8956a25176a2435395", func := "rampart/rampartlaw17.FixMissing", spec := "fixMissing", unfollowed := true, recurses := true, plainKeys := false, apart := false, narrowed := true }
def FixMissingUptoSaid : Prop := fixMissingUptoRow.holds Try.pinned (OpenSpec.upto fixMissingSpec)

/-- 'rampartlaw17.FixOdd', WHERE WHAT IT READS IS OF BULK AT MOST 1048576: true; the input reads as it did. -/
def fixOddUptoRow : OpenClaim := { program := "ytobnjpgggocdlaa", sum := "7f0a6d562939e4a61f2051b6188b6c16982714abd8714f8956a25176a2435395", func := "rampart/rampartlaw17.FixOdd", spec := "fixOdd", unfollowed := true, recurses := true, plainKeys := false, apart := false, narrowed := true }
def FixOddUptoSaid : Prop := fixOddUptoRow.holds Try.pinned (OpenSpec.upto fixOddSpec)

/-- 'rampartlaw17.FixKeeps', WHERE WHAT IT READS IS OF BULK AT MOST 1048576: true; the input reads as it did. -/
def fixKeepsUptoRow : OpenClaim := { program := "ytobnjpgggocdlaa", sum := "7f0a6d562939e4a61f2051b6188b6c16982714abd8714f8956a25176a2435395", func := "rampart/rampartlaw17.FixKeeps", spec := "fixKeeps", unfollowed := true, recurses := true, plainKeys := false, apart := false, narrowed := true }
def FixKeepsUptoSaid : Prop := fixKeepsUptoRow.holds Try.pinned (OpenSpec.upto fixKeepsSpec)

end Rows
end Go.Proofs.Ytobnjpgggocdlaa
