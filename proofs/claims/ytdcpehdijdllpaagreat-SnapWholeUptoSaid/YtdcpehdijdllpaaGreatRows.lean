/-
  No cell of these rows narrows 'for every input' (looked for: loops, veiled, ifaces, maps, wideKeys, modest, calm, conditions, laid).
  DERIVED. THE GIVEN ROWS OF THIS SEAT. 5 by the template 'for every input the law returns true; each argument reads behind the call as it read before'; 0 by the template 'total and deterministic' (their statements: YtdcpehdijdllpaaGreatTotals.lean).
  GIVEN WITH THE SEED: the statements are not yours to turn. If you find one false, say at which input.
  Laid BY PROGRAM, IN A SANDBOX (cutbox-rows.mjs): the forced cells as the released guide's own fill.sh prints them over the translation 91500f86c49ef108… (all of the seat's roots in one cut). By AI agents, Wed Nov 11 2026. No macro, syntax, notation, axiom, sorry.
-/
import Derived.Test.YtdcpehdijdllpaaGreatChecked
import GoSem.Claim
import GoSem.ClaimJoined
import GoSem.ClaimMapViews
import Derived.JoinedTies
import Derived.KernelRfl
namespace Go.Proofs.YtdcpehdijdllpaaGreat
/- THE CELL 'sum', in the pinned program and in every row, IS THE sha256 OF THE DUMP (.gsa) THAT YtdcpehdijdllpaaGreatProg.lean LOADS. Nothing in Lean hashes anything: it is a label: what it is worth is what the hold of that sum in a sandbox is worth. -/
noncomputable def Tryz.pinned : Pinned := { name := "ytdcpehdijdllpaagreat", sum := "91500f86c49ef10824a8d9eb9098260e39609a7f12b0f4a3829ab1971c6f5095", checked := Tryz.checked }
namespace Rows
def none {H : Type} : Left H := { results := [], args := [] }

/-- 'rampartlaw13.SnapLays': WHATEVER THE INPUT: true; the input reads as it did. -/
def snapLaysSpec : ChangeSpec := { name := "snapLays", fn := fun _ => fun
  | [d1, d2] => { results := [.lit (.bool true)], args := [d1, d2] }
  | _ => none }
def snapLaysRow : OpenClaim := { program := "ytdcpehdijdllpaagreat", sum := "91500f86c49ef10824a8d9eb9098260e39609a7f12b0f4a3829ab1971c6f5095", func := "rampart/rampartlaw13.SnapLays", spec := "snapLays", inPlace := ["slices.overlaps[rampart/api.ID]"], unfollowed := true, recurses := true, plainKeys := false, apart := false }
def SnapLaysSaid : Prop := snapLaysRow.holds Tryz.pinned (OpenSpec.ofChange snapLaysSpec)

/-- ITS FALSE NEIGHBOUR: 'it returns false'. Refute it at one input. -/
def snapLaysWrong : ChangeSpec := { name := "snapLays", fn := fun _ => fun
  | [d1, d2] => { results := [.lit (.bool false)], args := [d1, d2] }
  | _ => none }
def SnapLaysWrongFalsely : Prop := snapLaysRow.holds Tryz.pinned (OpenSpec.ofChange snapLaysWrong)

/-- 'rampartlaw13.SnapReads': WHATEVER THE INPUT: true; the input reads as it did. -/
def snapReadsSpec : ChangeSpec := { name := "snapReads", fn := fun _ => fun
  | [d1, d2] => { results := [.lit (.bool true)], args := [d1, d2] }
  | _ => none }
def snapReadsRow : OpenClaim := { program := "ytdcpehdijdllpaagreat", sum := "91500f86c49ef10824a8d9eb9098260e39609a7f12b0f4a3829ab1971c6f5095", func := "rampart/rampartlaw13.SnapReads", spec := "snapReads", inPlace := ["slices.overlaps[rampart/api.ID]"], unfollowed := true, recurses := true, plainKeys := false, apart := false }
def SnapReadsSaid : Prop := snapReadsRow.holds Tryz.pinned (OpenSpec.ofChange snapReadsSpec)

/-- ITS FALSE NEIGHBOUR: 'it returns false'. Refute it at one input. -/
def snapReadsWrong : ChangeSpec := { name := "snapReads", fn := fun _ => fun
  | [d1, d2] => { results := [.lit (.bool false)], args := [d1, d2] }
  | _ => none }
def SnapReadsWrongFalsely : Prop := snapReadsRow.holds Tryz.pinned (OpenSpec.ofChange snapReadsWrong)

/-- 'rampartlaw13.SnapBursts': WHATEVER THE INPUT: true; the input reads as it did. -/
def snapBurstsSpec : ChangeSpec := { name := "snapBursts", fn := fun _ => fun
  | [d1, d2, d3] => { results := [.lit (.bool true)], args := [d1, d2, d3] }
  | _ => none }
def snapBurstsRow : OpenClaim := { program := "ytdcpehdijdllpaagreat", sum := "91500f86c49ef10824a8d9eb9098260e39609a7f12b0f4a3829ab1971c6f5095", func := "rampart/rampartlaw13.SnapBursts", spec := "snapBursts", inPlace := ["slices.overlaps[rampart/api.ID]"], unfollowed := true, recurses := true, plainKeys := false, apart := false }
def SnapBurstsSaid : Prop := snapBurstsRow.holds Tryz.pinned (OpenSpec.ofChange snapBurstsSpec)

/-- ITS FALSE NEIGHBOUR: 'it returns false'. Refute it at one input. -/
def snapBurstsWrong : ChangeSpec := { name := "snapBursts", fn := fun _ => fun
  | [d1, d2, d3] => { results := [.lit (.bool false)], args := [d1, d2, d3] }
  | _ => none }
def SnapBurstsWrongFalsely : Prop := snapBurstsRow.holds Tryz.pinned (OpenSpec.ofChange snapBurstsWrong)

/-- 'rampartlaw13.SnapWhole': WHATEVER THE INPUT: true; the input reads as it did. -/
def snapWholeSpec : ChangeSpec := { name := "snapWhole", fn := fun _ => fun
  | [d1, d2] => { results := [.lit (.bool true)], args := [d1, d2] }
  | _ => none }
def snapWholeRow : OpenClaim := { program := "ytdcpehdijdllpaagreat", sum := "91500f86c49ef10824a8d9eb9098260e39609a7f12b0f4a3829ab1971c6f5095", func := "rampart/rampartlaw13.SnapWhole", spec := "snapWhole", inPlace := ["slices.overlaps[rampart/api.ID]"], unfollowed := true, recurses := true, plainKeys := false, apart := false }
def SnapWholeSaid : Prop := snapWholeRow.holds Tryz.pinned (OpenSpec.ofChange snapWholeSpec)

/-- ITS FALSE NEIGHBOUR: 'it returns false'. Refute it at one input. -/
def snapWholeWrong : ChangeSpec := { name := "snapWhole", fn := fun _ => fun
  | [d1, d2] => { results := [.lit (.bool false)], args := [d1, d2] }
  | _ => none }
def SnapWholeWrongFalsely : Prop := snapWholeRow.holds Tryz.pinned (OpenSpec.ofChange snapWholeWrong)

/-- 'rampartlaw13.SnapBack': WHATEVER THE INPUT: true; the input reads as it did. -/
def snapBackSpec : ChangeSpec := { name := "snapBack", fn := fun _ => fun
  | [d1, d2, d3, d4] => { results := [.lit (.bool true)], args := [d1, d2, d3, d4] }
  | _ => none }
def snapBackRow : OpenClaim := { program := "ytdcpehdijdllpaagreat", sum := "91500f86c49ef10824a8d9eb9098260e39609a7f12b0f4a3829ab1971c6f5095", func := "rampart/rampartlaw13.SnapBack", spec := "snapBack", inPlace := ["slices.overlaps[rampart/api.ID]"], unfollowed := true, recurses := true, plainKeys := false, apart := false }
def SnapBackSaid : Prop := snapBackRow.holds Tryz.pinned (OpenSpec.ofChange snapBackSpec)

/-- ITS FALSE NEIGHBOUR: 'it returns false'. Refute it at one input. -/
def snapBackWrong : ChangeSpec := { name := "snapBack", fn := fun _ => fun
  | [d1, d2, d3, d4] => { results := [.lit (.bool false)], args := [d1, d2, d3, d4] }
  | _ => none }
def SnapBackWrongFalsely : Prop := snapBackRow.holds Tryz.pinned (OpenSpec.ofChange snapBackWrong)

/- THE SECOND FORM. 'bulk': how many values and letters a reading holds, each counted each time it is reached (what is shared counts as often as it is met; a slice's spare places count too). A statement '..UptoSaid' is the law's where the arguments, and the package variables that the reading takes, are together of bulk at most 1048576: NARROWER than '..Said'. Prove '..Said' where nothing that the law and all that it calls make is longer than what came in: it says more and counts as full. Else prove '..UptoSaid'. A law counts once. -/
mutual
def uptoBulk {H : Type} : DataW H → Nat
  | .lit (.string bytes) => bytes.length + 1
  | .lit _ => 1
  | .nil => 1
  | .ptr d => uptoBulk d + 1
  | .slice elems spare => uptoBulkAll elems + uptoBulkAll spare + 1
  | .agg parts => uptoBulkAll parts + 1
  | .iface _ d => uptoBulk d + 1
  | .map entries => uptoBulkEntries entries + 1
  | .held _ => 1
def uptoBulkAll {H : Type} : List (DataW H) → Nat
  | [] => 0
  | d :: r => uptoBulk d + uptoBulkAll r
def uptoBulkEntries {H : Type} : List (Lit × DataW H) → Nat
  | [] => 0
  | x :: r => uptoBulkEntry x + uptoBulkEntries r
def uptoBulkEntry {H : Type} : Lit × DataW H → Nat
  | (.string bytes, d) => bytes.length + uptoBulk d + 1
  | (_, d) => uptoBulk d + 1
 end
def uptoSmall : (H : Type) → List (DataW H) → Bool := fun _ ds => decide (uptoBulkAll ds ≤ 1048576)
def OpenSpec.upto (s : _root_.Go.ChangeSpec) : _root_.Go.OpenSpec := { _root_.Go.OpenSpec.ofChange s with cond := some uptoSmall }

/-- 'rampartlaw13.SnapLays', WHERE WHAT IT READS IS OF BULK AT MOST 1048576: true; the input reads as it did. -/
def snapLaysUptoRow : OpenClaim := { program := "ytdcpehdijdllpaagreat", sum := "91500f86c49ef10824a8d9eb9098260e39609a7f12b0f4a3829ab1971c6f5095", func := "rampart/rampartlaw13.SnapLays", spec := "snapLays", inPlace := ["slices.overlaps[rampart/api.ID]"], unfollowed := true, recurses := true, plainKeys := false, apart := false, narrowed := true }
def SnapLaysUptoSaid : Prop := snapLaysUptoRow.holds Tryz.pinned (OpenSpec.upto snapLaysSpec)

/-- 'rampartlaw13.SnapReads', WHERE WHAT IT READS IS OF BULK AT MOST 1048576: true; the input reads as it did. -/
def snapReadsUptoRow : OpenClaim := { program := "ytdcpehdijdllpaagreat", sum := "91500f86c49ef10824a8d9eb9098260e39609a7f12b0f4a3829ab1971c6f5095", func := "rampart/rampartlaw13.SnapReads", spec := "snapReads", inPlace := ["slices.overlaps[rampart/api.ID]"], unfollowed := true, recurses := true, plainKeys := false, apart := false, narrowed := true }
def SnapReadsUptoSaid : Prop := snapReadsUptoRow.holds Tryz.pinned (OpenSpec.upto snapReadsSpec)

/-- 'rampartlaw13.SnapBursts', WHERE WHAT IT READS IS OF BULK AT MOST 1048576: true; the input reads as it did. -/
def snapBurstsUptoRow : OpenClaim := { program := "ytdcpehdijdllpaagreat", sum := "91500f86c49ef10824a8d9eb9098260e39609a7f12b0f4a3829ab1971c6f5095", func := "rampart/rampartlaw13.SnapBursts", spec := "snapBursts", inPlace := ["slices.overlaps[rampart/api.ID]"], unfollowed := true, recurses := true, plainKeys := false, apart := false, narrowed := true }
def SnapBurstsUptoSaid : Prop := snapBurstsUptoRow.holds Tryz.pinned (OpenSpec.upto snapBurstsSpec)

/-- 'rampartlaw13.SnapWhole', WHERE WHAT IT READS IS OF BULK AT MOST 1048576: true; the input reads as it did. -/
def snapWholeUptoRow : OpenClaim := { program := "ytdcpehdijdllpaagreat", sum := "91500f86c49ef10824a8d9eb9098260e39609a7f12b0f4a3829ab1971c6f5095", func := "rampart/rampartlaw13.SnapWhole", spec := "snapWhole", inPlace := ["slices.overlaps[rampart/api.ID]"], unfollowed := true, recurses := true, plainKeys := false, apart := false, narrowed := true }
def SnapWholeUptoSaid : Prop := snapWholeUptoRow.holds Tryz.pinned (OpenSpec.upto snapWholeSpec)

/-- 'rampartlaw13.SnapBack', WHERE WHAT IT READS IS OF BULK AT MOST 1048576: true; the input reads as it did. -/
def snapBackUptoRow : OpenClaim := { program := "ytdcpehdijdllpaagreat", sum := "91500f86c49ef10824a8d9eb9098260e39609a7f12b0f4a3829ab1971c6f5095", func := "rampart/rampartlaw13.SnapBack", spec := "snapBack", inPlace := ["slices.overlaps[rampart/api.ID]"], unfollowed := true, recurses := true, plainKeys := false, apart := false, narrowed := true }
def SnapBackUptoSaid : Prop := snapBackUptoRow.holds Tryz.pinned (OpenSpec.upto snapBackSpec)

end Rows
end Go.Proofs.YtdcpehdijdllpaaGreat
