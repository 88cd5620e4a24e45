/-
  No cell of these rows narrows 'for every input' (looked for: loops, veiled, ifaces, maps, wideKeys, modest, calm, conditions, laid).
  DERIVED. THE GIVEN ROWS OF THIS SEAT. 5 by the template 'for every input the law returns true; each argument reads behind the call as it read before'; 0 by the template 'total and deterministic' (their statements: YtpbilghnfldmiaaTotals.lean).
  GIVEN WITH THE SEED: the statements are not yours to turn. If you find one false, say at which input.
  Laid BY PROGRAM, IN A SANDBOX (cutbox-rows.mjs): the forced cells as the released guide's own fill.sh prints them over the translation 93d680d03440bec9… (all of the seat's roots in one cut). By AI agents, Wed Nov 11 2026. No macro, syntax, notation, axiom, sorry.
-/
import Derived.Test.YtpbilghnfldmiaaChecked
import GoSem.Claim
import GoSem.ClaimJoined
import GoSem.ClaimMapViews
import Derived.JoinedTies
import Derived.KernelRfl
namespace Go.Proofs.Ytpbilghnfldmiaa
/- THE CELL 'sum', in the pinned program and in every row, IS THE sha256 OF THE DUMP (.gsa) THAT YtpbilghnfldmiaaProg.lean LOADS. Nothing in Lean hashes anything: it is a label: what it is worth is what the hold of that sum in a sandbox is worth. -/
noncomputable def Try.pinned : Pinned := { name := "ytpbilghnfldmiaa", sum := "93d680d03440bec9020b895e80f66001bda1903d2cac719449a8a0aa982faee7", checked := Try.checked }
namespace Rows
def none {H : Type} : Left H := { results := [], args := [] }

/-- 'rampartlaw05.ShardAsks': WHATEVER THE INPUT: true; the input reads as it did. -/
def shardAsksSpec : ChangeSpec := { name := "shardAsks", fn := fun _ => fun
  | [d1, d2] => { results := [.lit (.bool true)], args := [d1, d2] }
  | _ => none }
def shardAsksRow : OpenClaim := { program := "ytpbilghnfldmiaa", sum := "93d680d03440bec9020b895e80f66001bda1903d2cac719449a8a0aa982faee7", func := "rampart/rampartlaw05.ShardAsks", spec := "shardAsks", inPlace := ["slices.overlaps[rampart/shard.Part]"], unfollowed := true, recurses := true, apart := false }
def ShardAsksSaid : Prop := shardAsksRow.holds Try.pinned (OpenSpec.ofChange shardAsksSpec)

/-- ITS FALSE NEIGHBOUR: 'it returns false'. Refute it at one input. -/
def shardAsksWrong : ChangeSpec := { name := "shardAsks", fn := fun _ => fun
  | [d1, d2] => { results := [.lit (.bool false)], args := [d1, d2] }
  | _ => none }
def ShardAsksWrongFalsely : Prop := shardAsksRow.holds Try.pinned (OpenSpec.ofChange shardAsksWrong)

/-- 'rampartlaw05.ShardDeals': WHATEVER THE INPUT: true; the input reads as it did. -/
def shardDealsSpec : ChangeSpec := { name := "shardDeals", fn := fun _ => fun
  | [d1, d2] => { results := [.lit (.bool true)], args := [d1, d2] }
  | _ => none }
def shardDealsRow : OpenClaim := { program := "ytpbilghnfldmiaa", sum := "93d680d03440bec9020b895e80f66001bda1903d2cac719449a8a0aa982faee7", func := "rampart/rampartlaw05.ShardDeals", spec := "shardDeals", inPlace := ["slices.overlaps[rampart/shard.Part]"], unfollowed := true, recurses := true, apart := false }
def ShardDealsSaid : Prop := shardDealsRow.holds Try.pinned (OpenSpec.ofChange shardDealsSpec)

/-- ITS FALSE NEIGHBOUR: 'it returns false'. Refute it at one input. -/
def shardDealsWrong : ChangeSpec := { name := "shardDeals", fn := fun _ => fun
  | [d1, d2] => { results := [.lit (.bool false)], args := [d1, d2] }
  | _ => none }
def ShardDealsWrongFalsely : Prop := shardDealsRow.holds Try.pinned (OpenSpec.ofChange shardDealsWrong)

/-- 'rampartlaw05.ShardGroups': WHATEVER THE INPUT: true; the input reads as it did. -/
def shardGroupsSpec : ChangeSpec := { name := "shardGroups", fn := fun _ => fun
  | [d1, d2, d3] => { results := [.lit (.bool true)], args := [d1, d2, d3] }
  | _ => none }
def shardGroupsRow : OpenClaim := { program := "ytpbilghnfldmiaa", sum := "93d680d03440bec9020b895e80f66001bda1903d2cac719449a8a0aa982faee7", func := "rampart/rampartlaw05.ShardGroups", spec := "shardGroups", inPlace := ["slices.overlaps[rampart/shard.Part]", "slices.overlaps[rampart/shard.PairPart]"], unfollowed := true, recurses := true, apart := false }
def ShardGroupsSaid : Prop := shardGroupsRow.holds Try.pinned (OpenSpec.ofChange shardGroupsSpec)

/-- ITS FALSE NEIGHBOUR: 'it returns false'. Refute it at one input. -/
def shardGroupsWrong : ChangeSpec := { name := "shardGroups", fn := fun _ => fun
  | [d1, d2, d3] => { results := [.lit (.bool false)], args := [d1, d2, d3] }
  | _ => none }
def ShardGroupsWrongFalsely : Prop := shardGroupsRow.holds Try.pinned (OpenSpec.ofChange shardGroupsWrong)

/-- 'rampartlaw05.ShardPairs': WHATEVER THE INPUT: true; the input reads as it did. -/
def shardPairsSpec : ChangeSpec := { name := "shardPairs", fn := fun _ => fun
  | [d1, d2] => { results := [.lit (.bool true)], args := [d1, d2] }
  | _ => none }
def shardPairsRow : OpenClaim := { program := "ytpbilghnfldmiaa", sum := "93d680d03440bec9020b895e80f66001bda1903d2cac719449a8a0aa982faee7", func := "rampart/rampartlaw05.ShardPairs", spec := "shardPairs", inPlace := ["slices.overlaps[rampart/shard.Part]", "slices.overlaps[rampart/shard.PairPart]"], unfollowed := true, recurses := true, apart := false }
def ShardPairsSaid : Prop := shardPairsRow.holds Try.pinned (OpenSpec.ofChange shardPairsSpec)

/-- ITS FALSE NEIGHBOUR: 'it returns false'. Refute it at one input. -/
def shardPairsWrong : ChangeSpec := { name := "shardPairs", fn := fun _ => fun
  | [d1, d2] => { results := [.lit (.bool false)], args := [d1, d2] }
  | _ => none }
def ShardPairsWrongFalsely : Prop := shardPairsRow.holds Try.pinned (OpenSpec.ofChange shardPairsWrong)

/-- 'rampartlaw05.ShardKeeps': WHATEVER THE INPUT: true; the input reads as it did. -/
def shardKeepsSpec : ChangeSpec := { name := "shardKeeps", fn := fun _ => fun
  | [d1, d2, d3] => { results := [.lit (.bool true)], args := [d1, d2, d3] }
  | _ => none }
def shardKeepsRow : OpenClaim := { program := "ytpbilghnfldmiaa", sum := "93d680d03440bec9020b895e80f66001bda1903d2cac719449a8a0aa982faee7", func := "rampart/rampartlaw05.ShardKeeps", spec := "shardKeeps", inPlace := ["slices.overlaps[rampart/shard.Part]", "slices.overlaps[rampart/shard.PairPart]"], unfollowed := true, recurses := true, apart := false }
def ShardKeepsSaid : Prop := shardKeepsRow.holds Try.pinned (OpenSpec.ofChange shardKeepsSpec)

/-- ITS FALSE NEIGHBOUR: 'it returns false'. Refute it at one input. -/
def shardKeepsWrong : ChangeSpec := { name := "shardKeeps", fn := fun _ => fun
  | [d1, d2, d3] => { results := [.lit (.bool false)], args := [d1, d2, d3] }
  | _ => none }
def ShardKeepsWrongFalsely : Prop := shardKeepsRow.holds Try.pinned (OpenSpec.ofChange shardKeepsWrong)

/- THE SECOND FORM. 'bulk': how many values and letters a reading holds, each counted each time it is reached (what is shared counts as often as it is met; a slice's spare places count too). A statement '..UptoSaid' is the law's where the arguments, and the package variables that the reading takes, are together of bulk at most 1048576: NARROWER than '..Said'. Prove '..Said' where nothing that the law and all that it calls make is longer than what came in: it says more and counts as full. Else prove '..UptoSaid'. A law counts once. -/
mutual
def uptoBulk {H : Type} : DataW H → Nat
  | .lit (.string bytes) => bytes.length + 1
  | .lit _ => 1
  | .nil => 1
  | .ptr d => uptoBulk d + 1
  | .slice elems spare => uptoBulkAll elems + uptoBulkAll spare + 1
  | .agg parts => uptoBulkAll parts + 1
  | .iface _ d => uptoBulk d + 1
  | .map entries => uptoBulkEntries entries + 1
  | .held _ => 1
def uptoBulkAll {H : Type} : List (DataW H) → Nat
  | [] => 0
  | d :: r => uptoBulk d + uptoBulkAll r
def uptoBulkEntries {H : Type} : List (Lit × DataW H) → Nat
  | [] => 0
  | x :: r => uptoBulkEntry x + uptoBulkEntries r
def uptoBulkEntry {H : Type} : Lit × DataW H → Nat
  | (.string bytes, d) => bytes.length + uptoBulk d + 1
  | (_, d) => uptoBulk d + 1
 end
def uptoSmall : (H : Type) → List (DataW H) → Bool := fun _ ds => decide (uptoBulkAll ds ≤ 1048576)
def OpenSpec.upto (s : _root_.Go.ChangeSpec) : _root_.Go.OpenSpec := { _root_.Go.OpenSpec.ofChange s with cond := some uptoSmall }

/-- 'rampartlaw05.ShardAsks', WHERE WHAT IT READS IS OF BULK AT MOST 1048576: true; the input reads as it did. -/
def shardAsksUptoRow : OpenClaim := { program := "ytpbilghnfldmiaa", sum := "93d680d03440bec9020b895e80f66001bda1903d2cac719449a8a0aa982faee7", func := "rampart/rampartlaw05.ShardAsks", spec := "shardAsks", inPlace := ["slices.overlaps[rampart/shard.Part]"], unfollowed := true, recurses := true, apart := false, narrowed := true }
def ShardAsksUptoSaid : Prop := shardAsksUptoRow.holds Try.pinned (OpenSpec.upto shardAsksSpec)

/-- 'rampartlaw05.ShardDeals', WHERE WHAT IT READS IS OF BULK AT MOST 1048576: true; the input reads as it did. -/
def shardDealsUptoRow : OpenClaim := { program := "ytpbilghnfldmiaa", sum := "93d680d03440bec9020b895e80f66001bda1903d2cac719449a8a0aa982faee7", func := "rampart/rampartlaw05.ShardDeals", spec := "shardDeals", inPlace := ["slices.overlaps[rampart/shard.Part]"], unfollowed := true, recurses := true, apart := false, narrowed := true }
def ShardDealsUptoSaid : Prop := shardDealsUptoRow.holds Try.pinned (OpenSpec.upto shardDealsSpec)

/-- 'rampartlaw05.ShardGroups', WHERE WHAT IT READS IS OF BULK AT MOST 1048576: true; the input reads as it did. -/
def shardGroupsUptoRow : OpenClaim := { program := "ytpbilghnfldmiaa", sum := "93d680d03440bec9020b895e80f66001bda1903d2cac719449a8a0aa982faee7", func := "rampart/rampartlaw05.ShardGroups", spec := "shardGroups", inPlace := ["slices.overlaps[rampart/shard.Part]", "slices.overlaps[rampart/shard.PairPart]"], unfollowed := true, recurses := true, apart := false, narrowed := true }
def ShardGroupsUptoSaid : Prop := shardGroupsUptoRow.holds Try.pinned (OpenSpec.upto shardGroupsSpec)

/-- 'rampartlaw05.ShardPairs', WHERE WHAT IT READS IS OF BULK AT MOST 1048576: true; the input reads as it did. -/
def shardPairsUptoRow : OpenClaim := { program := "ytpbilghnfldmiaa", sum := "93d680d03440bec9020b895e80f66001bda1903d2cac719449a8a0aa982faee7", func := "rampart/rampartlaw05.ShardPairs", spec := "shardPairs", inPlace := ["slices.overlaps[rampart/shard.Part]", "slices.overlaps[rampart/shard.PairPart]"], unfollowed := true, recurses := true, apart := false, narrowed := true }
def ShardPairsUptoSaid : Prop := shardPairsUptoRow.holds Try.pinned (OpenSpec.upto shardPairsSpec)

/-- 'rampartlaw05.ShardKeeps', WHERE WHAT IT READS IS OF BULK AT MOST 1048576: true; the input reads as it did. -/
def shardKeepsUptoRow : OpenClaim := { program := "ytpbilghnfldmiaa", sum := "93d680d03440bec9020b895e80f66001bda1903d2cac719449a8a0aa982faee7", func := "rampart/rampartlaw05.ShardKeeps", spec := "shardKeeps", inPlace := ["slices.overlaps[rampart/shard.Part]", "slices.overlaps[rampart/shard.PairPart]"], unfollowed := true, recurses := true, apart := false, narrowed := true }
def ShardKeepsUptoSaid : Prop := shardKeepsUptoRow.holds Try.pinned (OpenSpec.upto shardKeepsSpec)

end Rows
end Go.Proofs.Ytpbilghnfldmiaa
