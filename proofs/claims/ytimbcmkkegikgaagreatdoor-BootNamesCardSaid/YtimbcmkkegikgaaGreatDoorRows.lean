/-
  NARROWER THAN 'FOR EVERY INPUT', by the rows' own cells (each row's printed sentence says how): BootNames: laid · BootPlays: laid · BootReads: laid · BootGoes: laid · BootTorn: laid · BootArmed: laid.
  DERIVED. THE GIVEN ROWS OF THIS SEAT. 6 by the template 'for every input the law returns true; each argument reads behind the call as it read before'; 0 by the template 'total and deterministic' (their statements: YtimbcmkkegikgaaGreatDoorTotals.lean).
  GIVEN WITH THE SEED: the statements are not yours to turn. If you find one false, say at which input.
  Laid BY PROGRAM, IN A SANDBOX (cutbox-rows.mjs): the forced cells as the released guide's own fill.sh prints them over the translation 3f52586cf935a438… (all of the seat's roots in one cut). By AI agents, Wed Nov 11 2026. No macro, syntax, notation, axiom, sorry.
-/
import Derived.Test.YtimbcmkkegikgaaGreatDoorChecked
import GoSem.Claim
import GoSem.ClaimJoined
import GoSem.ClaimMapViews
import Derived.JoinedTies
import Derived.KernelRfl
namespace Go.Proofs.YtimbcmkkegikgaaGreatDoor
/- THE CELL 'sum', in the pinned program and in every row, IS THE sha256 OF THE DUMP (.gsa) THAT YtimbcmkkegikgaaGreatDoorProg.lean LOADS. Nothing in Lean hashes anything: it is a label: what it is worth is what the hold of that sum in a sandbox is worth. -/
noncomputable def Tryz.pinned : Pinned := { name := "ytimbcmkkegikgaagreatdoor", sum := "3f52586cf935a438cf50942fe9dbda9efd242027bea4470cb0376d0b9be00278", checked := Tryz.checked }
namespace Rows
def none {H : Type} : Left H := { results := [], args := [] }

/- WHAT THE LISTED PACKAGE-LEVEL VARIABLES READ AS WHEN THE CALL BEGINS. Each datum BY PROGRAM (the guide's laid-datum.mjs) off the statement by which the dump's own 'gosem.cut.vars' lays the variable. In a bare row this is a premise. The card (YtimbcmkkegikgaaGreatDoorCards.lean) ties it to the program's text. -/
def laid_math_bits_deBruijn32tab {H : Type} : DataW H := .agg [.lit (.int .u8 0), .lit (.int .u8 1), .lit (.int .u8 28), .lit (.int .u8 2), .lit (.int .u8 29), .lit (.int .u8 14), .lit (.int .u8 24), .lit (.int .u8 3), .lit (.int .u8 30), .lit (.int .u8 22), .lit (.int .u8 20), .lit (.int .u8 15), .lit (.int .u8 25), .lit (.int .u8 17), .lit (.int .u8 4), .lit (.int .u8 8), .lit (.int .u8 31), .lit (.int .u8 27), .lit (.int .u8 13), .lit (.int .u8 23), .lit (.int .u8 21), .lit (.int .u8 19), .lit (.int .u8 16), .lit (.int .u8 7), .lit (.int .u8 26), .lit (.int .u8 12), .lit (.int .u8 18), .lit (.int .u8 6), .lit (.int .u8 11), .lit (.int .u8 5), .lit (.int .u8 10), .lit (.int .u8 9)]
def laid_math_bits_deBruijn64tab {H : Type} : DataW H := .agg [.lit (.int .u8 0), .lit (.int .u8 1), .lit (.int .u8 56), .lit (.int .u8 2), .lit (.int .u8 57), .lit (.int .u8 49), .lit (.int .u8 28), .lit (.int .u8 3), .lit (.int .u8 61), .lit (.int .u8 58), .lit (.int .u8 42), .lit (.int .u8 50), .lit (.int .u8 38), .lit (.int .u8 29), .lit (.int .u8 17), .lit (.int .u8 4), .lit (.int .u8 62), .lit (.int .u8 47), .lit (.int .u8 59), .lit (.int .u8 36), .lit (.int .u8 45), .lit (.int .u8 43), .lit (.int .u8 51), .lit (.int .u8 22), .lit (.int .u8 53), .lit (.int .u8 39), .lit (.int .u8 33), .lit (.int .u8 30), .lit (.int .u8 24), .lit (.int .u8 18), .lit (.int .u8 12), .lit (.int .u8 5), .lit (.int .u8 63), .lit (.int .u8 55), .lit (.int .u8 48), .lit (.int .u8 27), .lit (.int .u8 60), .lit (.int .u8 41), .lit (.int .u8 37), .lit (.int .u8 16), .lit (.int .u8 46), .lit (.int .u8 35), .lit (.int .u8 44), .lit (.int .u8 21), .lit (.int .u8 52), .lit (.int .u8 32), .lit (.int .u8 23), .lit (.int .u8 11), .lit (.int .u8 54), .lit (.int .u8 26), .lit (.int .u8 40), .lit (.int .u8 15), .lit (.int .u8 34), .lit (.int .u8 20), .lit (.int .u8 31), .lit (.int .u8 10), .lit (.int .u8 25), .lit (.int .u8 14), .lit (.int .u8 19), .lit (.int .u8 9), .lit (.int .u8 13), .lit (.int .u8 8), .lit (.int .u8 7), .lit (.int .u8 6)]
def laid_internal_strconv_uint64pow10 {H : Type} : DataW H := .agg [.lit (.int .u64 1), .lit (.int .u64 10), .lit (.int .u64 100), .lit (.int .u64 1000), .lit (.int .u64 10000), .lit (.int .u64 100000), .lit (.int .u64 1000000), .lit (.int .u64 10000000), .lit (.int .u64 100000000), .lit (.int .u64 1000000000), .lit (.int .u64 10000000000), .lit (.int .u64 100000000000), .lit (.int .u64 1000000000000), .lit (.int .u64 10000000000000), .lit (.int .u64 100000000000000), .lit (.int .u64 1000000000000000), .lit (.int .u64 10000000000000000), .lit (.int .u64 100000000000000000), .lit (.int .u64 1000000000000000000), .lit (.int .u64 10000000000000000000)]

/-- 'rampartlaw14.BootNames': WHATEVER THE INPUT: true; the input reads as it did. -/
def bootNamesSpec : ChangeSpec := { name := "bootNames", fn := fun _ => fun
  | [d] => { results := [.lit (.bool true)], args := [d] }
  | _ => none }
def bootNamesRow : OpenClaim := { program := "ytimbcmkkegikgaagreatdoor", sum := "3f52586cf935a438cf50942fe9dbda9efd242027bea4470cb0376d0b9be00278", func := "rampart/rampartlaw14.BootNames", spec := "bootNames", inPlace := ["slices.overlaps[rampart/api.ID]"], unfollowed := true, recurses := true, named := ["internal/strconv.uint64pow10", "math/bits.deBruijn32tab", "math/bits.deBruijn64tab"], plainKeys := false, apart := false, laid := [("math/bits.deBruijn32tab", laid_math_bits_deBruijn32tab), ("math/bits.deBruijn64tab", laid_math_bits_deBruijn64tab), ("internal/strconv.uint64pow10", laid_internal_strconv_uint64pow10)] }
def BootNamesSaid : Prop := bootNamesRow.holds Tryz.pinned (OpenSpec.ofChange bootNamesSpec)

/-- ITS FALSE NEIGHBOUR: 'it returns false'. Refute it at one input. -/
def bootNamesWrong : ChangeSpec := { name := "bootNames", fn := fun _ => fun
  | [d] => { results := [.lit (.bool false)], args := [d] }
  | _ => none }
def BootNamesWrongFalsely : Prop := bootNamesRow.holds Tryz.pinned (OpenSpec.ofChange bootNamesWrong)

/-- 'rampartlaw14.BootPlays': WHATEVER THE INPUT: true; the input reads as it did. -/
def bootPlaysSpec : ChangeSpec := { name := "bootPlays", fn := fun _ => fun
  | [d1, d2, d3, d4] => { results := [.lit (.bool true)], args := [d1, d2, d3, d4] }
  | _ => none }
def bootPlaysRow : OpenClaim := { program := "ytimbcmkkegikgaagreatdoor", sum := "3f52586cf935a438cf50942fe9dbda9efd242027bea4470cb0376d0b9be00278", func := "rampart/rampartlaw14.BootPlays", spec := "bootPlays", inPlace := ["slices.overlaps[rampart/api.ID]"], unfollowed := true, recurses := true, named := ["internal/strconv.uint64pow10", "math/bits.deBruijn32tab", "math/bits.deBruijn64tab"], plainKeys := false, apart := false, laid := [("math/bits.deBruijn32tab", laid_math_bits_deBruijn32tab), ("math/bits.deBruijn64tab", laid_math_bits_deBruijn64tab), ("internal/strconv.uint64pow10", laid_internal_strconv_uint64pow10)] }
def BootPlaysSaid : Prop := bootPlaysRow.holds Tryz.pinned (OpenSpec.ofChange bootPlaysSpec)

/-- ITS FALSE NEIGHBOUR: 'it returns false'. Refute it at one input. -/
def bootPlaysWrong : ChangeSpec := { name := "bootPlays", fn := fun _ => fun
  | [d1, d2, d3, d4] => { results := [.lit (.bool false)], args := [d1, d2, d3, d4] }
  | _ => none }
def BootPlaysWrongFalsely : Prop := bootPlaysRow.holds Tryz.pinned (OpenSpec.ofChange bootPlaysWrong)

/-- 'rampartlaw14.BootReads': WHATEVER THE INPUT: true; the input reads as it did. -/
def bootReadsSpec : ChangeSpec := { name := "bootReads", fn := fun _ => fun
  | [d] => { results := [.lit (.bool true)], args := [d] }
  | _ => none }
def bootReadsRow : OpenClaim := { program := "ytimbcmkkegikgaagreatdoor", sum := "3f52586cf935a438cf50942fe9dbda9efd242027bea4470cb0376d0b9be00278", func := "rampart/rampartlaw14.BootReads", spec := "bootReads", inPlace := ["slices.overlaps[rampart/api.ID]"], unfollowed := true, recurses := true, named := ["internal/strconv.uint64pow10", "math/bits.deBruijn32tab", "math/bits.deBruijn64tab"], plainKeys := false, apart := false, laid := [("math/bits.deBruijn32tab", laid_math_bits_deBruijn32tab), ("math/bits.deBruijn64tab", laid_math_bits_deBruijn64tab), ("internal/strconv.uint64pow10", laid_internal_strconv_uint64pow10)] }
def BootReadsSaid : Prop := bootReadsRow.holds Tryz.pinned (OpenSpec.ofChange bootReadsSpec)

/-- ITS FALSE NEIGHBOUR: 'it returns false'. Refute it at one input. -/
def bootReadsWrong : ChangeSpec := { name := "bootReads", fn := fun _ => fun
  | [d] => { results := [.lit (.bool false)], args := [d] }
  | _ => none }
def BootReadsWrongFalsely : Prop := bootReadsRow.holds Tryz.pinned (OpenSpec.ofChange bootReadsWrong)

/-- 'rampartlaw14.BootGoes': WHATEVER THE INPUT: true; the input reads as it did. -/
def bootGoesSpec : ChangeSpec := { name := "bootGoes", fn := fun _ => fun
  | [d1, d2] => { results := [.lit (.bool true)], args := [d1, d2] }
  | _ => none }
def bootGoesRow : OpenClaim := { program := "ytimbcmkkegikgaagreatdoor", sum := "3f52586cf935a438cf50942fe9dbda9efd242027bea4470cb0376d0b9be00278", func := "rampart/rampartlaw14.BootGoes", spec := "bootGoes", inPlace := ["slices.overlaps[rampart/api.ID]"], unfollowed := true, recurses := true, named := ["internal/strconv.uint64pow10", "math/bits.deBruijn32tab", "math/bits.deBruijn64tab"], plainKeys := false, apart := false, laid := [("math/bits.deBruijn32tab", laid_math_bits_deBruijn32tab), ("math/bits.deBruijn64tab", laid_math_bits_deBruijn64tab), ("internal/strconv.uint64pow10", laid_internal_strconv_uint64pow10)] }
def BootGoesSaid : Prop := bootGoesRow.holds Tryz.pinned (OpenSpec.ofChange bootGoesSpec)

/-- ITS FALSE NEIGHBOUR: 'it returns false'. Refute it at one input. -/
def bootGoesWrong : ChangeSpec := { name := "bootGoes", fn := fun _ => fun
  | [d1, d2] => { results := [.lit (.bool false)], args := [d1, d2] }
  | _ => none }
def BootGoesWrongFalsely : Prop := bootGoesRow.holds Tryz.pinned (OpenSpec.ofChange bootGoesWrong)

/-- 'rampartlaw14.BootTorn': WHATEVER THE INPUT: true; the input reads as it did. -/
def bootTornSpec : ChangeSpec := { name := "bootTorn", fn := fun _ => fun
  | [d1, d2, d3, d4] => { results := [.lit (.bool true)], args := [d1, d2, d3, d4] }
  | _ => none }
def bootTornRow : OpenClaim := { program := "ytimbcmkkegikgaagreatdoor", sum := "3f52586cf935a438cf50942fe9dbda9efd242027bea4470cb0376d0b9be00278", func := "rampart/rampartlaw14.BootTorn", spec := "bootTorn", inPlace := ["slices.overlaps[rampart/api.ID]"], unfollowed := true, recurses := true, named := ["internal/strconv.uint64pow10", "math/bits.deBruijn32tab", "math/bits.deBruijn64tab"], plainKeys := false, apart := false, laid := [("math/bits.deBruijn32tab", laid_math_bits_deBruijn32tab), ("math/bits.deBruijn64tab", laid_math_bits_deBruijn64tab), ("internal/strconv.uint64pow10", laid_internal_strconv_uint64pow10)] }
def BootTornSaid : Prop := bootTornRow.holds Tryz.pinned (OpenSpec.ofChange bootTornSpec)

/-- ITS FALSE NEIGHBOUR: 'it returns false'. Refute it at one input. -/
def bootTornWrong : ChangeSpec := { name := "bootTorn", fn := fun _ => fun
  | [d1, d2, d3, d4] => { results := [.lit (.bool false)], args := [d1, d2, d3, d4] }
  | _ => none }
def BootTornWrongFalsely : Prop := bootTornRow.holds Tryz.pinned (OpenSpec.ofChange bootTornWrong)

/-- 'rampartlaw14.BootArmed': WHATEVER THE INPUT: true; the input reads as it did. -/
def bootArmedSpec : ChangeSpec := { name := "bootArmed", fn := fun _ => fun
  | [d1, d2, d3] => { results := [.lit (.bool true)], args := [d1, d2, d3] }
  | _ => none }
def bootArmedRow : OpenClaim := { program := "ytimbcmkkegikgaagreatdoor", sum := "3f52586cf935a438cf50942fe9dbda9efd242027bea4470cb0376d0b9be00278", func := "rampart/rampartlaw14.BootArmed", spec := "bootArmed", inPlace := ["slices.overlaps[rampart/api.ID]"], unfollowed := true, recurses := true, named := ["internal/strconv.uint64pow10", "math/bits.deBruijn32tab", "math/bits.deBruijn64tab"], plainKeys := false, apart := false, laid := [("math/bits.deBruijn32tab", laid_math_bits_deBruijn32tab), ("math/bits.deBruijn64tab", laid_math_bits_deBruijn64tab), ("internal/strconv.uint64pow10", laid_internal_strconv_uint64pow10)] }
def BootArmedSaid : Prop := bootArmedRow.holds Tryz.pinned (OpenSpec.ofChange bootArmedSpec)

/-- ITS FALSE NEIGHBOUR: 'it returns false'. Refute it at one input. -/
def bootArmedWrong : ChangeSpec := { name := "bootArmed", fn := fun _ => fun
  | [d1, d2, d3] => { results := [.lit (.bool false)], args := [d1, d2, d3] }
  | _ => none }
def BootArmedWrongFalsely : Prop := bootArmedRow.holds Tryz.pinned (OpenSpec.ofChange bootArmedWrong)

/- THE SECOND FORM. 'bulk': how many values and letters a reading holds, each counted each time it is reached (what is shared counts as often as it is met; a slice's spare places count too). A statement '..UptoSaid' is the law's where the arguments, and the package variables that the reading takes, are together of bulk at most 1048576: NARROWER than '..Said'. Prove '..Said' where nothing that the law and all that it calls make is longer than what came in: it says more and counts as full. Else prove '..UptoSaid'. A law counts once. -/
mutual
def uptoBulk {H : Type} : DataW H → Nat
  | .lit (.string bytes) => bytes.length + 1
  | .lit _ => 1
  | .nil => 1
  | .ptr d => uptoBulk d + 1
  | .slice elems spare => uptoBulkAll elems + uptoBulkAll spare + 1
  | .agg parts => uptoBulkAll parts + 1
  | .iface _ d => uptoBulk d + 1
  | .map entries => uptoBulkEntries entries + 1
  | .held _ => 1
def uptoBulkAll {H : Type} : List (DataW H) → Nat
  | [] => 0
  | d :: r => uptoBulk d + uptoBulkAll r
def uptoBulkEntries {H : Type} : List (Lit × DataW H) → Nat
  | [] => 0
  | x :: r => uptoBulkEntry x + uptoBulkEntries r
def uptoBulkEntry {H : Type} : Lit × DataW H → Nat
  | (.string bytes, d) => bytes.length + uptoBulk d + 1
  | (_, d) => uptoBulk d + 1
 end
def uptoSmall : (H : Type) → List (DataW H) → Bool := fun _ ds => decide (uptoBulkAll ds ≤ 1048576)
def OpenSpec.upto (s : _root_.Go.ChangeSpec) : _root_.Go.OpenSpec := { _root_.Go.OpenSpec.ofChange s with cond := some uptoSmall }

/-- 'rampartlaw14.BootNames', WHERE WHAT IT READS IS OF BULK AT MOST 1048576: true; the input reads as it did. -/
def bootNamesUptoRow : OpenClaim := { program := "ytimbcmkkegikgaagreatdoor", sum := "3f52586cf935a438cf50942fe9dbda9efd242027bea4470cb0376d0b9be00278", func := "rampart/rampartlaw14.BootNames", spec := "bootNames", inPlace := ["slices.overlaps[rampart/api.ID]"], unfollowed := true, recurses := true, named := ["internal/strconv.uint64pow10", "math/bits.deBruijn32tab", "math/bits.deBruijn64tab"], plainKeys := false, apart := false, laid := [("math/bits.deBruijn32tab", laid_math_bits_deBruijn32tab), ("math/bits.deBruijn64tab", laid_math_bits_deBruijn64tab), ("internal/strconv.uint64pow10", laid_internal_strconv_uint64pow10)], narrowed := true }
def BootNamesUptoSaid : Prop := bootNamesUptoRow.holds Tryz.pinned (OpenSpec.upto bootNamesSpec)

/-- 'rampartlaw14.BootPlays', WHERE WHAT IT READS IS OF BULK AT MOST 1048576: true; the input reads as it did. -/
def bootPlaysUptoRow : OpenClaim := { program := "ytimbcmkkegikgaagreatdoor", sum := "3f52586cf935a438cf50942fe9dbda9efd242027bea4470cb0376d0b9be00278", func := "rampart/rampartlaw14.BootPlays", spec := "bootPlays", inPlace := ["slices.overlaps[rampart/api.ID]"], unfollowed := true, recurses := true, named := ["internal/strconv.uint64pow10", "math/bits.deBruijn32tab", "math/bits.deBruijn64tab"], plainKeys := false, apart := false, laid := [("math/bits.deBruijn32tab", laid_math_bits_deBruijn32tab), ("math/bits.deBruijn64tab", laid_math_bits_deBruijn64tab), ("internal/strconv.uint64pow10", laid_internal_strconv_uint64pow10)], narrowed := true }
def BootPlaysUptoSaid : Prop := bootPlaysUptoRow.holds Tryz.pinned (OpenSpec.upto bootPlaysSpec)

/-- 'rampartlaw14.BootReads', WHERE WHAT IT READS IS OF BULK AT MOST 1048576: true; the input reads as it did. -/
def bootReadsUptoRow : OpenClaim := { program := "ytimbcmkkegikgaagreatdoor", sum := "3f52586cf935a438cf50942fe9dbda9efd242027bea4470cb0376d0b9be00278", func := "rampart/rampartlaw14.BootReads", spec := "bootReads", inPlace := ["slices.overlaps[rampart/api.ID]"], unfollowed := true, recurses := true, named := ["internal/strconv.uint64pow10", "math/bits.deBruijn32tab", "math/bits.deBruijn64tab"], plainKeys := false, apart := false, laid := [("math/bits.deBruijn32tab", laid_math_bits_deBruijn32tab), ("math/bits.deBruijn64tab", laid_math_bits_deBruijn64tab), ("internal/strconv.uint64pow10", laid_internal_strconv_uint64pow10)], narrowed := true }
def BootReadsUptoSaid : Prop := bootReadsUptoRow.holds Tryz.pinned (OpenSpec.upto bootReadsSpec)

/-- 'rampartlaw14.BootGoes', WHERE WHAT IT READS IS OF BULK AT MOST 1048576: true; the input reads as it did. -/
def bootGoesUptoRow : OpenClaim := { program := "ytimbcmkkegikgaagreatdoor", sum := "3f52586cf935a438cf50942fe9dbda9efd242027bea4470cb0376d0b9be00278", func := "rampart/rampartlaw14.BootGoes", spec := "bootGoes", inPlace := ["slices.overlaps[rampart/api.ID]"], unfollowed := true, recurses := true, named := ["internal/strconv.uint64pow10", "math/bits.deBruijn32tab", "math/bits.deBruijn64tab"], plainKeys := false, apart := false, laid := [("math/bits.deBruijn32tab", laid_math_bits_deBruijn32tab), ("math/bits.deBruijn64tab", laid_math_bits_deBruijn64tab), ("internal/strconv.uint64pow10", laid_internal_strconv_uint64pow10)], narrowed := true }
def BootGoesUptoSaid : Prop := bootGoesUptoRow.holds Tryz.pinned (OpenSpec.upto bootGoesSpec)

/-- 'rampartlaw14.BootTorn', WHERE WHAT IT READS IS OF BULK AT MOST 1048576: true; the input reads as it did. -/
def bootTornUptoRow : OpenClaim := { program := "ytimbcmkkegikgaagreatdoor", sum := "3f52586cf935a438cf50942fe9dbda9efd242027bea4470cb0376d0b9be00278", func := "rampart/rampartlaw14.BootTorn", spec := "bootTorn", inPlace := ["slices.overlaps[rampart/api.ID]"], unfollowed := true, recurses := true, named := ["internal/strconv.uint64pow10", "math/bits.deBruijn32tab", "math/bits.deBruijn64tab"], plainKeys := false, apart := false, laid := [("math/bits.deBruijn32tab", laid_math_bits_deBruijn32tab), ("math/bits.deBruijn64tab", laid_math_bits_deBruijn64tab), ("internal/strconv.uint64pow10", laid_internal_strconv_uint64pow10)], narrowed := true }
def BootTornUptoSaid : Prop := bootTornUptoRow.holds Tryz.pinned (OpenSpec.upto bootTornSpec)

/-- 'rampartlaw14.BootArmed', WHERE WHAT IT READS IS OF BULK AT MOST 1048576: true; the input reads as it did. -/
def bootArmedUptoRow : OpenClaim := { program := "ytimbcmkkegikgaagreatdoor", sum := "3f52586cf935a438cf50942fe9dbda9efd242027bea4470cb0376d0b9be00278", func := "rampart/rampartlaw14.BootArmed", spec := "bootArmed", inPlace := ["slices.overlaps[rampart/api.ID]"], unfollowed := true, recurses := true, named := ["internal/strconv.uint64pow10", "math/bits.deBruijn32tab", "math/bits.deBruijn64tab"], plainKeys := false, apart := false, laid := [("math/bits.deBruijn32tab", laid_math_bits_deBruijn32tab), ("math/bits.deBruijn64tab", laid_math_bits_deBruijn64tab), ("internal/strconv.uint64pow10", laid_internal_strconv_uint64pow10)], narrowed := true }
def BootArmedUptoSaid : Prop := bootArmedUptoRow.holds Tryz.pinned (OpenSpec.upto bootArmedSpec)

end Rows
end Go.Proofs.YtimbcmkkegikgaaGreatDoor
