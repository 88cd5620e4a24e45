/-
  DERIVED. GIVEN WITH THE SEED: THE CARDS: each row of YtaplookbfhicoaaGreatDoorRows.lean that lists a variable, with what it lists TIED to the program's text (the seventh form; the later family's looks); each row that meets fmt, with fmt's text TOLD by the authors' own Lean function (tested against real Go, not proved from fmt's source: count such statements apart). THE CARD IS WHAT COUNTS. Prove the row's statement (the work); the ties are given (YtaplookbfhicoaaGreatDoorTie.lean); close each card by the builder's one call (the guide's Derived/Test/ToyasCard.lean, 'card_holds'). Laid BY PROGRAM, IN A SANDBOX (cutbox-door.mjs). By AI agents, Wed Nov 11 2026. No macro, syntax, notation, axiom, sorry.
-/
import Derived.Test.YtaplookbfhicoaaGreatDoorRows
import GoSem.ClaimSeven
namespace Go.Proofs.YtaplookbfhicoaaGreatDoor
namespace Rows

/-- THE TIED CARD OF 'rampartlaw31.FsckSounds'. -/
def fsckSoundsCard : Claim7 := { stood := { row := fsckSoundsRow, standIns := [], harness := (true, "622fb8bd4c67dad72e3ae3d421c49156ea9e3ad15201d1593176a2a63ae069da"), looks := true }, kinds := [], alts := [], laidByText := true, laidKinds := [.data, .data, .data, .sentinel, .sentinel], laidTests := true, laidLooks := .later }
def FsckSoundsCardSaid : Prop := Claim7.holds Tryz.pinned (.plain (OpenSpec.ofChange fsckSoundsSpec)) fsckSoundsCard

/-- THE TIED CARD OF 'rampartlaw15.CompactNone'. -/
def compactNoneCard : Claim7 := { stood := { row := compactNoneRow, standIns := [], harness := (true, "622fb8bd4c67dad72e3ae3d421c49156ea9e3ad15201d1593176a2a63ae069da"), looks := true }, kinds := [], alts := [], laidByText := true, laidKinds := [.data, .data, .data], laidTests := true, laidLooks := .later }
def CompactNoneCardSaid : Prop := Claim7.holds Tryz.pinned (.plain (OpenSpec.ofChange compactNoneSpec)) compactNoneCard

/-- THE SECOND FORM's CARD OF 'rampartlaw31.FsckSounds'. -/
def fsckSoundsUptoCard : Claim7 := { stood := { row := fsckSoundsUptoRow, standIns := [], harness := (true, "622fb8bd4c67dad72e3ae3d421c49156ea9e3ad15201d1593176a2a63ae069da"), looks := true }, kinds := [], alts := [], laidByText := true, laidKinds := [.data, .data, .data, .sentinel, .sentinel], laidTests := true, laidLooks := .later }
def FsckSoundsUptoCardSaid : Prop := Claim7.holds Tryz.pinned (.plain (OpenSpec.upto fsckSoundsSpec)) fsckSoundsUptoCard

/-- THE SECOND FORM's CARD OF 'rampartlaw15.CompactNone'. -/
def compactNoneUptoCard : Claim7 := { stood := { row := compactNoneUptoRow, standIns := [], harness := (true, "622fb8bd4c67dad72e3ae3d421c49156ea9e3ad15201d1593176a2a63ae069da"), looks := true }, kinds := [], alts := [], laidByText := true, laidKinds := [.data, .data, .data], laidTests := true, laidLooks := .later }
def CompactNoneUptoCardSaid : Prop := Claim7.holds Tryz.pinned (.plain (OpenSpec.upto compactNoneSpec)) compactNoneUptoCard
end Rows
end Go.Proofs.YtaplookbfhicoaaGreatDoor
