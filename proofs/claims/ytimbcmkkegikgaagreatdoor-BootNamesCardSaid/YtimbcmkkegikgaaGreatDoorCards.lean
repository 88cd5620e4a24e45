/-
  DERIVED. GIVEN WITH THE SEED: THE CARDS: each row of YtimbcmkkegikgaaGreatDoorRows.lean that lists a variable, with what it lists TIED to the program's text (the seventh form; the later family's looks); each row that meets fmt, with fmt's text TOLD by the authors' own Lean function (tested against real Go, not proved from fmt's source: count such statements apart). THE CARD IS WHAT COUNTS. Prove the row's statement (the work); the ties are given (YtimbcmkkegikgaaGreatDoorTie.lean); close each card by the builder's one call (the guide's Derived/Test/ToyasCard.lean, 'card_holds'). Laid BY PROGRAM, IN A SANDBOX (cutbox-door.mjs). By AI agents, Wed Nov 11 2026. No macro, syntax, notation, axiom, sorry.
-/
import Derived.Test.YtimbcmkkegikgaaGreatDoorRows
import GoSem.ClaimSeven
namespace Go.Proofs.YtimbcmkkegikgaaGreatDoor
namespace Rows

/-- THE TIED CARD OF 'rampartlaw14.BootNames'. -/
def bootNamesCard : Claim7 := { stood := { row := bootNamesRow, standIns := [], harness := (true, "cbebc8435dfca967af9a9da09d791a23daeeddb26aa12c4be6da4a57ddd26652"), looks := false }, kinds := [], alts := [], laidByText := true, laidKinds := [.data, .data, .data], laidTests := true, laidLooks := .later }
def BootNamesCardSaid : Prop := Claim7.holds Tryz.pinned (.plain (OpenSpec.ofChange bootNamesSpec)) bootNamesCard

/-- THE TIED CARD OF 'rampartlaw14.BootPlays'. -/
def bootPlaysCard : Claim7 := { stood := { row := bootPlaysRow, standIns := [], harness := (true, "cbebc8435dfca967af9a9da09d791a23daeeddb26aa12c4be6da4a57ddd26652"), looks := false }, kinds := [], alts := [], laidByText := true, laidKinds := [.data, .data, .data], laidTests := true, laidLooks := .later }
def BootPlaysCardSaid : Prop := Claim7.holds Tryz.pinned (.plain (OpenSpec.ofChange bootPlaysSpec)) bootPlaysCard

/-- THE TIED CARD OF 'rampartlaw14.BootReads'. -/
def bootReadsCard : Claim7 := { stood := { row := bootReadsRow, standIns := [], harness := (true, "cbebc8435dfca967af9a9da09d791a23daeeddb26aa12c4be6da4a57ddd26652"), looks := false }, kinds := [], alts := [], laidByText := true, laidKinds := [.data, .data, .data], laidTests := true, laidLooks := .later }
def BootReadsCardSaid : Prop := Claim7.holds Tryz.pinned (.plain (OpenSpec.ofChange bootReadsSpec)) bootReadsCard

/-- THE TIED CARD OF 'rampartlaw14.BootGoes'. -/
def bootGoesCard : Claim7 := { stood := { row := bootGoesRow, standIns := [], harness := (true, "cbebc8435dfca967af9a9da09d791a23daeeddb26aa12c4be6da4a57ddd26652"), looks := false }, kinds := [], alts := [], laidByText := true, laidKinds := [.data, .data, .data], laidTests := true, laidLooks := .later }
def BootGoesCardSaid : Prop := Claim7.holds Tryz.pinned (.plain (OpenSpec.ofChange bootGoesSpec)) bootGoesCard

/-- THE TIED CARD OF 'rampartlaw14.BootTorn'. -/
def bootTornCard : Claim7 := { stood := { row := bootTornRow, standIns := [], harness := (true, "cbebc8435dfca967af9a9da09d791a23daeeddb26aa12c4be6da4a57ddd26652"), looks := false }, kinds := [], alts := [], laidByText := true, laidKinds := [.data, .data, .data], laidTests := true, laidLooks := .later }
def BootTornCardSaid : Prop := Claim7.holds Tryz.pinned (.plain (OpenSpec.ofChange bootTornSpec)) bootTornCard

/-- THE TIED CARD OF 'rampartlaw14.BootArmed'. -/
def bootArmedCard : Claim7 := { stood := { row := bootArmedRow, standIns := [], harness := (true, "cbebc8435dfca967af9a9da09d791a23daeeddb26aa12c4be6da4a57ddd26652"), looks := false }, kinds := [], alts := [], laidByText := true, laidKinds := [.data, .data, .data], laidTests := true, laidLooks := .later }
def BootArmedCardSaid : Prop := Claim7.holds Tryz.pinned (.plain (OpenSpec.ofChange bootArmedSpec)) bootArmedCard

/-- THE SECOND FORM's CARD OF 'rampartlaw14.BootNames'. -/
def bootNamesUptoCard : Claim7 := { stood := { row := bootNamesUptoRow, standIns := [], harness := (true, "cbebc8435dfca967af9a9da09d791a23daeeddb26aa12c4be6da4a57ddd26652"), looks := false }, kinds := [], alts := [], laidByText := true, laidKinds := [.data, .data, .data], laidTests := true, laidLooks := .later }
def BootNamesUptoCardSaid : Prop := Claim7.holds Tryz.pinned (.plain (OpenSpec.upto bootNamesSpec)) bootNamesUptoCard

/-- THE SECOND FORM's CARD OF 'rampartlaw14.BootPlays'. -/
def bootPlaysUptoCard : Claim7 := { stood := { row := bootPlaysUptoRow, standIns := [], harness := (true, "cbebc8435dfca967af9a9da09d791a23daeeddb26aa12c4be6da4a57ddd26652"), looks := false }, kinds := [], alts := [], laidByText := true, laidKinds := [.data, .data, .data], laidTests := true, laidLooks := .later }
def BootPlaysUptoCardSaid : Prop := Claim7.holds Tryz.pinned (.plain (OpenSpec.upto bootPlaysSpec)) bootPlaysUptoCard

/-- THE SECOND FORM's CARD OF 'rampartlaw14.BootReads'. -/
def bootReadsUptoCard : Claim7 := { stood := { row := bootReadsUptoRow, standIns := [], harness := (true, "cbebc8435dfca967af9a9da09d791a23daeeddb26aa12c4be6da4a57ddd26652"), looks := false }, kinds := [], alts := [], laidByText := true, laidKinds := [.data, .data, .data], laidTests := true, laidLooks := .later }
def BootReadsUptoCardSaid : Prop := Claim7.holds Tryz.pinned (.plain (OpenSpec.upto bootReadsSpec)) bootReadsUptoCard

/-- THE SECOND FORM's CARD OF 'rampartlaw14.BootGoes'. -/
def bootGoesUptoCard : Claim7 := { stood := { row := bootGoesUptoRow, standIns := [], harness := (true, "cbebc8435dfca967af9a9da09d791a23daeeddb26aa12c4be6da4a57ddd26652"), looks := false }, kinds := [], alts := [], laidByText := true, laidKinds := [.data, .data, .data], laidTests := true, laidLooks := .later }
def BootGoesUptoCardSaid : Prop := Claim7.holds Tryz.pinned (.plain (OpenSpec.upto bootGoesSpec)) bootGoesUptoCard

/-- THE SECOND FORM's CARD OF 'rampartlaw14.BootTorn'. -/
def bootTornUptoCard : Claim7 := { stood := { row := bootTornUptoRow, standIns := [], harness := (true, "cbebc8435dfca967af9a9da09d791a23daeeddb26aa12c4be6da4a57ddd26652"), looks := false }, kinds := [], alts := [], laidByText := true, laidKinds := [.data, .data, .data], laidTests := true, laidLooks := .later }
def BootTornUptoCardSaid : Prop := Claim7.holds Tryz.pinned (.plain (OpenSpec.upto bootTornSpec)) bootTornUptoCard

/-- THE SECOND FORM's CARD OF 'rampartlaw14.BootArmed'. -/
def bootArmedUptoCard : Claim7 := { stood := { row := bootArmedUptoRow, standIns := [], harness := (true, "cbebc8435dfca967af9a9da09d791a23daeeddb26aa12c4be6da4a57ddd26652"), looks := false }, kinds := [], alts := [], laidByText := true, laidKinds := [.data, .data, .data], laidTests := true, laidLooks := .later }
def BootArmedUptoCardSaid : Prop := Claim7.holds Tryz.pinned (.plain (OpenSpec.upto bootArmedSpec)) bootArmedUptoCard
end Rows
end Go.Proofs.YtimbcmkkegikgaaGreatDoor
