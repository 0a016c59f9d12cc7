/-
  DERIVED. GIVEN WITH THE SEED: THE CARDS: each row of YtlfcfgbbhlgocaaGreatDoorRows.lean that lists a variable, with what it lists TIED to the program's text (the seventh form; the later family's looks); each row that meets fmt, with fmt's text TOLD by the authors' own Lean function (tested against real Go, not proved from fmt's source: count such statements apart). THE CARD IS WHAT COUNTS. Prove the row's statement (the work); the ties are given (YtlfcfgbbhlgocaaGreatDoorTie.lean); close each card by the builder's one call (the guide's Derived/Test/ToyasCard.lean, 'card_holds'). Laid BY PROGRAM, IN A SANDBOX (cutbox-door.mjs). By AI agents, Wed Nov 11 2026. No macro, syntax, notation, axiom, sorry.
-/
import Derived.Test.YtlfcfgbbhlgocaaGreatDoorRows
import GoSem.ClaimSeven
namespace Go.Proofs.YtlfcfgbbhlgocaaGreatDoor
namespace Rows

/-- THE TIED CARD OF 'tabulalaw25.PackBack'. -/
def packBackCard : Claim7 := { stood := { row := packBackRow, standIns := [], harness := (true, "da4efa011a0d36e751aabfff7c2fbd5366429df57b76044a5246cec1c94b32e5"), looks := true }, kinds := [], alts := [], laidByText := true, laidKinds := [.data, .data, .data, .data, .sentinel, .sentinel, .data, .widerDeep, .pinned], laidTests := true, laidLooks := .later }
def PackBackCardSaid : Prop := Claim7.holds Tryz.pinned (.plain (OpenSpec.ofChange packBackSpec)) packBackCard

/-- THE TIED CARD OF 'tabulalaw25.PackCut'. -/
def packCutCard : Claim7 := { stood := { row := packCutRow, standIns := [], harness := (true, "da4efa011a0d36e751aabfff7c2fbd5366429df57b76044a5246cec1c94b32e5"), looks := true }, kinds := [], alts := [], laidByText := true, laidKinds := [.data, .data, .data, .data, .sentinel, .sentinel, .data, .widerDeep, .pinned], laidTests := true, laidLooks := .later }
def PackCutCardSaid : Prop := Claim7.holds Tryz.pinned (.plain (OpenSpec.ofChange packCutSpec)) packCutCard

/-- THE SECOND FORM's CARD OF 'tabulalaw25.PackBack'. -/
def packBackUptoCard : Claim7 := { stood := { row := packBackUptoRow, standIns := [], harness := (true, "da4efa011a0d36e751aabfff7c2fbd5366429df57b76044a5246cec1c94b32e5"), looks := true }, kinds := [], alts := [], laidByText := true, laidKinds := [.data, .data, .data, .data, .sentinel, .sentinel, .data, .widerDeep, .pinned], laidTests := true, laidLooks := .later }
def PackBackUptoCardSaid : Prop := Claim7.holds Tryz.pinned (.plain (OpenSpec.upto packBackSpec)) packBackUptoCard

/-- THE SECOND FORM's CARD OF 'tabulalaw25.PackCut'. -/
def packCutUptoCard : Claim7 := { stood := { row := packCutUptoRow, standIns := [], harness := (true, "da4efa011a0d36e751aabfff7c2fbd5366429df57b76044a5246cec1c94b32e5"), looks := true }, kinds := [], alts := [], laidByText := true, laidKinds := [.data, .data, .data, .data, .sentinel, .sentinel, .data, .widerDeep, .pinned], laidTests := true, laidLooks := .later }
def PackCutUptoCardSaid : Prop := Claim7.holds Tryz.pinned (.plain (OpenSpec.upto packCutSpec)) packCutUptoCard
end Rows
end Go.Proofs.YtlfcfgbbhlgocaaGreatDoor
