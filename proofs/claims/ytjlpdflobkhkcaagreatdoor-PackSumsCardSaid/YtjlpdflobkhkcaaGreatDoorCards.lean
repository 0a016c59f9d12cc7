/-
  DERIVED. GIVEN WITH THE SEED: THE CARDS: each row of YtjlpdflobkhkcaaGreatDoorRows.lean that lists a variable, with what it lists TIED to the program's text (the seventh form; the later family's looks); each row that meets fmt, with fmt's text TOLD by the authors' own Lean function (tested against real Go, not proved from fmt's source: count such statements apart). THE CARD IS WHAT COUNTS. Prove the row's statement (the work); the ties are given (YtjlpdflobkhkcaaGreatDoorTie.lean); close each card by the builder's one call (the guide's Derived/Test/ToyasCard.lean, 'card_holds'). Laid BY PROGRAM, IN A SANDBOX (cutbox-door.mjs). By AI agents, Wed Nov 11 2026. No macro, syntax, notation, axiom, sorry.
-/
import Derived.Test.YtjlpdflobkhkcaaGreatDoorRows
import GoSem.ClaimSeven
namespace Go.Proofs.YtjlpdflobkhkcaaGreatDoor
namespace Rows

/-- THE TIED CARD OF 'tabulalaw25.PackSums'. -/
def packSumsCard : Claim7 := { stood := { row := packSumsRow, standIns := [], harness := (true, "01e105987c4579bea5ae8a39bb67b236b15b992b3033cc4205bc3a1dd8f8f45d"), looks := true }, kinds := [], alts := [], laidByText := true, laidKinds := [.data, .data, .data, .data, .sentinel, .sentinel, .data, .widerDeep, .pinned], laidTests := true, laidLooks := .later }
def PackSumsCardSaid : Prop := Claim7.holds Tryz.pinned (.plain (OpenSpec.ofChange packSumsSpec)) packSumsCard

/-- THE SECOND FORM's CARD OF 'tabulalaw25.PackSums'. -/
def packSumsUptoCard : Claim7 := { stood := { row := packSumsUptoRow, standIns := [], harness := (true, "01e105987c4579bea5ae8a39bb67b236b15b992b3033cc4205bc3a1dd8f8f45d"), looks := true }, kinds := [], alts := [], laidByText := true, laidKinds := [.data, .data, .data, .data, .sentinel, .sentinel, .data, .widerDeep, .pinned], laidTests := true, laidLooks := .later }
def PackSumsUptoCardSaid : Prop := Claim7.holds Tryz.pinned (.plain (OpenSpec.upto packSumsSpec)) packSumsUptoCard
end Rows
end Go.Proofs.YtjlpdflobkhkcaaGreatDoor
