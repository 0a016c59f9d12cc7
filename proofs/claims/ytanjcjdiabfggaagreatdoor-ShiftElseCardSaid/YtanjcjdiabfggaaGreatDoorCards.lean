/-
  DERIVED. GIVEN WITH THE SEED: THE CARDS: each row of YtanjcjdiabfggaaGreatDoorRows.lean that lists a variable, with what it lists TIED to the program's text (the seventh form; the later family's looks); each row that meets fmt, with fmt's text TOLD by the authors' own Lean function (tested against real Go, not proved from fmt's source: count such statements apart). THE CARD IS WHAT COUNTS. Prove the row's statement (the work); the ties are given (YtanjcjdiabfggaaGreatDoorTie.lean); close each card by the builder's one call (the guide's Derived/Test/ToyasCard.lean, 'card_holds'). Laid BY PROGRAM, IN A SANDBOX (cutbox-door.mjs). By AI agents, Wed Nov 11 2026. No macro, syntax, notation, axiom, sorry.
-/
import Derived.Test.YtanjcjdiabfggaaGreatDoorRows
import GoSem.ClaimSeven
namespace Go.Proofs.YtanjcjdiabfggaaGreatDoor
namespace Rows

/-- THE TIED CARD OF 'tabulalaw17.ShiftElse'. -/
def shiftElseCard : Claim7 := { stood := { row := shiftElseRow, standIns := [], harness := (true, "53fab5aa737bb452c7769caa7629ff13ceb3b145807499511afed5443f707503"), looks := true }, kinds := [], alts := [], laidByText := true, laidKinds := [.data, .data, .data, .data, .sentinel, .sentinel, .data, .widerDeep, .pinned], laidTests := true, laidLooks := .later }
def ShiftElseCardSaid : Prop := Claim7.holds Tryz.pinned (.plain (OpenSpec.ofChange shiftElseSpec)) shiftElseCard

/-- THE SECOND FORM's CARD OF 'tabulalaw17.ShiftElse'. -/
def shiftElseUptoCard : Claim7 := { stood := { row := shiftElseUptoRow, standIns := [], harness := (true, "53fab5aa737bb452c7769caa7629ff13ceb3b145807499511afed5443f707503"), looks := true }, kinds := [], alts := [], laidByText := true, laidKinds := [.data, .data, .data, .data, .sentinel, .sentinel, .data, .widerDeep, .pinned], laidTests := true, laidLooks := .later }
def ShiftElseUptoCardSaid : Prop := Claim7.holds Tryz.pinned (.plain (OpenSpec.upto shiftElseSpec)) shiftElseUptoCard
end Rows
end Go.Proofs.YtanjcjdiabfggaaGreatDoor
