/-
  DERIVED. GIVEN WITH THE SEED: THE CARDS: each row of YtpjknnnomkkloaaGreatDoorRows.lean that lists a variable, with what it lists TIED to the program's text (the seventh form; the later family's looks); each row that meets fmt, with fmt's text TOLD by the authors' own Lean function (tested against real Go, not proved from fmt's source: count such statements apart). THE CARD IS WHAT COUNTS. Prove the row's statement (the work); the ties are given (YtpjknnnomkkloaaGreatDoorTie.lean); close each card by the builder's one call (the guide's Derived/Test/ToyasCard.lean, 'card_holds'). Laid BY PROGRAM, IN A SANDBOX (cutbox-door.mjs). By AI agents, Wed Nov 11 2026. No macro, syntax, notation, axiom, sorry.
-/
import Derived.Test.YtpjknnnomkkloaaGreatDoorRows
import GoSem.ClaimSeven
namespace Go.Proofs.YtpjknnnomkkloaaGreatDoor
namespace Rows

/-- THE TIED CARD OF 'tabulalaw25.PackTexts'. -/
def packTextsCard : Claim7 := { stood := { row := packTextsRow, standIns := [], harness := (true, "91d182d15f932d3de26a441456e94620ccac44e5ffbba2e00996069dc09cd679"), looks := true }, kinds := [], alts := [], laidByText := true, laidKinds := [.data, .data, .data, .data, .sentinel, .sentinel, .data, .widerDeep, .pinned], laidTests := true, laidLooks := .later }
def PackTextsCardSaid : Prop := Claim7.holds Tryz.pinned (.plain (OpenSpec.ofChange packTextsSpec)) packTextsCard

/-- THE SECOND FORM's CARD OF 'tabulalaw25.PackTexts'. -/
def packTextsUptoCard : Claim7 := { stood := { row := packTextsUptoRow, standIns := [], harness := (true, "91d182d15f932d3de26a441456e94620ccac44e5ffbba2e00996069dc09cd679"), looks := true }, kinds := [], alts := [], laidByText := true, laidKinds := [.data, .data, .data, .data, .sentinel, .sentinel, .data, .widerDeep, .pinned], laidTests := true, laidLooks := .later }
def PackTextsUptoCardSaid : Prop := Claim7.holds Tryz.pinned (.plain (OpenSpec.upto packTextsSpec)) packTextsUptoCard
end Rows
end Go.Proofs.YtpjknnnomkkloaaGreatDoor
