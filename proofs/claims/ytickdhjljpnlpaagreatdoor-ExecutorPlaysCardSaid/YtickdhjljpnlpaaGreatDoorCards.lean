/-
  DERIVED. GIVEN WITH THE SEED: THE CARDS: each row of YtickdhjljpnlpaaGreatDoorRows.lean that lists a variable, with what it lists TIED to the program's text (the seventh form; the later family's looks); each row that meets fmt, with fmt's text TOLD by the authors' own Lean function (tested against real Go, not proved from fmt's source: count such statements apart). THE CARD IS WHAT COUNTS. Prove the row's statement (the work); the ties are given (YtickdhjljpnlpaaGreatDoorTie.lean); close each card by the builder's one call (the guide's Derived/Test/ToyasCard.lean, 'card_holds'). Laid BY PROGRAM, IN A SANDBOX (cutbox-door.mjs). By AI agents, Wed Nov 11 2026. No macro, syntax, notation, axiom, sorry.
-/
import Derived.Test.YtickdhjljpnlpaaGreatDoorRows
import GoSem.ClaimSeven
namespace Go.Proofs.YtickdhjljpnlpaaGreatDoor
namespace Rows

/-- THE TIED CARD OF 'bottomrylaw29.ExecutorSame'. -/
def executorSameCard : Claim7 := { stood := { row := executorSameRow, standIns := [], harness := (true, "02fe5dcf8ef9b4acadadbee8d23922c47c37a0ddfd5442304faa6713489c0f83"), looks := true }, kinds := [], alts := [], laidByText := true, laidKinds := [.data, .data, .data, .data, .sentinel, .sentinel, .pinned], laidTests := true, laidLooks := .later }
def ExecutorSameCardSaid : Prop := Claim7.holds Tryz.pinned (.plain (OpenSpec.ofChange executorSameSpec)) executorSameCard

/-- THE TIED CARD OF 'bottomrylaw29.ExecutorFolds'. -/
def executorFoldsCard : Claim7 := { stood := { row := executorFoldsRow, standIns := [], harness := (true, "02fe5dcf8ef9b4acadadbee8d23922c47c37a0ddfd5442304faa6713489c0f83"), looks := true }, kinds := [], alts := [], laidByText := true, laidKinds := [.data, .data, .data, .data, .sentinel, .sentinel, .pinned], laidTests := true, laidLooks := .later }
def ExecutorFoldsCardSaid : Prop := Claim7.holds Tryz.pinned (.plain (OpenSpec.ofChange executorFoldsSpec)) executorFoldsCard

/-- THE TIED CARD OF 'bottomrylaw29.ExecutorPlays'. -/
def executorPlaysCard : Claim7 := { stood := { row := executorPlaysRow, standIns := [], harness := (true, "02fe5dcf8ef9b4acadadbee8d23922c47c37a0ddfd5442304faa6713489c0f83"), looks := true }, kinds := [], alts := [], laidByText := true, laidKinds := [.data, .data, .data, .data, .sentinel, .sentinel, .pinned], laidTests := true, laidLooks := .later }
def ExecutorPlaysCardSaid : Prop := Claim7.holds Tryz.pinned (.plain (OpenSpec.ofChange executorPlaysSpec)) executorPlaysCard

/-- THE SECOND FORM's CARD OF 'bottomrylaw29.ExecutorSame'. -/
def executorSameUptoCard : Claim7 := { stood := { row := executorSameUptoRow, standIns := [], harness := (true, "02fe5dcf8ef9b4acadadbee8d23922c47c37a0ddfd5442304faa6713489c0f83"), looks := true }, kinds := [], alts := [], laidByText := true, laidKinds := [.data, .data, .data, .data, .sentinel, .sentinel, .pinned], laidTests := true, laidLooks := .later }
def ExecutorSameUptoCardSaid : Prop := Claim7.holds Tryz.pinned (.plain (OpenSpec.upto executorSameSpec)) executorSameUptoCard

/-- THE SECOND FORM's CARD OF 'bottomrylaw29.ExecutorFolds'. -/
def executorFoldsUptoCard : Claim7 := { stood := { row := executorFoldsUptoRow, standIns := [], harness := (true, "02fe5dcf8ef9b4acadadbee8d23922c47c37a0ddfd5442304faa6713489c0f83"), looks := true }, kinds := [], alts := [], laidByText := true, laidKinds := [.data, .data, .data, .data, .sentinel, .sentinel, .pinned], laidTests := true, laidLooks := .later }
def ExecutorFoldsUptoCardSaid : Prop := Claim7.holds Tryz.pinned (.plain (OpenSpec.upto executorFoldsSpec)) executorFoldsUptoCard

/-- THE SECOND FORM's CARD OF 'bottomrylaw29.ExecutorPlays'. -/
def executorPlaysUptoCard : Claim7 := { stood := { row := executorPlaysUptoRow, standIns := [], harness := (true, "02fe5dcf8ef9b4acadadbee8d23922c47c37a0ddfd5442304faa6713489c0f83"), looks := true }, kinds := [], alts := [], laidByText := true, laidKinds := [.data, .data, .data, .data, .sentinel, .sentinel, .pinned], laidTests := true, laidLooks := .later }
def ExecutorPlaysUptoCardSaid : Prop := Claim7.holds Tryz.pinned (.plain (OpenSpec.upto executorPlaysSpec)) executorPlaysUptoCard
end Rows
end Go.Proofs.YtickdhjljpnlpaaGreatDoor
