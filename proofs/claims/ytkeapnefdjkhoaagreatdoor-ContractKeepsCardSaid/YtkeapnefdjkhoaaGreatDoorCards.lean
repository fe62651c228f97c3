/-
  DERIVED. GIVEN WITH THE SEED: THE CARDS: each row of YtkeapnefdjkhoaaGreatDoorRows.lean that lists a variable, with what it lists TIED to the program's text (the seventh form; the later family's looks); each row that meets fmt, with fmt's text TOLD by the authors' own Lean function (tested against real Go, not proved from fmt's source: count such statements apart). THE CARD IS WHAT COUNTS. Prove the row's statement (the work); the ties are given (YtkeapnefdjkhoaaGreatDoorTie.lean); close each card by the builder's one call (the guide's Derived/Test/ToyasCard.lean, 'card_holds'). Laid BY PROGRAM, IN A SANDBOX (cutbox-door.mjs). By AI agents, Wed Nov 11 2026. No macro, syntax, notation, axiom, sorry.
-/
import Derived.Test.YtkeapnefdjkhoaaGreatDoorRows
import GoSem.ClaimSeven
namespace Go.Proofs.YtkeapnefdjkhoaaGreatDoor
namespace Rows

/-- THE TIED CARD OF 'bottomrylaw14.ContractMet'. -/
def contractMetCard : Claim7 := { stood := { row := contractMetRow, standIns := [], harness := (true, "84e412f95502e76129e3454876f5a8b0a99f2341d72a596ff8e6d419edb3af8f"), looks := true }, kinds := [], alts := [], laidByText := true, laidKinds := [.data, .data, .data, .data, .sentinel, .sentinel, .pinned], laidTests := true, laidLooks := .later }
def ContractMetCardSaid : Prop := Claim7.holds Tryz.pinned (.plain (OpenSpec.ofChange contractMetSpec)) contractMetCard

/-- THE TIED CARD OF 'bottomrylaw14.ContractApart'. -/
def contractApartCard : Claim7 := { stood := { row := contractApartRow, standIns := [], harness := (true, "84e412f95502e76129e3454876f5a8b0a99f2341d72a596ff8e6d419edb3af8f"), looks := true }, kinds := [], alts := [], laidByText := true, laidKinds := [.data, .data, .data, .data, .sentinel, .sentinel, .pinned], laidTests := true, laidLooks := .later }
def ContractApartCardSaid : Prop := Claim7.holds Tryz.pinned (.plain (OpenSpec.ofChange contractApartSpec)) contractApartCard

/-- THE TIED CARD OF 'bottomrylaw14.ContractKeeps'. -/
def contractKeepsCard : Claim7 := { stood := { row := contractKeepsRow, standIns := [], harness := (true, "84e412f95502e76129e3454876f5a8b0a99f2341d72a596ff8e6d419edb3af8f"), looks := true }, kinds := [], alts := [], laidByText := true, laidKinds := [.data, .data, .data, .data, .sentinel, .sentinel, .pinned], laidTests := true, laidLooks := .later }
def ContractKeepsCardSaid : Prop := Claim7.holds Tryz.pinned (.plain (OpenSpec.ofChange contractKeepsSpec)) contractKeepsCard

/-- THE SECOND FORM's CARD OF 'bottomrylaw14.ContractMet'. -/
def contractMetUptoCard : Claim7 := { stood := { row := contractMetUptoRow, standIns := [], harness := (true, "84e412f95502e76129e3454876f5a8b0a99f2341d72a596ff8e6d419edb3af8f"), looks := true }, kinds := [], alts := [], laidByText := true, laidKinds := [.data, .data, .data, .data, .sentinel, .sentinel, .pinned], laidTests := true, laidLooks := .later }
def ContractMetUptoCardSaid : Prop := Claim7.holds Tryz.pinned (.plain (OpenSpec.upto contractMetSpec)) contractMetUptoCard

/-- THE SECOND FORM's CARD OF 'bottomrylaw14.ContractApart'. -/
def contractApartUptoCard : Claim7 := { stood := { row := contractApartUptoRow, standIns := [], harness := (true, "84e412f95502e76129e3454876f5a8b0a99f2341d72a596ff8e6d419edb3af8f"), looks := true }, kinds := [], alts := [], laidByText := true, laidKinds := [.data, .data, .data, .data, .sentinel, .sentinel, .pinned], laidTests := true, laidLooks := .later }
def ContractApartUptoCardSaid : Prop := Claim7.holds Tryz.pinned (.plain (OpenSpec.upto contractApartSpec)) contractApartUptoCard

/-- THE SECOND FORM's CARD OF 'bottomrylaw14.ContractKeeps'. -/
def contractKeepsUptoCard : Claim7 := { stood := { row := contractKeepsUptoRow, standIns := [], harness := (true, "84e412f95502e76129e3454876f5a8b0a99f2341d72a596ff8e6d419edb3af8f"), looks := true }, kinds := [], alts := [], laidByText := true, laidKinds := [.data, .data, .data, .data, .sentinel, .sentinel, .pinned], laidTests := true, laidLooks := .later }
def ContractKeepsUptoCardSaid : Prop := Claim7.holds Tryz.pinned (.plain (OpenSpec.upto contractKeepsSpec)) contractKeepsUptoCard
end Rows
end Go.Proofs.YtkeapnefdjkhoaaGreatDoor
