/-
  DERIVED. GIVEN WITH THE SEED: THE CARDS: each row of YtejcohlpjikjpaaGreatDoorRows.lean that lists a variable, with what it lists TIED to the program's text (the seventh form; the later family's looks); each row that meets fmt, with fmt's text TOLD by the authors' own Lean function (tested against real Go, not proved from fmt's source: count such statements apart). THE CARD IS WHAT COUNTS. Prove the row's statement (the work); the ties are given (YtejcohlpjikjpaaGreatDoorTie.lean); close each card by the builder's one call (the guide's Derived/Test/ToyasCard.lean, 'card_holds'). Laid BY PROGRAM, IN A SANDBOX (cutbox-door.mjs). By AI agents, Wed Nov 11 2026. No macro, syntax, notation, axiom, sorry.
-/
import Derived.Test.YtejcohlpjikjpaaGreatDoorRows
import GoSem.ClaimSeven
namespace Go.Proofs.YtejcohlpjikjpaaGreatDoor
namespace Rows

/-- THE TIED CARD OF 'bottomrylaw34.AgreeTells'. -/
def agreeTellsCard : Claim7 := { stood := { row := agreeTellsRow, standIns := [], harness := (true, "b15a2a131397c596e0ec6e82751de2a6de584a023a657f5070e775dac015ad99"), looks := true }, kinds := [], alts := [], laidByText := true, laidKinds := [.data, .data, .data, .data, .sentinel, .sentinel, .pinned], laidTests := true, laidLooks := .later }
def AgreeTellsCardSaid : Prop := Claim7.holds Tryz.pinned (.plain (OpenSpec.ofChange agreeTellsSpec)) agreeTellsCard

/-- THE TIED CARD OF 'bottomrylaw34.AgreeHistory'. -/
def agreeHistoryCard : Claim7 := { stood := { row := agreeHistoryRow, standIns := [], harness := (true, "b15a2a131397c596e0ec6e82751de2a6de584a023a657f5070e775dac015ad99"), looks := true }, kinds := [], alts := [], laidByText := true, laidKinds := [.data, .data, .data, .data, .sentinel, .sentinel, .pinned], laidTests := true, laidLooks := .later }
def AgreeHistoryCardSaid : Prop := Claim7.holds Tryz.pinned (.plain (OpenSpec.ofChange agreeHistorySpec)) agreeHistoryCard

/-- THE TIED CARD OF 'bottomrylaw34.AgreeBoth'. -/
def agreeBothCard : Claim7 := { stood := { row := agreeBothRow, standIns := [], harness := (true, "b15a2a131397c596e0ec6e82751de2a6de584a023a657f5070e775dac015ad99"), looks := true }, kinds := [], alts := [], laidByText := true, laidKinds := [.data, .data, .data, .data, .sentinel, .sentinel, .pinned], laidTests := true, laidLooks := .later }
def AgreeBothCardSaid : Prop := Claim7.holds Tryz.pinned (.plain (OpenSpec.ofChange agreeBothSpec)) agreeBothCard

/-- THE TIED CARD OF 'bottomrylaw34.AgreePrefix'. -/
def agreePrefixCard : Claim7 := { stood := { row := agreePrefixRow, standIns := [], harness := (true, "b15a2a131397c596e0ec6e82751de2a6de584a023a657f5070e775dac015ad99"), looks := true }, kinds := [], alts := [], laidByText := true, laidKinds := [.data, .data, .data, .data, .sentinel, .sentinel, .pinned], laidTests := true, laidLooks := .later }
def AgreePrefixCardSaid : Prop := Claim7.holds Tryz.pinned (.plain (OpenSpec.ofChange agreePrefixSpec)) agreePrefixCard

/-- THE SECOND FORM's CARD OF 'bottomrylaw34.AgreeTells'. -/
def agreeTellsUptoCard : Claim7 := { stood := { row := agreeTellsUptoRow, standIns := [], harness := (true, "b15a2a131397c596e0ec6e82751de2a6de584a023a657f5070e775dac015ad99"), looks := true }, kinds := [], alts := [], laidByText := true, laidKinds := [.data, .data, .data, .data, .sentinel, .sentinel, .pinned], laidTests := true, laidLooks := .later }
def AgreeTellsUptoCardSaid : Prop := Claim7.holds Tryz.pinned (.plain (OpenSpec.upto agreeTellsSpec)) agreeTellsUptoCard

/-- THE SECOND FORM's CARD OF 'bottomrylaw34.AgreeHistory'. -/
def agreeHistoryUptoCard : Claim7 := { stood := { row := agreeHistoryUptoRow, standIns := [], harness := (true, "b15a2a131397c596e0ec6e82751de2a6de584a023a657f5070e775dac015ad99"), looks := true }, kinds := [], alts := [], laidByText := true, laidKinds := [.data, .data, .data, .data, .sentinel, .sentinel, .pinned], laidTests := true, laidLooks := .later }
def AgreeHistoryUptoCardSaid : Prop := Claim7.holds Tryz.pinned (.plain (OpenSpec.upto agreeHistorySpec)) agreeHistoryUptoCard

/-- THE SECOND FORM's CARD OF 'bottomrylaw34.AgreeBoth'. -/
def agreeBothUptoCard : Claim7 := { stood := { row := agreeBothUptoRow, standIns := [], harness := (true, "b15a2a131397c596e0ec6e82751de2a6de584a023a657f5070e775dac015ad99"), looks := true }, kinds := [], alts := [], laidByText := true, laidKinds := [.data, .data, .data, .data, .sentinel, .sentinel, .pinned], laidTests := true, laidLooks := .later }
def AgreeBothUptoCardSaid : Prop := Claim7.holds Tryz.pinned (.plain (OpenSpec.upto agreeBothSpec)) agreeBothUptoCard

/-- THE SECOND FORM's CARD OF 'bottomrylaw34.AgreePrefix'. -/
def agreePrefixUptoCard : Claim7 := { stood := { row := agreePrefixUptoRow, standIns := [], harness := (true, "b15a2a131397c596e0ec6e82751de2a6de584a023a657f5070e775dac015ad99"), looks := true }, kinds := [], alts := [], laidByText := true, laidKinds := [.data, .data, .data, .data, .sentinel, .sentinel, .pinned], laidTests := true, laidLooks := .later }
def AgreePrefixUptoCardSaid : Prop := Claim7.holds Tryz.pinned (.plain (OpenSpec.upto agreePrefixSpec)) agreePrefixUptoCard
end Rows
end Go.Proofs.YtejcohlpjikjpaaGreatDoor
