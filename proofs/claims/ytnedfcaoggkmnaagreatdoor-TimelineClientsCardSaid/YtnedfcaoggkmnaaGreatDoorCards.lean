/-
  DERIVED. GIVEN WITH THE SEED: THE CARDS: each row of YtnedfcaoggkmnaaGreatDoorRows.lean that lists a variable, with what it lists TIED to the program's text (the seventh form; the later family's looks); each row that meets fmt, with fmt's text TOLD by the authors' own Lean function (tested against real Go, not proved from fmt's source: count such statements apart). THE CARD IS WHAT COUNTS. Prove the row's statement (the work); the ties are given (YtnedfcaoggkmnaaGreatDoorTie.lean); close each card by the builder's one call (the guide's Derived/Test/ToyasCard.lean, 'card_holds'). Laid BY PROGRAM, IN A SANDBOX (cutbox-door.mjs). By AI agents, Wed Nov 11 2026. No macro, syntax, notation, axiom, sorry.
-/
import Derived.Test.YtnedfcaoggkmnaaGreatDoorRows
import GoSem.ClaimSeven
namespace Go.Proofs.YtnedfcaoggkmnaaGreatDoor
namespace Rows

/-- THE TIED CARD OF 'bottomrylaw42.TimelineEvents'. -/
def timelineEventsCard : Claim7 := { stood := { row := timelineEventsRow, standIns := [], harness := (true, "420a2c9a358c7dadde3dd693e956464851ed8955d137dcaf26b1022ac8ae0c25"), looks := true }, kinds := [], alts := [], laidByText := true, laidKinds := [.data, .data, .data, .data, .sentinel, .sentinel, .pinned], laidTests := true, laidLooks := .later }
def TimelineEventsCardSaid : Prop := Claim7.holds Tryz.pinned (.plain (OpenSpec.ofChange timelineEventsSpec)) timelineEventsCard

/-- THE TIED CARD OF 'bottomrylaw42.TimelineWhen'. -/
def timelineWhenCard : Claim7 := { stood := { row := timelineWhenRow, standIns := [], harness := (true, "420a2c9a358c7dadde3dd693e956464851ed8955d137dcaf26b1022ac8ae0c25"), looks := true }, kinds := [], alts := [], laidByText := true, laidKinds := [.data, .data, .data, .data, .sentinel, .sentinel, .pinned], laidTests := true, laidLooks := .later }
def TimelineWhenCardSaid : Prop := Claim7.holds Tryz.pinned (.plain (OpenSpec.ofChange timelineWhenSpec)) timelineWhenCard

/-- THE TIED CARD OF 'bottomrylaw42.TimelineSteps'. -/
def timelineStepsCard : Claim7 := { stood := { row := timelineStepsRow, standIns := [], harness := (true, "420a2c9a358c7dadde3dd693e956464851ed8955d137dcaf26b1022ac8ae0c25"), looks := true }, kinds := [], alts := [], laidByText := true, laidKinds := [.data, .data, .data, .data, .sentinel, .sentinel, .pinned], laidTests := true, laidLooks := .later }
def TimelineStepsCardSaid : Prop := Claim7.holds Tryz.pinned (.plain (OpenSpec.ofChange timelineStepsSpec)) timelineStepsCard

/-- THE TIED CARD OF 'bottomrylaw42.TimelineClients'. -/
def timelineClientsCard : Claim7 := { stood := { row := timelineClientsRow, standIns := [], harness := (true, "420a2c9a358c7dadde3dd693e956464851ed8955d137dcaf26b1022ac8ae0c25"), looks := true }, kinds := [], alts := [], laidByText := true, laidKinds := [.data, .data, .data, .data, .sentinel, .sentinel, .pinned], laidTests := true, laidLooks := .later }
def TimelineClientsCardSaid : Prop := Claim7.holds Tryz.pinned (.plain (OpenSpec.ofChange timelineClientsSpec)) timelineClientsCard

/-- THE SECOND FORM's CARD OF 'bottomrylaw42.TimelineEvents'. -/
def timelineEventsUptoCard : Claim7 := { stood := { row := timelineEventsUptoRow, standIns := [], harness := (true, "420a2c9a358c7dadde3dd693e956464851ed8955d137dcaf26b1022ac8ae0c25"), looks := true }, kinds := [], alts := [], laidByText := true, laidKinds := [.data, .data, .data, .data, .sentinel, .sentinel, .pinned], laidTests := true, laidLooks := .later }
def TimelineEventsUptoCardSaid : Prop := Claim7.holds Tryz.pinned (.plain (OpenSpec.upto timelineEventsSpec)) timelineEventsUptoCard

/-- THE SECOND FORM's CARD OF 'bottomrylaw42.TimelineWhen'. -/
def timelineWhenUptoCard : Claim7 := { stood := { row := timelineWhenUptoRow, standIns := [], harness := (true, "420a2c9a358c7dadde3dd693e956464851ed8955d137dcaf26b1022ac8ae0c25"), looks := true }, kinds := [], alts := [], laidByText := true, laidKinds := [.data, .data, .data, .data, .sentinel, .sentinel, .pinned], laidTests := true, laidLooks := .later }
def TimelineWhenUptoCardSaid : Prop := Claim7.holds Tryz.pinned (.plain (OpenSpec.upto timelineWhenSpec)) timelineWhenUptoCard

/-- THE SECOND FORM's CARD OF 'bottomrylaw42.TimelineSteps'. -/
def timelineStepsUptoCard : Claim7 := { stood := { row := timelineStepsUptoRow, standIns := [], harness := (true, "420a2c9a358c7dadde3dd693e956464851ed8955d137dcaf26b1022ac8ae0c25"), looks := true }, kinds := [], alts := [], laidByText := true, laidKinds := [.data, .data, .data, .data, .sentinel, .sentinel, .pinned], laidTests := true, laidLooks := .later }
def TimelineStepsUptoCardSaid : Prop := Claim7.holds Tryz.pinned (.plain (OpenSpec.upto timelineStepsSpec)) timelineStepsUptoCard

/-- THE SECOND FORM's CARD OF 'bottomrylaw42.TimelineClients'. -/
def timelineClientsUptoCard : Claim7 := { stood := { row := timelineClientsUptoRow, standIns := [], harness := (true, "420a2c9a358c7dadde3dd693e956464851ed8955d137dcaf26b1022ac8ae0c25"), looks := true }, kinds := [], alts := [], laidByText := true, laidKinds := [.data, .data, .data, .data, .sentinel, .sentinel, .pinned], laidTests := true, laidLooks := .later }
def TimelineClientsUptoCardSaid : Prop := Claim7.holds Tryz.pinned (.plain (OpenSpec.upto timelineClientsSpec)) timelineClientsUptoCard
end Rows
end Go.Proofs.YtnedfcaoggkmnaaGreatDoor
