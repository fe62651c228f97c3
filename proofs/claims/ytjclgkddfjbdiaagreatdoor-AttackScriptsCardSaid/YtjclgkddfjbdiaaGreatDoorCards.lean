/-
  DERIVED. GIVEN WITH THE SEED: THE CARDS: each row of YtjclgkddfjbdiaaGreatDoorRows.lean that lists a variable, with what it lists TIED to the program's text (the seventh form; the later family's looks); each row that meets fmt, with fmt's text TOLD by the authors' own Lean function (tested against real Go, not proved from fmt's source: count such statements apart). THE CARD IS WHAT COUNTS. Prove the row's statement (the work); the ties are given (YtjclgkddfjbdiaaGreatDoorTie.lean); close each card by the builder's one call (the guide's Derived/Test/ToyasCard.lean, 'card_holds'). Laid BY PROGRAM, IN A SANDBOX (cutbox-door.mjs). By AI agents, Wed Nov 11 2026. No macro, syntax, notation, axiom, sorry.
-/
import Derived.Test.YtjclgkddfjbdiaaGreatDoorRows
import GoSem.ClaimSeven
namespace Go.Proofs.YtjclgkddfjbdiaaGreatDoor
namespace Rows

/-- THE TIED CARD OF 'bottomrylaw45.AttackScripts'. -/
def attackScriptsCard : Claim7 := { stood := { row := attackScriptsRow, standIns := [], harness := (true, "e7c109d0fd492ae8eb5bb9594a5ad814c4a8d1b1557b1eca4539f8450ee96727"), looks := true }, kinds := [], alts := [], laidByText := true, laidKinds := [.pinned, .data, .sentinel, .sentinel, .data, .data, .data], laidTests := true, laidLooks := .later }
def AttackScriptsCardSaid : Prop := Claim7.holds Tryz.pinned (.plain (OpenSpec.ofChange attackScriptsSpec)) attackScriptsCard

/-- THE TIED CARD OF 'bottomrylaw45.AttackNames'. -/
def attackNamesCard : Claim7 := { stood := { row := attackNamesRow, standIns := [], harness := (true, "e7c109d0fd492ae8eb5bb9594a5ad814c4a8d1b1557b1eca4539f8450ee96727"), looks := true }, kinds := [], alts := [], laidByText := true, laidKinds := [.pinned, .data, .sentinel, .sentinel, .data, .data, .data], laidTests := true, laidLooks := .later }
def AttackNamesCardSaid : Prop := Claim7.holds Tryz.pinned (.plain (OpenSpec.ofChange attackNamesSpec)) attackNamesCard

/-- THE SECOND FORM's CARD OF 'bottomrylaw45.AttackScripts'. -/
def attackScriptsUptoCard : Claim7 := { stood := { row := attackScriptsUptoRow, standIns := [], harness := (true, "e7c109d0fd492ae8eb5bb9594a5ad814c4a8d1b1557b1eca4539f8450ee96727"), looks := true }, kinds := [], alts := [], laidByText := true, laidKinds := [.pinned, .data, .sentinel, .sentinel, .data, .data, .data], laidTests := true, laidLooks := .later }
def AttackScriptsUptoCardSaid : Prop := Claim7.holds Tryz.pinned (.plain (OpenSpec.upto attackScriptsSpec)) attackScriptsUptoCard

/-- THE SECOND FORM's CARD OF 'bottomrylaw45.AttackNames'. -/
def attackNamesUptoCard : Claim7 := { stood := { row := attackNamesUptoRow, standIns := [], harness := (true, "e7c109d0fd492ae8eb5bb9594a5ad814c4a8d1b1557b1eca4539f8450ee96727"), looks := true }, kinds := [], alts := [], laidByText := true, laidKinds := [.pinned, .data, .sentinel, .sentinel, .data, .data, .data], laidTests := true, laidLooks := .later }
def AttackNamesUptoCardSaid : Prop := Claim7.holds Tryz.pinned (.plain (OpenSpec.upto attackNamesSpec)) attackNamesUptoCard
end Rows
end Go.Proofs.YtjclgkddfjbdiaaGreatDoor
