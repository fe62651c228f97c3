/-
  DERIVED. GIVEN WITH THE SEED: THE CARDS: each row of YthaahcdfnmfihaaDoorRows.lean that lists a variable, with what it lists TIED to the program's text (the seventh form; the later family's looks); each row that meets fmt, with fmt's text TOLD by the authors' own Lean function (tested against real Go, not proved from fmt's source: count such statements apart). THE CARD IS WHAT COUNTS. Prove the row's statement (the work); the ties are given (YthaahcdfnmfihaaDoorTie.lean); close each card by the builder's one call (the guide's Derived/Test/ToyasCard.lean, 'card_holds'). Laid BY PROGRAM, IN A SANDBOX (cutbox-door.mjs). By AI agents, Wed Nov 11 2026. No macro, syntax, notation, axiom, sorry.
-/
import Derived.Test.YthaahcdfnmfihaaDoorRows
import GoSem.ClaimSeven
namespace Go.Proofs.YthaahcdfnmfihaaDoor
namespace Rows

/-- THE TIED CARD OF 'bottomrylaw09.TermsReads'. -/
def termsReadsCard : Claim7 := { stood := { row := termsReadsRow, standIns := [], harness := (true, "1edb14c0301e7d54c7c7d5676a0b0e49d1ba71535139e5c7e1e74c7024103530"), looks := true }, kinds := [], alts := [], laidByText := true, laidKinds := [.data, .data, .data, .data, .sentinel, .sentinel, .pinned], laidTests := true, laidLooks := .later }
def TermsReadsCardSaid : Prop := Claim7.holds Tryd.pinned (.plain (OpenSpec.ofChange termsReadsSpec)) termsReadsCard

/-- THE TIED CARD OF 'bottomrylaw09.TermsPrints'. -/
def termsPrintsCard : Claim7 := { stood := { row := termsPrintsRow, standIns := [], harness := (true, "1edb14c0301e7d54c7c7d5676a0b0e49d1ba71535139e5c7e1e74c7024103530"), looks := true }, kinds := [], alts := [], laidByText := true, laidKinds := [.data, .data, .data, .data, .sentinel, .sentinel, .pinned], laidTests := true, laidLooks := .later }
def TermsPrintsCardSaid : Prop := Claim7.holds Tryd.pinned (.plain (OpenSpec.ofChange termsPrintsSpec)) termsPrintsCard

/-- THE TIED CARD OF 'bottomrylaw09.TermsBlanks'. -/
def termsBlanksCard : Claim7 := { stood := { row := termsBlanksRow, standIns := [], harness := (true, "1edb14c0301e7d54c7c7d5676a0b0e49d1ba71535139e5c7e1e74c7024103530"), looks := true }, kinds := [], alts := [], laidByText := true, laidKinds := [.data, .data, .data, .data, .sentinel, .sentinel, .pinned], laidTests := true, laidLooks := .later }
def TermsBlanksCardSaid : Prop := Claim7.holds Tryd.pinned (.plain (OpenSpec.ofChange termsBlanksSpec)) termsBlanksCard

/-- THE SECOND FORM's CARD OF 'bottomrylaw09.TermsReads'. -/
def termsReadsUptoCard : Claim7 := { stood := { row := termsReadsUptoRow, standIns := [], harness := (true, "1edb14c0301e7d54c7c7d5676a0b0e49d1ba71535139e5c7e1e74c7024103530"), looks := true }, kinds := [], alts := [], laidByText := true, laidKinds := [.data, .data, .data, .data, .sentinel, .sentinel, .pinned], laidTests := true, laidLooks := .later }
def TermsReadsUptoCardSaid : Prop := Claim7.holds Tryd.pinned (.plain (OpenSpec.upto termsReadsSpec)) termsReadsUptoCard

/-- THE SECOND FORM's CARD OF 'bottomrylaw09.TermsPrints'. -/
def termsPrintsUptoCard : Claim7 := { stood := { row := termsPrintsUptoRow, standIns := [], harness := (true, "1edb14c0301e7d54c7c7d5676a0b0e49d1ba71535139e5c7e1e74c7024103530"), looks := true }, kinds := [], alts := [], laidByText := true, laidKinds := [.data, .data, .data, .data, .sentinel, .sentinel, .pinned], laidTests := true, laidLooks := .later }
def TermsPrintsUptoCardSaid : Prop := Claim7.holds Tryd.pinned (.plain (OpenSpec.upto termsPrintsSpec)) termsPrintsUptoCard

/-- THE SECOND FORM's CARD OF 'bottomrylaw09.TermsBlanks'. -/
def termsBlanksUptoCard : Claim7 := { stood := { row := termsBlanksUptoRow, standIns := [], harness := (true, "1edb14c0301e7d54c7c7d5676a0b0e49d1ba71535139e5c7e1e74c7024103530"), looks := true }, kinds := [], alts := [], laidByText := true, laidKinds := [.data, .data, .data, .data, .sentinel, .sentinel, .pinned], laidTests := true, laidLooks := .later }
def TermsBlanksUptoCardSaid : Prop := Claim7.holds Tryd.pinned (.plain (OpenSpec.upto termsBlanksSpec)) termsBlanksUptoCard
end Rows
end Go.Proofs.YthaahcdfnmfihaaDoor
