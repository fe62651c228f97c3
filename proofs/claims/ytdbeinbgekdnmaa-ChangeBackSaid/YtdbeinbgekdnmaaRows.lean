/-
  No cell of these rows narrows 'for every input' (looked for: loops, veiled, ifaces, maps, wideKeys, modest, calm, conditions, laid).
  DERIVED. THE GIVEN ROWS OF THIS SEAT. 12 by the template 'for every input the law returns true; each argument reads behind the call as it read before'; 0 by the template 'total and deterministic' (their statements: YtdbeinbgekdnmaaTotals.lean).
  GIVEN WITH THE SEED: the statements are not yours to turn. If you find one false, say at which input.
  Laid BY PROGRAM, IN A SANDBOX (cutbox-rows.mjs): the forced cells as the released guide's own fill.sh prints them over the translation dc39dd5b4ac25e22… (all of the seat's roots in one cut). By AI agents, Wed Nov 11 2026. No macro, syntax, notation, axiom, sorry.
-/
import Derived.Test.YtdbeinbgekdnmaaChecked
import GoSem.Claim
import GoSem.ClaimJoined
import GoSem.ClaimMapViews
import Derived.JoinedTies
import Derived.KernelRfl
namespace Go.Proofs.Ytdbeinbgekdnmaa
/- THE CELL 'sum', in the pinned program and in every row, IS THE sha256 OF THE DUMP (.gsa) THAT YtdbeinbgekdnmaaProg.lean LOADS. Nothing in Lean hashes anything: it is a label: what it is worth is what the hold of that sum in a sandbox is worth. -/
noncomputable def Try.pinned : Pinned := { name := "ytdbeinbgekdnmaa", sum := "dc39dd5b4ac25e22125800784cee47baa6fe8e2018132dfed580bc4e11ae8b07", checked := Try.checked }
namespace Rows
def none {H : Type} : Left H := { results := [], args := [] }

/-- 'bottomrylaw28.PatienceWaits': WHATEVER THE INPUT: true; the input reads as it did. -/
def patienceWaitsSpec : ChangeSpec := { name := "patienceWaits", fn := fun _ => fun
  | [d] => { results := [.lit (.bool true)], args := [d] }
  | _ => none }
def patienceWaitsRow : OpenClaim := { program := "ytdbeinbgekdnmaa", sum := "dc39dd5b4ac25e22125800784cee47baa6fe8e2018132dfed580bc4e11ae8b07", func := "bottomry/bottomrylaw28.PatienceWaits", spec := "patienceWaits", plainKeys := false, apart := false }
def PatienceWaitsSaid : Prop := patienceWaitsRow.holds Try.pinned (OpenSpec.ofChange patienceWaitsSpec)

/-- ITS FALSE NEIGHBOUR: 'it returns false'. Refute it at one input. -/
def patienceWaitsWrong : ChangeSpec := { name := "patienceWaits", fn := fun _ => fun
  | [d] => { results := [.lit (.bool false)], args := [d] }
  | _ => none }
def PatienceWaitsWrongFalsely : Prop := patienceWaitsRow.holds Try.pinned (OpenSpec.ofChange patienceWaitsWrong)

/-- 'bottomrylaw07.MoneyTells': WHATEVER THE INPUT: true; the input reads as it did. -/
def moneyTellsSpec : ChangeSpec := { name := "moneyTells", fn := fun _ => fun
  | [d1, d2] => { results := [.lit (.bool true)], args := [d1, d2] }
  | _ => none }
def moneyTellsRow : OpenClaim := { program := "ytdbeinbgekdnmaa", sum := "dc39dd5b4ac25e22125800784cee47baa6fe8e2018132dfed580bc4e11ae8b07", func := "bottomry/bottomrylaw07.MoneyTells", spec := "moneyTells", plainKeys := false, apart := false }
def MoneyTellsSaid : Prop := moneyTellsRow.holds Try.pinned (OpenSpec.ofChange moneyTellsSpec)

/-- ITS FALSE NEIGHBOUR: 'it returns false'. Refute it at one input. -/
def moneyTellsWrong : ChangeSpec := { name := "moneyTells", fn := fun _ => fun
  | [d1, d2] => { results := [.lit (.bool false)], args := [d1, d2] }
  | _ => none }
def MoneyTellsWrongFalsely : Prop := moneyTellsRow.holds Try.pinned (OpenSpec.ofChange moneyTellsWrong)

/-- 'bottomrylaw07.MoneySums': WHATEVER THE INPUT: true; the input reads as it did. -/
def moneySumsSpec : ChangeSpec := { name := "moneySums", fn := fun _ => fun
  | [d] => { results := [.lit (.bool true)], args := [d] }
  | _ => none }
def moneySumsRow : OpenClaim := { program := "ytdbeinbgekdnmaa", sum := "dc39dd5b4ac25e22125800784cee47baa6fe8e2018132dfed580bc4e11ae8b07", func := "bottomry/bottomrylaw07.MoneySums", spec := "moneySums", plainKeys := false, apart := false }
def MoneySumsSaid : Prop := moneySumsRow.holds Try.pinned (OpenSpec.ofChange moneySumsSpec)

/-- ITS FALSE NEIGHBOUR: 'it returns false'. Refute it at one input. -/
def moneySumsWrong : ChangeSpec := { name := "moneySums", fn := fun _ => fun
  | [d] => { results := [.lit (.bool false)], args := [d] }
  | _ => none }
def MoneySumsWrongFalsely : Prop := moneySumsRow.holds Try.pinned (OpenSpec.ofChange moneySumsWrong)

/-- 'bottomrylaw28.PatiencePlays': WHATEVER THE INPUT: true; the input reads as it did. -/
def patiencePlaysSpec : ChangeSpec := { name := "patiencePlays", fn := fun _ => fun
  | [d] => { results := [.lit (.bool true)], args := [d] }
  | _ => none }
def patiencePlaysRow : OpenClaim := { program := "ytdbeinbgekdnmaa", sum := "dc39dd5b4ac25e22125800784cee47baa6fe8e2018132dfed580bc4e11ae8b07", func := "bottomry/bottomrylaw28.PatiencePlays", spec := "patiencePlays", plainKeys := false, apart := false }
def PatiencePlaysSaid : Prop := patiencePlaysRow.holds Try.pinned (OpenSpec.ofChange patiencePlaysSpec)

/-- ITS FALSE NEIGHBOUR: 'it returns false'. Refute it at one input. -/
def patiencePlaysWrong : ChangeSpec := { name := "patiencePlays", fn := fun _ => fun
  | [d] => { results := [.lit (.bool false)], args := [d] }
  | _ => none }
def PatiencePlaysWrongFalsely : Prop := patiencePlaysRow.holds Try.pinned (OpenSpec.ofChange patiencePlaysWrong)

/-- 'bottomrylaw05.BookApart': WHATEVER THE INPUT: true; the input reads as it did. -/
def bookApartSpec : ChangeSpec := { name := "bookApart", fn := fun _ => fun
  | [d1, d2, d3, d4, d5, d6, d7, d8] => { results := [.lit (.bool true)], args := [d1, d2, d3, d4, d5, d6, d7, d8] }
  | _ => none }
def bookApartRow : OpenClaim := { program := "ytdbeinbgekdnmaa", sum := "dc39dd5b4ac25e22125800784cee47baa6fe8e2018132dfed580bc4e11ae8b07", func := "bottomry/bottomrylaw05.BookApart", spec := "bookApart", plainKeys := false, apart := false }
def BookApartSaid : Prop := bookApartRow.holds Try.pinned (OpenSpec.ofChange bookApartSpec)

/-- ITS FALSE NEIGHBOUR: 'it returns false'. Refute it at one input. -/
def bookApartWrong : ChangeSpec := { name := "bookApart", fn := fun _ => fun
  | [d1, d2, d3, d4, d5, d6, d7, d8] => { results := [.lit (.bool false)], args := [d1, d2, d3, d4, d5, d6, d7, d8] }
  | _ => none }
def BookApartWrongFalsely : Prop := bookApartRow.holds Try.pinned (OpenSpec.ofChange bookApartWrong)

/-- 'bottomrylaw10.LetterSteps': WHATEVER THE INPUT: true; the input reads as it did. -/
def letterStepsSpec : ChangeSpec := { name := "letterSteps", fn := fun _ => fun
  | [d1, d2, d3, d4, d5] => { results := [.lit (.bool true)], args := [d1, d2, d3, d4, d5] }
  | _ => none }
def letterStepsRow : OpenClaim := { program := "ytdbeinbgekdnmaa", sum := "dc39dd5b4ac25e22125800784cee47baa6fe8e2018132dfed580bc4e11ae8b07", func := "bottomry/bottomrylaw10.LetterSteps", spec := "letterSteps", plainKeys := false, apart := false }
def LetterStepsSaid : Prop := letterStepsRow.holds Try.pinned (OpenSpec.ofChange letterStepsSpec)

/-- ITS FALSE NEIGHBOUR: 'it returns false'. Refute it at one input. -/
def letterStepsWrong : ChangeSpec := { name := "letterSteps", fn := fun _ => fun
  | [d1, d2, d3, d4, d5] => { results := [.lit (.bool false)], args := [d1, d2, d3, d4, d5] }
  | _ => none }
def LetterStepsWrongFalsely : Prop := letterStepsRow.holds Try.pinned (OpenSpec.ofChange letterStepsWrong)

/-- 'bottomrylaw10.LetterLives': WHATEVER THE INPUT: true; the input reads as it did. -/
def letterLivesSpec : ChangeSpec := { name := "letterLives", fn := fun _ => fun
  | [d] => { results := [.lit (.bool true)], args := [d] }
  | _ => none }
def letterLivesRow : OpenClaim := { program := "ytdbeinbgekdnmaa", sum := "dc39dd5b4ac25e22125800784cee47baa6fe8e2018132dfed580bc4e11ae8b07", func := "bottomry/bottomrylaw10.LetterLives", spec := "letterLives", plainKeys := false, apart := false }
def LetterLivesSaid : Prop := letterLivesRow.holds Try.pinned (OpenSpec.ofChange letterLivesSpec)

/-- ITS FALSE NEIGHBOUR: 'it returns false'. Refute it at one input. -/
def letterLivesWrong : ChangeSpec := { name := "letterLives", fn := fun _ => fun
  | [d] => { results := [.lit (.bool false)], args := [d] }
  | _ => none }
def LetterLivesWrongFalsely : Prop := letterLivesRow.holds Try.pinned (OpenSpec.ofChange letterLivesWrong)

/-- 'bottomrylaw44.WatchLooks': WHATEVER THE INPUT: true; the input reads as it did. -/
def watchLooksSpec : ChangeSpec := { name := "watchLooks", fn := fun _ => fun
  | [d] => { results := [.lit (.bool true)], args := [d] }
  | _ => none }
def watchLooksRow : OpenClaim := { program := "ytdbeinbgekdnmaa", sum := "dc39dd5b4ac25e22125800784cee47baa6fe8e2018132dfed580bc4e11ae8b07", func := "bottomry/bottomrylaw44.WatchLooks", spec := "watchLooks", unfollowed := true, recurses := true, plainKeys := false, apart := false }
def WatchLooksSaid : Prop := watchLooksRow.holds Try.pinned (OpenSpec.ofChange watchLooksSpec)

/-- ITS FALSE NEIGHBOUR: 'it returns false'. Refute it at one input. -/
def watchLooksWrong : ChangeSpec := { name := "watchLooks", fn := fun _ => fun
  | [d] => { results := [.lit (.bool false)], args := [d] }
  | _ => none }
def WatchLooksWrongFalsely : Prop := watchLooksRow.holds Try.pinned (OpenSpec.ofChange watchLooksWrong)

/-- 'bottomrylaw18.ChangeBack': WHATEVER THE INPUT: true; the input reads as it did. -/
def changeBackSpec : ChangeSpec := { name := "changeBack", fn := fun _ => fun
  | [d1, d2] => { results := [.lit (.bool true)], args := [d1, d2] }
  | _ => none }
def changeBackRow : OpenClaim := { program := "ytdbeinbgekdnmaa", sum := "dc39dd5b4ac25e22125800784cee47baa6fe8e2018132dfed580bc4e11ae8b07", func := "bottomry/bottomrylaw18.ChangeBack", spec := "changeBack", unfollowed := true, recurses := true, plainKeys := false, apart := false }
def ChangeBackSaid : Prop := changeBackRow.holds Try.pinned (OpenSpec.ofChange changeBackSpec)

/-- ITS FALSE NEIGHBOUR: 'it returns false'. Refute it at one input. -/
def changeBackWrong : ChangeSpec := { name := "changeBack", fn := fun _ => fun
  | [d1, d2] => { results := [.lit (.bool false)], args := [d1, d2] }
  | _ => none }
def ChangeBackWrongFalsely : Prop := changeBackRow.holds Try.pinned (OpenSpec.ofChange changeBackWrong)

/-- 'bottomrylaw18.ChangeReads': WHATEVER THE INPUT: true; the input reads as it did. -/
def changeReadsSpec : ChangeSpec := { name := "changeReads", fn := fun _ => fun
  | [d1, d2] => { results := [.lit (.bool true)], args := [d1, d2] }
  | _ => none }
def changeReadsRow : OpenClaim := { program := "ytdbeinbgekdnmaa", sum := "dc39dd5b4ac25e22125800784cee47baa6fe8e2018132dfed580bc4e11ae8b07", func := "bottomry/bottomrylaw18.ChangeReads", spec := "changeReads", unfollowed := true, recurses := true, plainKeys := false, apart := false }
def ChangeReadsSaid : Prop := changeReadsRow.holds Try.pinned (OpenSpec.ofChange changeReadsSpec)

/-- ITS FALSE NEIGHBOUR: 'it returns false'. Refute it at one input. -/
def changeReadsWrong : ChangeSpec := { name := "changeReads", fn := fun _ => fun
  | [d1, d2] => { results := [.lit (.bool false)], args := [d1, d2] }
  | _ => none }
def ChangeReadsWrongFalsely : Prop := changeReadsRow.holds Try.pinned (OpenSpec.ofChange changeReadsWrong)

/-- 'bottomrylaw15.BatchBack': WHATEVER THE INPUT: true; the input reads as it did. -/
def batchBackSpec : ChangeSpec := { name := "batchBack", fn := fun _ => fun
  | [d1, d2] => { results := [.lit (.bool true)], args := [d1, d2] }
  | _ => none }
def batchBackRow : OpenClaim := { program := "ytdbeinbgekdnmaa", sum := "dc39dd5b4ac25e22125800784cee47baa6fe8e2018132dfed580bc4e11ae8b07", func := "bottomry/bottomrylaw15.BatchBack", spec := "batchBack", unfollowed := true, recurses := true, plainKeys := false, apart := false }
def BatchBackSaid : Prop := batchBackRow.holds Try.pinned (OpenSpec.ofChange batchBackSpec)

/-- ITS FALSE NEIGHBOUR: 'it returns false'. Refute it at one input. -/
def batchBackWrong : ChangeSpec := { name := "batchBack", fn := fun _ => fun
  | [d1, d2] => { results := [.lit (.bool false)], args := [d1, d2] }
  | _ => none }
def BatchBackWrongFalsely : Prop := batchBackRow.holds Try.pinned (OpenSpec.ofChange batchBackWrong)

/-- 'bottomrylaw15.BatchReads': WHATEVER THE INPUT: true; the input reads as it did. -/
def batchReadsSpec : ChangeSpec := { name := "batchReads", fn := fun _ => fun
  | [d1, d2] => { results := [.lit (.bool true)], args := [d1, d2] }
  | _ => none }
def batchReadsRow : OpenClaim := { program := "ytdbeinbgekdnmaa", sum := "dc39dd5b4ac25e22125800784cee47baa6fe8e2018132dfed580bc4e11ae8b07", func := "bottomry/bottomrylaw15.BatchReads", spec := "batchReads", unfollowed := true, recurses := true, plainKeys := false, apart := false }
def BatchReadsSaid : Prop := batchReadsRow.holds Try.pinned (OpenSpec.ofChange batchReadsSpec)

/-- ITS FALSE NEIGHBOUR: 'it returns false'. Refute it at one input. -/
def batchReadsWrong : ChangeSpec := { name := "batchReads", fn := fun _ => fun
  | [d1, d2] => { results := [.lit (.bool false)], args := [d1, d2] }
  | _ => none }
def BatchReadsWrongFalsely : Prop := batchReadsRow.holds Try.pinned (OpenSpec.ofChange batchReadsWrong)

/- THE SECOND FORM. 'bulk': how many values and letters a reading holds, each counted each time it is reached (what is shared counts as often as it is met; a slice's spare places count too). A statement '..UptoSaid' is the law's where the arguments, and the package variables that the reading takes, are together of bulk at most 1048576: NARROWER than '..Said'. Prove '..Said' where nothing that the law and all that it calls make is longer than what came in: it says more and counts as full. Else prove '..UptoSaid'. A law counts once. -/
mutual
def uptoBulk {H : Type} : DataW H → Nat
  | .lit (.string bytes) => bytes.length + 1
  | .lit _ => 1
  | .nil => 1
  | .ptr d => uptoBulk d + 1
  | .slice elems spare => uptoBulkAll elems + uptoBulkAll spare + 1
  | .agg parts => uptoBulkAll parts + 1
  | .iface _ d => uptoBulk d + 1
  | .map entries => uptoBulkEntries entries + 1
  | .held _ => 1
def uptoBulkAll {H : Type} : List (DataW H) → Nat
  | [] => 0
  | d :: r => uptoBulk d + uptoBulkAll r
def uptoBulkEntries {H : Type} : List (Lit × DataW H) → Nat
  | [] => 0
  | x :: r => uptoBulkEntry x + uptoBulkEntries r
def uptoBulkEntry {H : Type} : Lit × DataW H → Nat
  | (.string bytes, d) => bytes.length + uptoBulk d + 1
  | (_, d) => uptoBulk d + 1
 end
def uptoSmall : (H : Type) → List (DataW H) → Bool := fun _ ds => decide (uptoBulkAll ds ≤ 1048576)
def OpenSpec.upto (s : _root_.Go.ChangeSpec) : _root_.Go.OpenSpec := { _root_.Go.OpenSpec.ofChange s with cond := some uptoSmall }

/-- 'bottomrylaw28.PatienceWaits', WHERE WHAT IT READS IS OF BULK AT MOST 1048576: true; the input reads as it did. -/
def patienceWaitsUptoRow : OpenClaim := { program := "ytdbeinbgekdnmaa", sum := "dc39dd5b4ac25e22125800784cee47baa6fe8e2018132dfed580bc4e11ae8b07", func := "bottomry/bottomrylaw28.PatienceWaits", spec := "patienceWaits", plainKeys := false, apart := false, narrowed := true }
def PatienceWaitsUptoSaid : Prop := patienceWaitsUptoRow.holds Try.pinned (OpenSpec.upto patienceWaitsSpec)

/-- 'bottomrylaw07.MoneyTells', WHERE WHAT IT READS IS OF BULK AT MOST 1048576: true; the input reads as it did. -/
def moneyTellsUptoRow : OpenClaim := { program := "ytdbeinbgekdnmaa", sum := "dc39dd5b4ac25e22125800784cee47baa6fe8e2018132dfed580bc4e11ae8b07", func := "bottomry/bottomrylaw07.MoneyTells", spec := "moneyTells", plainKeys := false, apart := false, narrowed := true }
def MoneyTellsUptoSaid : Prop := moneyTellsUptoRow.holds Try.pinned (OpenSpec.upto moneyTellsSpec)

/-- 'bottomrylaw07.MoneySums', WHERE WHAT IT READS IS OF BULK AT MOST 1048576: true; the input reads as it did. -/
def moneySumsUptoRow : OpenClaim := { program := "ytdbeinbgekdnmaa", sum := "dc39dd5b4ac25e22125800784cee47baa6fe8e2018132dfed580bc4e11ae8b07", func := "bottomry/bottomrylaw07.MoneySums", spec := "moneySums", plainKeys := false, apart := false, narrowed := true }
def MoneySumsUptoSaid : Prop := moneySumsUptoRow.holds Try.pinned (OpenSpec.upto moneySumsSpec)

/-- 'bottomrylaw28.PatiencePlays', WHERE WHAT IT READS IS OF BULK AT MOST 1048576: true; the input reads as it did. -/
def patiencePlaysUptoRow : OpenClaim := { program := "ytdbeinbgekdnmaa", sum := "dc39dd5b4ac25e22125800784cee47baa6fe8e2018132dfed580bc4e11ae8b07", func := "bottomry/bottomrylaw28.PatiencePlays", spec := "patiencePlays", plainKeys := false, apart := false, narrowed := true }
def PatiencePlaysUptoSaid : Prop := patiencePlaysUptoRow.holds Try.pinned (OpenSpec.upto patiencePlaysSpec)

/-- 'bottomrylaw05.BookApart', WHERE WHAT IT READS IS OF BULK AT MOST 1048576: true; the input reads as it did. -/
def bookApartUptoRow : OpenClaim := { program := "ytdbeinbgekdnmaa", sum := "dc39dd5b4ac25e22125800784cee47baa6fe8e2018132dfed580bc4e11ae8b07", func := "bottomry/bottomrylaw05.BookApart", spec := "bookApart", plainKeys := false, apart := false, narrowed := true }
def BookApartUptoSaid : Prop := bookApartUptoRow.holds Try.pinned (OpenSpec.upto bookApartSpec)

/-- 'bottomrylaw10.LetterSteps', WHERE WHAT IT READS IS OF BULK AT MOST 1048576: true; the input reads as it did. -/
def letterStepsUptoRow : OpenClaim := { program := "ytdbeinbgekdnmaa", sum := "dc39dd5b4ac25e22125800784cee47baa6fe8e2018132dfed580bc4e11ae8b07", func := "bottomry/bottomrylaw10.LetterSteps", spec := "letterSteps", plainKeys := false, apart := false, narrowed := true }
def LetterStepsUptoSaid : Prop := letterStepsUptoRow.holds Try.pinned (OpenSpec.upto letterStepsSpec)

/-- 'bottomrylaw10.LetterLives', WHERE WHAT IT READS IS OF BULK AT MOST 1048576: true; the input reads as it did. -/
def letterLivesUptoRow : OpenClaim := { program := "ytdbeinbgekdnmaa", sum := "dc39dd5b4ac25e22125800784cee47baa6fe8e2018132dfed580bc4e11ae8b07", func := "bottomry/bottomrylaw10.LetterLives", spec := "letterLives", plainKeys := false, apart := false, narrowed := true }
def LetterLivesUptoSaid : Prop := letterLivesUptoRow.holds Try.pinned (OpenSpec.upto letterLivesSpec)

/-- 'bottomrylaw44.WatchLooks', WHERE WHAT IT READS IS OF BULK AT MOST 1048576: true; the input reads as it did. -/
def watchLooksUptoRow : OpenClaim := { program := "ytdbeinbgekdnmaa", sum := "dc39dd5b4ac25e22125800784cee47baa6fe8e2018132dfed580bc4e11ae8b07", func := "bottomry/bottomrylaw44.WatchLooks", spec := "watchLooks", unfollowed := true, recurses := true, plainKeys := false, apart := false, narrowed := true }
def WatchLooksUptoSaid : Prop := watchLooksUptoRow.holds Try.pinned (OpenSpec.upto watchLooksSpec)

/-- 'bottomrylaw18.ChangeBack', WHERE WHAT IT READS IS OF BULK AT MOST 1048576: true; the input reads as it did. -/
def changeBackUptoRow : OpenClaim := { program := "ytdbeinbgekdnmaa", sum := "dc39dd5b4ac25e22125800784cee47baa6fe8e2018132dfed580bc4e11ae8b07", func := "bottomry/bottomrylaw18.ChangeBack", spec := "changeBack", unfollowed := true, recurses := true, plainKeys := false, apart := false, narrowed := true }
def ChangeBackUptoSaid : Prop := changeBackUptoRow.holds Try.pinned (OpenSpec.upto changeBackSpec)

/-- 'bottomrylaw18.ChangeReads', WHERE WHAT IT READS IS OF BULK AT MOST 1048576: true; the input reads as it did. -/
def changeReadsUptoRow : OpenClaim := { program := "ytdbeinbgekdnmaa", sum := "dc39dd5b4ac25e22125800784cee47baa6fe8e2018132dfed580bc4e11ae8b07", func := "bottomry/bottomrylaw18.ChangeReads", spec := "changeReads", unfollowed := true, recurses := true, plainKeys := false, apart := false, narrowed := true }
def ChangeReadsUptoSaid : Prop := changeReadsUptoRow.holds Try.pinned (OpenSpec.upto changeReadsSpec)

/-- 'bottomrylaw15.BatchBack', WHERE WHAT IT READS IS OF BULK AT MOST 1048576: true; the input reads as it did. -/
def batchBackUptoRow : OpenClaim := { program := "ytdbeinbgekdnmaa", sum := "dc39dd5b4ac25e22125800784cee47baa6fe8e2018132dfed580bc4e11ae8b07", func := "bottomry/bottomrylaw15.BatchBack", spec := "batchBack", unfollowed := true, recurses := true, plainKeys := false, apart := false, narrowed := true }
def BatchBackUptoSaid : Prop := batchBackUptoRow.holds Try.pinned (OpenSpec.upto batchBackSpec)

/-- 'bottomrylaw15.BatchReads', WHERE WHAT IT READS IS OF BULK AT MOST 1048576: true; the input reads as it did. -/
def batchReadsUptoRow : OpenClaim := { program := "ytdbeinbgekdnmaa", sum := "dc39dd5b4ac25e22125800784cee47baa6fe8e2018132dfed580bc4e11ae8b07", func := "bottomry/bottomrylaw15.BatchReads", spec := "batchReads", unfollowed := true, recurses := true, plainKeys := false, apart := false, narrowed := true }
def BatchReadsUptoSaid : Prop := batchReadsUptoRow.holds Try.pinned (OpenSpec.upto batchReadsSpec)

end Rows
end Go.Proofs.Ytdbeinbgekdnmaa
