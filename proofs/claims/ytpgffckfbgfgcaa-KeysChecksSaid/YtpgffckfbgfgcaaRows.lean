/-
  No cell of these rows narrows 'for every input' (looked for: loops, veiled, ifaces, maps, wideKeys, modest, calm, conditions, laid).
  DERIVED. THE GIVEN ROWS OF THIS SEAT. 12 by the template 'for every input the law returns true; each argument reads behind the call as it read before'; 0 by the template 'total and deterministic' (their statements: YtpgffckfbgfgcaaTotals.lean).
  GIVEN WITH THE SEED: the statements are not yours to turn. If you find one false, say at which input.
  Laid BY PROGRAM, IN A SANDBOX (cutbox-rows.mjs): the forced cells as the released guide's own fill.sh prints them over the translation 451466f6199e21af… (all of the seat's roots in one cut). By AI agents, Wed Nov 11 2026. No macro, syntax, notation, axiom, sorry.
-/
import Derived.Test.YtpgffckfbgfgcaaChecked
import GoSem.Claim
import GoSem.ClaimJoined
import GoSem.ClaimMapViews
import Derived.JoinedTies
import Derived.KernelRfl
namespace Go.Proofs.Ytpgffckfbgfgcaa
/- THE CELL 'sum', in the pinned program and in every row, IS THE sha256 OF THE DUMP (.gsa) THAT YtpgffckfbgfgcaaProg.lean LOADS. Nothing in Lean hashes anything: it is a label: what it is worth is what the hold of that sum in a sandbox is worth. -/
noncomputable def Try.pinned : Pinned := { name := "ytpgffckfbgfgcaa", sum := "451466f6199e21af52450e8a0c5d18830ec3c0ac784771838b96ad3edae6155a", checked := Try.checked }
namespace Rows
def none {H : Type} : Left H := { results := [], args := [] }

/-- 'bottomrylaw15.BatchDigests': WHATEVER THE INPUT: true; the input reads as it did. -/
def batchDigestsSpec : ChangeSpec := { name := "batchDigests", fn := fun _ => fun
  | [d1, d2, d3] => { results := [.lit (.bool true)], args := [d1, d2, d3] }
  | _ => none }
def batchDigestsRow : OpenClaim := { program := "ytpgffckfbgfgcaa", sum := "451466f6199e21af52450e8a0c5d18830ec3c0ac784771838b96ad3edae6155a", func := "bottomry/bottomrylaw15.BatchDigests", spec := "batchDigests", unfollowed := true, recurses := true, plainKeys := false, apart := false }
def BatchDigestsSaid : Prop := batchDigestsRow.holds Try.pinned (OpenSpec.ofChange batchDigestsSpec)

/-- ITS FALSE NEIGHBOUR: 'it returns false'. Refute it at one input. -/
def batchDigestsWrong : ChangeSpec := { name := "batchDigests", fn := fun _ => fun
  | [d1, d2, d3] => { results := [.lit (.bool false)], args := [d1, d2, d3] }
  | _ => none }
def BatchDigestsWrongFalsely : Prop := batchDigestsRow.holds Try.pinned (OpenSpec.ofChange batchDigestsWrong)

/-- 'bottomrylaw19.NewviewBack': WHATEVER THE INPUT: true; the input reads as it did. -/
def newviewBackSpec : ChangeSpec := { name := "newviewBack", fn := fun _ => fun
  | [d1, d2, d3] => { results := [.lit (.bool true)], args := [d1, d2, d3] }
  | _ => none }
def newviewBackRow : OpenClaim := { program := "ytpgffckfbgfgcaa", sum := "451466f6199e21af52450e8a0c5d18830ec3c0ac784771838b96ad3edae6155a", func := "bottomry/bottomrylaw19.NewviewBack", spec := "newviewBack", unfollowed := true, recurses := true, plainKeys := false, apart := false }
def NewviewBackSaid : Prop := newviewBackRow.holds Try.pinned (OpenSpec.ofChange newviewBackSpec)

/-- ITS FALSE NEIGHBOUR: 'it returns false'. Refute it at one input. -/
def newviewBackWrong : ChangeSpec := { name := "newviewBack", fn := fun _ => fun
  | [d1, d2, d3] => { results := [.lit (.bool false)], args := [d1, d2, d3] }
  | _ => none }
def NewviewBackWrongFalsely : Prop := newviewBackRow.holds Try.pinned (OpenSpec.ofChange newviewBackWrong)

/-- 'bottomrylaw19.NewviewReads': WHATEVER THE INPUT: true; the input reads as it did. -/
def newviewReadsSpec : ChangeSpec := { name := "newviewReads", fn := fun _ => fun
  | [d1, d2] => { results := [.lit (.bool true)], args := [d1, d2] }
  | _ => none }
def newviewReadsRow : OpenClaim := { program := "ytpgffckfbgfgcaa", sum := "451466f6199e21af52450e8a0c5d18830ec3c0ac784771838b96ad3edae6155a", func := "bottomry/bottomrylaw19.NewviewReads", spec := "newviewReads", unfollowed := true, recurses := true, plainKeys := false, apart := false }
def NewviewReadsSaid : Prop := newviewReadsRow.holds Try.pinned (OpenSpec.ofChange newviewReadsSpec)

/-- ITS FALSE NEIGHBOUR: 'it returns false'. Refute it at one input. -/
def newviewReadsWrong : ChangeSpec := { name := "newviewReads", fn := fun _ => fun
  | [d1, d2] => { results := [.lit (.bool false)], args := [d1, d2] }
  | _ => none }
def NewviewReadsWrongFalsely : Prop := newviewReadsRow.holds Try.pinned (OpenSpec.ofChange newviewReadsWrong)

/-- 'bottomrylaw18.ChangeDigests': WHATEVER THE INPUT: true; the input reads as it did. -/
def changeDigestsSpec : ChangeSpec := { name := "changeDigests", fn := fun _ => fun
  | [d1, d2] => { results := [.lit (.bool true)], args := [d1, d2] }
  | _ => none }
def changeDigestsRow : OpenClaim := { program := "ytpgffckfbgfgcaa", sum := "451466f6199e21af52450e8a0c5d18830ec3c0ac784771838b96ad3edae6155a", func := "bottomry/bottomrylaw18.ChangeDigests", spec := "changeDigests", unfollowed := true, recurses := true, plainKeys := false, apart := false }
def ChangeDigestsSaid : Prop := changeDigestsRow.holds Try.pinned (OpenSpec.ofChange changeDigestsSpec)

/-- ITS FALSE NEIGHBOUR: 'it returns false'. Refute it at one input. -/
def changeDigestsWrong : ChangeSpec := { name := "changeDigests", fn := fun _ => fun
  | [d1, d2] => { results := [.lit (.bool false)], args := [d1, d2] }
  | _ => none }
def ChangeDigestsWrongFalsely : Prop := changeDigestsRow.holds Try.pinned (OpenSpec.ofChange changeDigestsWrong)

/-- 'bottomrylaw22.WindowTop': WHATEVER THE INPUT: true; the input reads as it did. -/
def windowTopSpec : ChangeSpec := { name := "windowTop", fn := fun _ => fun
  | [d1, d2] => { results := [.lit (.bool true)], args := [d1, d2] }
  | _ => none }
def windowTopRow : OpenClaim := { program := "ytpgffckfbgfgcaa", sum := "451466f6199e21af52450e8a0c5d18830ec3c0ac784771838b96ad3edae6155a", func := "bottomry/bottomrylaw22.WindowTop", spec := "windowTop", unfollowed := true, recurses := true, plainKeys := false, apart := false }
def WindowTopSaid : Prop := windowTopRow.holds Try.pinned (OpenSpec.ofChange windowTopSpec)

/-- ITS FALSE NEIGHBOUR: 'it returns false'. Refute it at one input. -/
def windowTopWrong : ChangeSpec := { name := "windowTop", fn := fun _ => fun
  | [d1, d2] => { results := [.lit (.bool false)], args := [d1, d2] }
  | _ => none }
def WindowTopWrongFalsely : Prop := windowTopRow.holds Try.pinned (OpenSpec.ofChange windowTopWrong)

/-- 'bottomrylaw20.TallyPlays': WHATEVER THE INPUT: true; the input reads as it did. -/
def tallyPlaysSpec : ChangeSpec := { name := "tallyPlays", fn := fun _ => fun
  | [d1, d2] => { results := [.lit (.bool true)], args := [d1, d2] }
  | _ => none }
def tallyPlaysRow : OpenClaim := { program := "ytpgffckfbgfgcaa", sum := "451466f6199e21af52450e8a0c5d18830ec3c0ac784771838b96ad3edae6155a", func := "bottomry/bottomrylaw20.TallyPlays", spec := "tallyPlays", unfollowed := true, recurses := true, plainKeys := false, apart := false }
def TallyPlaysSaid : Prop := tallyPlaysRow.holds Try.pinned (OpenSpec.ofChange tallyPlaysSpec)

/-- ITS FALSE NEIGHBOUR: 'it returns false'. Refute it at one input. -/
def tallyPlaysWrong : ChangeSpec := { name := "tallyPlays", fn := fun _ => fun
  | [d1, d2] => { results := [.lit (.bool false)], args := [d1, d2] }
  | _ => none }
def TallyPlaysWrongFalsely : Prop := tallyPlaysRow.holds Try.pinned (OpenSpec.ofChange tallyPlaysWrong)

/-- 'bottomrylaw20.TallyNil': WHATEVER THE INPUT: true; the input reads as it did. -/
def tallyNilSpec : ChangeSpec := { name := "tallyNil", fn := fun _ => fun
  | [d1, d2] => { results := [.lit (.bool true)], args := [d1, d2] }
  | _ => none }
def tallyNilRow : OpenClaim := { program := "ytpgffckfbgfgcaa", sum := "451466f6199e21af52450e8a0c5d18830ec3c0ac784771838b96ad3edae6155a", func := "bottomry/bottomrylaw20.TallyNil", spec := "tallyNil", unfollowed := true, recurses := true, plainKeys := false, apart := false }
def TallyNilSaid : Prop := tallyNilRow.holds Try.pinned (OpenSpec.ofChange tallyNilSpec)

/-- ITS FALSE NEIGHBOUR: 'it returns false'. Refute it at one input. -/
def tallyNilWrong : ChangeSpec := { name := "tallyNil", fn := fun _ => fun
  | [d1, d2] => { results := [.lit (.bool false)], args := [d1, d2] }
  | _ => none }
def TallyNilWrongFalsely : Prop := tallyNilRow.holds Try.pinned (OpenSpec.ofChange tallyNilWrong)

/-- 'bottomrylaw22.WindowPlays': WHATEVER THE INPUT: true; the input reads as it did. -/
def windowPlaysSpec : ChangeSpec := { name := "windowPlays", fn := fun _ => fun
  | [d1, d2] => { results := [.lit (.bool true)], args := [d1, d2] }
  | _ => none }
def windowPlaysRow : OpenClaim := { program := "ytpgffckfbgfgcaa", sum := "451466f6199e21af52450e8a0c5d18830ec3c0ac784771838b96ad3edae6155a", func := "bottomry/bottomrylaw22.WindowPlays", spec := "windowPlays", unfollowed := true, recurses := true, plainKeys := false, apart := false }
def WindowPlaysSaid : Prop := windowPlaysRow.holds Try.pinned (OpenSpec.ofChange windowPlaysSpec)

/-- ITS FALSE NEIGHBOUR: 'it returns false'. Refute it at one input. -/
def windowPlaysWrong : ChangeSpec := { name := "windowPlays", fn := fun _ => fun
  | [d1, d2] => { results := [.lit (.bool false)], args := [d1, d2] }
  | _ => none }
def WindowPlaysWrongFalsely : Prop := windowPlaysRow.holds Try.pinned (OpenSpec.ofChange windowPlaysWrong)

/-- 'bottomrylaw04.KeysTells': WHATEVER THE INPUT: true; the input reads as it did. -/
def keysTellsSpec : ChangeSpec := { name := "keysTells", fn := fun _ => fun
  | [d1, d2, d3, d4, d5] => { results := [.lit (.bool true)], args := [d1, d2, d3, d4, d5] }
  | _ => none }
def keysTellsRow : OpenClaim := { program := "ytpgffckfbgfgcaa", sum := "451466f6199e21af52450e8a0c5d18830ec3c0ac784771838b96ad3edae6155a", func := "bottomry/bottomrylaw04.KeysTells", spec := "keysTells", unfollowed := true, recurses := true, plainKeys := false, apart := false }
def KeysTellsSaid : Prop := keysTellsRow.holds Try.pinned (OpenSpec.ofChange keysTellsSpec)

/-- ITS FALSE NEIGHBOUR: 'it returns false'. Refute it at one input. -/
def keysTellsWrong : ChangeSpec := { name := "keysTells", fn := fun _ => fun
  | [d1, d2, d3, d4, d5] => { results := [.lit (.bool false)], args := [d1, d2, d3, d4, d5] }
  | _ => none }
def KeysTellsWrongFalsely : Prop := keysTellsRow.holds Try.pinned (OpenSpec.ofChange keysTellsWrong)

/-- 'bottomrylaw04.KeysChecks': WHATEVER THE INPUT: true; the input reads as it did. -/
def keysChecksSpec : ChangeSpec := { name := "keysChecks", fn := fun _ => fun
  | [d1, d2, d3, d4, d5] => { results := [.lit (.bool true)], args := [d1, d2, d3, d4, d5] }
  | _ => none }
def keysChecksRow : OpenClaim := { program := "ytpgffckfbgfgcaa", sum := "451466f6199e21af52450e8a0c5d18830ec3c0ac784771838b96ad3edae6155a", func := "bottomry/bottomrylaw04.KeysChecks", spec := "keysChecks", recurses := true, plainKeys := false, apart := false }
def KeysChecksSaid : Prop := keysChecksRow.holds Try.pinned (OpenSpec.ofChange keysChecksSpec)

/-- ITS FALSE NEIGHBOUR: 'it returns false'. Refute it at one input. -/
def keysChecksWrong : ChangeSpec := { name := "keysChecks", fn := fun _ => fun
  | [d1, d2, d3, d4, d5] => { results := [.lit (.bool false)], args := [d1, d2, d3, d4, d5] }
  | _ => none }
def KeysChecksWrongFalsely : Prop := keysChecksRow.holds Try.pinned (OpenSpec.ofChange keysChecksWrong)

/-- 'bottomrylaw05.BookPlays': WHATEVER THE INPUT: true; the input reads as it did. -/
def bookPlaysSpec : ChangeSpec := { name := "bookPlays", fn := fun _ => fun
  | [d] => { results := [.lit (.bool true)], args := [d] }
  | _ => none }
def bookPlaysRow : OpenClaim := { program := "ytpgffckfbgfgcaa", sum := "451466f6199e21af52450e8a0c5d18830ec3c0ac784771838b96ad3edae6155a", func := "bottomry/bottomrylaw05.BookPlays", spec := "bookPlays", unfollowed := true, recurses := true, plainKeys := false, apart := false }
def BookPlaysSaid : Prop := bookPlaysRow.holds Try.pinned (OpenSpec.ofChange bookPlaysSpec)

/-- ITS FALSE NEIGHBOUR: 'it returns false'. Refute it at one input. -/
def bookPlaysWrong : ChangeSpec := { name := "bookPlays", fn := fun _ => fun
  | [d] => { results := [.lit (.bool false)], args := [d] }
  | _ => none }
def BookPlaysWrongFalsely : Prop := bookPlaysRow.holds Try.pinned (OpenSpec.ofChange bookPlaysWrong)

/-- 'bottomrylaw06.VectorAll': WHATEVER THE INPUT: true; the input reads as it did. -/
def vectorAllSpec : ChangeSpec := { name := "vectorAll", fn := fun _ => fun
  | [d1, d2, d3] => { results := [.lit (.bool true)], args := [d1, d2, d3] }
  | _ => none }
def vectorAllRow : OpenClaim := { program := "ytpgffckfbgfgcaa", sum := "451466f6199e21af52450e8a0c5d18830ec3c0ac784771838b96ad3edae6155a", func := "bottomry/bottomrylaw06.VectorAll", spec := "vectorAll", unfollowed := true, recurses := true, plainKeys := false, apart := false }
def VectorAllSaid : Prop := vectorAllRow.holds Try.pinned (OpenSpec.ofChange vectorAllSpec)

/-- ITS FALSE NEIGHBOUR: 'it returns false'. Refute it at one input. -/
def vectorAllWrong : ChangeSpec := { name := "vectorAll", fn := fun _ => fun
  | [d1, d2, d3] => { results := [.lit (.bool false)], args := [d1, d2, d3] }
  | _ => none }
def VectorAllWrongFalsely : Prop := vectorAllRow.holds Try.pinned (OpenSpec.ofChange vectorAllWrong)

/- THE SECOND FORM. 'bulk': how many values and letters a reading holds, each counted each time it is reached (what is shared counts as often as it is met; a slice's spare places count too). A statement '..UptoSaid' is the law's where the arguments, and the package variables that the reading takes, are together of bulk at most 1048576: NARROWER than '..Said'. Prove '..Said' where nothing that the law and all that it calls make is longer than what came in: it says more and counts as full. Else prove '..UptoSaid'. A law counts once. -/
mutual
def uptoBulk {H : Type} : DataW H → Nat
  | .lit (.string bytes) => bytes.length + 1
  | .lit _ => 1
  | .nil => 1
  | .ptr d => uptoBulk d + 1
  | .slice elems spare => uptoBulkAll elems + uptoBulkAll spare + 1
  | .agg parts => uptoBulkAll parts + 1
  | .iface _ d => uptoBulk d + 1
  | .map entries => uptoBulkEntries entries + 1
  | .held _ => 1
def uptoBulkAll {H : Type} : List (DataW H) → Nat
  | [] => 0
  | d :: r => uptoBulk d + uptoBulkAll r
def uptoBulkEntries {H : Type} : List (Lit × DataW H) → Nat
  | [] => 0
  | x :: r => uptoBulkEntry x + uptoBulkEntries r
def uptoBulkEntry {H : Type} : Lit × DataW H → Nat
  | (.string bytes, d) => bytes.length + uptoBulk d + 1
  | (_, d) => uptoBulk d + 1
 end
def uptoSmall : (H : Type) → List (DataW H) → Bool := fun _ ds => decide (uptoBulkAll ds ≤ 1048576)
def OpenSpec.upto (s : _root_.Go.ChangeSpec) : _root_.Go.OpenSpec := { _root_.Go.OpenSpec.ofChange s with cond := some uptoSmall }

/-- 'bottomrylaw15.BatchDigests', WHERE WHAT IT READS IS OF BULK AT MOST 1048576: true; the input reads as it did. -/
def batchDigestsUptoRow : OpenClaim := { program := "ytpgffckfbgfgcaa", sum := "451466f6199e21af52450e8a0c5d18830ec3c0ac784771838b96ad3edae6155a", func := "bottomry/bottomrylaw15.BatchDigests", spec := "batchDigests", unfollowed := true, recurses := true, plainKeys := false, apart := false, narrowed := true }
def BatchDigestsUptoSaid : Prop := batchDigestsUptoRow.holds Try.pinned (OpenSpec.upto batchDigestsSpec)

/-- 'bottomrylaw19.NewviewBack', WHERE WHAT IT READS IS OF BULK AT MOST 1048576: true; the input reads as it did. -/
def newviewBackUptoRow : OpenClaim := { program := "ytpgffckfbgfgcaa", sum := "451466f6199e21af52450e8a0c5d18830ec3c0ac784771838b96ad3edae6155a", func := "bottomry/bottomrylaw19.NewviewBack", spec := "newviewBack", unfollowed := true, recurses := true, plainKeys := false, apart := false, narrowed := true }
def NewviewBackUptoSaid : Prop := newviewBackUptoRow.holds Try.pinned (OpenSpec.upto newviewBackSpec)

/-- 'bottomrylaw19.NewviewReads', WHERE WHAT IT READS IS OF BULK AT MOST 1048576: true; the input reads as it did. -/
def newviewReadsUptoRow : OpenClaim := { program := "ytpgffckfbgfgcaa", sum := "451466f6199e21af52450e8a0c5d18830ec3c0ac784771838b96ad3edae6155a", func := "bottomry/bottomrylaw19.NewviewReads", spec := "newviewReads", unfollowed := true, recurses := true, plainKeys := false, apart := false, narrowed := true }
def NewviewReadsUptoSaid : Prop := newviewReadsUptoRow.holds Try.pinned (OpenSpec.upto newviewReadsSpec)

/-- 'bottomrylaw18.ChangeDigests', WHERE WHAT IT READS IS OF BULK AT MOST 1048576: true; the input reads as it did. -/
def changeDigestsUptoRow : OpenClaim := { program := "ytpgffckfbgfgcaa", sum := "451466f6199e21af52450e8a0c5d18830ec3c0ac784771838b96ad3edae6155a", func := "bottomry/bottomrylaw18.ChangeDigests", spec := "changeDigests", unfollowed := true, recurses := true, plainKeys := false, apart := false, narrowed := true }
def ChangeDigestsUptoSaid : Prop := changeDigestsUptoRow.holds Try.pinned (OpenSpec.upto changeDigestsSpec)

/-- 'bottomrylaw22.WindowTop', WHERE WHAT IT READS IS OF BULK AT MOST 1048576: true; the input reads as it did. -/
def windowTopUptoRow : OpenClaim := { program := "ytpgffckfbgfgcaa", sum := "451466f6199e21af52450e8a0c5d18830ec3c0ac784771838b96ad3edae6155a", func := "bottomry/bottomrylaw22.WindowTop", spec := "windowTop", unfollowed := true, recurses := true, plainKeys := false, apart := false, narrowed := true }
def WindowTopUptoSaid : Prop := windowTopUptoRow.holds Try.pinned (OpenSpec.upto windowTopSpec)

/-- 'bottomrylaw20.TallyPlays', WHERE WHAT IT READS IS OF BULK AT MOST 1048576: true; the input reads as it did. -/
def tallyPlaysUptoRow : OpenClaim := { program := "ytpgffckfbgfgcaa", sum := "451466f6199e21af52450e8a0c5d18830ec3c0ac784771838b96ad3edae6155a", func := "bottomry/bottomrylaw20.TallyPlays", spec := "tallyPlays", unfollowed := true, recurses := true, plainKeys := false, apart := false, narrowed := true }
def TallyPlaysUptoSaid : Prop := tallyPlaysUptoRow.holds Try.pinned (OpenSpec.upto tallyPlaysSpec)

/-- 'bottomrylaw20.TallyNil', WHERE WHAT IT READS IS OF BULK AT MOST 1048576: true; the input reads as it did. -/
def tallyNilUptoRow : OpenClaim := { program := "ytpgffckfbgfgcaa", sum := "451466f6199e21af52450e8a0c5d18830ec3c0ac784771838b96ad3edae6155a", func := "bottomry/bottomrylaw20.TallyNil", spec := "tallyNil", unfollowed := true, recurses := true, plainKeys := false, apart := false, narrowed := true }
def TallyNilUptoSaid : Prop := tallyNilUptoRow.holds Try.pinned (OpenSpec.upto tallyNilSpec)

/-- 'bottomrylaw22.WindowPlays', WHERE WHAT IT READS IS OF BULK AT MOST 1048576: true; the input reads as it did. -/
def windowPlaysUptoRow : OpenClaim := { program := "ytpgffckfbgfgcaa", sum := "451466f6199e21af52450e8a0c5d18830ec3c0ac784771838b96ad3edae6155a", func := "bottomry/bottomrylaw22.WindowPlays", spec := "windowPlays", unfollowed := true, recurses := true, plainKeys := false, apart := false, narrowed := true }
def WindowPlaysUptoSaid : Prop := windowPlaysUptoRow.holds Try.pinned (OpenSpec.upto windowPlaysSpec)

/-- 'bottomrylaw04.KeysTells', WHERE WHAT IT READS IS OF BULK AT MOST 1048576: true; the input reads as it did. -/
def keysTellsUptoRow : OpenClaim := { program := "ytpgffckfbgfgcaa", sum := "451466f6199e21af52450e8a0c5d18830ec3c0ac784771838b96ad3edae6155a", func := "bottomry/bottomrylaw04.KeysTells", spec := "keysTells", unfollowed := true, recurses := true, plainKeys := false, apart := false, narrowed := true }
def KeysTellsUptoSaid : Prop := keysTellsUptoRow.holds Try.pinned (OpenSpec.upto keysTellsSpec)

/-- 'bottomrylaw04.KeysChecks', WHERE WHAT IT READS IS OF BULK AT MOST 1048576: true; the input reads as it did. -/
def keysChecksUptoRow : OpenClaim := { program := "ytpgffckfbgfgcaa", sum := "451466f6199e21af52450e8a0c5d18830ec3c0ac784771838b96ad3edae6155a", func := "bottomry/bottomrylaw04.KeysChecks", spec := "keysChecks", recurses := true, plainKeys := false, apart := false, narrowed := true }
def KeysChecksUptoSaid : Prop := keysChecksUptoRow.holds Try.pinned (OpenSpec.upto keysChecksSpec)

/-- 'bottomrylaw05.BookPlays', WHERE WHAT IT READS IS OF BULK AT MOST 1048576: true; the input reads as it did. -/
def bookPlaysUptoRow : OpenClaim := { program := "ytpgffckfbgfgcaa", sum := "451466f6199e21af52450e8a0c5d18830ec3c0ac784771838b96ad3edae6155a", func := "bottomry/bottomrylaw05.BookPlays", spec := "bookPlays", unfollowed := true, recurses := true, plainKeys := false, apart := false, narrowed := true }
def BookPlaysUptoSaid : Prop := bookPlaysUptoRow.holds Try.pinned (OpenSpec.upto bookPlaysSpec)

/-- 'bottomrylaw06.VectorAll', WHERE WHAT IT READS IS OF BULK AT MOST 1048576: true; the input reads as it did. -/
def vectorAllUptoRow : OpenClaim := { program := "ytpgffckfbgfgcaa", sum := "451466f6199e21af52450e8a0c5d18830ec3c0ac784771838b96ad3edae6155a", func := "bottomry/bottomrylaw06.VectorAll", spec := "vectorAll", unfollowed := true, recurses := true, plainKeys := false, apart := false, narrowed := true }
def VectorAllUptoSaid : Prop := vectorAllUptoRow.holds Try.pinned (OpenSpec.upto vectorAllSpec)

end Rows
end Go.Proofs.Ytpgffckfbgfgcaa
