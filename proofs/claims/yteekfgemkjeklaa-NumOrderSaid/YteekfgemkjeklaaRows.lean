/-
  No cell of these rows narrows 'for every input' (looked for: loops, veiled, ifaces, maps, wideKeys, modest, calm, conditions, laid).
  DERIVED. THE GIVEN ROWS OF THIS SEAT. 9 by the template 'for every input the law returns true; each argument reads behind the call as it read before'; 0 by the template 'total and deterministic' (their statements: YteekfgemkjeklaaTotals.lean).
  GIVEN WITH THE SEED: the statements are not yours to turn. If you find one false, say at which input.
  Laid BY PROGRAM, IN A SANDBOX (cutbox-rows.mjs): the forced cells as the released guide's own fill.sh prints them over the translation 25981495cdc8bb2f… (all of the seat's roots in one cut). By AI agents, Wed Nov 11 2026. No macro, syntax, notation, axiom, sorry.
-/
import Derived.Test.YteekfgemkjeklaaChecked
import GoSem.Claim
import GoSem.ClaimJoined
import GoSem.ClaimMapViews
import Derived.JoinedTies
import Derived.KernelRfl
namespace Go.Proofs.Yteekfgemkjeklaa
/- THE CELL 'sum', in the pinned program and in every row, IS THE sha256 OF THE DUMP (.gsa) THAT YteekfgemkjeklaaProg.lean LOADS. Nothing in Lean hashes anything: it is a label: what it is worth is what the hold of that sum in a sandbox is worth. -/
noncomputable def Try.pinned : Pinned := { name := "yteekfgemkjeklaa", sum := "25981495cdc8bb2fc99bf596625609f98a4778cc32ddbc25262c199e01cbc266", checked := Try.checked }
namespace Rows
def none {H : Type} : Left H := { results := [], args := [] }

/-- 'meddlerlaw1.NumDivides': WHATEVER THE INPUT: true; the input reads as it did. -/
def numDividesSpec : ChangeSpec := { name := "numDivides", fn := fun _ => fun
  | [d1, d2] => { results := [.lit (.bool true)], args := [d1, d2] }
  | _ => none }
def numDividesRow : OpenClaim := { program := "yteekfgemkjeklaa", sum := "25981495cdc8bb2fc99bf596625609f98a4778cc32ddbc25262c199e01cbc266", func := "meddler/meddlerlaw1.NumDivides", spec := "numDivides", apart := false }
def NumDividesSaid : Prop := numDividesRow.holds Try.pinned (OpenSpec.ofChange numDividesSpec)

/-- ITS FALSE NEIGHBOUR: 'it returns false'. Refute it at one input. -/
def numDividesWrong : ChangeSpec := { name := "numDivides", fn := fun _ => fun
  | [d1, d2] => { results := [.lit (.bool false)], args := [d1, d2] }
  | _ => none }
def NumDividesWrongFalsely : Prop := numDividesRow.holds Try.pinned (OpenSpec.ofChange numDividesWrong)

/-- 'meddlerlaw1.NumRounds': WHATEVER THE INPUT: true; the input reads as it did. -/
def numRoundsSpec : ChangeSpec := { name := "numRounds", fn := fun _ => fun
  | [d1, d2] => { results := [.lit (.bool true)], args := [d1, d2] }
  | _ => none }
def numRoundsRow : OpenClaim := { program := "yteekfgemkjeklaa", sum := "25981495cdc8bb2fc99bf596625609f98a4778cc32ddbc25262c199e01cbc266", func := "meddler/meddlerlaw1.NumRounds", spec := "numRounds", apart := false }
def NumRoundsSaid : Prop := numRoundsRow.holds Try.pinned (OpenSpec.ofChange numRoundsSpec)

/-- ITS FALSE NEIGHBOUR: 'it returns false'. Refute it at one input. -/
def numRoundsWrong : ChangeSpec := { name := "numRounds", fn := fun _ => fun
  | [d1, d2] => { results := [.lit (.bool false)], args := [d1, d2] }
  | _ => none }
def NumRoundsWrongFalsely : Prop := numRoundsRow.holds Try.pinned (OpenSpec.ofChange numRoundsWrong)

/-- 'meddlerlaw1.NumFits': WHATEVER THE INPUT: true; the input reads as it did. -/
def numFitsSpec : ChangeSpec := { name := "numFits", fn := fun _ => fun
  | [d] => { results := [.lit (.bool true)], args := [d] }
  | _ => none }
def numFitsRow : OpenClaim := { program := "yteekfgemkjeklaa", sum := "25981495cdc8bb2fc99bf596625609f98a4778cc32ddbc25262c199e01cbc266", func := "meddler/meddlerlaw1.NumFits", spec := "numFits", apart := false }
def NumFitsSaid : Prop := numFitsRow.holds Try.pinned (OpenSpec.ofChange numFitsSpec)

/-- ITS FALSE NEIGHBOUR: 'it returns false'. Refute it at one input. -/
def numFitsWrong : ChangeSpec := { name := "numFits", fn := fun _ => fun
  | [d] => { results := [.lit (.bool false)], args := [d] }
  | _ => none }
def NumFitsWrongFalsely : Prop := numFitsRow.holds Try.pinned (OpenSpec.ofChange numFitsWrong)

/-- 'meddlerlaw1.NumEnds': WHATEVER THE INPUT: true; the input reads as it did. -/
def numEndsSpec : ChangeSpec := { name := "numEnds", fn := fun _ => fun
  | [d] => { results := [.lit (.bool true)], args := [d] }
  | _ => none }
def numEndsRow : OpenClaim := { program := "yteekfgemkjeklaa", sum := "25981495cdc8bb2fc99bf596625609f98a4778cc32ddbc25262c199e01cbc266", func := "meddler/meddlerlaw1.NumEnds", spec := "numEnds", apart := false }
def NumEndsSaid : Prop := numEndsRow.holds Try.pinned (OpenSpec.ofChange numEndsSpec)

/-- ITS FALSE NEIGHBOUR: 'it returns false'. Refute it at one input. -/
def numEndsWrong : ChangeSpec := { name := "numEnds", fn := fun _ => fun
  | [d] => { results := [.lit (.bool false)], args := [d] }
  | _ => none }
def NumEndsWrongFalsely : Prop := numEndsRow.holds Try.pinned (OpenSpec.ofChange numEndsWrong)

/-- 'meddlerlaw1.NumOnes': WHATEVER THE INPUT: true; the input reads as it did. -/
def numOnesSpec : ChangeSpec := { name := "numOnes", fn := fun _ => fun
  | [d] => { results := [.lit (.bool true)], args := [d] }
  | _ => none }
def numOnesRow : OpenClaim := { program := "yteekfgemkjeklaa", sum := "25981495cdc8bb2fc99bf596625609f98a4778cc32ddbc25262c199e01cbc266", func := "meddler/meddlerlaw1.NumOnes", spec := "numOnes", apart := false }
def NumOnesSaid : Prop := numOnesRow.holds Try.pinned (OpenSpec.ofChange numOnesSpec)

/-- ITS FALSE NEIGHBOUR: 'it returns false'. Refute it at one input. -/
def numOnesWrong : ChangeSpec := { name := "numOnes", fn := fun _ => fun
  | [d] => { results := [.lit (.bool false)], args := [d] }
  | _ => none }
def NumOnesWrongFalsely : Prop := numOnesRow.holds Try.pinned (OpenSpec.ofChange numOnesWrong)

/-- 'meddlerlaw1.NumNone': WHATEVER THE INPUT: true; the input reads as it did. -/
def numNoneSpec : ChangeSpec := { name := "numNone", fn := fun _ => fun
  | [d1, d2, d3] => { results := [.lit (.bool true)], args := [d1, d2, d3] }
  | _ => none }
def numNoneRow : OpenClaim := { program := "yteekfgemkjeklaa", sum := "25981495cdc8bb2fc99bf596625609f98a4778cc32ddbc25262c199e01cbc266", func := "meddler/meddlerlaw1.NumNone", spec := "numNone", apart := false }
def NumNoneSaid : Prop := numNoneRow.holds Try.pinned (OpenSpec.ofChange numNoneSpec)

/-- ITS FALSE NEIGHBOUR: 'it returns false'. Refute it at one input. -/
def numNoneWrong : ChangeSpec := { name := "numNone", fn := fun _ => fun
  | [d1, d2, d3] => { results := [.lit (.bool false)], args := [d1, d2, d3] }
  | _ => none }
def NumNoneWrongFalsely : Prop := numNoneRow.holds Try.pinned (OpenSpec.ofChange numNoneWrong)

/-- 'meddlerlaw1.NumOrder': WHATEVER THE INPUT: true; the input reads as it did. -/
def numOrderSpec : ChangeSpec := { name := "numOrder", fn := fun _ => fun
  | [d1, d2] => { results := [.lit (.bool true)], args := [d1, d2] }
  | _ => none }
def numOrderRow : OpenClaim := { program := "yteekfgemkjeklaa", sum := "25981495cdc8bb2fc99bf596625609f98a4778cc32ddbc25262c199e01cbc266", func := "meddler/meddlerlaw1.NumOrder", spec := "numOrder", apart := false }
def NumOrderSaid : Prop := numOrderRow.holds Try.pinned (OpenSpec.ofChange numOrderSpec)

/-- ITS FALSE NEIGHBOUR: 'it returns false'. Refute it at one input. -/
def numOrderWrong : ChangeSpec := { name := "numOrder", fn := fun _ => fun
  | [d1, d2] => { results := [.lit (.bool false)], args := [d1, d2] }
  | _ => none }
def NumOrderWrongFalsely : Prop := numOrderRow.holds Try.pinned (OpenSpec.ofChange numOrderWrong)

/-- 'meddlerlaw1.NumTells': WHATEVER THE INPUT: true; the input reads as it did. -/
def numTellsSpec : ChangeSpec := { name := "numTells", fn := fun _ => fun
  | [d1, d2, d3, d4] => { results := [.lit (.bool true)], args := [d1, d2, d3, d4] }
  | _ => none }
def numTellsRow : OpenClaim := { program := "yteekfgemkjeklaa", sum := "25981495cdc8bb2fc99bf596625609f98a4778cc32ddbc25262c199e01cbc266", func := "meddler/meddlerlaw1.NumTells", spec := "numTells", apart := false }
def NumTellsSaid : Prop := numTellsRow.holds Try.pinned (OpenSpec.ofChange numTellsSpec)

/-- ITS FALSE NEIGHBOUR: 'it returns false'. Refute it at one input. -/
def numTellsWrong : ChangeSpec := { name := "numTells", fn := fun _ => fun
  | [d1, d2, d3, d4] => { results := [.lit (.bool false)], args := [d1, d2, d3, d4] }
  | _ => none }
def NumTellsWrongFalsely : Prop := numTellsRow.holds Try.pinned (OpenSpec.ofChange numTellsWrong)

/-- 'meddlerlaw1.NumRelates': WHATEVER THE INPUT: true; the input reads as it did. -/
def numRelatesSpec : ChangeSpec := { name := "numRelates", fn := fun _ => fun
  | [d1, d2, d3] => { results := [.lit (.bool true)], args := [d1, d2, d3] }
  | _ => none }
def numRelatesRow : OpenClaim := { program := "yteekfgemkjeklaa", sum := "25981495cdc8bb2fc99bf596625609f98a4778cc32ddbc25262c199e01cbc266", func := "meddler/meddlerlaw1.NumRelates", spec := "numRelates", apart := false }
def NumRelatesSaid : Prop := numRelatesRow.holds Try.pinned (OpenSpec.ofChange numRelatesSpec)

/-- ITS FALSE NEIGHBOUR: 'it returns false'. Refute it at one input. -/
def numRelatesWrong : ChangeSpec := { name := "numRelates", fn := fun _ => fun
  | [d1, d2, d3] => { results := [.lit (.bool false)], args := [d1, d2, d3] }
  | _ => none }
def NumRelatesWrongFalsely : Prop := numRelatesRow.holds Try.pinned (OpenSpec.ofChange numRelatesWrong)

/- THE SECOND FORM. 'bulk': how many values and letters a reading holds, each counted each time it is reached (what is shared counts as often as it is met; a slice's spare places count too). A statement '..UptoSaid' is the law's where the arguments, and the package variables that the reading takes, are together of bulk at most 1048576: NARROWER than '..Said'. Prove '..Said' where nothing that the law and all that it calls make is longer than what came in: it says more and counts as full. Else prove '..UptoSaid'. A law counts once. -/
mutual
def uptoBulk {H : Type} : DataW H → Nat
  | .lit (.string bytes) => bytes.length + 1
  | .lit _ => 1
  | .nil => 1
  | .ptr d => uptoBulk d + 1
  | .slice elems spare => uptoBulkAll elems + uptoBulkAll spare + 1
  | .agg parts => uptoBulkAll parts + 1
  | .iface _ d => uptoBulk d + 1
  | .map entries => uptoBulkEntries entries + 1
  | .held _ => 1
def uptoBulkAll {H : Type} : List (DataW H) → Nat
  | [] => 0
  | d :: r => uptoBulk d + uptoBulkAll r
def uptoBulkEntries {H : Type} : List (Lit × DataW H) → Nat
  | [] => 0
  | x :: r => uptoBulkEntry x + uptoBulkEntries r
def uptoBulkEntry {H : Type} : Lit × DataW H → Nat
  | (.string bytes, d) => bytes.length + uptoBulk d + 1
  | (_, d) => uptoBulk d + 1
 end
def uptoSmall : (H : Type) → List (DataW H) → Bool := fun _ ds => decide (uptoBulkAll ds ≤ 1048576)
def OpenSpec.upto (s : _root_.Go.ChangeSpec) : _root_.Go.OpenSpec := { _root_.Go.OpenSpec.ofChange s with cond := some uptoSmall }

/-- 'meddlerlaw1.NumDivides', WHERE WHAT IT READS IS OF BULK AT MOST 1048576: true; the input reads as it did. -/
def numDividesUptoRow : OpenClaim := { program := "yteekfgemkjeklaa", sum := "25981495cdc8bb2fc99bf596625609f98a4778cc32ddbc25262c199e01cbc266", func := "meddler/meddlerlaw1.NumDivides", spec := "numDivides", apart := false, narrowed := true }
def NumDividesUptoSaid : Prop := numDividesUptoRow.holds Try.pinned (OpenSpec.upto numDividesSpec)

/-- 'meddlerlaw1.NumRounds', WHERE WHAT IT READS IS OF BULK AT MOST 1048576: true; the input reads as it did. -/
def numRoundsUptoRow : OpenClaim := { program := "yteekfgemkjeklaa", sum := "25981495cdc8bb2fc99bf596625609f98a4778cc32ddbc25262c199e01cbc266", func := "meddler/meddlerlaw1.NumRounds", spec := "numRounds", apart := false, narrowed := true }
def NumRoundsUptoSaid : Prop := numRoundsUptoRow.holds Try.pinned (OpenSpec.upto numRoundsSpec)

/-- 'meddlerlaw1.NumFits', WHERE WHAT IT READS IS OF BULK AT MOST 1048576: true; the input reads as it did. -/
def numFitsUptoRow : OpenClaim := { program := "yteekfgemkjeklaa", sum := "25981495cdc8bb2fc99bf596625609f98a4778cc32ddbc25262c199e01cbc266", func := "meddler/meddlerlaw1.NumFits", spec := "numFits", apart := false, narrowed := true }
def NumFitsUptoSaid : Prop := numFitsUptoRow.holds Try.pinned (OpenSpec.upto numFitsSpec)

/-- 'meddlerlaw1.NumEnds', WHERE WHAT IT READS IS OF BULK AT MOST 1048576: true; the input reads as it did. -/
def numEndsUptoRow : OpenClaim := { program := "yteekfgemkjeklaa", sum := "25981495cdc8bb2fc99bf596625609f98a4778cc32ddbc25262c199e01cbc266", func := "meddler/meddlerlaw1.NumEnds", spec := "numEnds", apart := false, narrowed := true }
def NumEndsUptoSaid : Prop := numEndsUptoRow.holds Try.pinned (OpenSpec.upto numEndsSpec)

/-- 'meddlerlaw1.NumOnes', WHERE WHAT IT READS IS OF BULK AT MOST 1048576: true; the input reads as it did. -/
def numOnesUptoRow : OpenClaim := { program := "yteekfgemkjeklaa", sum := "25981495cdc8bb2fc99bf596625609f98a4778cc32ddbc25262c199e01cbc266", func := "meddler/meddlerlaw1.NumOnes", spec := "numOnes", apart := false, narrowed := true }
def NumOnesUptoSaid : Prop := numOnesUptoRow.holds Try.pinned (OpenSpec.upto numOnesSpec)

/-- 'meddlerlaw1.NumNone', WHERE WHAT IT READS IS OF BULK AT MOST 1048576: true; the input reads as it did. -/
def numNoneUptoRow : OpenClaim := { program := "yteekfgemkjeklaa", sum := "25981495cdc8bb2fc99bf596625609f98a4778cc32ddbc25262c199e01cbc266", func := "meddler/meddlerlaw1.NumNone", spec := "numNone", apart := false, narrowed := true }
def NumNoneUptoSaid : Prop := numNoneUptoRow.holds Try.pinned (OpenSpec.upto numNoneSpec)

/-- 'meddlerlaw1.NumOrder', WHERE WHAT IT READS IS OF BULK AT MOST 1048576: true; the input reads as it did. -/
def numOrderUptoRow : OpenClaim := { program := "yteekfgemkjeklaa", sum := "25981495cdc8bb2fc99bf596625609f98a4778cc32ddbc25262c199e01cbc266", func := "meddler/meddlerlaw1.NumOrder", spec := "numOrder", apart := false, narrowed := true }
def NumOrderUptoSaid : Prop := numOrderUptoRow.holds Try.pinned (OpenSpec.upto numOrderSpec)

/-- 'meddlerlaw1.NumTells', WHERE WHAT IT READS IS OF BULK AT MOST 1048576: true; the input reads as it did. -/
def numTellsUptoRow : OpenClaim := { program := "yteekfgemkjeklaa", sum := "25981495cdc8bb2fc99bf596625609f98a4778cc32ddbc25262c199e01cbc266", func := "meddler/meddlerlaw1.NumTells", spec := "numTells", apart := false, narrowed := true }
def NumTellsUptoSaid : Prop := numTellsUptoRow.holds Try.pinned (OpenSpec.upto numTellsSpec)

/-- 'meddlerlaw1.NumRelates', WHERE WHAT IT READS IS OF BULK AT MOST 1048576: true; the input reads as it did. -/
def numRelatesUptoRow : OpenClaim := { program := "yteekfgemkjeklaa", sum := "25981495cdc8bb2fc99bf596625609f98a4778cc32ddbc25262c199e01cbc266", func := "meddler/meddlerlaw1.NumRelates", spec := "numRelates", apart := false, narrowed := true }
def NumRelatesUptoSaid : Prop := numRelatesUptoRow.holds Try.pinned (OpenSpec.upto numRelatesSpec)

end Rows
end Go.Proofs.Yteekfgemkjeklaa
