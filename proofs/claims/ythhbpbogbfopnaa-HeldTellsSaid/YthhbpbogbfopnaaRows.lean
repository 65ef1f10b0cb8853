/-
  No cell of these rows narrows 'for every input' (looked for: loops, veiled, ifaces, maps, wideKeys, modest, calm, conditions, laid).
  DERIVED. THE GIVEN ROWS OF THIS SEAT. 7 by the template 'for every input the law returns true; each argument reads behind the call as it read before'; 0 by the template 'total and deterministic' (their statements: YthhbpbogbfopnaaTotals.lean).
  GIVEN WITH THE SEED: the statements are not yours to turn. If you find one false, say at which input.
  Laid BY PROGRAM, IN A SANDBOX (cutbox-rows.mjs): the forced cells as the released guide's own fill.sh prints them over the translation a9fba4b3203826f6… (all of the seat's roots in one cut). By AI agents, Wed Nov 11 2026. No macro, syntax, notation, axiom, sorry.
-/
import Derived.Test.YthhbpbogbfopnaaChecked
import GoSem.Claim
import GoSem.ClaimJoined
import GoSem.ClaimMapViews
import Derived.JoinedTies
import Derived.KernelRfl
namespace Go.Proofs.Ythhbpbogbfopnaa
/- THE CELL 'sum', in the pinned program and in every row, IS THE sha256 OF THE DUMP (.gsa) THAT YthhbpbogbfopnaaProg.lean LOADS. Nothing in Lean hashes anything: it is a label: what it is worth is what the hold of that sum in a sandbox is worth. -/
noncomputable def Try.pinned : Pinned := { name := "ythhbpbogbfopnaa", sum := "a9fba4b3203826f69bc95fc17ed286dec7cf094b065d337c913a4948bb196e7b", checked := Try.checked }
namespace Rows
def none {H : Type} : Left H := { results := [], args := [] }

/-- 'meddlerlaw3.HeldChanges': WHATEVER THE INPUT: true; the input reads as it did. -/
def heldChangesSpec : ChangeSpec := { name := "heldChanges", fn := fun _ => fun
  | [d1, d2, d3] => { results := [.lit (.bool true)], args := [d1, d2, d3] }
  | _ => none }
def heldChangesRow : OpenClaim := { program := "ythhbpbogbfopnaa", sum := "a9fba4b3203826f69bc95fc17ed286dec7cf094b065d337c913a4948bb196e7b", func := "meddler/meddlerlaw3.HeldChanges", spec := "heldChanges", apart := false }
def HeldChangesSaid : Prop := heldChangesRow.holds Try.pinned (OpenSpec.ofChange heldChangesSpec)

/-- ITS FALSE NEIGHBOUR: 'it returns false'. Refute it at one input. -/
def heldChangesWrong : ChangeSpec := { name := "heldChanges", fn := fun _ => fun
  | [d1, d2, d3] => { results := [.lit (.bool false)], args := [d1, d2, d3] }
  | _ => none }
def HeldChangesWrongFalsely : Prop := heldChangesRow.holds Try.pinned (OpenSpec.ofChange heldChangesWrong)

/-- 'meddlerlaw3.HeldOrder': WHATEVER THE INPUT: true; the input reads as it did. -/
def heldOrderSpec : ChangeSpec := { name := "heldOrder", fn := fun _ => fun
  | [d1, d2, d3] => { results := [.lit (.bool true)], args := [d1, d2, d3] }
  | _ => none }
def heldOrderRow : OpenClaim := { program := "ythhbpbogbfopnaa", sum := "a9fba4b3203826f69bc95fc17ed286dec7cf094b065d337c913a4948bb196e7b", func := "meddler/meddlerlaw3.HeldOrder", spec := "heldOrder", apart := false }
def HeldOrderSaid : Prop := heldOrderRow.holds Try.pinned (OpenSpec.ofChange heldOrderSpec)

/-- ITS FALSE NEIGHBOUR: 'it returns false'. Refute it at one input. -/
def heldOrderWrong : ChangeSpec := { name := "heldOrder", fn := fun _ => fun
  | [d1, d2, d3] => { results := [.lit (.bool false)], args := [d1, d2, d3] }
  | _ => none }
def HeldOrderWrongFalsely : Prop := heldOrderRow.holds Try.pinned (OpenSpec.ofChange heldOrderWrong)

/-- 'meddlerlaw3.HeldBack': WHATEVER THE INPUT: true; the input reads as it did. -/
def heldBackSpec : ChangeSpec := { name := "heldBack", fn := fun _ => fun
  | [d1, d2] => { results := [.lit (.bool true)], args := [d1, d2] }
  | _ => none }
def heldBackRow : OpenClaim := { program := "ythhbpbogbfopnaa", sum := "a9fba4b3203826f69bc95fc17ed286dec7cf094b065d337c913a4948bb196e7b", func := "meddler/meddlerlaw3.HeldBack", spec := "heldBack", apart := false }
def HeldBackSaid : Prop := heldBackRow.holds Try.pinned (OpenSpec.ofChange heldBackSpec)

/-- ITS FALSE NEIGHBOUR: 'it returns false'. Refute it at one input. -/
def heldBackWrong : ChangeSpec := { name := "heldBack", fn := fun _ => fun
  | [d1, d2] => { results := [.lit (.bool false)], args := [d1, d2] }
  | _ => none }
def HeldBackWrongFalsely : Prop := heldBackRow.holds Try.pinned (OpenSpec.ofChange heldBackWrong)

/-- 'meddlerlaw3.HeldOnes': WHATEVER THE INPUT: true; the input reads as it did. -/
def heldOnesSpec : ChangeSpec := { name := "heldOnes", fn := fun _ => fun
  | [d1, d2] => { results := [.lit (.bool true)], args := [d1, d2] }
  | _ => none }
def heldOnesRow : OpenClaim := { program := "ythhbpbogbfopnaa", sum := "a9fba4b3203826f69bc95fc17ed286dec7cf094b065d337c913a4948bb196e7b", func := "meddler/meddlerlaw3.HeldOnes", spec := "heldOnes", apart := false }
def HeldOnesSaid : Prop := heldOnesRow.holds Try.pinned (OpenSpec.ofChange heldOnesSpec)

/-- ITS FALSE NEIGHBOUR: 'it returns false'. Refute it at one input. -/
def heldOnesWrong : ChangeSpec := { name := "heldOnes", fn := fun _ => fun
  | [d1, d2] => { results := [.lit (.bool false)], args := [d1, d2] }
  | _ => none }
def HeldOnesWrongFalsely : Prop := heldOnesRow.holds Try.pinned (OpenSpec.ofChange heldOnesWrong)

/-- 'meddlerlaw3.HeldMany': WHATEVER THE INPUT: true; the input reads as it did. -/
def heldManySpec : ChangeSpec := { name := "heldMany", fn := fun _ => fun
  | [d] => { results := [.lit (.bool true)], args := [d] }
  | _ => none }
def heldManyRow : OpenClaim := { program := "ythhbpbogbfopnaa", sum := "a9fba4b3203826f69bc95fc17ed286dec7cf094b065d337c913a4948bb196e7b", func := "meddler/meddlerlaw3.HeldMany", spec := "heldMany", apart := false }
def HeldManySaid : Prop := heldManyRow.holds Try.pinned (OpenSpec.ofChange heldManySpec)

/-- ITS FALSE NEIGHBOUR: 'it returns false'. Refute it at one input. -/
def heldManyWrong : ChangeSpec := { name := "heldMany", fn := fun _ => fun
  | [d] => { results := [.lit (.bool false)], args := [d] }
  | _ => none }
def HeldManyWrongFalsely : Prop := heldManyRow.holds Try.pinned (OpenSpec.ofChange heldManyWrong)

/-- 'meddlerlaw3.HeldApart': WHATEVER THE INPUT: true; the input reads as it did. -/
def heldApartSpec : ChangeSpec := { name := "heldApart", fn := fun _ => fun
  | [d1, d2] => { results := [.lit (.bool true)], args := [d1, d2] }
  | _ => none }
def heldApartRow : OpenClaim := { program := "ythhbpbogbfopnaa", sum := "a9fba4b3203826f69bc95fc17ed286dec7cf094b065d337c913a4948bb196e7b", func := "meddler/meddlerlaw3.HeldApart", spec := "heldApart", apart := false }
def HeldApartSaid : Prop := heldApartRow.holds Try.pinned (OpenSpec.ofChange heldApartSpec)

/-- ITS FALSE NEIGHBOUR: 'it returns false'. Refute it at one input. -/
def heldApartWrong : ChangeSpec := { name := "heldApart", fn := fun _ => fun
  | [d1, d2] => { results := [.lit (.bool false)], args := [d1, d2] }
  | _ => none }
def HeldApartWrongFalsely : Prop := heldApartRow.holds Try.pinned (OpenSpec.ofChange heldApartWrong)

/-- 'meddlerlaw3.HeldTells': WHATEVER THE INPUT: true; the input reads as it did. -/
def heldTellsSpec : ChangeSpec := { name := "heldTells", fn := fun _ => fun
  | [d1, d2, d3, d4] => { results := [.lit (.bool true)], args := [d1, d2, d3, d4] }
  | _ => none }
def heldTellsRow : OpenClaim := { program := "ythhbpbogbfopnaa", sum := "a9fba4b3203826f69bc95fc17ed286dec7cf094b065d337c913a4948bb196e7b", func := "meddler/meddlerlaw3.HeldTells", spec := "heldTells", apart := false }
def HeldTellsSaid : Prop := heldTellsRow.holds Try.pinned (OpenSpec.ofChange heldTellsSpec)

/-- ITS FALSE NEIGHBOUR: 'it returns false'. Refute it at one input. -/
def heldTellsWrong : ChangeSpec := { name := "heldTells", fn := fun _ => fun
  | [d1, d2, d3, d4] => { results := [.lit (.bool false)], args := [d1, d2, d3, d4] }
  | _ => none }
def HeldTellsWrongFalsely : Prop := heldTellsRow.holds Try.pinned (OpenSpec.ofChange heldTellsWrong)

/- THE SECOND FORM. 'bulk': how many values and letters a reading holds, each counted each time it is reached (what is shared counts as often as it is met; a slice's spare places count too). A statement '..UptoSaid' is the law's where the arguments, and the package variables that the reading takes, are together of bulk at most 1048576: NARROWER than '..Said'. Prove '..Said' where nothing that the law and all that it calls make is longer than what came in: it says more and counts as full. Else prove '..UptoSaid'. A law counts once. -/
mutual
def uptoBulk {H : Type} : DataW H → Nat
  | .lit (.string bytes) => bytes.length + 1
  | .lit _ => 1
  | .nil => 1
  | .ptr d => uptoBulk d + 1
  | .slice elems spare => uptoBulkAll elems + uptoBulkAll spare + 1
  | .agg parts => uptoBulkAll parts + 1
  | .iface _ d => uptoBulk d + 1
  | .map entries => uptoBulkEntries entries + 1
  | .held _ => 1
def uptoBulkAll {H : Type} : List (DataW H) → Nat
  | [] => 0
  | d :: r => uptoBulk d + uptoBulkAll r
def uptoBulkEntries {H : Type} : List (Lit × DataW H) → Nat
  | [] => 0
  | x :: r => uptoBulkEntry x + uptoBulkEntries r
def uptoBulkEntry {H : Type} : Lit × DataW H → Nat
  | (.string bytes, d) => bytes.length + uptoBulk d + 1
  | (_, d) => uptoBulk d + 1
 end
def uptoSmall : (H : Type) → List (DataW H) → Bool := fun _ ds => decide (uptoBulkAll ds ≤ 1048576)
def OpenSpec.upto (s : _root_.Go.ChangeSpec) : _root_.Go.OpenSpec := { _root_.Go.OpenSpec.ofChange s with cond := some uptoSmall }

/-- 'meddlerlaw3.HeldChanges', WHERE WHAT IT READS IS OF BULK AT MOST 1048576: true; the input reads as it did. -/
def heldChangesUptoRow : OpenClaim := { program := "ythhbpbogbfopnaa", sum := "a9fba4b3203826f69bc95fc17ed286dec7cf094b065d337c913a4948bb196e7b", func := "meddler/meddlerlaw3.HeldChanges", spec := "heldChanges", apart := false, narrowed := true }
def HeldChangesUptoSaid : Prop := heldChangesUptoRow.holds Try.pinned (OpenSpec.upto heldChangesSpec)

/-- 'meddlerlaw3.HeldOrder', WHERE WHAT IT READS IS OF BULK AT MOST 1048576: true; the input reads as it did. -/
def heldOrderUptoRow : OpenClaim := { program := "ythhbpbogbfopnaa", sum := "a9fba4b3203826f69bc95fc17ed286dec7cf094b065d337c913a4948bb196e7b", func := "meddler/meddlerlaw3.HeldOrder", spec := "heldOrder", apart := false, narrowed := true }
def HeldOrderUptoSaid : Prop := heldOrderUptoRow.holds Try.pinned (OpenSpec.upto heldOrderSpec)

/-- 'meddlerlaw3.HeldBack', WHERE WHAT IT READS IS OF BULK AT MOST 1048576: true; the input reads as it did. -/
def heldBackUptoRow : OpenClaim := { program := "ythhbpbogbfopnaa", sum := "a9fba4b3203826f69bc95fc17ed286dec7cf094b065d337c913a4948bb196e7b", func := "meddler/meddlerlaw3.HeldBack", spec := "heldBack", apart := false, narrowed := true }
def HeldBackUptoSaid : Prop := heldBackUptoRow.holds Try.pinned (OpenSpec.upto heldBackSpec)

/-- 'meddlerlaw3.HeldOnes', WHERE WHAT IT READS IS OF BULK AT MOST 1048576: true; the input reads as it did. -/
def heldOnesUptoRow : OpenClaim := { program := "ythhbpbogbfopnaa", sum := "a9fba4b3203826f69bc95fc17ed286dec7cf094b065d337c913a4948bb196e7b", func := "meddler/meddlerlaw3.HeldOnes", spec := "heldOnes", apart := false, narrowed := true }
def HeldOnesUptoSaid : Prop := heldOnesUptoRow.holds Try.pinned (OpenSpec.upto heldOnesSpec)

/-- 'meddlerlaw3.HeldMany', WHERE WHAT IT READS IS OF BULK AT MOST 1048576: true; the input reads as it did. -/
def heldManyUptoRow : OpenClaim := { program := "ythhbpbogbfopnaa", sum := "a9fba4b3203826f69bc95fc17ed286dec7cf094b065d337c913a4948bb196e7b", func := "meddler/meddlerlaw3.HeldMany", spec := "heldMany", apart := false, narrowed := true }
def HeldManyUptoSaid : Prop := heldManyUptoRow.holds Try.pinned (OpenSpec.upto heldManySpec)

/-- 'meddlerlaw3.HeldApart', WHERE WHAT IT READS IS OF BULK AT MOST 1048576: true; the input reads as it did. -/
def heldApartUptoRow : OpenClaim := { program := "ythhbpbogbfopnaa", sum := "a9fba4b3203826f69bc95fc17ed286dec7cf094b065d337c913a4948bb196e7b", func := "meddler/meddlerlaw3.HeldApart", spec := "heldApart", apart := false, narrowed := true }
def HeldApartUptoSaid : Prop := heldApartUptoRow.holds Try.pinned (OpenSpec.upto heldApartSpec)

/-- 'meddlerlaw3.HeldTells', WHERE WHAT IT READS IS OF BULK AT MOST 1048576: true; the input reads as it did. -/
def heldTellsUptoRow : OpenClaim := { program := "ythhbpbogbfopnaa", sum := "a9fba4b3203826f69bc95fc17ed286dec7cf094b065d337c913a4948bb196e7b", func := "meddler/meddlerlaw3.HeldTells", spec := "heldTells", apart := false, narrowed := true }
def HeldTellsUptoSaid : Prop := heldTellsUptoRow.holds Try.pinned (OpenSpec.upto heldTellsSpec)

end Rows
end Go.Proofs.Ythhbpbogbfopnaa
