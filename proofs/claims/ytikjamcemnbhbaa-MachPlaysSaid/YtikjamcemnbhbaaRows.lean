/-
  No cell of these rows narrows 'for every input' (looked for: loops, veiled, ifaces, maps, wideKeys, modest, calm, conditions, laid).
  DERIVED. THE GIVEN ROWS OF THIS SEAT. 15 by the template 'for every input the law returns true; each argument reads behind the call as it read before'; 0 by the template 'total and deterministic' (their statements: YtikjamcemnbhbaaTotals.lean).
  GIVEN WITH THE SEED: the statements are not yours to turn. If you find one false, say at which input.
  Laid BY PROGRAM, IN A SANDBOX (cutbox-rows.mjs): the forced cells as the released guide's own fill.sh prints them over the translation db73128f4f2e2ef2… (all of the seat's roots in one cut). By AI agents, Wed Nov 11 2026. No macro, syntax, notation, axiom, sorry.
-/
import Derived.Test.YtikjamcemnbhbaaChecked
import GoSem.Claim
import GoSem.ClaimJoined
import GoSem.ClaimMapViews
import Derived.JoinedTies
import Derived.KernelRfl
namespace Go.Proofs.Ytikjamcemnbhbaa
/- THE CELL 'sum', in the pinned program and in every row, IS THE sha256 OF THE DUMP (.gsa) THAT YtikjamcemnbhbaaProg.lean LOADS. Nothing in Lean hashes anything: it is a label: what it is worth is what the hold of that sum in a sandbox is worth. -/
noncomputable def Try.pinned : Pinned := { name := "ytikjamcemnbhbaa", sum := "db73128f4f2e2ef2ae1b204c80a4195f682ac7d66735881eed3ba85d28afcae1", checked := Try.checked }
namespace Rows
def none {H : Type} : Left H := { results := [], args := [] }

/-- 'meddlerlaw9.MachOwners': WHATEVER THE INPUT: true; the input reads as it did. -/
def machOwnersSpec : ChangeSpec := { name := "machOwners", fn := fun _ => fun
  | [d1, d2] => { results := [.lit (.bool true)], args := [d1, d2] }
  | _ => none }
def machOwnersRow : OpenClaim := { program := "ytikjamcemnbhbaa", sum := "db73128f4f2e2ef2ae1b204c80a4195f682ac7d66735881eed3ba85d28afcae1", func := "meddler/meddlerlaw9.MachOwners", spec := "machOwners", unfollowed := true, recurses := true, apart := false }
def MachOwnersSaid : Prop := machOwnersRow.holds Try.pinned (OpenSpec.ofChange machOwnersSpec)

/-- ITS FALSE NEIGHBOUR: 'it returns false'. Refute it at one input. -/
def machOwnersWrong : ChangeSpec := { name := "machOwners", fn := fun _ => fun
  | [d1, d2] => { results := [.lit (.bool false)], args := [d1, d2] }
  | _ => none }
def MachOwnersWrongFalsely : Prop := machOwnersRow.holds Try.pinned (OpenSpec.ofChange machOwnersWrong)

/-- 'meddlerlaw9.MachApart': WHATEVER THE INPUT: true; the input reads as it did. -/
def machApartSpec : ChangeSpec := { name := "machApart", fn := fun _ => fun
  | [d1, d2] => { results := [.lit (.bool true)], args := [d1, d2] }
  | _ => none }
def machApartRow : OpenClaim := { program := "ytikjamcemnbhbaa", sum := "db73128f4f2e2ef2ae1b204c80a4195f682ac7d66735881eed3ba85d28afcae1", func := "meddler/meddlerlaw9.MachApart", spec := "machApart", unfollowed := true, recurses := true, apart := false }
def MachApartSaid : Prop := machApartRow.holds Try.pinned (OpenSpec.ofChange machApartSpec)

/-- ITS FALSE NEIGHBOUR: 'it returns false'. Refute it at one input. -/
def machApartWrong : ChangeSpec := { name := "machApart", fn := fun _ => fun
  | [d1, d2] => { results := [.lit (.bool false)], args := [d1, d2] }
  | _ => none }
def MachApartWrongFalsely : Prop := machApartRow.holds Try.pinned (OpenSpec.ofChange machApartWrong)

/-- 'meddlerlaw9.MachInputs': WHATEVER THE INPUT: true; the input reads as it did. -/
def machInputsSpec : ChangeSpec := { name := "machInputs", fn := fun _ => fun
  | [d] => { results := [.lit (.bool true)], args := [d] }
  | _ => none }
def machInputsRow : OpenClaim := { program := "ytikjamcemnbhbaa", sum := "db73128f4f2e2ef2ae1b204c80a4195f682ac7d66735881eed3ba85d28afcae1", func := "meddler/meddlerlaw9.MachInputs", spec := "machInputs", unfollowed := true, recurses := true, apart := false }
def MachInputsSaid : Prop := machInputsRow.holds Try.pinned (OpenSpec.ofChange machInputsSpec)

/-- ITS FALSE NEIGHBOUR: 'it returns false'. Refute it at one input. -/
def machInputsWrong : ChangeSpec := { name := "machInputs", fn := fun _ => fun
  | [d] => { results := [.lit (.bool false)], args := [d] }
  | _ => none }
def MachInputsWrongFalsely : Prop := machInputsRow.holds Try.pinned (OpenSpec.ofChange machInputsWrong)

/-- 'meddlerlaw9.MachLocks': WHATEVER THE INPUT: true; the input reads as it did. -/
def machLocksSpec : ChangeSpec := { name := "machLocks", fn := fun _ => fun
  | [d1, d2, d3] => { results := [.lit (.bool true)], args := [d1, d2, d3] }
  | _ => none }
def machLocksRow : OpenClaim := { program := "ytikjamcemnbhbaa", sum := "db73128f4f2e2ef2ae1b204c80a4195f682ac7d66735881eed3ba85d28afcae1", func := "meddler/meddlerlaw9.MachLocks", spec := "machLocks", unfollowed := true, recurses := true, apart := false }
def MachLocksSaid : Prop := machLocksRow.holds Try.pinned (OpenSpec.ofChange machLocksSpec)

/-- ITS FALSE NEIGHBOUR: 'it returns false'. Refute it at one input. -/
def machLocksWrong : ChangeSpec := { name := "machLocks", fn := fun _ => fun
  | [d1, d2, d3] => { results := [.lit (.bool false)], args := [d1, d2, d3] }
  | _ => none }
def MachLocksWrongFalsely : Prop := machLocksRow.holds Try.pinned (OpenSpec.ofChange machLocksWrong)

/-- 'meddlerlaw9.MachFaults': WHATEVER THE INPUT: true; the input reads as it did. -/
def machFaultsSpec : ChangeSpec := { name := "machFaults", fn := fun _ => fun
  | [d1, d2, d3] => { results := [.lit (.bool true)], args := [d1, d2, d3] }
  | _ => none }
def machFaultsRow : OpenClaim := { program := "ytikjamcemnbhbaa", sum := "db73128f4f2e2ef2ae1b204c80a4195f682ac7d66735881eed3ba85d28afcae1", func := "meddler/meddlerlaw9.MachFaults", spec := "machFaults", unfollowed := true, recurses := true, apart := false }
def MachFaultsSaid : Prop := machFaultsRow.holds Try.pinned (OpenSpec.ofChange machFaultsSpec)

/-- ITS FALSE NEIGHBOUR: 'it returns false'. Refute it at one input. -/
def machFaultsWrong : ChangeSpec := { name := "machFaults", fn := fun _ => fun
  | [d1, d2, d3] => { results := [.lit (.bool false)], args := [d1, d2, d3] }
  | _ => none }
def MachFaultsWrongFalsely : Prop := machFaultsRow.holds Try.pinned (OpenSpec.ofChange machFaultsWrong)

/-- 'meddlerlaw9.MachTwice': WHATEVER THE INPUT: true; the input reads as it did. -/
def machTwiceSpec : ChangeSpec := { name := "machTwice", fn := fun _ => fun
  | [d1, d2] => { results := [.lit (.bool true)], args := [d1, d2] }
  | _ => none }
def machTwiceRow : OpenClaim := { program := "ytikjamcemnbhbaa", sum := "db73128f4f2e2ef2ae1b204c80a4195f682ac7d66735881eed3ba85d28afcae1", func := "meddler/meddlerlaw9.MachTwice", spec := "machTwice", unfollowed := true, recurses := true, apart := false }
def MachTwiceSaid : Prop := machTwiceRow.holds Try.pinned (OpenSpec.ofChange machTwiceSpec)

/-- ITS FALSE NEIGHBOUR: 'it returns false'. Refute it at one input. -/
def machTwiceWrong : ChangeSpec := { name := "machTwice", fn := fun _ => fun
  | [d1, d2] => { results := [.lit (.bool false)], args := [d1, d2] }
  | _ => none }
def MachTwiceWrongFalsely : Prop := machTwiceRow.holds Try.pinned (OpenSpec.ofChange machTwiceWrong)

/-- 'meddlerlaw9.MachPlays': WHATEVER THE INPUT: true; the input reads as it did. -/
def machPlaysSpec : ChangeSpec := { name := "machPlays", fn := fun _ => fun
  | [d1, d2] => { results := [.lit (.bool true)], args := [d1, d2] }
  | _ => none }
def machPlaysRow : OpenClaim := { program := "ytikjamcemnbhbaa", sum := "db73128f4f2e2ef2ae1b204c80a4195f682ac7d66735881eed3ba85d28afcae1", func := "meddler/meddlerlaw9.MachPlays", spec := "machPlays", unfollowed := true, recurses := true, apart := false }
def MachPlaysSaid : Prop := machPlaysRow.holds Try.pinned (OpenSpec.ofChange machPlaysSpec)

/-- ITS FALSE NEIGHBOUR: 'it returns false'. Refute it at one input. -/
def machPlaysWrong : ChangeSpec := { name := "machPlays", fn := fun _ => fun
  | [d1, d2] => { results := [.lit (.bool false)], args := [d1, d2] }
  | _ => none }
def MachPlaysWrongFalsely : Prop := machPlaysRow.holds Try.pinned (OpenSpec.ofChange machPlaysWrong)

/-- 'meddlerlaw9.MachStill': WHATEVER THE INPUT: true; the input reads as it did. -/
def machStillSpec : ChangeSpec := { name := "machStill", fn := fun _ => fun
  | [d1, d2] => { results := [.lit (.bool true)], args := [d1, d2] }
  | _ => none }
def machStillRow : OpenClaim := { program := "ytikjamcemnbhbaa", sum := "db73128f4f2e2ef2ae1b204c80a4195f682ac7d66735881eed3ba85d28afcae1", func := "meddler/meddlerlaw9.MachStill", spec := "machStill", unfollowed := true, recurses := true, apart := false }
def MachStillSaid : Prop := machStillRow.holds Try.pinned (OpenSpec.ofChange machStillSpec)

/-- ITS FALSE NEIGHBOUR: 'it returns false'. Refute it at one input. -/
def machStillWrong : ChangeSpec := { name := "machStill", fn := fun _ => fun
  | [d1, d2] => { results := [.lit (.bool false)], args := [d1, d2] }
  | _ => none }
def MachStillWrongFalsely : Prop := machStillRow.holds Try.pinned (OpenSpec.ofChange machStillWrong)

/-- 'meddlerlaw9.MachOfNothing': WHATEVER THE INPUT: true; the input reads as it did. -/
def machOfNothingSpec : ChangeSpec := { name := "machOfNothing", fn := fun _ => fun
  | [d1, d2] => { results := [.lit (.bool true)], args := [d1, d2] }
  | _ => none }
def machOfNothingRow : OpenClaim := { program := "ytikjamcemnbhbaa", sum := "db73128f4f2e2ef2ae1b204c80a4195f682ac7d66735881eed3ba85d28afcae1", func := "meddler/meddlerlaw9.MachOfNothing", spec := "machOfNothing", unfollowed := true, recurses := true, apart := false }
def MachOfNothingSaid : Prop := machOfNothingRow.holds Try.pinned (OpenSpec.ofChange machOfNothingSpec)

/-- ITS FALSE NEIGHBOUR: 'it returns false'. Refute it at one input. -/
def machOfNothingWrong : ChangeSpec := { name := "machOfNothing", fn := fun _ => fun
  | [d1, d2] => { results := [.lit (.bool false)], args := [d1, d2] }
  | _ => none }
def MachOfNothingWrongFalsely : Prop := machOfNothingRow.holds Try.pinned (OpenSpec.ofChange machOfNothingWrong)

/-- 'meddlerlaw10.RaceKinds': WHATEVER THE INPUT: true; the input reads as it did. -/
def raceKindsSpec : ChangeSpec := { name := "raceKinds", fn := fun _ => fun
  | [d1, d2, d3, d4] => { results := [.lit (.bool true)], args := [d1, d2, d3, d4] }
  | _ => none }
def raceKindsRow : OpenClaim := { program := "ytikjamcemnbhbaa", sum := "db73128f4f2e2ef2ae1b204c80a4195f682ac7d66735881eed3ba85d28afcae1", func := "meddler/meddlerlaw10.RaceKinds", spec := "raceKinds", unfollowed := true, recurses := true, apart := false }
def RaceKindsSaid : Prop := raceKindsRow.holds Try.pinned (OpenSpec.ofChange raceKindsSpec)

/-- ITS FALSE NEIGHBOUR: 'it returns false'. Refute it at one input. -/
def raceKindsWrong : ChangeSpec := { name := "raceKinds", fn := fun _ => fun
  | [d1, d2, d3, d4] => { results := [.lit (.bool false)], args := [d1, d2, d3, d4] }
  | _ => none }
def RaceKindsWrongFalsely : Prop := raceKindsRow.holds Try.pinned (OpenSpec.ofChange raceKindsWrong)

/-- 'meddlerlaw10.RaceOfNothing': WHATEVER THE INPUT: true; the input reads as it did. -/
def raceOfNothingSpec : ChangeSpec := { name := "raceOfNothing", fn := fun _ => fun
  | [d] => { results := [.lit (.bool true)], args := [d] }
  | _ => none }
def raceOfNothingRow : OpenClaim := { program := "ytikjamcemnbhbaa", sum := "db73128f4f2e2ef2ae1b204c80a4195f682ac7d66735881eed3ba85d28afcae1", func := "meddler/meddlerlaw10.RaceOfNothing", spec := "raceOfNothing", unfollowed := true, recurses := true, apart := false }
def RaceOfNothingSaid : Prop := raceOfNothingRow.holds Try.pinned (OpenSpec.ofChange raceOfNothingSpec)

/-- ITS FALSE NEIGHBOUR: 'it returns false'. Refute it at one input. -/
def raceOfNothingWrong : ChangeSpec := { name := "raceOfNothing", fn := fun _ => fun
  | [d] => { results := [.lit (.bool false)], args := [d] }
  | _ => none }
def RaceOfNothingWrongFalsely : Prop := raceOfNothingRow.holds Try.pinned (OpenSpec.ofChange raceOfNothingWrong)

/-- 'meddlerlaw10.RaceTells': WHATEVER THE INPUT: true; the input reads as it did. -/
def raceTellsSpec : ChangeSpec := { name := "raceTells", fn := fun _ => fun
  | [d1, d2, d3] => { results := [.lit (.bool true)], args := [d1, d2, d3] }
  | _ => none }
def raceTellsRow : OpenClaim := { program := "ytikjamcemnbhbaa", sum := "db73128f4f2e2ef2ae1b204c80a4195f682ac7d66735881eed3ba85d28afcae1", func := "meddler/meddlerlaw10.RaceTells", spec := "raceTells", unfollowed := true, recurses := true, apart := false }
def RaceTellsSaid : Prop := raceTellsRow.holds Try.pinned (OpenSpec.ofChange raceTellsSpec)

/-- ITS FALSE NEIGHBOUR: 'it returns false'. Refute it at one input. -/
def raceTellsWrong : ChangeSpec := { name := "raceTells", fn := fun _ => fun
  | [d1, d2, d3] => { results := [.lit (.bool false)], args := [d1, d2, d3] }
  | _ => none }
def RaceTellsWrongFalsely : Prop := raceTellsRow.holds Try.pinned (OpenSpec.ofChange raceTellsWrong)

/-- 'meddlerlaw10.RaceIndices': WHATEVER THE INPUT: true; the input reads as it did. -/
def raceIndicesSpec : ChangeSpec := { name := "raceIndices", fn := fun _ => fun
  | [d1, d2, d3] => { results := [.lit (.bool true)], args := [d1, d2, d3] }
  | _ => none }
def raceIndicesRow : OpenClaim := { program := "ytikjamcemnbhbaa", sum := "db73128f4f2e2ef2ae1b204c80a4195f682ac7d66735881eed3ba85d28afcae1", func := "meddler/meddlerlaw10.RaceIndices", spec := "raceIndices", unfollowed := true, recurses := true, apart := false }
def RaceIndicesSaid : Prop := raceIndicesRow.holds Try.pinned (OpenSpec.ofChange raceIndicesSpec)

/-- ITS FALSE NEIGHBOUR: 'it returns false'. Refute it at one input. -/
def raceIndicesWrong : ChangeSpec := { name := "raceIndices", fn := fun _ => fun
  | [d1, d2, d3] => { results := [.lit (.bool false)], args := [d1, d2, d3] }
  | _ => none }
def RaceIndicesWrongFalsely : Prop := raceIndicesRow.holds Try.pinned (OpenSpec.ofChange raceIndicesWrong)

/-- 'meddlerlaw10.RaceBound': WHATEVER THE INPUT: true; the input reads as it did. -/
def raceBoundSpec : ChangeSpec := { name := "raceBound", fn := fun _ => fun
  | [d1, d2, d3] => { results := [.lit (.bool true)], args := [d1, d2, d3] }
  | _ => none }
def raceBoundRow : OpenClaim := { program := "ytikjamcemnbhbaa", sum := "db73128f4f2e2ef2ae1b204c80a4195f682ac7d66735881eed3ba85d28afcae1", func := "meddler/meddlerlaw10.RaceBound", spec := "raceBound", unfollowed := true, recurses := true, apart := false }
def RaceBoundSaid : Prop := raceBoundRow.holds Try.pinned (OpenSpec.ofChange raceBoundSpec)

/-- ITS FALSE NEIGHBOUR: 'it returns false'. Refute it at one input. -/
def raceBoundWrong : ChangeSpec := { name := "raceBound", fn := fun _ => fun
  | [d1, d2, d3] => { results := [.lit (.bool false)], args := [d1, d2, d3] }
  | _ => none }
def RaceBoundWrongFalsely : Prop := raceBoundRow.holds Try.pinned (OpenSpec.ofChange raceBoundWrong)

/-- 'meddlerlaw10.RaceGuarded': WHATEVER THE INPUT: true; the input reads as it did. -/
def raceGuardedSpec : ChangeSpec := { name := "raceGuarded", fn := fun _ => fun
  | [d1, d2] => { results := [.lit (.bool true)], args := [d1, d2] }
  | _ => none }
def raceGuardedRow : OpenClaim := { program := "ytikjamcemnbhbaa", sum := "db73128f4f2e2ef2ae1b204c80a4195f682ac7d66735881eed3ba85d28afcae1", func := "meddler/meddlerlaw10.RaceGuarded", spec := "raceGuarded", unfollowed := true, recurses := true, apart := false }
def RaceGuardedSaid : Prop := raceGuardedRow.holds Try.pinned (OpenSpec.ofChange raceGuardedSpec)

/-- ITS FALSE NEIGHBOUR: 'it returns false'. Refute it at one input. -/
def raceGuardedWrong : ChangeSpec := { name := "raceGuarded", fn := fun _ => fun
  | [d1, d2] => { results := [.lit (.bool false)], args := [d1, d2] }
  | _ => none }
def RaceGuardedWrongFalsely : Prop := raceGuardedRow.holds Try.pinned (OpenSpec.ofChange raceGuardedWrong)

/- THE SECOND FORM. 'bulk': how many values and letters a reading holds, each counted each time it is reached (what is shared counts as often as it is met; a slice's spare places count too). A statement '..UptoSaid' is the law's where the arguments, and the package variables that the reading takes, are together of bulk at most 1048576: NARROWER than '..Said'. Prove '..Said' where nothing that the law and all that it calls make is longer than what came in: it says more and counts as full. Else prove '..UptoSaid'. A law counts once. -/
mutual
def uptoBulk {H : Type} : DataW H → Nat
  | .lit (.string bytes) => bytes.length + 1
  | .lit _ => 1
  | .nil => 1
  | .ptr d => uptoBulk d + 1
  | .slice elems spare => uptoBulkAll elems + uptoBulkAll spare + 1
  | .agg parts => uptoBulkAll parts + 1
  | .iface _ d => uptoBulk d + 1
  | .map entries => uptoBulkEntries entries + 1
  | .held _ => 1
def uptoBulkAll {H : Type} : List (DataW H) → Nat
  | [] => 0
  | d :: r => uptoBulk d + uptoBulkAll r
def uptoBulkEntries {H : Type} : List (Lit × DataW H) → Nat
  | [] => 0
  | x :: r => uptoBulkEntry x + uptoBulkEntries r
def uptoBulkEntry {H : Type} : Lit × DataW H → Nat
  | (.string bytes, d) => bytes.length + uptoBulk d + 1
  | (_, d) => uptoBulk d + 1
 end
def uptoSmall : (H : Type) → List (DataW H) → Bool := fun _ ds => decide (uptoBulkAll ds ≤ 1048576)
def OpenSpec.upto (s : _root_.Go.ChangeSpec) : _root_.Go.OpenSpec := { _root_.Go.OpenSpec.ofChange s with cond := some uptoSmall }

/-- 'meddlerlaw9.MachOwners', WHERE WHAT IT READS IS OF BULK AT MOST 1048576: true; the input reads as it did. -/
def machOwnersUptoRow : OpenClaim := { program := "ytikjamcemnbhbaa", sum := "db73128f4f2e2ef2ae1b204c80a4195f682ac7d66735881eed3ba85d28afcae1", func := "meddler/meddlerlaw9.MachOwners", spec := "machOwners", unfollowed := true, recurses := true, apart := false, narrowed := true }
def MachOwnersUptoSaid : Prop := machOwnersUptoRow.holds Try.pinned (OpenSpec.upto machOwnersSpec)

/-- 'meddlerlaw9.MachApart', WHERE WHAT IT READS IS OF BULK AT MOST 1048576: true; the input reads as it did. -/
def machApartUptoRow : OpenClaim := { program := "ytikjamcemnbhbaa", sum := "db73128f4f2e2ef2ae1b204c80a4195f682ac7d66735881eed3ba85d28afcae1", func := "meddler/meddlerlaw9.MachApart", spec := "machApart", unfollowed := true, recurses := true, apart := false, narrowed := true }
def MachApartUptoSaid : Prop := machApartUptoRow.holds Try.pinned (OpenSpec.upto machApartSpec)

/-- 'meddlerlaw9.MachInputs', WHERE WHAT IT READS IS OF BULK AT MOST 1048576: true; the input reads as it did. -/
def machInputsUptoRow : OpenClaim := { program := "ytikjamcemnbhbaa", sum := "db73128f4f2e2ef2ae1b204c80a4195f682ac7d66735881eed3ba85d28afcae1", func := "meddler/meddlerlaw9.MachInputs", spec := "machInputs", unfollowed := true, recurses := true, apart := false, narrowed := true }
def MachInputsUptoSaid : Prop := machInputsUptoRow.holds Try.pinned (OpenSpec.upto machInputsSpec)

/-- 'meddlerlaw9.MachLocks', WHERE WHAT IT READS IS OF BULK AT MOST 1048576: true; the input reads as it did. -/
def machLocksUptoRow : OpenClaim := { program := "ytikjamcemnbhbaa", sum := "db73128f4f2e2ef2ae1b204c80a4195f682ac7d66735881eed3ba85d28afcae1", func := "meddler/meddlerlaw9.MachLocks", spec := "machLocks", unfollowed := true, recurses := true, apart := false, narrowed := true }
def MachLocksUptoSaid : Prop := machLocksUptoRow.holds Try.pinned (OpenSpec.upto machLocksSpec)

/-- 'meddlerlaw9.MachFaults', WHERE WHAT IT READS IS OF BULK AT MOST 1048576: true; the input reads as it did. -/
def machFaultsUptoRow : OpenClaim := { program := "ytikjamcemnbhbaa", sum := "db73128f4f2e2ef2ae1b204c80a4195f682ac7d66735881eed3ba85d28afcae1", func := "meddler/meddlerlaw9.MachFaults", spec := "machFaults", unfollowed := true, recurses := true, apart := false, narrowed := true }
def MachFaultsUptoSaid : Prop := machFaultsUptoRow.holds Try.pinned (OpenSpec.upto machFaultsSpec)

/-- 'meddlerlaw9.MachTwice', WHERE WHAT IT READS IS OF BULK AT MOST 1048576: true; the input reads as it did. -/
def machTwiceUptoRow : OpenClaim := { program := "ytikjamcemnbhbaa", sum := "db73128f4f2e2ef2ae1b204c80a4195f682ac7d66735881eed3ba85d28afcae1", func := "meddler/meddlerlaw9.MachTwice", spec := "machTwice", unfollowed := true, recurses := true, apart := false, narrowed := true }
def MachTwiceUptoSaid : Prop := machTwiceUptoRow.holds Try.pinned (OpenSpec.upto machTwiceSpec)

/-- 'meddlerlaw9.MachPlays', WHERE WHAT IT READS IS OF BULK AT MOST 1048576: true; the input reads as it did. -/
def machPlaysUptoRow : OpenClaim := { program := "ytikjamcemnbhbaa", sum := "db73128f4f2e2ef2ae1b204c80a4195f682ac7d66735881eed3ba85d28afcae1", func := "meddler/meddlerlaw9.MachPlays", spec := "machPlays", unfollowed := true, recurses := true, apart := false, narrowed := true }
def MachPlaysUptoSaid : Prop := machPlaysUptoRow.holds Try.pinned (OpenSpec.upto machPlaysSpec)

/-- 'meddlerlaw9.MachStill', WHERE WHAT IT READS IS OF BULK AT MOST 1048576: true; the input reads as it did. -/
def machStillUptoRow : OpenClaim := { program := "ytikjamcemnbhbaa", sum := "db73128f4f2e2ef2ae1b204c80a4195f682ac7d66735881eed3ba85d28afcae1", func := "meddler/meddlerlaw9.MachStill", spec := "machStill", unfollowed := true, recurses := true, apart := false, narrowed := true }
def MachStillUptoSaid : Prop := machStillUptoRow.holds Try.pinned (OpenSpec.upto machStillSpec)

/-- 'meddlerlaw9.MachOfNothing', WHERE WHAT IT READS IS OF BULK AT MOST 1048576: true; the input reads as it did. -/
def machOfNothingUptoRow : OpenClaim := { program := "ytikjamcemnbhbaa", sum := "db73128f4f2e2ef2ae1b204c80a4195f682ac7d66735881eed3ba85d28afcae1", func := "meddler/meddlerlaw9.MachOfNothing", spec := "machOfNothing", unfollowed := true, recurses := true, apart := false, narrowed := true }
def MachOfNothingUptoSaid : Prop := machOfNothingUptoRow.holds Try.pinned (OpenSpec.upto machOfNothingSpec)

/-- 'meddlerlaw10.RaceKinds', WHERE WHAT IT READS IS OF BULK AT MOST 1048576: true; the input reads as it did. -/
def raceKindsUptoRow : OpenClaim := { program := "ytikjamcemnbhbaa", sum := "db73128f4f2e2ef2ae1b204c80a4195f682ac7d66735881eed3ba85d28afcae1", func := "meddler/meddlerlaw10.RaceKinds", spec := "raceKinds", unfollowed := true, recurses := true, apart := false, narrowed := true }
def RaceKindsUptoSaid : Prop := raceKindsUptoRow.holds Try.pinned (OpenSpec.upto raceKindsSpec)

/-- 'meddlerlaw10.RaceOfNothing', WHERE WHAT IT READS IS OF BULK AT MOST 1048576: true; the input reads as it did. -/
def raceOfNothingUptoRow : OpenClaim := { program := "ytikjamcemnbhbaa", sum := "db73128f4f2e2ef2ae1b204c80a4195f682ac7d66735881eed3ba85d28afcae1", func := "meddler/meddlerlaw10.RaceOfNothing", spec := "raceOfNothing", unfollowed := true, recurses := true, apart := false, narrowed := true }
def RaceOfNothingUptoSaid : Prop := raceOfNothingUptoRow.holds Try.pinned (OpenSpec.upto raceOfNothingSpec)

/-- 'meddlerlaw10.RaceTells', WHERE WHAT IT READS IS OF BULK AT MOST 1048576: true; the input reads as it did. -/
def raceTellsUptoRow : OpenClaim := { program := "ytikjamcemnbhbaa", sum := "db73128f4f2e2ef2ae1b204c80a4195f682ac7d66735881eed3ba85d28afcae1", func := "meddler/meddlerlaw10.RaceTells", spec := "raceTells", unfollowed := true, recurses := true, apart := false, narrowed := true }
def RaceTellsUptoSaid : Prop := raceTellsUptoRow.holds Try.pinned (OpenSpec.upto raceTellsSpec)

/-- 'meddlerlaw10.RaceIndices', WHERE WHAT IT READS IS OF BULK AT MOST 1048576: true; the input reads as it did. -/
def raceIndicesUptoRow : OpenClaim := { program := "ytikjamcemnbhbaa", sum := "db73128f4f2e2ef2ae1b204c80a4195f682ac7d66735881eed3ba85d28afcae1", func := "meddler/meddlerlaw10.RaceIndices", spec := "raceIndices", unfollowed := true, recurses := true, apart := false, narrowed := true }
def RaceIndicesUptoSaid : Prop := raceIndicesUptoRow.holds Try.pinned (OpenSpec.upto raceIndicesSpec)

/-- 'meddlerlaw10.RaceBound', WHERE WHAT IT READS IS OF BULK AT MOST 1048576: true; the input reads as it did. -/
def raceBoundUptoRow : OpenClaim := { program := "ytikjamcemnbhbaa", sum := "db73128f4f2e2ef2ae1b204c80a4195f682ac7d66735881eed3ba85d28afcae1", func := "meddler/meddlerlaw10.RaceBound", spec := "raceBound", unfollowed := true, recurses := true, apart := false, narrowed := true }
def RaceBoundUptoSaid : Prop := raceBoundUptoRow.holds Try.pinned (OpenSpec.upto raceBoundSpec)

/-- 'meddlerlaw10.RaceGuarded', WHERE WHAT IT READS IS OF BULK AT MOST 1048576: true; the input reads as it did. -/
def raceGuardedUptoRow : OpenClaim := { program := "ytikjamcemnbhbaa", sum := "db73128f4f2e2ef2ae1b204c80a4195f682ac7d66735881eed3ba85d28afcae1", func := "meddler/meddlerlaw10.RaceGuarded", spec := "raceGuarded", unfollowed := true, recurses := true, apart := false, narrowed := true }
def RaceGuardedUptoSaid : Prop := raceGuardedUptoRow.holds Try.pinned (OpenSpec.upto raceGuardedSpec)

end Rows
end Go.Proofs.Ytikjamcemnbhbaa
