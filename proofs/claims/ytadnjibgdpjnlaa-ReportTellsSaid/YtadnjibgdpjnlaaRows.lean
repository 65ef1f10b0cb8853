/-
  No cell of these rows narrows 'for every input' (looked for: loops, veiled, ifaces, maps, wideKeys, modest, calm, conditions, laid).
  DERIVED. THE GIVEN ROWS OF THIS SEAT. 9 by the template 'for every input the law returns true; each argument reads behind the call as it read before'; 0 by the template 'total and deterministic' (their statements: YtadnjibgdpjnlaaTotals.lean).
  GIVEN WITH THE SEED: the statements are not yours to turn. If you find one false, say at which input.
  Laid BY PROGRAM, IN A SANDBOX (cutbox-rows.mjs): the forced cells as the released guide's own fill.sh prints them over the translation 914297d2a531cb03… (all of the seat's roots in one cut). By AI agents, Wed Nov 11 2026. No macro, syntax, notation, axiom, sorry.
-/
import Derived.Test.YtadnjibgdpjnlaaChecked
import GoSem.Claim
import GoSem.ClaimJoined
import GoSem.ClaimMapViews
import Derived.JoinedTies
import Derived.KernelRfl
namespace Go.Proofs.Ytadnjibgdpjnlaa
/- THE CELL 'sum', in the pinned program and in every row, IS THE sha256 OF THE DUMP (.gsa) THAT YtadnjibgdpjnlaaProg.lean LOADS. Nothing in Lean hashes anything: it is a label: what it is worth is what the hold of that sum in a sandbox is worth. -/
noncomputable def Try.pinned : Pinned := { name := "ytadnjibgdpjnlaa", sum := "914297d2a531cb0349e0b8966b4dda0d1801668aa0bcfdc34c3be87f863b8924", checked := Try.checked }
namespace Rows
def none {H : Type} : Left H := { results := [], args := [] }

/-- 'meddlerlaw17.ReportSays': WHATEVER THE INPUT: true; the input reads as it did. -/
def reportSaysSpec : ChangeSpec := { name := "reportSays", fn := fun _ => fun
  | [d1, d2, d3, d4] => { results := [.lit (.bool true)], args := [d1, d2, d3, d4] }
  | _ => none }
def reportSaysRow : OpenClaim := { program := "ytadnjibgdpjnlaa", sum := "914297d2a531cb0349e0b8966b4dda0d1801668aa0bcfdc34c3be87f863b8924", func := "meddler/meddlerlaw17.ReportSays", spec := "reportSays", unfollowed := true, recurses := true, apart := false }
def ReportSaysSaid : Prop := reportSaysRow.holds Try.pinned (OpenSpec.ofChange reportSaysSpec)

/-- ITS FALSE NEIGHBOUR: 'it returns false'. Refute it at one input. -/
def reportSaysWrong : ChangeSpec := { name := "reportSays", fn := fun _ => fun
  | [d1, d2, d3, d4] => { results := [.lit (.bool false)], args := [d1, d2, d3, d4] }
  | _ => none }
def ReportSaysWrongFalsely : Prop := reportSaysRow.holds Try.pinned (OpenSpec.ofChange reportSaysWrong)

/-- 'meddlerlaw17.ReportTwice': WHATEVER THE INPUT: true; the input reads as it did. -/
def reportTwiceSpec : ChangeSpec := { name := "reportTwice", fn := fun _ => fun
  | [d1, d2] => { results := [.lit (.bool true)], args := [d1, d2] }
  | _ => none }
def reportTwiceRow : OpenClaim := { program := "ytadnjibgdpjnlaa", sum := "914297d2a531cb0349e0b8966b4dda0d1801668aa0bcfdc34c3be87f863b8924", func := "meddler/meddlerlaw17.ReportTwice", spec := "reportTwice", unfollowed := true, recurses := true, apart := false }
def ReportTwiceSaid : Prop := reportTwiceRow.holds Try.pinned (OpenSpec.ofChange reportTwiceSpec)

/-- ITS FALSE NEIGHBOUR: 'it returns false'. Refute it at one input. -/
def reportTwiceWrong : ChangeSpec := { name := "reportTwice", fn := fun _ => fun
  | [d1, d2] => { results := [.lit (.bool false)], args := [d1, d2] }
  | _ => none }
def ReportTwiceWrongFalsely : Prop := reportTwiceRow.holds Try.pinned (OpenSpec.ofChange reportTwiceWrong)

/-- 'meddlerlaw17.ReportSorts': WHATEVER THE INPUT: true; the input reads as it did. -/
def reportSortsSpec : ChangeSpec := { name := "reportSorts", fn := fun _ => fun
  | [d] => { results := [.lit (.bool true)], args := [d] }
  | _ => none }
def reportSortsRow : OpenClaim := { program := "ytadnjibgdpjnlaa", sum := "914297d2a531cb0349e0b8966b4dda0d1801668aa0bcfdc34c3be87f863b8924", func := "meddler/meddlerlaw17.ReportSorts", spec := "reportSorts", unfollowed := true, recurses := true, apart := false }
def ReportSortsSaid : Prop := reportSortsRow.holds Try.pinned (OpenSpec.ofChange reportSortsSpec)

/-- ITS FALSE NEIGHBOUR: 'it returns false'. Refute it at one input. -/
def reportSortsWrong : ChangeSpec := { name := "reportSorts", fn := fun _ => fun
  | [d] => { results := [.lit (.bool false)], args := [d] }
  | _ => none }
def ReportSortsWrongFalsely : Prop := reportSortsRow.holds Try.pinned (OpenSpec.ofChange reportSortsWrong)

/-- 'meddlerlaw17.ReportTells': WHATEVER THE INPUT: true; the input reads as it did. -/
def reportTellsSpec : ChangeSpec := { name := "reportTells", fn := fun _ => fun
  | [d1, d2, d3] => { results := [.lit (.bool true)], args := [d1, d2, d3] }
  | _ => none }
def reportTellsRow : OpenClaim := { program := "ytadnjibgdpjnlaa", sum := "914297d2a531cb0349e0b8966b4dda0d1801668aa0bcfdc34c3be87f863b8924", func := "meddler/meddlerlaw17.ReportTells", spec := "reportTells", unfollowed := true, recurses := true, apart := false }
def ReportTellsSaid : Prop := reportTellsRow.holds Try.pinned (OpenSpec.ofChange reportTellsSpec)

/-- ITS FALSE NEIGHBOUR: 'it returns false'. Refute it at one input. -/
def reportTellsWrong : ChangeSpec := { name := "reportTells", fn := fun _ => fun
  | [d1, d2, d3] => { results := [.lit (.bool false)], args := [d1, d2, d3] }
  | _ => none }
def ReportTellsWrongFalsely : Prop := reportTellsRow.holds Try.pinned (OpenSpec.ofChange reportTellsWrong)

/-- 'meddlerlaw15.ClashTells': WHATEVER THE INPUT: true; the input reads as it did. -/
def clashTellsSpec : ChangeSpec := { name := "clashTells", fn := fun _ => fun
  | [d] => { results := [.lit (.bool true)], args := [d] }
  | _ => none }
def clashTellsRow : OpenClaim := { program := "ytadnjibgdpjnlaa", sum := "914297d2a531cb0349e0b8966b4dda0d1801668aa0bcfdc34c3be87f863b8924", func := "meddler/meddlerlaw15.ClashTells", spec := "clashTells", unfollowed := true, recurses := true, apart := false }
def ClashTellsSaid : Prop := clashTellsRow.holds Try.pinned (OpenSpec.ofChange clashTellsSpec)

/-- ITS FALSE NEIGHBOUR: 'it returns false'. Refute it at one input. -/
def clashTellsWrong : ChangeSpec := { name := "clashTells", fn := fun _ => fun
  | [d] => { results := [.lit (.bool false)], args := [d] }
  | _ => none }
def ClashTellsWrongFalsely : Prop := clashTellsRow.holds Try.pinned (OpenSpec.ofChange clashTellsWrong)

/-- 'meddlerlaw15.ClashEither': WHATEVER THE INPUT: true; the input reads as it did. -/
def clashEitherSpec : ChangeSpec := { name := "clashEither", fn := fun _ => fun
  | [d1, d2] => { results := [.lit (.bool true)], args := [d1, d2] }
  | _ => none }
def clashEitherRow : OpenClaim := { program := "ytadnjibgdpjnlaa", sum := "914297d2a531cb0349e0b8966b4dda0d1801668aa0bcfdc34c3be87f863b8924", func := "meddler/meddlerlaw15.ClashEither", spec := "clashEither", unfollowed := true, recurses := true, apart := false }
def ClashEitherSaid : Prop := clashEitherRow.holds Try.pinned (OpenSpec.ofChange clashEitherSpec)

/-- ITS FALSE NEIGHBOUR: 'it returns false'. Refute it at one input. -/
def clashEitherWrong : ChangeSpec := { name := "clashEither", fn := fun _ => fun
  | [d1, d2] => { results := [.lit (.bool false)], args := [d1, d2] }
  | _ => none }
def ClashEitherWrongFalsely : Prop := clashEitherRow.holds Try.pinned (OpenSpec.ofChange clashEitherWrong)

/-- 'meddlerlaw15.ClashOrder': WHATEVER THE INPUT: true; the input reads as it did. -/
def clashOrderSpec : ChangeSpec := { name := "clashOrder", fn := fun _ => fun
  | [d1, d2] => { results := [.lit (.bool true)], args := [d1, d2] }
  | _ => none }
def clashOrderRow : OpenClaim := { program := "ytadnjibgdpjnlaa", sum := "914297d2a531cb0349e0b8966b4dda0d1801668aa0bcfdc34c3be87f863b8924", func := "meddler/meddlerlaw15.ClashOrder", spec := "clashOrder", unfollowed := true, recurses := true, apart := false }
def ClashOrderSaid : Prop := clashOrderRow.holds Try.pinned (OpenSpec.ofChange clashOrderSpec)

/-- ITS FALSE NEIGHBOUR: 'it returns false'. Refute it at one input. -/
def clashOrderWrong : ChangeSpec := { name := "clashOrder", fn := fun _ => fun
  | [d1, d2] => { results := [.lit (.bool false)], args := [d1, d2] }
  | _ => none }
def ClashOrderWrongFalsely : Prop := clashOrderRow.holds Try.pinned (OpenSpec.ofChange clashOrderWrong)

/-- 'meddlerlaw15.ClashMore': WHATEVER THE INPUT: true; the input reads as it did. -/
def clashMoreSpec : ChangeSpec := { name := "clashMore", fn := fun _ => fun
  | [d1, d2] => { results := [.lit (.bool true)], args := [d1, d2] }
  | _ => none }
def clashMoreRow : OpenClaim := { program := "ytadnjibgdpjnlaa", sum := "914297d2a531cb0349e0b8966b4dda0d1801668aa0bcfdc34c3be87f863b8924", func := "meddler/meddlerlaw15.ClashMore", spec := "clashMore", unfollowed := true, recurses := true, apart := false }
def ClashMoreSaid : Prop := clashMoreRow.holds Try.pinned (OpenSpec.ofChange clashMoreSpec)

/-- ITS FALSE NEIGHBOUR: 'it returns false'. Refute it at one input. -/
def clashMoreWrong : ChangeSpec := { name := "clashMore", fn := fun _ => fun
  | [d1, d2] => { results := [.lit (.bool false)], args := [d1, d2] }
  | _ => none }
def ClashMoreWrongFalsely : Prop := clashMoreRow.holds Try.pinned (OpenSpec.ofChange clashMoreWrong)

/-- 'meddlerlaw15.ClashGuards': WHATEVER THE INPUT: true; the input reads as it did. -/
def clashGuardsSpec : ChangeSpec := { name := "clashGuards", fn := fun _ => fun
  | [d1, d2, d3] => { results := [.lit (.bool true)], args := [d1, d2, d3] }
  | _ => none }
def clashGuardsRow : OpenClaim := { program := "ytadnjibgdpjnlaa", sum := "914297d2a531cb0349e0b8966b4dda0d1801668aa0bcfdc34c3be87f863b8924", func := "meddler/meddlerlaw15.ClashGuards", spec := "clashGuards", unfollowed := true, recurses := true, apart := false }
def ClashGuardsSaid : Prop := clashGuardsRow.holds Try.pinned (OpenSpec.ofChange clashGuardsSpec)

/-- ITS FALSE NEIGHBOUR: 'it returns false'. Refute it at one input. -/
def clashGuardsWrong : ChangeSpec := { name := "clashGuards", fn := fun _ => fun
  | [d1, d2, d3] => { results := [.lit (.bool false)], args := [d1, d2, d3] }
  | _ => none }
def ClashGuardsWrongFalsely : Prop := clashGuardsRow.holds Try.pinned (OpenSpec.ofChange clashGuardsWrong)

/- THE SECOND FORM. 'bulk': how many values and letters a reading holds, each counted each time it is reached (what is shared counts as often as it is met; a slice's spare places count too). A statement '..UptoSaid' is the law's where the arguments, and the package variables that the reading takes, are together of bulk at most 1048576: NARROWER than '..Said'. Prove '..Said' where nothing that the law and all that it calls make is longer than what came in: it says more and counts as full. Else prove '..UptoSaid'. A law counts once. -/
mutual
def uptoBulk {H : Type} : DataW H → Nat
  | .lit (.string bytes) => bytes.length + 1
  | .lit _ => 1
  | .nil => 1
  | .ptr d => uptoBulk d + 1
  | .slice elems spare => uptoBulkAll elems + uptoBulkAll spare + 1
  | .agg parts => uptoBulkAll parts + 1
  | .iface _ d => uptoBulk d + 1
  | .map entries => uptoBulkEntries entries + 1
  | .held _ => 1
def uptoBulkAll {H : Type} : List (DataW H) → Nat
  | [] => 0
  | d :: r => uptoBulk d + uptoBulkAll r
def uptoBulkEntries {H : Type} : List (Lit × DataW H) → Nat
  | [] => 0
  | x :: r => uptoBulkEntry x + uptoBulkEntries r
def uptoBulkEntry {H : Type} : Lit × DataW H → Nat
  | (.string bytes, d) => bytes.length + uptoBulk d + 1
  | (_, d) => uptoBulk d + 1
 end
def uptoSmall : (H : Type) → List (DataW H) → Bool := fun _ ds => decide (uptoBulkAll ds ≤ 1048576)
def OpenSpec.upto (s : _root_.Go.ChangeSpec) : _root_.Go.OpenSpec := { _root_.Go.OpenSpec.ofChange s with cond := some uptoSmall }

/-- 'meddlerlaw17.ReportSays', WHERE WHAT IT READS IS OF BULK AT MOST 1048576: true; the input reads as it did. -/
def reportSaysUptoRow : OpenClaim := { program := "ytadnjibgdpjnlaa", sum := "914297d2a531cb0349e0b8966b4dda0d1801668aa0bcfdc34c3be87f863b8924", func := "meddler/meddlerlaw17.ReportSays", spec := "reportSays", unfollowed := true, recurses := true, apart := false, narrowed := true }
def ReportSaysUptoSaid : Prop := reportSaysUptoRow.holds Try.pinned (OpenSpec.upto reportSaysSpec)

/-- 'meddlerlaw17.ReportTwice', WHERE WHAT IT READS IS OF BULK AT MOST 1048576: true; the input reads as it did. -/
def reportTwiceUptoRow : OpenClaim := { program := "ytadnjibgdpjnlaa", sum := "914297d2a531cb0349e0b8966b4dda0d1801668aa0bcfdc34c3be87f863b8924", func := "meddler/meddlerlaw17.ReportTwice", spec := "reportTwice", unfollowed := true, recurses := true, apart := false, narrowed := true }
def ReportTwiceUptoSaid : Prop := reportTwiceUptoRow.holds Try.pinned (OpenSpec.upto reportTwiceSpec)

/-- 'meddlerlaw17.ReportSorts', WHERE WHAT IT READS IS OF BULK AT MOST 1048576: true; the input reads as it did. -/
def reportSortsUptoRow : OpenClaim := { program := "ytadnjibgdpjnlaa", sum := "914297d2a531cb0349e0b8966b4dda0d1801668aa0bcfdc34c3be87f863b8924", func := "meddler/meddlerlaw17.ReportSorts", spec := "reportSorts", unfollowed := true, recurses := true, apart := false, narrowed := true }
def ReportSortsUptoSaid : Prop := reportSortsUptoRow.holds Try.pinned (OpenSpec.upto reportSortsSpec)

/-- 'meddlerlaw17.ReportTells', WHERE WHAT IT READS IS OF BULK AT MOST 1048576: true; the input reads as it did. -/
def reportTellsUptoRow : OpenClaim := { program := "ytadnjibgdpjnlaa", sum := "914297d2a531cb0349e0b8966b4dda0d1801668aa0bcfdc34c3be87f863b8924", func := "meddler/meddlerlaw17.ReportTells", spec := "reportTells", unfollowed := true, recurses := true, apart := false, narrowed := true }
def ReportTellsUptoSaid : Prop := reportTellsUptoRow.holds Try.pinned (OpenSpec.upto reportTellsSpec)

/-- 'meddlerlaw15.ClashTells', WHERE WHAT IT READS IS OF BULK AT MOST 1048576: true; the input reads as it did. -/
def clashTellsUptoRow : OpenClaim := { program := "ytadnjibgdpjnlaa", sum := "914297d2a531cb0349e0b8966b4dda0d1801668aa0bcfdc34c3be87f863b8924", func := "meddler/meddlerlaw15.ClashTells", spec := "clashTells", unfollowed := true, recurses := true, apart := false, narrowed := true }
def ClashTellsUptoSaid : Prop := clashTellsUptoRow.holds Try.pinned (OpenSpec.upto clashTellsSpec)

/-- 'meddlerlaw15.ClashEither', WHERE WHAT IT READS IS OF BULK AT MOST 1048576: true; the input reads as it did. -/
def clashEitherUptoRow : OpenClaim := { program := "ytadnjibgdpjnlaa", sum := "914297d2a531cb0349e0b8966b4dda0d1801668aa0bcfdc34c3be87f863b8924", func := "meddler/meddlerlaw15.ClashEither", spec := "clashEither", unfollowed := true, recurses := true, apart := false, narrowed := true }
def ClashEitherUptoSaid : Prop := clashEitherUptoRow.holds Try.pinned (OpenSpec.upto clashEitherSpec)

/-- 'meddlerlaw15.ClashOrder', WHERE WHAT IT READS IS OF BULK AT MOST 1048576: true; the input reads as it did. -/
def clashOrderUptoRow : OpenClaim := { program := "ytadnjibgdpjnlaa", sum := "914297d2a531cb0349e0b8966b4dda0d1801668aa0bcfdc34c3be87f863b8924", func := "meddler/meddlerlaw15.ClashOrder", spec := "clashOrder", unfollowed := true, recurses := true, apart := false, narrowed := true }
def ClashOrderUptoSaid : Prop := clashOrderUptoRow.holds Try.pinned (OpenSpec.upto clashOrderSpec)

/-- 'meddlerlaw15.ClashMore', WHERE WHAT IT READS IS OF BULK AT MOST 1048576: true; the input reads as it did. -/
def clashMoreUptoRow : OpenClaim := { program := "ytadnjibgdpjnlaa", sum := "914297d2a531cb0349e0b8966b4dda0d1801668aa0bcfdc34c3be87f863b8924", func := "meddler/meddlerlaw15.ClashMore", spec := "clashMore", unfollowed := true, recurses := true, apart := false, narrowed := true }
def ClashMoreUptoSaid : Prop := clashMoreUptoRow.holds Try.pinned (OpenSpec.upto clashMoreSpec)

/-- 'meddlerlaw15.ClashGuards', WHERE WHAT IT READS IS OF BULK AT MOST 1048576: true; the input reads as it did. -/
def clashGuardsUptoRow : OpenClaim := { program := "ytadnjibgdpjnlaa", sum := "914297d2a531cb0349e0b8966b4dda0d1801668aa0bcfdc34c3be87f863b8924", func := "meddler/meddlerlaw15.ClashGuards", spec := "clashGuards", unfollowed := true, recurses := true, apart := false, narrowed := true }
def ClashGuardsUptoSaid : Prop := clashGuardsUptoRow.holds Try.pinned (OpenSpec.upto clashGuardsSpec)

end Rows
end Go.Proofs.Ytadnjibgdpjnlaa
