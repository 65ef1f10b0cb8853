/-
  DERIVED. GIVEN WITH THE SEED: THE CARDS: each row of YtfeaekdhpkdljaaDoorRows.lean that lists a variable, with what it lists TIED to the program's text (the seventh form; the later family's looks); each row that meets fmt, with fmt's text TOLD by the authors' own Lean function (tested against real Go, not proved from fmt's source: count such statements apart). THE CARD IS WHAT COUNTS. Prove the row's statement (the work); the ties are given (YtfeaekdhpkdljaaDoorTie.lean); close each card by the builder's one call (the guide's Derived/Test/ToyasCard.lean, 'card_holds'). Laid BY PROGRAM, IN A SANDBOX (cutbox-door.mjs). By AI agents, Wed Nov 11 2026. No macro, syntax, notation, axiom, sorry.
-/
import Derived.Test.YtfeaekdhpkdljaaDoorRows
import GoSem.ClaimSeven
namespace Go.Proofs.YtfeaekdhpkdljaaDoor
namespace Rows

/-- THE TIED CARD OF 'meddlerlaw6.ShowPrints'. -/
def showPrintsCard : Claim7 := { stood := { row := showPrintsRow, standIns := [], harness := (true, "70d407c0eafa0834225c9d5943e7d77421f4a547062622acda458d91db2b39fe"), looks := false }, kinds := [], alts := [], laidByText := true, laidKinds := [.data, .data, .data], laidTests := true, laidLooks := .later }
def ShowPrintsCardSaid : Prop := Claim7.holds Tryd.pinned (.plain (OpenSpec.ofChange showPrintsSpec)) showPrintsCard

/-- THE TIED CARD OF 'meddlerlaw6.ShowBack'. -/
def showBackCard : Claim7 := { stood := { row := showBackRow, standIns := [], harness := (true, "70d407c0eafa0834225c9d5943e7d77421f4a547062622acda458d91db2b39fe"), looks := false }, kinds := [], alts := [], laidByText := true, laidKinds := [.data, .data, .data], laidTests := true, laidLooks := .later }
def ShowBackCardSaid : Prop := Claim7.holds Tryd.pinned (.plain (OpenSpec.ofChange showBackSpec)) showBackCard

/-- THE TIED CARD OF 'meddlerlaw6.ShowExprs'. -/
def showExprsCard : Claim7 := { stood := { row := showExprsRow, standIns := [], harness := (true, "70d407c0eafa0834225c9d5943e7d77421f4a547062622acda458d91db2b39fe"), looks := false }, kinds := [], alts := [], laidByText := true, laidKinds := [.data, .data, .data], laidTests := true, laidLooks := .later }
def ShowExprsCardSaid : Prop := Claim7.holds Tryd.pinned (.plain (OpenSpec.ofChange showExprsSpec)) showExprsCard

/-- THE TIED CARD OF 'meddlerlaw6.ShowLines'. -/
def showLinesCard : Claim7 := { stood := { row := showLinesRow, standIns := [], harness := (true, "70d407c0eafa0834225c9d5943e7d77421f4a547062622acda458d91db2b39fe"), looks := false }, kinds := [], alts := [], laidByText := true, laidKinds := [.data, .data, .data], laidTests := true, laidLooks := .later }
def ShowLinesCardSaid : Prop := Claim7.holds Tryd.pinned (.plain (OpenSpec.ofChange showLinesSpec)) showLinesCard

/-- THE TIED CARD OF 'meddlerlaw6.ShowNone'. -/
def showNoneCard : Claim7 := { stood := { row := showNoneRow, standIns := [], harness := (true, "70d407c0eafa0834225c9d5943e7d77421f4a547062622acda458d91db2b39fe"), looks := false }, kinds := [], alts := [], laidByText := true, laidKinds := [.data, .data, .data], laidTests := true, laidLooks := .later }
def ShowNoneCardSaid : Prop := Claim7.holds Tryd.pinned (.plain (OpenSpec.ofChange showNoneSpec)) showNoneCard

/-- THE SECOND FORM's CARD OF 'meddlerlaw6.ShowPrints'. -/
def showPrintsUptoCard : Claim7 := { stood := { row := showPrintsUptoRow, standIns := [], harness := (true, "70d407c0eafa0834225c9d5943e7d77421f4a547062622acda458d91db2b39fe"), looks := false }, kinds := [], alts := [], laidByText := true, laidKinds := [.data, .data, .data], laidTests := true, laidLooks := .later }
def ShowPrintsUptoCardSaid : Prop := Claim7.holds Tryd.pinned (.plain (OpenSpec.upto showPrintsSpec)) showPrintsUptoCard

/-- THE SECOND FORM's CARD OF 'meddlerlaw6.ShowBack'. -/
def showBackUptoCard : Claim7 := { stood := { row := showBackUptoRow, standIns := [], harness := (true, "70d407c0eafa0834225c9d5943e7d77421f4a547062622acda458d91db2b39fe"), looks := false }, kinds := [], alts := [], laidByText := true, laidKinds := [.data, .data, .data], laidTests := true, laidLooks := .later }
def ShowBackUptoCardSaid : Prop := Claim7.holds Tryd.pinned (.plain (OpenSpec.upto showBackSpec)) showBackUptoCard

/-- THE SECOND FORM's CARD OF 'meddlerlaw6.ShowExprs'. -/
def showExprsUptoCard : Claim7 := { stood := { row := showExprsUptoRow, standIns := [], harness := (true, "70d407c0eafa0834225c9d5943e7d77421f4a547062622acda458d91db2b39fe"), looks := false }, kinds := [], alts := [], laidByText := true, laidKinds := [.data, .data, .data], laidTests := true, laidLooks := .later }
def ShowExprsUptoCardSaid : Prop := Claim7.holds Tryd.pinned (.plain (OpenSpec.upto showExprsSpec)) showExprsUptoCard

/-- THE SECOND FORM's CARD OF 'meddlerlaw6.ShowLines'. -/
def showLinesUptoCard : Claim7 := { stood := { row := showLinesUptoRow, standIns := [], harness := (true, "70d407c0eafa0834225c9d5943e7d77421f4a547062622acda458d91db2b39fe"), looks := false }, kinds := [], alts := [], laidByText := true, laidKinds := [.data, .data, .data], laidTests := true, laidLooks := .later }
def ShowLinesUptoCardSaid : Prop := Claim7.holds Tryd.pinned (.plain (OpenSpec.upto showLinesSpec)) showLinesUptoCard

/-- THE SECOND FORM's CARD OF 'meddlerlaw6.ShowNone'. -/
def showNoneUptoCard : Claim7 := { stood := { row := showNoneUptoRow, standIns := [], harness := (true, "70d407c0eafa0834225c9d5943e7d77421f4a547062622acda458d91db2b39fe"), looks := false }, kinds := [], alts := [], laidByText := true, laidKinds := [.data, .data, .data], laidTests := true, laidLooks := .later }
def ShowNoneUptoCardSaid : Prop := Claim7.holds Tryd.pinned (.plain (OpenSpec.upto showNoneSpec)) showNoneUptoCard
end Rows
end Go.Proofs.YtfeaekdhpkdljaaDoor
