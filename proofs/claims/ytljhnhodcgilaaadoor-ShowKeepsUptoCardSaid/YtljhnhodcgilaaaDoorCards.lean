/-
  DERIVED. GIVEN WITH THE SEED: THE CARDS: each row of YtljhnhodcgilaaaDoorRows.lean that lists a variable, with what it lists TIED to the program's text (the seventh form; the later family's looks); each row that meets fmt, with fmt's text TOLD by the authors' own Lean function (tested against real Go, not proved from fmt's source: count such statements apart). THE CARD IS WHAT COUNTS. Prove the row's statement (the work); the ties are given (YtljhnhodcgilaaaDoorTie.lean); close each card by the builder's one call (the guide's Derived/Test/ToyasCard.lean, 'card_holds'). Laid BY PROGRAM, IN A SANDBOX (cutbox-door.mjs). By AI agents, Wed Nov 11 2026. No macro, syntax, notation, axiom, sorry.
-/
import Derived.Test.YtljhnhodcgilaaaDoorRows
import GoSem.ClaimSeven
namespace Go.Proofs.YtljhnhodcgilaaaDoor
namespace Rows

/-- THE TIED CARD OF 'oriellaw15.ShowPrints'. -/
def showPrintsCard : Claim7 := { stood := { row := showPrintsRow, standIns := [], harness := (true, "ed99ed74e9729619afbe0274c68564861f8cae446750f7eea12412f12acb2daa"), looks := false }, kinds := [], alts := [], laidByText := true, laidKinds := [.data, .pinned], laidTests := true, laidLooks := .later }
def ShowPrintsCardSaid : Prop := Claim7.holds Tryd.pinned (.plain (OpenSpec.ofChange showPrintsSpec)) showPrintsCard

/-- THE TIED CARD OF 'oriellaw15.ShowKeeps'. -/
def showKeepsCard : Claim7 := { stood := { row := showKeepsRow, standIns := [], harness := (true, "ed99ed74e9729619afbe0274c68564861f8cae446750f7eea12412f12acb2daa"), looks := false }, kinds := [], alts := [], laidByText := true, laidKinds := [.data, .pinned], laidTests := true, laidLooks := .later }
def ShowKeepsCardSaid : Prop := Claim7.holds Tryd.pinned (.plain (OpenSpec.ofChange showKeepsSpec)) showKeepsCard

/-- THE SECOND FORM's CARD OF 'oriellaw15.ShowPrints'. -/
def showPrintsUptoCard : Claim7 := { stood := { row := showPrintsUptoRow, standIns := [], harness := (true, "ed99ed74e9729619afbe0274c68564861f8cae446750f7eea12412f12acb2daa"), looks := false }, kinds := [], alts := [], laidByText := true, laidKinds := [.data, .pinned], laidTests := true, laidLooks := .later }
def ShowPrintsUptoCardSaid : Prop := Claim7.holds Tryd.pinned (.plain (OpenSpec.upto showPrintsSpec)) showPrintsUptoCard

/-- THE SECOND FORM's CARD OF 'oriellaw15.ShowKeeps'. -/
def showKeepsUptoCard : Claim7 := { stood := { row := showKeepsUptoRow, standIns := [], harness := (true, "ed99ed74e9729619afbe0274c68564861f8cae446750f7eea12412f12acb2daa"), looks := false }, kinds := [], alts := [], laidByText := true, laidKinds := [.data, .pinned], laidTests := true, laidLooks := .later }
def ShowKeepsUptoCardSaid : Prop := Claim7.holds Tryd.pinned (.plain (OpenSpec.upto showKeepsSpec)) showKeepsUptoCard
end Rows
end Go.Proofs.YtljhnhodcgilaaaDoor
