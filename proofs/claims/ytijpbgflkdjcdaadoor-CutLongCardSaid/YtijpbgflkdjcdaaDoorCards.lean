/-
  DERIVED. GIVEN WITH THE SEED: THE CARDS: each row of YtijpbgflkdjcdaaDoorRows.lean that lists a variable, with what it lists TIED to the program's text (the seventh form; the later family's looks); each row that meets fmt, with fmt's text TOLD by the authors' own Lean function (tested against real Go, not proved from fmt's source: count such statements apart). THE CARD IS WHAT COUNTS. Prove the row's statement (the work); the ties are given (YtijpbgflkdjcdaaDoorTie.lean); close each card by the builder's one call (the guide's Derived/Test/ToyasCard.lean, 'card_holds'). Laid BY PROGRAM, IN A SANDBOX (cutbox-door.mjs). By AI agents, Wed Nov 11 2026. No macro, syntax, notation, axiom, sorry.
-/
import Derived.Test.YtijpbgflkdjcdaaDoorRows
import GoSem.ClaimSeven
namespace Go.Proofs.YtijpbgflkdjcdaaDoor
namespace Rows

/-- THE TIED CARD OF 'trammellaw04.CutLines'. -/
def cutLinesCard : Claim7 := { stood := { row := cutLinesRow, standIns := [], harness := (true, "e5963c0c85b665b94266d004eb48c5c3c6b587fd9c61564359349344534cecc7"), looks := true }, kinds := [], alts := [], laidByText := true, laidKinds := [.handle], laidTests := true, laidLooks := .later }
def CutLinesCardSaid : Prop := Claim7.holds Tryd.pinned (.plain (OpenSpec.ofChange cutLinesSpec)) cutLinesCard

/-- THE TIED CARD OF 'trammellaw04.CutRefutes'. -/
def cutRefutesCard : Claim7 := { stood := { row := cutRefutesRow, standIns := [], harness := (true, "e5963c0c85b665b94266d004eb48c5c3c6b587fd9c61564359349344534cecc7"), looks := true }, kinds := [], alts := [], laidByText := true, laidKinds := [.handle], laidTests := true, laidLooks := .later }
def CutRefutesCardSaid : Prop := Claim7.holds Tryd.pinned (.plain (OpenSpec.ofChange cutRefutesSpec)) cutRefutesCard

/-- THE TIED CARD OF 'trammellaw04.CutLong'. -/
def cutLongCard : Claim7 := { stood := { row := cutLongRow, standIns := [], harness := (true, "e5963c0c85b665b94266d004eb48c5c3c6b587fd9c61564359349344534cecc7"), looks := true }, kinds := [], alts := [], laidByText := true, laidKinds := [.handle], laidTests := true, laidLooks := .later }
def CutLongCardSaid : Prop := Claim7.holds Tryd.pinned (.plain (OpenSpec.ofChange cutLongSpec)) cutLongCard

/-- THE SECOND FORM's CARD OF 'trammellaw04.CutLines'. -/
def cutLinesUptoCard : Claim7 := { stood := { row := cutLinesUptoRow, standIns := [], harness := (true, "e5963c0c85b665b94266d004eb48c5c3c6b587fd9c61564359349344534cecc7"), looks := true }, kinds := [], alts := [], laidByText := true, laidKinds := [.handle], laidTests := true, laidLooks := .later }
def CutLinesUptoCardSaid : Prop := Claim7.holds Tryd.pinned (.plain (OpenSpec.upto cutLinesSpec)) cutLinesUptoCard

/-- THE SECOND FORM's CARD OF 'trammellaw04.CutRefutes'. -/
def cutRefutesUptoCard : Claim7 := { stood := { row := cutRefutesUptoRow, standIns := [], harness := (true, "e5963c0c85b665b94266d004eb48c5c3c6b587fd9c61564359349344534cecc7"), looks := true }, kinds := [], alts := [], laidByText := true, laidKinds := [.handle], laidTests := true, laidLooks := .later }
def CutRefutesUptoCardSaid : Prop := Claim7.holds Tryd.pinned (.plain (OpenSpec.upto cutRefutesSpec)) cutRefutesUptoCard

/-- THE SECOND FORM's CARD OF 'trammellaw04.CutLong'. -/
def cutLongUptoCard : Claim7 := { stood := { row := cutLongUptoRow, standIns := [], harness := (true, "e5963c0c85b665b94266d004eb48c5c3c6b587fd9c61564359349344534cecc7"), looks := true }, kinds := [], alts := [], laidByText := true, laidKinds := [.handle], laidTests := true, laidLooks := .later }
def CutLongUptoCardSaid : Prop := Claim7.holds Tryd.pinned (.plain (OpenSpec.upto cutLongSpec)) cutLongUptoCard
end Rows
end Go.Proofs.YtijpbgflkdjcdaaDoor
