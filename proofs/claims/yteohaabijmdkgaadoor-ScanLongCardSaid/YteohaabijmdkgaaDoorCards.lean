/-
  DERIVED. GIVEN WITH THE SEED: THE CARDS: each row of YteohaabijmdkgaaDoorRows.lean that lists a variable, with what it lists TIED to the program's text (the seventh form; the later family's looks); each row that meets fmt, with fmt's text TOLD by the authors' own Lean function (tested against real Go, not proved from fmt's source: count such statements apart). THE CARD IS WHAT COUNTS. Prove the row's statement (the work); the ties are given (YteohaabijmdkgaaDoorTie.lean); close each card by the builder's one call (the guide's Derived/Test/ToyasCard.lean, 'card_holds'). Laid BY PROGRAM, IN A SANDBOX (cutbox-door.mjs). By AI agents, Wed Nov 11 2026. No macro, syntax, notation, axiom, sorry.
-/
import Derived.Test.YteohaabijmdkgaaDoorRows
import GoSem.ClaimSeven
namespace Go.Proofs.YteohaabijmdkgaaDoor
namespace Rows

/-- THE TIED CARD OF 'trammellaw13.ScanTokens'. -/
def scanTokensCard : Claim7 := { stood := { row := scanTokensRow, standIns := [], harness := (true, "cb286e2d986587e4f9f58050247453e882d519ad4373afad21b5b23b88bd0305"), looks := true }, kinds := [], alts := [], laidByText := true, laidKinds := [.handle, .widerDeep, .data], laidTests := true, laidLooks := .later }
def ScanTokensCardSaid : Prop := Claim7.holds Tryd.pinned (.plain (OpenSpec.ofChange scanTokensSpec)) scanTokensCard

/-- THE TIED CARD OF 'trammellaw13.ScanLong'. -/
def scanLongCard : Claim7 := { stood := { row := scanLongRow, standIns := [], harness := (true, "cb286e2d986587e4f9f58050247453e882d519ad4373afad21b5b23b88bd0305"), looks := true }, kinds := [], alts := [], laidByText := true, laidKinds := [.handle, .widerDeep, .data], laidTests := true, laidLooks := .later }
def ScanLongCardSaid : Prop := Claim7.holds Tryd.pinned (.plain (OpenSpec.ofChange scanLongSpec)) scanLongCard

/-- THE TIED CARD OF 'trammellaw13.ScanWords'. -/
def scanWordsCard : Claim7 := { stood := { row := scanWordsRow, standIns := [], harness := (true, "cb286e2d986587e4f9f58050247453e882d519ad4373afad21b5b23b88bd0305"), looks := true }, kinds := [], alts := [], laidByText := true, laidKinds := [.handle, .widerDeep, .data], laidTests := true, laidLooks := .later }
def ScanWordsCardSaid : Prop := Claim7.holds Tryd.pinned (.plain (OpenSpec.ofChange scanWordsSpec)) scanWordsCard

/-- THE SECOND FORM's CARD OF 'trammellaw13.ScanTokens'. -/
def scanTokensUptoCard : Claim7 := { stood := { row := scanTokensUptoRow, standIns := [], harness := (true, "cb286e2d986587e4f9f58050247453e882d519ad4373afad21b5b23b88bd0305"), looks := true }, kinds := [], alts := [], laidByText := true, laidKinds := [.handle, .widerDeep, .data], laidTests := true, laidLooks := .later }
def ScanTokensUptoCardSaid : Prop := Claim7.holds Tryd.pinned (.plain (OpenSpec.upto scanTokensSpec)) scanTokensUptoCard

/-- THE SECOND FORM's CARD OF 'trammellaw13.ScanLong'. -/
def scanLongUptoCard : Claim7 := { stood := { row := scanLongUptoRow, standIns := [], harness := (true, "cb286e2d986587e4f9f58050247453e882d519ad4373afad21b5b23b88bd0305"), looks := true }, kinds := [], alts := [], laidByText := true, laidKinds := [.handle, .widerDeep, .data], laidTests := true, laidLooks := .later }
def ScanLongUptoCardSaid : Prop := Claim7.holds Tryd.pinned (.plain (OpenSpec.upto scanLongSpec)) scanLongUptoCard

/-- THE SECOND FORM's CARD OF 'trammellaw13.ScanWords'. -/
def scanWordsUptoCard : Claim7 := { stood := { row := scanWordsUptoRow, standIns := [], harness := (true, "cb286e2d986587e4f9f58050247453e882d519ad4373afad21b5b23b88bd0305"), looks := true }, kinds := [], alts := [], laidByText := true, laidKinds := [.handle, .widerDeep, .data], laidTests := true, laidLooks := .later }
def ScanWordsUptoCardSaid : Prop := Claim7.holds Tryd.pinned (.plain (OpenSpec.upto scanWordsSpec)) scanWordsUptoCard
end Rows
end Go.Proofs.YteohaabijmdkgaaDoor
