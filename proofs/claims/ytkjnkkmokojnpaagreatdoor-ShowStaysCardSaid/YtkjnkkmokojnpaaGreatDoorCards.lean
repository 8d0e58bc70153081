/-
  DERIVED. GIVEN WITH THE SEED: THE CARDS: each row of YtkjnkkmokojnpaaGreatDoorRows.lean that lists a variable, with what it lists TIED to the program's text (the seventh form; the later family's looks); each row that meets fmt, with fmt's text TOLD by the authors' own Lean function (tested against real Go, not proved from fmt's source: count such statements apart). THE CARD IS WHAT COUNTS. Prove the row's statement (the work); the ties are given (YtkjnkkmokojnpaaGreatDoorTie.lean); close each card by the builder's one call (the guide's Derived/Test/ToyasCard.lean, 'card_holds'). Laid BY PROGRAM, IN A SANDBOX (cutbox-door.mjs). By AI agents, Wed Nov 11 2026. No macro, syntax, notation, axiom, sorry.
-/
import Derived.Test.YtkjnkkmokojnpaaGreatDoorRows
import GoSem.ClaimSeven
namespace Go.Proofs.YtkjnkkmokojnpaaGreatDoor
namespace Rows

/-- THE TIED CARD OF 'trammellaw16.NamesCheck'. -/
def namesCheckCard : Claim7 := { stood := { row := namesCheckRow, standIns := [], harness := (true, "9e2ae21272e37bee0ecad8ba415ef18f1ff6149e3960b97ea346d5835fb6c03c"), looks := true }, kinds := [], alts := [], laidByText := true, laidKinds := [.handle, .widerDeep], laidTests := true, laidLooks := .later }
def NamesCheckCardSaid : Prop := Claim7.holds Tryz.pinned (.plain (OpenSpec.ofChange namesCheckSpec)) namesCheckCard

/-- THE TIED CARD OF 'trammellaw16.NamesStays'. -/
def namesStaysCard : Claim7 := { stood := { row := namesStaysRow, standIns := [], harness := (true, "9e2ae21272e37bee0ecad8ba415ef18f1ff6149e3960b97ea346d5835fb6c03c"), looks := true }, kinds := [], alts := [], laidByText := true, laidKinds := [.handle, .widerDeep], laidTests := true, laidLooks := .later }
def NamesStaysCardSaid : Prop := Claim7.holds Tryz.pinned (.plain (OpenSpec.ofChange namesStaysSpec)) namesStaysCard

/-- THE TIED CARD OF 'trammellaw15.ShowTexts'. -/
def showTextsCard : Claim7 := { stood := { row := showTextsRow, standIns := [], harness := (true, "9e2ae21272e37bee0ecad8ba415ef18f1ff6149e3960b97ea346d5835fb6c03c"), looks := true }, kinds := [], alts := [], laidByText := true, laidKinds := [.data, .data, .data, .widerDeep, .data], laidTests := true, laidLooks := .later }
def ShowTextsCardSaid : Prop := Claim7.holds Tryz.pinned (.plain (OpenSpec.ofChange showTextsSpec)) showTextsCard

/-- THE TIED CARD OF 'trammellaw15.ShowBack'. -/
def showBackCard : Claim7 := { stood := { row := showBackRow, standIns := [], harness := (true, "9e2ae21272e37bee0ecad8ba415ef18f1ff6149e3960b97ea346d5835fb6c03c"), looks := true }, kinds := [], alts := [], laidByText := true, laidKinds := [.data, .data, .data, .widerDeep, .data], laidTests := true, laidLooks := .later }
def ShowBackCardSaid : Prop := Claim7.holds Tryz.pinned (.plain (OpenSpec.ofChange showBackSpec)) showBackCard

/-- THE TIED CARD OF 'trammellaw15.ShowStays'. -/
def showStaysCard : Claim7 := { stood := { row := showStaysRow, standIns := [], harness := (true, "9e2ae21272e37bee0ecad8ba415ef18f1ff6149e3960b97ea346d5835fb6c03c"), looks := true }, kinds := [], alts := [], laidByText := true, laidKinds := [.data, .data, .data, .widerDeep, .data], laidTests := true, laidLooks := .later }
def ShowStaysCardSaid : Prop := Claim7.holds Tryz.pinned (.plain (OpenSpec.ofChange showStaysSpec)) showStaysCard

/-- THE SECOND FORM's CARD OF 'trammellaw16.NamesCheck'. -/
def namesCheckUptoCard : Claim7 := { stood := { row := namesCheckUptoRow, standIns := [], harness := (true, "9e2ae21272e37bee0ecad8ba415ef18f1ff6149e3960b97ea346d5835fb6c03c"), looks := true }, kinds := [], alts := [], laidByText := true, laidKinds := [.handle, .widerDeep], laidTests := true, laidLooks := .later }
def NamesCheckUptoCardSaid : Prop := Claim7.holds Tryz.pinned (.plain (OpenSpec.upto namesCheckSpec)) namesCheckUptoCard

/-- THE SECOND FORM's CARD OF 'trammellaw16.NamesStays'. -/
def namesStaysUptoCard : Claim7 := { stood := { row := namesStaysUptoRow, standIns := [], harness := (true, "9e2ae21272e37bee0ecad8ba415ef18f1ff6149e3960b97ea346d5835fb6c03c"), looks := true }, kinds := [], alts := [], laidByText := true, laidKinds := [.handle, .widerDeep], laidTests := true, laidLooks := .later }
def NamesStaysUptoCardSaid : Prop := Claim7.holds Tryz.pinned (.plain (OpenSpec.upto namesStaysSpec)) namesStaysUptoCard

/-- THE SECOND FORM's CARD OF 'trammellaw15.ShowTexts'. -/
def showTextsUptoCard : Claim7 := { stood := { row := showTextsUptoRow, standIns := [], harness := (true, "9e2ae21272e37bee0ecad8ba415ef18f1ff6149e3960b97ea346d5835fb6c03c"), looks := true }, kinds := [], alts := [], laidByText := true, laidKinds := [.data, .data, .data, .widerDeep, .data], laidTests := true, laidLooks := .later }
def ShowTextsUptoCardSaid : Prop := Claim7.holds Tryz.pinned (.plain (OpenSpec.upto showTextsSpec)) showTextsUptoCard

/-- THE SECOND FORM's CARD OF 'trammellaw15.ShowBack'. -/
def showBackUptoCard : Claim7 := { stood := { row := showBackUptoRow, standIns := [], harness := (true, "9e2ae21272e37bee0ecad8ba415ef18f1ff6149e3960b97ea346d5835fb6c03c"), looks := true }, kinds := [], alts := [], laidByText := true, laidKinds := [.data, .data, .data, .widerDeep, .data], laidTests := true, laidLooks := .later }
def ShowBackUptoCardSaid : Prop := Claim7.holds Tryz.pinned (.plain (OpenSpec.upto showBackSpec)) showBackUptoCard

/-- THE SECOND FORM's CARD OF 'trammellaw15.ShowStays'. -/
def showStaysUptoCard : Claim7 := { stood := { row := showStaysUptoRow, standIns := [], harness := (true, "9e2ae21272e37bee0ecad8ba415ef18f1ff6149e3960b97ea346d5835fb6c03c"), looks := true }, kinds := [], alts := [], laidByText := true, laidKinds := [.data, .data, .data, .widerDeep, .data], laidTests := true, laidLooks := .later }
def ShowStaysUptoCardSaid : Prop := Claim7.holds Tryz.pinned (.plain (OpenSpec.upto showStaysSpec)) showStaysUptoCard
end Rows
end Go.Proofs.YtkjnkkmokojnpaaGreatDoor
