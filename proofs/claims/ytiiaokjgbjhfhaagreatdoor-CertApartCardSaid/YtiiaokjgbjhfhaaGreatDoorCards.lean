/-
  DERIVED. GIVEN WITH THE SEED: THE CARDS: each row of YtiiaokjgbjhfhaaGreatDoorRows.lean that lists a variable, with what it lists TIED to the program's text (the seventh form; the later family's looks); each row that meets fmt, with fmt's text TOLD by the authors' own Lean function (tested against real Go, not proved from fmt's source: count such statements apart). THE CARD IS WHAT COUNTS. Prove the row's statement (the work); the ties are given (YtiiaokjgbjhfhaaGreatDoorTie.lean); close each card by the builder's one call (the guide's Derived/Test/ToyasCard.lean, 'card_holds'). Laid BY PROGRAM, IN A SANDBOX (cutbox-door.mjs). By AI agents, Wed Nov 11 2026. No macro, syntax, notation, axiom, sorry.
-/
import Derived.Test.YtiiaokjgbjhfhaaGreatDoorRows
import GoSem.ClaimSeven
namespace Go.Proofs.YtiiaokjgbjhfhaaGreatDoor
namespace Rows

/-- THE TIED CARD OF 'trammellaw10.CertPremises'. -/
def certPremisesCard : Claim7 := { stood := { row := certPremisesRow, standIns := [], harness := (true, "e4574cb4915c3485711491477a70109f72142f1f7ff9cee85cb703a4caf2d19a"), looks := true }, kinds := [], alts := [], laidByText := true, laidKinds := [.handle], laidTests := true, laidLooks := .later }
def CertPremisesCardSaid : Prop := Claim7.holds Tryz.pinned (.plain (OpenSpec.ofChange certPremisesSpec)) certPremisesCard

/-- THE TIED CARD OF 'trammellaw10.CertApart'. -/
def certApartCard : Claim7 := { stood := { row := certApartRow, standIns := [], harness := (true, "e4574cb4915c3485711491477a70109f72142f1f7ff9cee85cb703a4caf2d19a"), looks := true }, kinds := [], alts := [], laidByText := true, laidKinds := [.handle], laidTests := true, laidLooks := .later }
def CertApartCardSaid : Prop := Claim7.holds Tryz.pinned (.plain (OpenSpec.ofChange certApartSpec)) certApartCard

/-- THE SECOND FORM's CARD OF 'trammellaw10.CertPremises'. -/
def certPremisesUptoCard : Claim7 := { stood := { row := certPremisesUptoRow, standIns := [], harness := (true, "e4574cb4915c3485711491477a70109f72142f1f7ff9cee85cb703a4caf2d19a"), looks := true }, kinds := [], alts := [], laidByText := true, laidKinds := [.handle], laidTests := true, laidLooks := .later }
def CertPremisesUptoCardSaid : Prop := Claim7.holds Tryz.pinned (.plain (OpenSpec.upto certPremisesSpec)) certPremisesUptoCard

/-- THE SECOND FORM's CARD OF 'trammellaw10.CertApart'. -/
def certApartUptoCard : Claim7 := { stood := { row := certApartUptoRow, standIns := [], harness := (true, "e4574cb4915c3485711491477a70109f72142f1f7ff9cee85cb703a4caf2d19a"), looks := true }, kinds := [], alts := [], laidByText := true, laidKinds := [.handle], laidTests := true, laidLooks := .later }
def CertApartUptoCardSaid : Prop := Claim7.holds Tryz.pinned (.plain (OpenSpec.upto certApartSpec)) certApartUptoCard
end Rows
end Go.Proofs.YtiiaokjgbjhfhaaGreatDoor
