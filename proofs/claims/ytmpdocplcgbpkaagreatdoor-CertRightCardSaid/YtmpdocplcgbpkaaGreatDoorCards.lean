/-
  DERIVED. GIVEN WITH THE SEED: THE CARDS: each row of YtmpdocplcgbpkaaGreatDoorRows.lean that lists a variable, with what it lists TIED to the program's text (the seventh form; the later family's looks); each row that meets fmt, with fmt's text TOLD by the authors' own Lean function (tested against real Go, not proved from fmt's source: count such statements apart). THE CARD IS WHAT COUNTS. Prove the row's statement (the work); the ties are given (YtmpdocplcgbpkaaGreatDoorTie.lean); close each card by the builder's one call (the guide's Derived/Test/ToyasCard.lean, 'card_holds'). Laid BY PROGRAM, IN A SANDBOX (cutbox-door.mjs). By AI agents, Wed Nov 11 2026. No macro, syntax, notation, axiom, sorry.
-/
import Derived.Test.YtmpdocplcgbpkaaGreatDoorRows
import GoSem.ClaimSeven
namespace Go.Proofs.YtmpdocplcgbpkaaGreatDoor
namespace Rows

/-- THE TIED CARD OF 'trammellaw10.CertChecks'. -/
def certChecksCard : Claim7 := { stood := { row := certChecksRow, standIns := [], harness := (true, "a52f2155071cceaa26020de24176b44bf9901defddefcc5bab11be3c6567a520"), looks := true }, kinds := [], alts := [], laidByText := true, laidKinds := [.handle], laidTests := true, laidLooks := .later }
def CertChecksCardSaid : Prop := Claim7.holds Tryz.pinned (.plain (OpenSpec.ofChange certChecksSpec)) certChecksCard

/-- THE TIED CARD OF 'trammellaw10.CertStays'. -/
def certStaysCard : Claim7 := { stood := { row := certStaysRow, standIns := [], harness := (true, "a52f2155071cceaa26020de24176b44bf9901defddefcc5bab11be3c6567a520"), looks := true }, kinds := [], alts := [], laidByText := true, laidKinds := [.handle], laidTests := true, laidLooks := .later }
def CertStaysCardSaid : Prop := Claim7.holds Tryz.pinned (.plain (OpenSpec.ofChange certStaysSpec)) certStaysCard

/-- THE TIED CARD OF 'trammellaw10.CertRight'. -/
def certRightCard : Claim7 := { stood := { row := certRightRow, standIns := [], harness := (true, "a52f2155071cceaa26020de24176b44bf9901defddefcc5bab11be3c6567a520"), looks := true }, kinds := [], alts := [], laidByText := true, laidKinds := [.handle], laidTests := true, laidLooks := .later }
def CertRightCardSaid : Prop := Claim7.holds Tryz.pinned (.plain (OpenSpec.ofChange certRightSpec)) certRightCard

/-- THE SECOND FORM's CARD OF 'trammellaw10.CertChecks'. -/
def certChecksUptoCard : Claim7 := { stood := { row := certChecksUptoRow, standIns := [], harness := (true, "a52f2155071cceaa26020de24176b44bf9901defddefcc5bab11be3c6567a520"), looks := true }, kinds := [], alts := [], laidByText := true, laidKinds := [.handle], laidTests := true, laidLooks := .later }
def CertChecksUptoCardSaid : Prop := Claim7.holds Tryz.pinned (.plain (OpenSpec.upto certChecksSpec)) certChecksUptoCard

/-- THE SECOND FORM's CARD OF 'trammellaw10.CertStays'. -/
def certStaysUptoCard : Claim7 := { stood := { row := certStaysUptoRow, standIns := [], harness := (true, "a52f2155071cceaa26020de24176b44bf9901defddefcc5bab11be3c6567a520"), looks := true }, kinds := [], alts := [], laidByText := true, laidKinds := [.handle], laidTests := true, laidLooks := .later }
def CertStaysUptoCardSaid : Prop := Claim7.holds Tryz.pinned (.plain (OpenSpec.upto certStaysSpec)) certStaysUptoCard

/-- THE SECOND FORM's CARD OF 'trammellaw10.CertRight'. -/
def certRightUptoCard : Claim7 := { stood := { row := certRightUptoRow, standIns := [], harness := (true, "a52f2155071cceaa26020de24176b44bf9901defddefcc5bab11be3c6567a520"), looks := true }, kinds := [], alts := [], laidByText := true, laidKinds := [.handle], laidTests := true, laidLooks := .later }
def CertRightUptoCardSaid : Prop := Claim7.holds Tryz.pinned (.plain (OpenSpec.upto certRightSpec)) certRightUptoCard
end Rows
end Go.Proofs.YtmpdocplcgbpkaaGreatDoor
