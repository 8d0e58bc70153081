/-
  DERIVED. GIVEN WITH THE SEED: THE CARDS: each row of YtpkcgdikbjaoaaaGreatDoorRows.lean that lists a variable, with what it lists TIED to the program's text (the seventh form; the later family's looks); each row that meets fmt, with fmt's text TOLD by the authors' own Lean function (tested against real Go, not proved from fmt's source: count such statements apart). THE CARD IS WHAT COUNTS. Prove the row's statement (the work); the ties are given (YtpkcgdikbjaoaaaGreatDoorTie.lean); close each card by the builder's one call (the guide's Derived/Test/ToyasCard.lean, 'card_holds'). Laid BY PROGRAM, IN A SANDBOX (cutbox-door.mjs). By AI agents, Wed Nov 11 2026. No macro, syntax, notation, axiom, sorry.
-/
import Derived.Test.YtpkcgdikbjaoaaaGreatDoorRows
import GoSem.ClaimSeven
namespace Go.Proofs.YtpkcgdikbjaoaaaGreatDoor
namespace Rows

/-- THE TIED CARD OF 'trammellaw14.ParsePrograms'. -/
def parseProgramsCard : Claim7 := { stood := { row := parseProgramsRow, standIns := [], harness := (true, "4c4dd0b8ba9310a0abd4ecd8e21ecc6f8decacff540dbcc3f08b66c181a0626f"), looks := true }, kinds := [], alts := [], laidByText := true, laidKinds := [.handle, .widerDeep, .data], laidTests := true, laidLooks := .later }
def ParseProgramsCardSaid : Prop := Claim7.holds Tryz.pinned (.plain (OpenSpec.ofChange parseProgramsSpec)) parseProgramsCard

/-- THE TIED CARD OF 'trammellaw14.ParseDeep'. -/
def parseDeepCard : Claim7 := { stood := { row := parseDeepRow, standIns := [], harness := (true, "4c4dd0b8ba9310a0abd4ecd8e21ecc6f8decacff540dbcc3f08b66c181a0626f"), looks := true }, kinds := [], alts := [], laidByText := true, laidKinds := [.handle, .widerDeep, .data], laidTests := true, laidLooks := .later }
def ParseDeepCardSaid : Prop := Claim7.holds Tryz.pinned (.plain (OpenSpec.ofChange parseDeepSpec)) parseDeepCard

/-- THE SECOND FORM's CARD OF 'trammellaw14.ParsePrograms'. -/
def parseProgramsUptoCard : Claim7 := { stood := { row := parseProgramsUptoRow, standIns := [], harness := (true, "4c4dd0b8ba9310a0abd4ecd8e21ecc6f8decacff540dbcc3f08b66c181a0626f"), looks := true }, kinds := [], alts := [], laidByText := true, laidKinds := [.handle, .widerDeep, .data], laidTests := true, laidLooks := .later }
def ParseProgramsUptoCardSaid : Prop := Claim7.holds Tryz.pinned (.plain (OpenSpec.upto parseProgramsSpec)) parseProgramsUptoCard

/-- THE SECOND FORM's CARD OF 'trammellaw14.ParseDeep'. -/
def parseDeepUptoCard : Claim7 := { stood := { row := parseDeepUptoRow, standIns := [], harness := (true, "4c4dd0b8ba9310a0abd4ecd8e21ecc6f8decacff540dbcc3f08b66c181a0626f"), looks := true }, kinds := [], alts := [], laidByText := true, laidKinds := [.handle, .widerDeep, .data], laidTests := true, laidLooks := .later }
def ParseDeepUptoCardSaid : Prop := Claim7.holds Tryz.pinned (.plain (OpenSpec.upto parseDeepSpec)) parseDeepUptoCard
end Rows
end Go.Proofs.YtpkcgdikbjaoaaaGreatDoor
