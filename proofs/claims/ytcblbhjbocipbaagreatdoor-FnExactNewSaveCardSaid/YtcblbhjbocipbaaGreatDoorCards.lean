/-
  DERIVED. GIVEN WITH THE SEED: THE CARDS: each row of YtcblbhjbocipbaaGreatDoorRows.lean that lists a variable, with what it lists TIED to the program's text (the seventh form; the later family's looks); each row that meets fmt, with fmt's text TOLD by the authors' own Lean function (tested against real Go, not proved from fmt's source: count such statements apart). THE CARD IS WHAT COUNTS. Prove the row's statement (the work); the ties are given (YtcblbhjbocipbaaGreatDoorTie.lean); close each card by the builder's one call (the guide's Derived/Test/ToyasCard.lean, 'card_holds'). Laid BY PROGRAM, IN A SANDBOX (cutbox-door.mjs). By AI agents, Wed Nov 11 2026. No macro, syntax, notation, axiom, sorry.
-/
import Derived.Test.YtcblbhjbocipbaaGreatDoorRows
import GoSem.ClaimSeven
namespace Go.Proofs.YtcblbhjbocipbaaGreatDoor
namespace Rows

/-- THE TIED CARD OF 'laws.FnExactSetupOf'. -/
def fnExactSetupOfCard : Claim7 := { stood := { row := fnExactSetupOfRow, standIns := [], harness := (true, "b8d22a25fa2a2f49c625d00abfbe436dc9c561f88b8053820c41d12b979c3612"), looks := false }, kinds := [], alts := [], laidByText := true, laidKinds := [.data], laidTests := true, laidLooks := .later }
def FnExactSetupOfCardSaid : Prop := Claim7.holds Tryz.pinned (.plain (OpenSpec.ofChange fnExactSetupOfSpec)) fnExactSetupOfCard

/-- THE TIED CARD OF 'laws.FnExactNewSave'. -/
def fnExactNewSaveCard : Claim7 := { stood := { row := fnExactNewSaveRow, standIns := [], harness := (true, "b8d22a25fa2a2f49c625d00abfbe436dc9c561f88b8053820c41d12b979c3612"), looks := false }, kinds := [], alts := [], laidByText := true, laidKinds := [.data], laidTests := true, laidLooks := .later }
def FnExactNewSaveCardSaid : Prop := Claim7.holds Tryz.pinned (.plain (OpenSpec.ofChange fnExactNewSaveSpec)) fnExactNewSaveCard

/-- THE SECOND FORM's CARD OF 'laws.FnExactSetupOf'. -/
def fnExactSetupOfUptoCard : Claim7 := { stood := { row := fnExactSetupOfUptoRow, standIns := [], harness := (true, "b8d22a25fa2a2f49c625d00abfbe436dc9c561f88b8053820c41d12b979c3612"), looks := false }, kinds := [], alts := [], laidByText := true, laidKinds := [.data], laidTests := true, laidLooks := .later }
def FnExactSetupOfUptoCardSaid : Prop := Claim7.holds Tryz.pinned (.plain (OpenSpec.upto fnExactSetupOfSpec)) fnExactSetupOfUptoCard

/-- THE SECOND FORM's CARD OF 'laws.FnExactNewSave'. -/
def fnExactNewSaveUptoCard : Claim7 := { stood := { row := fnExactNewSaveUptoRow, standIns := [], harness := (true, "b8d22a25fa2a2f49c625d00abfbe436dc9c561f88b8053820c41d12b979c3612"), looks := false }, kinds := [], alts := [], laidByText := true, laidKinds := [.data], laidTests := true, laidLooks := .later }
def FnExactNewSaveUptoCardSaid : Prop := Claim7.holds Tryz.pinned (.plain (OpenSpec.upto fnExactNewSaveSpec)) fnExactNewSaveUptoCard
end Rows
end Go.Proofs.YtcblbhjbocipbaaGreatDoor
