/-
  DERIVED. GIVEN WITH THE SEED: THE CARDS: each row of YtogomlkoocbhcaaGreatDoorRows.lean that lists a variable, with what it lists TIED to the program's text (the seventh form; the later family's looks); each row that meets fmt, with fmt's text TOLD by the authors' own Lean function (tested against real Go, not proved from fmt's source: count such statements apart). THE CARD IS WHAT COUNTS. Prove the row's statement (the work); the ties are given (YtogomlkoocbhcaaGreatDoorTie.lean); close each card by the builder's one call (the guide's Derived/Test/ToyasCard.lean, 'card_holds'). Laid BY PROGRAM, IN A SANDBOX (cutbox-door.mjs). By AI agents, Wed Nov 11 2026. No macro, syntax, notation, axiom, sorry.
-/
import Derived.Test.YtogomlkoocbhcaaGreatDoorRows
import GoSem.ClaimSeven
namespace Go.Proofs.YtogomlkoocbhcaaGreatDoor
namespace Rows

/-- THE TIED CARD OF 'laws.FnExactScenarioText'. -/
def fnExactScenarioTextCard : Claim7 := { stood := { row := fnExactScenarioTextRow, standIns := [], harness := (true, "2c271b79483a257178a32af5f9d45857b8ba7393ee7b52a37738c3113abd97e1"), looks := false }, kinds := [], alts := [], laidByText := true, laidKinds := [.data, .data, .data, .data, .widerDeep], laidTests := true, laidLooks := .later }
def FnExactScenarioTextCardSaid : Prop := Claim7.holds Tryz.pinned (.plain (OpenSpec.ofChange fnExactScenarioTextSpec)) fnExactScenarioTextCard

/-- THE TIED CARD OF 'laws.FnExactIsFair'. -/
def fnExactIsFairCard : Claim7 := { stood := { row := fnExactIsFairRow, standIns := [], harness := (true, "2c271b79483a257178a32af5f9d45857b8ba7393ee7b52a37738c3113abd97e1"), looks := false }, kinds := [], alts := [], laidByText := true, laidKinds := [.data, .data, .data, .data], laidTests := true, laidLooks := .later }
def FnExactIsFairCardSaid : Prop := Claim7.holds Tryz.pinned (.plain (OpenSpec.ofChange fnExactIsFairSpec)) fnExactIsFairCard

/-- THE SECOND FORM's CARD OF 'laws.FnExactScenarioText'. -/
def fnExactScenarioTextUptoCard : Claim7 := { stood := { row := fnExactScenarioTextUptoRow, standIns := [], harness := (true, "2c271b79483a257178a32af5f9d45857b8ba7393ee7b52a37738c3113abd97e1"), looks := false }, kinds := [], alts := [], laidByText := true, laidKinds := [.data, .data, .data, .data, .widerDeep], laidTests := true, laidLooks := .later }
def FnExactScenarioTextUptoCardSaid : Prop := Claim7.holds Tryz.pinned (.plain (OpenSpec.upto fnExactScenarioTextSpec)) fnExactScenarioTextUptoCard

/-- THE SECOND FORM's CARD OF 'laws.FnExactIsFair'. -/
def fnExactIsFairUptoCard : Claim7 := { stood := { row := fnExactIsFairUptoRow, standIns := [], harness := (true, "2c271b79483a257178a32af5f9d45857b8ba7393ee7b52a37738c3113abd97e1"), looks := false }, kinds := [], alts := [], laidByText := true, laidKinds := [.data, .data, .data, .data], laidTests := true, laidLooks := .later }
def FnExactIsFairUptoCardSaid : Prop := Claim7.holds Tryz.pinned (.plain (OpenSpec.upto fnExactIsFairSpec)) fnExactIsFairUptoCard
end Rows
end Go.Proofs.YtogomlkoocbhcaaGreatDoor
