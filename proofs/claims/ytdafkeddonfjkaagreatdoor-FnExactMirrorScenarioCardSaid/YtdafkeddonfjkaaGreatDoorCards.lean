/-
  DERIVED. GIVEN WITH THE SEED: THE CARDS: each row of YtdafkeddonfjkaaGreatDoorRows.lean that lists a variable, with what it lists TIED to the program's text (the seventh form; the later family's looks); each row that meets fmt, with fmt's text TOLD by the authors' own Lean function (tested against real Go, not proved from fmt's source: count such statements apart). THE CARD IS WHAT COUNTS. Prove the row's statement (the work); the ties are given (YtdafkeddonfjkaaGreatDoorTie.lean); close each card by the builder's one call (the guide's Derived/Test/ToyasCard.lean, 'card_holds'). Laid BY PROGRAM, IN A SANDBOX (cutbox-door.mjs). By AI agents, Wed Nov 11 2026. No macro, syntax, notation, axiom, sorry.
-/
import Derived.Test.YtdafkeddonfjkaaGreatDoorRows
import GoSem.ClaimSeven
namespace Go.Proofs.YtdafkeddonfjkaaGreatDoor
namespace Rows

/-- THE TIED CARD OF 'laws.FnExactLostGoals'. -/
def fnExactLostGoalsCard : Claim7 := { stood := { row := fnExactLostGoalsRow, standIns := [], harness := (true, "d43ccbc873a7e714bec638b62dee3fc90c8712adff20c8dc9686e3ec63d1e5ad"), looks := false }, kinds := [], alts := [], laidByText := true, laidKinds := [.data], laidTests := true, laidLooks := .later }
def FnExactLostGoalsCardSaid : Prop := Claim7.holds Tryz.pinned (.plain (OpenSpec.ofChange fnExactLostGoalsSpec)) fnExactLostGoalsCard

/-- THE TIED CARD OF 'laws.FnExactMirrorScenario'. -/
def fnExactMirrorScenarioCard : Claim7 := { stood := { row := fnExactMirrorScenarioRow, standIns := [], harness := (true, "d43ccbc873a7e714bec638b62dee3fc90c8712adff20c8dc9686e3ec63d1e5ad"), looks := false }, kinds := [], alts := [], laidByText := true, laidKinds := [.data], laidTests := true, laidLooks := .later }
def FnExactMirrorScenarioCardSaid : Prop := Claim7.holds Tryz.pinned (.plain (OpenSpec.ofChange fnExactMirrorScenarioSpec)) fnExactMirrorScenarioCard

/-- THE SECOND FORM's CARD OF 'laws.FnExactLostGoals'. -/
def fnExactLostGoalsUptoCard : Claim7 := { stood := { row := fnExactLostGoalsUptoRow, standIns := [], harness := (true, "d43ccbc873a7e714bec638b62dee3fc90c8712adff20c8dc9686e3ec63d1e5ad"), looks := false }, kinds := [], alts := [], laidByText := true, laidKinds := [.data], laidTests := true, laidLooks := .later }
def FnExactLostGoalsUptoCardSaid : Prop := Claim7.holds Tryz.pinned (.plain (OpenSpec.upto fnExactLostGoalsSpec)) fnExactLostGoalsUptoCard

/-- THE SECOND FORM's CARD OF 'laws.FnExactMirrorScenario'. -/
def fnExactMirrorScenarioUptoCard : Claim7 := { stood := { row := fnExactMirrorScenarioUptoRow, standIns := [], harness := (true, "d43ccbc873a7e714bec638b62dee3fc90c8712adff20c8dc9686e3ec63d1e5ad"), looks := false }, kinds := [], alts := [], laidByText := true, laidKinds := [.data], laidTests := true, laidLooks := .later }
def FnExactMirrorScenarioUptoCardSaid : Prop := Claim7.holds Tryz.pinned (.plain (OpenSpec.upto fnExactMirrorScenarioSpec)) fnExactMirrorScenarioUptoCard
end Rows
end Go.Proofs.YtdafkeddonfjkaaGreatDoor
