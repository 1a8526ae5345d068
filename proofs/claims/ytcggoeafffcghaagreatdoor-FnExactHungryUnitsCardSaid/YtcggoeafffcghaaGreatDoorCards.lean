/-
  DERIVED. GIVEN WITH THE SEED: THE CARDS: each row of YtcggoeafffcghaaGreatDoorRows.lean that lists a variable, with what it lists TIED to the program's text (the seventh form; the later family's looks); each row that meets fmt, with fmt's text TOLD by the authors' own Lean function (tested against real Go, not proved from fmt's source: count such statements apart). THE CARD IS WHAT COUNTS. Prove the row's statement (the work); the ties are given (YtcggoeafffcghaaGreatDoorTie.lean); close each card by the builder's one call (the guide's Derived/Test/ToyasCard.lean, 'card_holds'). Laid BY PROGRAM, IN A SANDBOX (cutbox-door.mjs). By AI agents, Wed Nov 11 2026. No macro, syntax, notation, axiom, sorry.
-/
import Derived.Test.YtcggoeafffcghaaGreatDoorRows
import GoSem.ClaimSeven
namespace Go.Proofs.YtcggoeafffcghaaGreatDoor
namespace Rows

/-- THE TIED CARD OF 'laws.FnExactScenarioFault'. -/
def fnExactScenarioFaultCard : Claim7 := { stood := { row := fnExactScenarioFaultRow, standIns := [], harness := (true, "8403c09c3149babb40455c3f0e9976034714f73af48b15a69e9cb7560cf0871d"), looks := false }, kinds := [], alts := [], laidByText := true, laidKinds := [.data], laidTests := true, laidLooks := .later }
def FnExactScenarioFaultCardSaid : Prop := Claim7.holds Tryz.pinned (.plain (OpenSpec.ofChange fnExactScenarioFaultSpec)) fnExactScenarioFaultCard

/-- THE TIED CARD OF 'laws.FnExactIsScenario'. -/
def fnExactIsScenarioCard : Claim7 := { stood := { row := fnExactIsScenarioRow, standIns := [], harness := (true, "8403c09c3149babb40455c3f0e9976034714f73af48b15a69e9cb7560cf0871d"), looks := false }, kinds := [], alts := [], laidByText := true, laidKinds := [.data], laidTests := true, laidLooks := .later }
def FnExactIsScenarioCardSaid : Prop := Claim7.holds Tryz.pinned (.plain (OpenSpec.ofChange fnExactIsScenarioSpec)) fnExactIsScenarioCard

/-- THE TIED CARD OF 'laws.FnExactForcesOf'. -/
def fnExactForcesOfCard : Claim7 := { stood := { row := fnExactForcesOfRow, standIns := [], harness := (true, "8403c09c3149babb40455c3f0e9976034714f73af48b15a69e9cb7560cf0871d"), looks := false }, kinds := [], alts := [], laidByText := true, laidKinds := [.data], laidTests := true, laidLooks := .later }
def FnExactForcesOfCardSaid : Prop := Claim7.holds Tryz.pinned (.plain (OpenSpec.ofChange fnExactForcesOfSpec)) fnExactForcesOfCard

/-- THE TIED CARD OF 'laws.FnExactSourcesOf'. -/
def fnExactSourcesOfCard : Claim7 := { stood := { row := fnExactSourcesOfRow, standIns := [], harness := (true, "8403c09c3149babb40455c3f0e9976034714f73af48b15a69e9cb7560cf0871d"), looks := false }, kinds := [], alts := [], laidByText := true, laidKinds := [.data], laidTests := true, laidLooks := .later }
def FnExactSourcesOfCardSaid : Prop := Claim7.holds Tryz.pinned (.plain (OpenSpec.ofChange fnExactSourcesOfSpec)) fnExactSourcesOfCard

/-- THE TIED CARD OF 'laws.FnExactHungryUnits'. -/
def fnExactHungryUnitsCard : Claim7 := { stood := { row := fnExactHungryUnitsRow, standIns := [], harness := (true, "8403c09c3149babb40455c3f0e9976034714f73af48b15a69e9cb7560cf0871d"), looks := false }, kinds := [], alts := [], laidByText := true, laidKinds := [.data], laidTests := true, laidLooks := .later }
def FnExactHungryUnitsCardSaid : Prop := Claim7.holds Tryz.pinned (.plain (OpenSpec.ofChange fnExactHungryUnitsSpec)) fnExactHungryUnitsCard

/-- THE TIED CARD OF 'laws.FnExactSwapScenario'. -/
def fnExactSwapScenarioCard : Claim7 := { stood := { row := fnExactSwapScenarioRow, standIns := [], harness := (true, "8403c09c3149babb40455c3f0e9976034714f73af48b15a69e9cb7560cf0871d"), looks := false }, kinds := [], alts := [], laidByText := true, laidKinds := [.data], laidTests := true, laidLooks := .later }
def FnExactSwapScenarioCardSaid : Prop := Claim7.holds Tryz.pinned (.plain (OpenSpec.ofChange fnExactSwapScenarioSpec)) fnExactSwapScenarioCard

/-- THE SECOND FORM's CARD OF 'laws.FnExactScenarioFault'. -/
def fnExactScenarioFaultUptoCard : Claim7 := { stood := { row := fnExactScenarioFaultUptoRow, standIns := [], harness := (true, "8403c09c3149babb40455c3f0e9976034714f73af48b15a69e9cb7560cf0871d"), looks := false }, kinds := [], alts := [], laidByText := true, laidKinds := [.data], laidTests := true, laidLooks := .later }
def FnExactScenarioFaultUptoCardSaid : Prop := Claim7.holds Tryz.pinned (.plain (OpenSpec.upto fnExactScenarioFaultSpec)) fnExactScenarioFaultUptoCard

/-- THE SECOND FORM's CARD OF 'laws.FnExactIsScenario'. -/
def fnExactIsScenarioUptoCard : Claim7 := { stood := { row := fnExactIsScenarioUptoRow, standIns := [], harness := (true, "8403c09c3149babb40455c3f0e9976034714f73af48b15a69e9cb7560cf0871d"), looks := false }, kinds := [], alts := [], laidByText := true, laidKinds := [.data], laidTests := true, laidLooks := .later }
def FnExactIsScenarioUptoCardSaid : Prop := Claim7.holds Tryz.pinned (.plain (OpenSpec.upto fnExactIsScenarioSpec)) fnExactIsScenarioUptoCard

/-- THE SECOND FORM's CARD OF 'laws.FnExactForcesOf'. -/
def fnExactForcesOfUptoCard : Claim7 := { stood := { row := fnExactForcesOfUptoRow, standIns := [], harness := (true, "8403c09c3149babb40455c3f0e9976034714f73af48b15a69e9cb7560cf0871d"), looks := false }, kinds := [], alts := [], laidByText := true, laidKinds := [.data], laidTests := true, laidLooks := .later }
def FnExactForcesOfUptoCardSaid : Prop := Claim7.holds Tryz.pinned (.plain (OpenSpec.upto fnExactForcesOfSpec)) fnExactForcesOfUptoCard

/-- THE SECOND FORM's CARD OF 'laws.FnExactSourcesOf'. -/
def fnExactSourcesOfUptoCard : Claim7 := { stood := { row := fnExactSourcesOfUptoRow, standIns := [], harness := (true, "8403c09c3149babb40455c3f0e9976034714f73af48b15a69e9cb7560cf0871d"), looks := false }, kinds := [], alts := [], laidByText := true, laidKinds := [.data], laidTests := true, laidLooks := .later }
def FnExactSourcesOfUptoCardSaid : Prop := Claim7.holds Tryz.pinned (.plain (OpenSpec.upto fnExactSourcesOfSpec)) fnExactSourcesOfUptoCard

/-- THE SECOND FORM's CARD OF 'laws.FnExactHungryUnits'. -/
def fnExactHungryUnitsUptoCard : Claim7 := { stood := { row := fnExactHungryUnitsUptoRow, standIns := [], harness := (true, "8403c09c3149babb40455c3f0e9976034714f73af48b15a69e9cb7560cf0871d"), looks := false }, kinds := [], alts := [], laidByText := true, laidKinds := [.data], laidTests := true, laidLooks := .later }
def FnExactHungryUnitsUptoCardSaid : Prop := Claim7.holds Tryz.pinned (.plain (OpenSpec.upto fnExactHungryUnitsSpec)) fnExactHungryUnitsUptoCard

/-- THE SECOND FORM's CARD OF 'laws.FnExactSwapScenario'. -/
def fnExactSwapScenarioUptoCard : Claim7 := { stood := { row := fnExactSwapScenarioUptoRow, standIns := [], harness := (true, "8403c09c3149babb40455c3f0e9976034714f73af48b15a69e9cb7560cf0871d"), looks := false }, kinds := [], alts := [], laidByText := true, laidKinds := [.data], laidTests := true, laidLooks := .later }
def FnExactSwapScenarioUptoCardSaid : Prop := Claim7.holds Tryz.pinned (.plain (OpenSpec.upto fnExactSwapScenarioSpec)) fnExactSwapScenarioUptoCard
end Rows
end Go.Proofs.YtcggoeafffcghaaGreatDoor
