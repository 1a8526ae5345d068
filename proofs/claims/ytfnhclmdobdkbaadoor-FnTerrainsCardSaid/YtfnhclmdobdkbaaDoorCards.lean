/-
  DERIVED. GIVEN WITH THE SEED: THE CARDS: each row of YtfnhclmdobdkbaaDoorRows.lean that lists a variable, with what it lists TIED to the program's text (the seventh form; the later family's looks); each row that meets fmt, with fmt's text TOLD by the authors' own Lean function (tested against real Go, not proved from fmt's source: count such statements apart). THE CARD IS WHAT COUNTS. Prove the row's statement (the work); the ties are given (YtfnhclmdobdkbaaDoorTie.lean); close each card by the builder's one call (the guide's Derived/Test/ToyasCard.lean, 'card_holds'). Laid BY PROGRAM, IN A SANDBOX (cutbox-door.mjs). By AI agents, Wed Nov 11 2026. No macro, syntax, notation, axiom, sorry.
-/
import Derived.Test.YtfnhclmdobdkbaaDoorRows
import GoSem.ClaimSeven
namespace Go.Proofs.YtfnhclmdobdkbaaDoor
namespace Rows

/-- THE TIED CARD OF 'laws.FnPlaces'. -/
def fnPlacesCard : Claim7 := { stood := { row := fnPlacesRow, standIns := [], harness := (true, "220028303c9aa2bd3065ec88ac6c35e612d17fce8ff4c710c55f810e2e22aa4b"), looks := false }, kinds := [], alts := [], laidByText := true, laidKinds := [.data], laidTests := true, laidLooks := .later }
def FnPlacesCardSaid : Prop := Claim7.holds Tryd.pinned (.plain (OpenSpec.ofChange fnPlacesSpec)) fnPlacesCard

/-- THE TIED CARD OF 'laws.FnQueues'. -/
def fnQueuesCard : Claim7 := { stood := { row := fnQueuesRow, standIns := [], harness := (true, "220028303c9aa2bd3065ec88ac6c35e612d17fce8ff4c710c55f810e2e22aa4b"), looks := false }, kinds := [], alts := [], laidByText := true, laidKinds := [.data], laidTests := true, laidLooks := .later }
def FnQueuesCardSaid : Prop := Claim7.holds Tryd.pinned (.plain (OpenSpec.ofChange fnQueuesSpec)) fnQueuesCard

/-- THE TIED CARD OF 'laws.FnTerrains'. -/
def fnTerrainsCard : Claim7 := { stood := { row := fnTerrainsRow, standIns := [], harness := (true, "220028303c9aa2bd3065ec88ac6c35e612d17fce8ff4c710c55f810e2e22aa4b"), looks := false }, kinds := [], alts := [], laidByText := true, laidKinds := [.data], laidTests := true, laidLooks := .later }
def FnTerrainsCardSaid : Prop := Claim7.holds Tryd.pinned (.plain (OpenSpec.ofChange fnTerrainsSpec)) fnTerrainsCard

/-- THE SECOND FORM's CARD OF 'laws.FnPlaces'. -/
def fnPlacesUptoCard : Claim7 := { stood := { row := fnPlacesUptoRow, standIns := [], harness := (true, "220028303c9aa2bd3065ec88ac6c35e612d17fce8ff4c710c55f810e2e22aa4b"), looks := false }, kinds := [], alts := [], laidByText := true, laidKinds := [.data], laidTests := true, laidLooks := .later }
def FnPlacesUptoCardSaid : Prop := Claim7.holds Tryd.pinned (.plain (OpenSpec.upto fnPlacesSpec)) fnPlacesUptoCard

/-- THE SECOND FORM's CARD OF 'laws.FnQueues'. -/
def fnQueuesUptoCard : Claim7 := { stood := { row := fnQueuesUptoRow, standIns := [], harness := (true, "220028303c9aa2bd3065ec88ac6c35e612d17fce8ff4c710c55f810e2e22aa4b"), looks := false }, kinds := [], alts := [], laidByText := true, laidKinds := [.data], laidTests := true, laidLooks := .later }
def FnQueuesUptoCardSaid : Prop := Claim7.holds Tryd.pinned (.plain (OpenSpec.upto fnQueuesSpec)) fnQueuesUptoCard

/-- THE SECOND FORM's CARD OF 'laws.FnTerrains'. -/
def fnTerrainsUptoCard : Claim7 := { stood := { row := fnTerrainsUptoRow, standIns := [], harness := (true, "220028303c9aa2bd3065ec88ac6c35e612d17fce8ff4c710c55f810e2e22aa4b"), looks := false }, kinds := [], alts := [], laidByText := true, laidKinds := [.data], laidTests := true, laidLooks := .later }
def FnTerrainsUptoCardSaid : Prop := Claim7.holds Tryd.pinned (.plain (OpenSpec.upto fnTerrainsSpec)) fnTerrainsUptoCard
end Rows
end Go.Proofs.YtfnhclmdobdkbaaDoor
