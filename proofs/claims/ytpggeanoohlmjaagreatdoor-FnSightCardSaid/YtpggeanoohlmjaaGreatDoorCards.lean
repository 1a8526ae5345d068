/-
  DERIVED. GIVEN WITH THE SEED: THE CARDS: each row of YtpggeanoohlmjaaGreatDoorRows.lean that lists a variable, with what it lists TIED to the program's text (the seventh form; the later family's looks); each row that meets fmt, with fmt's text TOLD by the authors' own Lean function (tested against real Go, not proved from fmt's source: count such statements apart). THE CARD IS WHAT COUNTS. Prove the row's statement (the work); the ties are given (YtpggeanoohlmjaaGreatDoorTie.lean); close each card by the builder's one call (the guide's Derived/Test/ToyasCard.lean, 'card_holds'). Laid BY PROGRAM, IN A SANDBOX (cutbox-door.mjs). By AI agents, Wed Nov 11 2026. No macro, syntax, notation, axiom, sorry.
-/
import Derived.Test.YtpggeanoohlmjaaGreatDoorRows
import GoSem.ClaimSeven
namespace Go.Proofs.YtpggeanoohlmjaaGreatDoor
namespace Rows

/-- THE TIED CARD OF 'laws.FnCosts'. -/
def fnCostsCard : Claim7 := { stood := { row := fnCostsRow, standIns := [], harness := (true, "ab4c6ebe3f03181c75e2275191d4142bc75cbcf102121aa044ced5fd4414b4ad"), looks := false }, kinds := [], alts := [], laidByText := true, laidKinds := [.data], laidTests := true, laidLooks := .later }
def FnCostsCardSaid : Prop := Claim7.holds Tryz.pinned (.plain (OpenSpec.ofChange fnCostsSpec)) fnCostsCard

/-- THE TIED CARD OF 'laws.FnZones'. -/
def fnZonesCard : Claim7 := { stood := { row := fnZonesRow, standIns := [], harness := (true, "ab4c6ebe3f03181c75e2275191d4142bc75cbcf102121aa044ced5fd4414b4ad"), looks := false }, kinds := [], alts := [], laidByText := true, laidKinds := [.data], laidTests := true, laidLooks := .later }
def FnZonesCardSaid : Prop := Claim7.holds Tryz.pinned (.plain (OpenSpec.ofChange fnZonesSpec)) fnZonesCard

/-- THE TIED CARD OF 'laws.FnSight'. -/
def fnSightCard : Claim7 := { stood := { row := fnSightRow, standIns := [], harness := (true, "ab4c6ebe3f03181c75e2275191d4142bc75cbcf102121aa044ced5fd4414b4ad"), looks := false }, kinds := [], alts := [], laidByText := true, laidKinds := [.data], laidTests := true, laidLooks := .later }
def FnSightCardSaid : Prop := Claim7.holds Tryz.pinned (.plain (OpenSpec.ofChange fnSightSpec)) fnSightCard

/-- THE TIED CARD OF 'laws.FnPlacing'. -/
def fnPlacingCard : Claim7 := { stood := { row := fnPlacingRow, standIns := [], harness := (true, "ab4c6ebe3f03181c75e2275191d4142bc75cbcf102121aa044ced5fd4414b4ad"), looks := false }, kinds := [], alts := [], laidByText := true, laidKinds := [.data], laidTests := true, laidLooks := .later }
def FnPlacingCardSaid : Prop := Claim7.holds Tryz.pinned (.plain (OpenSpec.ofChange fnPlacingSpec)) fnPlacingCard

/-- THE SECOND FORM's CARD OF 'laws.FnCosts'. -/
def fnCostsUptoCard : Claim7 := { stood := { row := fnCostsUptoRow, standIns := [], harness := (true, "ab4c6ebe3f03181c75e2275191d4142bc75cbcf102121aa044ced5fd4414b4ad"), looks := false }, kinds := [], alts := [], laidByText := true, laidKinds := [.data], laidTests := true, laidLooks := .later }
def FnCostsUptoCardSaid : Prop := Claim7.holds Tryz.pinned (.plain (OpenSpec.upto fnCostsSpec)) fnCostsUptoCard

/-- THE SECOND FORM's CARD OF 'laws.FnZones'. -/
def fnZonesUptoCard : Claim7 := { stood := { row := fnZonesUptoRow, standIns := [], harness := (true, "ab4c6ebe3f03181c75e2275191d4142bc75cbcf102121aa044ced5fd4414b4ad"), looks := false }, kinds := [], alts := [], laidByText := true, laidKinds := [.data], laidTests := true, laidLooks := .later }
def FnZonesUptoCardSaid : Prop := Claim7.holds Tryz.pinned (.plain (OpenSpec.upto fnZonesSpec)) fnZonesUptoCard

/-- THE SECOND FORM's CARD OF 'laws.FnSight'. -/
def fnSightUptoCard : Claim7 := { stood := { row := fnSightUptoRow, standIns := [], harness := (true, "ab4c6ebe3f03181c75e2275191d4142bc75cbcf102121aa044ced5fd4414b4ad"), looks := false }, kinds := [], alts := [], laidByText := true, laidKinds := [.data], laidTests := true, laidLooks := .later }
def FnSightUptoCardSaid : Prop := Claim7.holds Tryz.pinned (.plain (OpenSpec.upto fnSightSpec)) fnSightUptoCard

/-- THE SECOND FORM's CARD OF 'laws.FnPlacing'. -/
def fnPlacingUptoCard : Claim7 := { stood := { row := fnPlacingUptoRow, standIns := [], harness := (true, "ab4c6ebe3f03181c75e2275191d4142bc75cbcf102121aa044ced5fd4414b4ad"), looks := false }, kinds := [], alts := [], laidByText := true, laidKinds := [.data], laidTests := true, laidLooks := .later }
def FnPlacingUptoCardSaid : Prop := Claim7.holds Tryz.pinned (.plain (OpenSpec.upto fnPlacingSpec)) fnPlacingUptoCard
end Rows
end Go.Proofs.YtpggeanoohlmjaaGreatDoor
