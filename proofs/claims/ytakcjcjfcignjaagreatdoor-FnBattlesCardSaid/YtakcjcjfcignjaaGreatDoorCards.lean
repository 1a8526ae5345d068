/-
  DERIVED. GIVEN WITH THE SEED: THE CARDS: each row of YtakcjcjfcignjaaGreatDoorRows.lean that lists a variable, with what it lists TIED to the program's text (the seventh form; the later family's looks); each row that meets fmt, with fmt's text TOLD by the authors' own Lean function (tested against real Go, not proved from fmt's source: count such statements apart). THE CARD IS WHAT COUNTS. Prove the row's statement (the work); the ties are given (YtakcjcjfcignjaaGreatDoorTie.lean); close each card by the builder's one call (the guide's Derived/Test/ToyasCard.lean, 'card_holds'). Laid BY PROGRAM, IN A SANDBOX (cutbox-door.mjs). By AI agents, Wed Nov 11 2026. No macro, syntax, notation, axiom, sorry.
-/
import Derived.Test.YtakcjcjfcignjaaGreatDoorRows
import GoSem.ClaimSeven
namespace Go.Proofs.YtakcjcjfcignjaaGreatDoor
namespace Rows

/-- THE TIED CARD OF 'laws.FnLookouts'. -/
def fnLookoutsCard : Claim7 := { stood := { row := fnLookoutsRow, standIns := [], harness := (true, "842f11488c196283ab5110b59c50da4334cf180b824e800046d1a1cf2478710f"), looks := false }, kinds := [], alts := [], laidByText := true, laidKinds := [.data], laidTests := true, laidLooks := .later }
def FnLookoutsCardSaid : Prop := Claim7.holds Tryz.pinned (.plain (OpenSpec.ofChange fnLookoutsSpec)) fnLookoutsCard

/-- THE TIED CARD OF 'laws.FnExits'. -/
def fnExitsCard : Claim7 := { stood := { row := fnExitsRow, standIns := [], harness := (true, "842f11488c196283ab5110b59c50da4334cf180b824e800046d1a1cf2478710f"), looks := false }, kinds := [], alts := [], laidByText := true, laidKinds := [.data], laidTests := true, laidLooks := .later }
def FnExitsCardSaid : Prop := Claim7.holds Tryz.pinned (.plain (OpenSpec.ofChange fnExitsSpec)) fnExitsCard

/-- THE TIED CARD OF 'laws.FnControl'. -/
def fnControlCard : Claim7 := { stood := { row := fnControlRow, standIns := [], harness := (true, "842f11488c196283ab5110b59c50da4334cf180b824e800046d1a1cf2478710f"), looks := false }, kinds := [], alts := [], laidByText := true, laidKinds := [.data], laidTests := true, laidLooks := .later }
def FnControlCardSaid : Prop := Claim7.holds Tryz.pinned (.plain (OpenSpec.ofChange fnControlSpec)) fnControlCard

/-- THE TIED CARD OF 'laws.FnBattles'. -/
def fnBattlesCard : Claim7 := { stood := { row := fnBattlesRow, standIns := [], harness := (true, "842f11488c196283ab5110b59c50da4334cf180b824e800046d1a1cf2478710f"), looks := false }, kinds := [], alts := [], laidByText := true, laidKinds := [.data], laidTests := true, laidLooks := .later }
def FnBattlesCardSaid : Prop := Claim7.holds Tryz.pinned (.plain (OpenSpec.ofChange fnBattlesSpec)) fnBattlesCard

/-- THE SECOND FORM's CARD OF 'laws.FnLookouts'. -/
def fnLookoutsUptoCard : Claim7 := { stood := { row := fnLookoutsUptoRow, standIns := [], harness := (true, "842f11488c196283ab5110b59c50da4334cf180b824e800046d1a1cf2478710f"), looks := false }, kinds := [], alts := [], laidByText := true, laidKinds := [.data], laidTests := true, laidLooks := .later }
def FnLookoutsUptoCardSaid : Prop := Claim7.holds Tryz.pinned (.plain (OpenSpec.upto fnLookoutsSpec)) fnLookoutsUptoCard

/-- THE SECOND FORM's CARD OF 'laws.FnExits'. -/
def fnExitsUptoCard : Claim7 := { stood := { row := fnExitsUptoRow, standIns := [], harness := (true, "842f11488c196283ab5110b59c50da4334cf180b824e800046d1a1cf2478710f"), looks := false }, kinds := [], alts := [], laidByText := true, laidKinds := [.data], laidTests := true, laidLooks := .later }
def FnExitsUptoCardSaid : Prop := Claim7.holds Tryz.pinned (.plain (OpenSpec.upto fnExitsSpec)) fnExitsUptoCard

/-- THE SECOND FORM's CARD OF 'laws.FnControl'. -/
def fnControlUptoCard : Claim7 := { stood := { row := fnControlUptoRow, standIns := [], harness := (true, "842f11488c196283ab5110b59c50da4334cf180b824e800046d1a1cf2478710f"), looks := false }, kinds := [], alts := [], laidByText := true, laidKinds := [.data], laidTests := true, laidLooks := .later }
def FnControlUptoCardSaid : Prop := Claim7.holds Tryz.pinned (.plain (OpenSpec.upto fnControlSpec)) fnControlUptoCard

/-- THE SECOND FORM's CARD OF 'laws.FnBattles'. -/
def fnBattlesUptoCard : Claim7 := { stood := { row := fnBattlesUptoRow, standIns := [], harness := (true, "842f11488c196283ab5110b59c50da4334cf180b824e800046d1a1cf2478710f"), looks := false }, kinds := [], alts := [], laidByText := true, laidKinds := [.data], laidTests := true, laidLooks := .later }
def FnBattlesUptoCardSaid : Prop := Claim7.holds Tryz.pinned (.plain (OpenSpec.upto fnBattlesSpec)) fnBattlesUptoCard
end Rows
end Go.Proofs.YtakcjcjfcignjaaGreatDoor
