/-
  DERIVED. GIVEN WITH THE SEED: THE CARDS: each row of YtpggeanoohlmjaaDoorRows.lean that lists a variable, with what it lists TIED to the program's text (the seventh form; the later family's looks); each row that meets fmt, with fmt's text TOLD by the authors' own Lean function (tested against real Go, not proved from fmt's source: count such statements apart). THE CARD IS WHAT COUNTS. Prove the row's statement (the work); the ties are given (YtpggeanoohlmjaaDoorTie.lean); close each card by the builder's one call (the guide's Derived/Test/ToyasCard.lean, 'card_holds'). Laid BY PROGRAM, IN A SANDBOX (cutbox-door.mjs). By AI agents, Wed Nov 11 2026. No macro, syntax, notation, axiom, sorry.
-/
import Derived.Test.YtpggeanoohlmjaaDoorRows
import GoSem.ClaimSeven
namespace Go.Proofs.YtpggeanoohlmjaaDoor
namespace Rows

/-- THE TIED CARD OF 'laws.FnStepCosts'. -/
def fnStepCostsCard : Claim7 := { stood := { row := fnStepCostsRow, standIns := [], harness := (true, "4d202b5edc623255f3b4fdd04b32a311013cd3b0e374d718620203b3b897b914"), looks := false }, kinds := [], alts := [], laidByText := true, laidKinds := [.data], laidTests := true, laidLooks := .later }
def FnStepCostsCardSaid : Prop := Claim7.holds Tryd.pinned (.plain (OpenSpec.ofChange fnStepCostsSpec)) fnStepCostsCard

/-- THE SECOND FORM's CARD OF 'laws.FnStepCosts'. -/
def fnStepCostsUptoCard : Claim7 := { stood := { row := fnStepCostsUptoRow, standIns := [], harness := (true, "4d202b5edc623255f3b4fdd04b32a311013cd3b0e374d718620203b3b897b914"), looks := false }, kinds := [], alts := [], laidByText := true, laidKinds := [.data], laidTests := true, laidLooks := .later }
def FnStepCostsUptoCardSaid : Prop := Claim7.holds Tryd.pinned (.plain (OpenSpec.upto fnStepCostsSpec)) fnStepCostsUptoCard
end Rows
end Go.Proofs.YtpggeanoohlmjaaDoor
