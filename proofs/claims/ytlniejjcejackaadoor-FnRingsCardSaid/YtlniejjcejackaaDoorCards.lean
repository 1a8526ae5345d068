/-
  DERIVED. GIVEN WITH THE SEED: THE CARDS: each row of YtlniejjcejackaaDoorRows.lean that lists a variable, with what it lists TIED to the program's text (the seventh form; the later family's looks); each row that meets fmt, with fmt's text TOLD by the authors' own Lean function (tested against real Go, not proved from fmt's source: count such statements apart). THE CARD IS WHAT COUNTS. Prove the row's statement (the work); the ties are given (YtlniejjcejackaaDoorTie.lean); close each card by the builder's one call (the guide's Derived/Test/ToyasCard.lean, 'card_holds'). Laid BY PROGRAM, IN A SANDBOX (cutbox-door.mjs). By AI agents, Wed Nov 11 2026. No macro, syntax, notation, axiom, sorry.
-/
import Derived.Test.YtlniejjcejackaaDoorRows
import GoSem.ClaimSeven
namespace Go.Proofs.YtlniejjcejackaaDoor
namespace Rows

/-- THE TIED CARD OF 'laws.FnSteps'. -/
def fnStepsCard : Claim7 := { stood := { row := fnStepsRow, standIns := [], harness := (true, "637054bcae22e60d97b9fabcfcd5adf2c16bafcd853079de72affcbcaa8b5b12"), looks := false }, kinds := [], alts := [], laidByText := true, laidKinds := [.data], laidTests := true, laidLooks := .later }
def FnStepsCardSaid : Prop := Claim7.holds Tryd.pinned (.plain (OpenSpec.ofChange fnStepsSpec)) fnStepsCard

/-- THE TIED CARD OF 'laws.FnRings'. -/
def fnRingsCard : Claim7 := { stood := { row := fnRingsRow, standIns := [], harness := (true, "637054bcae22e60d97b9fabcfcd5adf2c16bafcd853079de72affcbcaa8b5b12"), looks := false }, kinds := [], alts := [], laidByText := true, laidKinds := [.data], laidTests := true, laidLooks := .later }
def FnRingsCardSaid : Prop := Claim7.holds Tryd.pinned (.plain (OpenSpec.ofChange fnRingsSpec)) fnRingsCard

/-- THE SECOND FORM's CARD OF 'laws.FnSteps'. -/
def fnStepsUptoCard : Claim7 := { stood := { row := fnStepsUptoRow, standIns := [], harness := (true, "637054bcae22e60d97b9fabcfcd5adf2c16bafcd853079de72affcbcaa8b5b12"), looks := false }, kinds := [], alts := [], laidByText := true, laidKinds := [.data], laidTests := true, laidLooks := .later }
def FnStepsUptoCardSaid : Prop := Claim7.holds Tryd.pinned (.plain (OpenSpec.upto fnStepsSpec)) fnStepsUptoCard

/-- THE SECOND FORM's CARD OF 'laws.FnRings'. -/
def fnRingsUptoCard : Claim7 := { stood := { row := fnRingsUptoRow, standIns := [], harness := (true, "637054bcae22e60d97b9fabcfcd5adf2c16bafcd853079de72affcbcaa8b5b12"), looks := false }, kinds := [], alts := [], laidByText := true, laidKinds := [.data], laidTests := true, laidLooks := .later }
def FnRingsUptoCardSaid : Prop := Claim7.holds Tryd.pinned (.plain (OpenSpec.upto fnRingsSpec)) fnRingsUptoCard
end Rows
end Go.Proofs.YtlniejjcejackaaDoor
