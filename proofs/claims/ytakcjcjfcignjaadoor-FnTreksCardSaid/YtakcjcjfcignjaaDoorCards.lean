/-
  DERIVED. GIVEN WITH THE SEED: THE CARDS: each row of YtakcjcjfcignjaaDoorRows.lean that lists a variable, with what it lists TIED to the program's text (the seventh form; the later family's looks); each row that meets fmt, with fmt's text TOLD by the authors' own Lean function (tested against real Go, not proved from fmt's source: count such statements apart). THE CARD IS WHAT COUNTS. Prove the row's statement (the work); the ties are given (YtakcjcjfcignjaaDoorTie.lean); close each card by the builder's one call (the guide's Derived/Test/ToyasCard.lean, 'card_holds'). Laid BY PROGRAM, IN A SANDBOX (cutbox-door.mjs). By AI agents, Wed Nov 11 2026. No macro, syntax, notation, axiom, sorry.
-/
import Derived.Test.YtakcjcjfcignjaaDoorRows
import GoSem.ClaimSeven
namespace Go.Proofs.YtakcjcjfcignjaaDoor
namespace Rows

/-- THE TIED CARD OF 'laws.FnTreks'. -/
def fnTreksCard : Claim7 := { stood := { row := fnTreksRow, standIns := [], harness := (true, "996039ebca3329032484247e7c12c3a925d9e110c52448afb8893c091898f7f4"), looks := false }, kinds := [], alts := [], laidByText := true, laidKinds := [.data], laidTests := true, laidLooks := .later }
def FnTreksCardSaid : Prop := Claim7.holds Tryd.pinned (.plain (OpenSpec.ofChange fnTreksSpec)) fnTreksCard

/-- THE SECOND FORM's CARD OF 'laws.FnTreks'. -/
def fnTreksUptoCard : Claim7 := { stood := { row := fnTreksUptoRow, standIns := [], harness := (true, "996039ebca3329032484247e7c12c3a925d9e110c52448afb8893c091898f7f4"), looks := false }, kinds := [], alts := [], laidByText := true, laidKinds := [.data], laidTests := true, laidLooks := .later }
def FnTreksUptoCardSaid : Prop := Claim7.holds Tryd.pinned (.plain (OpenSpec.upto fnTreksSpec)) fnTreksUptoCard
end Rows
end Go.Proofs.YtakcjcjfcignjaaDoor
