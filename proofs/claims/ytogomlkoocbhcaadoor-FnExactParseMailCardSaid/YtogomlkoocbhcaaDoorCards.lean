/-
  DERIVED. GIVEN WITH THE SEED: THE CARDS: each row of YtogomlkoocbhcaaDoorRows.lean that lists a variable, with what it lists TIED to the program's text (the seventh form; the later family's looks); each row that meets fmt, with fmt's text TOLD by the authors' own Lean function (tested against real Go, not proved from fmt's source: count such statements apart). THE CARD IS WHAT COUNTS. Prove the row's statement (the work); the ties are given (YtogomlkoocbhcaaDoorTie.lean); close each card by the builder's one call (the guide's Derived/Test/ToyasCard.lean, 'card_holds'). Laid BY PROGRAM, IN A SANDBOX (cutbox-door.mjs). By AI agents, Wed Nov 11 2026. No macro, syntax, notation, axiom, sorry.
-/
import Derived.Test.YtogomlkoocbhcaaDoorRows
import GoSem.ClaimSeven
namespace Go.Proofs.YtogomlkoocbhcaaDoor
namespace Rows

/-- THE TIED CARD OF 'laws.FnExactMailText'. -/
def fnExactMailTextCard : Claim7 := { stood := { row := fnExactMailTextRow, standIns := [], harness := (true, "8c4f2786434bcb89d157a2dc0795873916fac98be09842bc62da51087793ce39"), looks := true }, kinds := [], alts := [], laidByText := true, laidKinds := [.data, .data, .data], laidTests := true, laidLooks := .later }
def FnExactMailTextCardSaid : Prop := Claim7.holds Tryd.pinned (.plain (OpenSpec.ofChange fnExactMailTextSpec)) fnExactMailTextCard

/-- THE TIED CARD OF 'laws.FnExactParseMail'. -/
def fnExactParseMailCard : Claim7 := { stood := { row := fnExactParseMailRow, standIns := [], harness := (true, "8c4f2786434bcb89d157a2dc0795873916fac98be09842bc62da51087793ce39"), looks := true }, kinds := [], alts := [], laidByText := true, laidKinds := [.data, .data, .data, .data, .sentinel, .sentinel, .pinned], laidTests := true, laidLooks := .later }
def FnExactParseMailCardSaid : Prop := Claim7.holds Tryd.pinned (.plain (OpenSpec.ofChange fnExactParseMailSpec)) fnExactParseMailCard

/-- THE SECOND FORM's CARD OF 'laws.FnExactMailText'. -/
def fnExactMailTextUptoCard : Claim7 := { stood := { row := fnExactMailTextUptoRow, standIns := [], harness := (true, "8c4f2786434bcb89d157a2dc0795873916fac98be09842bc62da51087793ce39"), looks := true }, kinds := [], alts := [], laidByText := true, laidKinds := [.data, .data, .data], laidTests := true, laidLooks := .later }
def FnExactMailTextUptoCardSaid : Prop := Claim7.holds Tryd.pinned (.plain (OpenSpec.upto fnExactMailTextSpec)) fnExactMailTextUptoCard

/-- THE SECOND FORM's CARD OF 'laws.FnExactParseMail'. -/
def fnExactParseMailUptoCard : Claim7 := { stood := { row := fnExactParseMailUptoRow, standIns := [], harness := (true, "8c4f2786434bcb89d157a2dc0795873916fac98be09842bc62da51087793ce39"), looks := true }, kinds := [], alts := [], laidByText := true, laidKinds := [.data, .data, .data, .data, .sentinel, .sentinel, .pinned], laidTests := true, laidLooks := .later }
def FnExactParseMailUptoCardSaid : Prop := Claim7.holds Tryd.pinned (.plain (OpenSpec.upto fnExactParseMailSpec)) fnExactParseMailUptoCard
end Rows
end Go.Proofs.YtogomlkoocbhcaaDoor
