/-
  DERIVED. GIVEN WITH THE SEED: THE CARDS: each row of YtcblbhjbocipbaaDoorRows.lean that lists a variable, with what it lists TIED to the program's text (the seventh form; the later family's looks); each row that meets fmt, with fmt's text TOLD by the authors' own Lean function (tested against real Go, not proved from fmt's source: count such statements apart). THE CARD IS WHAT COUNTS. Prove the row's statement (the work); the ties are given (YtcblbhjbocipbaaDoorTie.lean); close each card by the builder's one call (the guide's Derived/Test/ToyasCard.lean, 'card_holds'). Laid BY PROGRAM, IN A SANDBOX (cutbox-door.mjs). By AI agents, Wed Nov 11 2026. No macro, syntax, notation, axiom, sorry.
-/
import Derived.Test.YtcblbhjbocipbaaDoorRows
import GoSem.ClaimSeven
namespace Go.Proofs.YtcblbhjbocipbaaDoor
namespace Rows

/-- THE TIED CARD OF 'laws.FnQueues'. -/
def fnQueuesCard : Claim7 := { stood := { row := fnQueuesRow, standIns := [], harness := (true, "664ad2e5a66384dcfeccbdf839a4e1fcfeb8a68f5cf5839bb0c24d5a82238876"), looks := false }, kinds := [], alts := [], laidByText := true, laidKinds := [.data], laidTests := true, laidLooks := .later }
def FnQueuesCardSaid : Prop := Claim7.holds Tryd.pinned (.plain (OpenSpec.ofChange fnQueuesSpec)) fnQueuesCard

/-- THE SECOND FORM's CARD OF 'laws.FnQueues'. -/
def fnQueuesUptoCard : Claim7 := { stood := { row := fnQueuesUptoRow, standIns := [], harness := (true, "664ad2e5a66384dcfeccbdf839a4e1fcfeb8a68f5cf5839bb0c24d5a82238876"), looks := false }, kinds := [], alts := [], laidByText := true, laidKinds := [.data], laidTests := true, laidLooks := .later }
def FnQueuesUptoCardSaid : Prop := Claim7.holds Tryd.pinned (.plain (OpenSpec.upto fnQueuesSpec)) fnQueuesUptoCard
end Rows
end Go.Proofs.YtcblbhjbocipbaaDoor
