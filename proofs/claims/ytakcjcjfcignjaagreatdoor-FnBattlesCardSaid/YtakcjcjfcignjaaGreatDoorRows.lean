/-
  NARROWER THAN 'FOR EVERY INPUT', by the rows' own cells (each row's printed sentence says how): FnLookouts: laid · FnExits: laid · FnControl: laid · FnBattles: laid.
  DERIVED. THE GIVEN ROWS OF THIS SEAT. 4 by the template 'for every input the law returns true; each argument reads behind the call as it read before'; 0 by the template 'total and deterministic' (their statements: YtakcjcjfcignjaaGreatDoorTotals.lean).
  GIVEN WITH THE SEED: the statements are not yours to turn. If you find one false, say at which input.
  Laid BY PROGRAM, IN A SANDBOX (cutbox-rows.mjs): the forced cells as the released guide's own fill.sh prints them over the translation cbbb4d790e85a07e… (all of the seat's roots in one cut). By AI agents, Wed Nov 11 2026. No macro, syntax, notation, axiom, sorry.
-/
import Derived.Test.YtakcjcjfcignjaaGreatDoorChecked
import GoSem.Claim
import GoSem.ClaimJoined
import GoSem.ClaimMapViews
import Derived.JoinedTies
import Derived.KernelRfl
namespace Go.Proofs.YtakcjcjfcignjaaGreatDoor
/- THE CELL 'sum', in the pinned program and in every row, IS THE sha256 OF THE DUMP (.gsa) THAT YtakcjcjfcignjaaGreatDoorProg.lean LOADS. Nothing in Lean hashes anything: it is a label: what it is worth is what the hold of that sum in a sandbox is worth. -/
noncomputable def Tryz.pinned : Pinned := { name := "ytakcjcjfcignjaagreatdoor", sum := "cbbb4d790e85a07e76c3f3e30fe00a4b311bac81d6924d271a0ec99c908d0648", checked := Tryz.checked }
namespace Rows
def none {H : Type} : Left H := { results := [], args := [] }

/- WHAT THE LISTED PACKAGE-LEVEL VARIABLES READ AS WHEN THE CALL BEGINS. Each datum BY PROGRAM (the guide's laid-datum.mjs) off the statement by which the dump's own 'gosem.cut.vars' lays the variable. In a bare row this is a premise. The card (YtakcjcjfcignjaaGreatDoorCards.lean) ties it to the program's text. -/
def laid_loop_example_g00886_impl_directions {H : Type} : DataW H := .agg [.agg [.lit (.int .i64 1), .lit (.int .i64 0)], .agg [.lit (.int .i64 1), .lit (.int .i64 (-1))], .agg [.lit (.int .i64 0), .lit (.int .i64 (-1))], .agg [.lit (.int .i64 (-1)), .lit (.int .i64 0)], .agg [.lit (.int .i64 (-1)), .lit (.int .i64 1)], .agg [.lit (.int .i64 0), .lit (.int .i64 1)]]

/-- 'laws.FnLookouts': WHATEVER THE INPUT: true; the input reads as it did. -/
def fnLookoutsSpec : ChangeSpec := { name := "fnLookouts", vars := ["loop.example/g00886/impl.directions"], fn := fun _ => fun
  | [d1, d2, g1] => { results := [.lit (.bool true)], args := [d1, d2], vars := [g1] }
  | _ => none }
def fnLookoutsRow : OpenClaim := { program := "ytakcjcjfcignjaagreatdoor", sum := "cbbb4d790e85a07e76c3f3e30fe00a4b311bac81d6924d271a0ec99c908d0648", func := "loop.example/g00886/laws.FnLookouts", spec := "fnLookouts", unfollowed := true, recurses := true, named := ["loop.example/g00886/impl.directions"], apart := false, laid := [("loop.example/g00886/impl.directions", laid_loop_example_g00886_impl_directions)] }
def FnLookoutsSaid : Prop := fnLookoutsRow.holds Tryz.pinned (OpenSpec.ofChange fnLookoutsSpec)

/-- ITS FALSE NEIGHBOUR: 'it returns false'. Refute it at one input. -/
def fnLookoutsWrong : ChangeSpec := { name := "fnLookouts", vars := ["loop.example/g00886/impl.directions"], fn := fun _ => fun
  | [d1, d2, g1] => { results := [.lit (.bool false)], args := [d1, d2], vars := [g1] }
  | _ => none }
def FnLookoutsWrongFalsely : Prop := fnLookoutsRow.holds Tryz.pinned (OpenSpec.ofChange fnLookoutsWrong)

/-- 'laws.FnExits': WHATEVER THE INPUT: true; the input reads as it did. -/
def fnExitsSpec : ChangeSpec := { name := "fnExits", vars := ["loop.example/g00886/impl.directions"], fn := fun _ => fun
  | [d1, d2, g1] => { results := [.lit (.bool true)], args := [d1, d2], vars := [g1] }
  | _ => none }
def fnExitsRow : OpenClaim := { program := "ytakcjcjfcignjaagreatdoor", sum := "cbbb4d790e85a07e76c3f3e30fe00a4b311bac81d6924d271a0ec99c908d0648", func := "loop.example/g00886/laws.FnExits", spec := "fnExits", unfollowed := true, recurses := true, named := ["loop.example/g00886/impl.directions"], apart := false, laid := [("loop.example/g00886/impl.directions", laid_loop_example_g00886_impl_directions)] }
def FnExitsSaid : Prop := fnExitsRow.holds Tryz.pinned (OpenSpec.ofChange fnExitsSpec)

/-- ITS FALSE NEIGHBOUR: 'it returns false'. Refute it at one input. -/
def fnExitsWrong : ChangeSpec := { name := "fnExits", vars := ["loop.example/g00886/impl.directions"], fn := fun _ => fun
  | [d1, d2, g1] => { results := [.lit (.bool false)], args := [d1, d2], vars := [g1] }
  | _ => none }
def FnExitsWrongFalsely : Prop := fnExitsRow.holds Tryz.pinned (OpenSpec.ofChange fnExitsWrong)

/-- 'laws.FnControl': WHATEVER THE INPUT: true; the input reads as it did. -/
def fnControlSpec : ChangeSpec := { name := "fnControl", vars := ["loop.example/g00886/impl.directions"], fn := fun _ => fun
  | [d1, d2, g1] => { results := [.lit (.bool true)], args := [d1, d2], vars := [g1] }
  | _ => none }
def fnControlRow : OpenClaim := { program := "ytakcjcjfcignjaagreatdoor", sum := "cbbb4d790e85a07e76c3f3e30fe00a4b311bac81d6924d271a0ec99c908d0648", func := "loop.example/g00886/laws.FnControl", spec := "fnControl", unfollowed := true, recurses := true, named := ["loop.example/g00886/impl.directions"], apart := false, laid := [("loop.example/g00886/impl.directions", laid_loop_example_g00886_impl_directions)] }
def FnControlSaid : Prop := fnControlRow.holds Tryz.pinned (OpenSpec.ofChange fnControlSpec)

/-- ITS FALSE NEIGHBOUR: 'it returns false'. Refute it at one input. -/
def fnControlWrong : ChangeSpec := { name := "fnControl", vars := ["loop.example/g00886/impl.directions"], fn := fun _ => fun
  | [d1, d2, g1] => { results := [.lit (.bool false)], args := [d1, d2], vars := [g1] }
  | _ => none }
def FnControlWrongFalsely : Prop := fnControlRow.holds Tryz.pinned (OpenSpec.ofChange fnControlWrong)

/-- 'laws.FnBattles': WHATEVER THE INPUT: true; the input reads as it did. -/
def fnBattlesSpec : ChangeSpec := { name := "fnBattles", vars := ["loop.example/g00886/impl.directions"], fn := fun _ => fun
  | [d1, d2, g1] => { results := [.lit (.bool true)], args := [d1, d2], vars := [g1] }
  | _ => none }
def fnBattlesRow : OpenClaim := { program := "ytakcjcjfcignjaagreatdoor", sum := "cbbb4d790e85a07e76c3f3e30fe00a4b311bac81d6924d271a0ec99c908d0648", func := "loop.example/g00886/laws.FnBattles", spec := "fnBattles", unfollowed := true, recurses := true, named := ["loop.example/g00886/impl.directions"], apart := false, laid := [("loop.example/g00886/impl.directions", laid_loop_example_g00886_impl_directions)] }
def FnBattlesSaid : Prop := fnBattlesRow.holds Tryz.pinned (OpenSpec.ofChange fnBattlesSpec)

/-- ITS FALSE NEIGHBOUR: 'it returns false'. Refute it at one input. -/
def fnBattlesWrong : ChangeSpec := { name := "fnBattles", vars := ["loop.example/g00886/impl.directions"], fn := fun _ => fun
  | [d1, d2, g1] => { results := [.lit (.bool false)], args := [d1, d2], vars := [g1] }
  | _ => none }
def FnBattlesWrongFalsely : Prop := fnBattlesRow.holds Tryz.pinned (OpenSpec.ofChange fnBattlesWrong)

/- THE SECOND FORM. 'bulk': how many values and letters a reading holds, each counted each time it is reached (what is shared counts as often as it is met; a slice's spare places count too). A statement '..UptoSaid' is the law's where the arguments, and the package variables that the reading takes, are together of bulk at most 1048576: NARROWER than '..Said'. Prove '..Said' where nothing that the law and all that it calls make is longer than what came in: it says more and counts as full. Else prove '..UptoSaid'. A law counts once. -/
mutual
def uptoBulk {H : Type} : DataW H → Nat
  | .lit (.string bytes) => bytes.length + 1
  | .lit _ => 1
  | .nil => 1
  | .ptr d => uptoBulk d + 1
  | .slice elems spare => uptoBulkAll elems + uptoBulkAll spare + 1
  | .agg parts => uptoBulkAll parts + 1
  | .iface _ d => uptoBulk d + 1
  | .map entries => uptoBulkEntries entries + 1
  | .held _ => 1
def uptoBulkAll {H : Type} : List (DataW H) → Nat
  | [] => 0
  | d :: r => uptoBulk d + uptoBulkAll r
def uptoBulkEntries {H : Type} : List (Lit × DataW H) → Nat
  | [] => 0
  | x :: r => uptoBulkEntry x + uptoBulkEntries r
def uptoBulkEntry {H : Type} : Lit × DataW H → Nat
  | (.string bytes, d) => bytes.length + uptoBulk d + 1
  | (_, d) => uptoBulk d + 1
 end
def uptoSmall : (H : Type) → List (DataW H) → Bool := fun _ ds => decide (uptoBulkAll ds ≤ 1048576)
def OpenSpec.upto (s : _root_.Go.ChangeSpec) : _root_.Go.OpenSpec := { _root_.Go.OpenSpec.ofChange s with cond := some uptoSmall }

/-- 'laws.FnLookouts', WHERE WHAT IT READS IS OF BULK AT MOST 1048576: true; the input reads as it did. -/
def fnLookoutsUptoRow : OpenClaim := { program := "ytakcjcjfcignjaagreatdoor", sum := "cbbb4d790e85a07e76c3f3e30fe00a4b311bac81d6924d271a0ec99c908d0648", func := "loop.example/g00886/laws.FnLookouts", spec := "fnLookouts", unfollowed := true, recurses := true, named := ["loop.example/g00886/impl.directions"], apart := false, laid := [("loop.example/g00886/impl.directions", laid_loop_example_g00886_impl_directions)], narrowed := true }
def FnLookoutsUptoSaid : Prop := fnLookoutsUptoRow.holds Tryz.pinned (OpenSpec.upto fnLookoutsSpec)

/-- 'laws.FnExits', WHERE WHAT IT READS IS OF BULK AT MOST 1048576: true; the input reads as it did. -/
def fnExitsUptoRow : OpenClaim := { program := "ytakcjcjfcignjaagreatdoor", sum := "cbbb4d790e85a07e76c3f3e30fe00a4b311bac81d6924d271a0ec99c908d0648", func := "loop.example/g00886/laws.FnExits", spec := "fnExits", unfollowed := true, recurses := true, named := ["loop.example/g00886/impl.directions"], apart := false, laid := [("loop.example/g00886/impl.directions", laid_loop_example_g00886_impl_directions)], narrowed := true }
def FnExitsUptoSaid : Prop := fnExitsUptoRow.holds Tryz.pinned (OpenSpec.upto fnExitsSpec)

/-- 'laws.FnControl', WHERE WHAT IT READS IS OF BULK AT MOST 1048576: true; the input reads as it did. -/
def fnControlUptoRow : OpenClaim := { program := "ytakcjcjfcignjaagreatdoor", sum := "cbbb4d790e85a07e76c3f3e30fe00a4b311bac81d6924d271a0ec99c908d0648", func := "loop.example/g00886/laws.FnControl", spec := "fnControl", unfollowed := true, recurses := true, named := ["loop.example/g00886/impl.directions"], apart := false, laid := [("loop.example/g00886/impl.directions", laid_loop_example_g00886_impl_directions)], narrowed := true }
def FnControlUptoSaid : Prop := fnControlUptoRow.holds Tryz.pinned (OpenSpec.upto fnControlSpec)

/-- 'laws.FnBattles', WHERE WHAT IT READS IS OF BULK AT MOST 1048576: true; the input reads as it did. -/
def fnBattlesUptoRow : OpenClaim := { program := "ytakcjcjfcignjaagreatdoor", sum := "cbbb4d790e85a07e76c3f3e30fe00a4b311bac81d6924d271a0ec99c908d0648", func := "loop.example/g00886/laws.FnBattles", spec := "fnBattles", unfollowed := true, recurses := true, named := ["loop.example/g00886/impl.directions"], apart := false, laid := [("loop.example/g00886/impl.directions", laid_loop_example_g00886_impl_directions)], narrowed := true }
def FnBattlesUptoSaid : Prop := fnBattlesUptoRow.holds Tryz.pinned (OpenSpec.upto fnBattlesSpec)

end Rows
end Go.Proofs.YtakcjcjfcignjaaGreatDoor
