/-
  NARROWER THAN 'FOR EVERY INPUT', by the rows' own cells (each row's printed sentence says how): FnExactScenarioFault: laid · FnExactIsScenario: laid · FnExactForcesOf: laid · FnExactSourcesOf: laid · FnExactHungryUnits: laid · FnExactSwapScenario: laid.
  DERIVED. THE GIVEN ROWS OF THIS SEAT. 6 by the template 'for every input the law returns true; each argument reads behind the call as it read before'; 0 by the template 'total and deterministic' (their statements: YtcggoeafffcghaaGreatDoorTotals.lean).
  GIVEN WITH THE SEED: the statements are not yours to turn. If you find one false, say at which input.
  Laid BY PROGRAM, IN A SANDBOX (cutbox-rows.mjs): the forced cells as the released guide's own fill.sh prints them over the translation 60864816ccf4e488… (all of the seat's roots in one cut). By AI agents, Wed Nov 11 2026. No macro, syntax, notation, axiom, sorry.
-/
import Derived.Test.YtcggoeafffcghaaGreatDoorChecked
import GoSem.Claim
import GoSem.ClaimJoined
import GoSem.ClaimMapViews
import Derived.JoinedTies
import Derived.KernelRfl
namespace Go.Proofs.YtcggoeafffcghaaGreatDoor
/- THE CELL 'sum', in the pinned program and in every row, IS THE sha256 OF THE DUMP (.gsa) THAT YtcggoeafffcghaaGreatDoorProg.lean LOADS. Nothing in Lean hashes anything: it is a label: what it is worth is what the hold of that sum in a sandbox is worth. -/
noncomputable def Tryz.pinned : Pinned := { name := "ytcggoeafffcghaagreatdoor", sum := "60864816ccf4e488d735cd5f45d6e87ce79cbde37f6cc134c30ee3879b1bf22d", checked := Tryz.checked }
namespace Rows
def none {H : Type} : Left H := { results := [], args := [] }

/- WHAT THE LISTED PACKAGE-LEVEL VARIABLES READ AS WHEN THE CALL BEGINS. Each datum BY PROGRAM (the guide's laid-datum.mjs) off the statement by which the dump's own 'gosem.cut.vars' lays the variable. In a bare row this is a premise. The card (YtcggoeafffcghaaGreatDoorCards.lean) ties it to the program's text. -/
def laid_loop_example_g00886_impl_directions {H : Type} : DataW H := .agg [.agg [.lit (.int .i64 1), .lit (.int .i64 0)], .agg [.lit (.int .i64 1), .lit (.int .i64 (-1))], .agg [.lit (.int .i64 0), .lit (.int .i64 (-1))], .agg [.lit (.int .i64 (-1)), .lit (.int .i64 0)], .agg [.lit (.int .i64 (-1)), .lit (.int .i64 1)], .agg [.lit (.int .i64 0), .lit (.int .i64 1)]]

/-- 'laws.FnExactScenarioFault': WHATEVER THE INPUT: true; the input reads as it did. -/
def fnExactScenarioFaultSpec : ChangeSpec := { name := "fnExactScenarioFault", vars := ["loop.example/g00886/impl.directions"], fn := fun _ => fun
  | [d, g1] => { results := [.lit (.bool true)], args := [d], vars := [g1] }
  | _ => none }
def fnExactScenarioFaultRow : OpenClaim := { program := "ytcggoeafffcghaagreatdoor", sum := "60864816ccf4e488d735cd5f45d6e87ce79cbde37f6cc134c30ee3879b1bf22d", func := "loop.example/g00886/laws.FnExactScenarioFault", spec := "fnExactScenarioFault", unfollowed := true, recurses := true, named := ["loop.example/g00886/impl.directions"], apart := false, laid := [("loop.example/g00886/impl.directions", laid_loop_example_g00886_impl_directions)] }
def FnExactScenarioFaultSaid : Prop := fnExactScenarioFaultRow.holds Tryz.pinned (OpenSpec.ofChange fnExactScenarioFaultSpec)

/-- ITS FALSE NEIGHBOUR: 'it returns false'. Refute it at one input. -/
def fnExactScenarioFaultWrong : ChangeSpec := { name := "fnExactScenarioFault", vars := ["loop.example/g00886/impl.directions"], fn := fun _ => fun
  | [d, g1] => { results := [.lit (.bool false)], args := [d], vars := [g1] }
  | _ => none }
def FnExactScenarioFaultWrongFalsely : Prop := fnExactScenarioFaultRow.holds Tryz.pinned (OpenSpec.ofChange fnExactScenarioFaultWrong)

/-- 'laws.FnExactIsScenario': WHATEVER THE INPUT: true; the input reads as it did. -/
def fnExactIsScenarioSpec : ChangeSpec := { name := "fnExactIsScenario", vars := ["loop.example/g00886/impl.directions"], fn := fun _ => fun
  | [d, g1] => { results := [.lit (.bool true)], args := [d], vars := [g1] }
  | _ => none }
def fnExactIsScenarioRow : OpenClaim := { program := "ytcggoeafffcghaagreatdoor", sum := "60864816ccf4e488d735cd5f45d6e87ce79cbde37f6cc134c30ee3879b1bf22d", func := "loop.example/g00886/laws.FnExactIsScenario", spec := "fnExactIsScenario", unfollowed := true, recurses := true, named := ["loop.example/g00886/impl.directions"], apart := false, laid := [("loop.example/g00886/impl.directions", laid_loop_example_g00886_impl_directions)] }
def FnExactIsScenarioSaid : Prop := fnExactIsScenarioRow.holds Tryz.pinned (OpenSpec.ofChange fnExactIsScenarioSpec)

/-- ITS FALSE NEIGHBOUR: 'it returns false'. Refute it at one input. -/
def fnExactIsScenarioWrong : ChangeSpec := { name := "fnExactIsScenario", vars := ["loop.example/g00886/impl.directions"], fn := fun _ => fun
  | [d, g1] => { results := [.lit (.bool false)], args := [d], vars := [g1] }
  | _ => none }
def FnExactIsScenarioWrongFalsely : Prop := fnExactIsScenarioRow.holds Tryz.pinned (OpenSpec.ofChange fnExactIsScenarioWrong)

/-- 'laws.FnExactForcesOf': WHATEVER THE INPUT: true; the input reads as it did. -/
def fnExactForcesOfSpec : ChangeSpec := { name := "fnExactForcesOf", vars := ["loop.example/g00886/impl.directions"], fn := fun _ => fun
  | [d, g1] => { results := [.lit (.bool true)], args := [d], vars := [g1] }
  | _ => none }
def fnExactForcesOfRow : OpenClaim := { program := "ytcggoeafffcghaagreatdoor", sum := "60864816ccf4e488d735cd5f45d6e87ce79cbde37f6cc134c30ee3879b1bf22d", func := "loop.example/g00886/laws.FnExactForcesOf", spec := "fnExactForcesOf", unfollowed := true, recurses := true, named := ["loop.example/g00886/impl.directions"], apart := false, laid := [("loop.example/g00886/impl.directions", laid_loop_example_g00886_impl_directions)] }
def FnExactForcesOfSaid : Prop := fnExactForcesOfRow.holds Tryz.pinned (OpenSpec.ofChange fnExactForcesOfSpec)

/-- ITS FALSE NEIGHBOUR: 'it returns false'. Refute it at one input. -/
def fnExactForcesOfWrong : ChangeSpec := { name := "fnExactForcesOf", vars := ["loop.example/g00886/impl.directions"], fn := fun _ => fun
  | [d, g1] => { results := [.lit (.bool false)], args := [d], vars := [g1] }
  | _ => none }
def FnExactForcesOfWrongFalsely : Prop := fnExactForcesOfRow.holds Tryz.pinned (OpenSpec.ofChange fnExactForcesOfWrong)

/-- 'laws.FnExactSourcesOf': WHATEVER THE INPUT: true; the input reads as it did. -/
def fnExactSourcesOfSpec : ChangeSpec := { name := "fnExactSourcesOf", vars := ["loop.example/g00886/impl.directions"], fn := fun _ => fun
  | [d1, d2, g1] => { results := [.lit (.bool true)], args := [d1, d2], vars := [g1] }
  | _ => none }
def fnExactSourcesOfRow : OpenClaim := { program := "ytcggoeafffcghaagreatdoor", sum := "60864816ccf4e488d735cd5f45d6e87ce79cbde37f6cc134c30ee3879b1bf22d", func := "loop.example/g00886/laws.FnExactSourcesOf", spec := "fnExactSourcesOf", unfollowed := true, recurses := true, named := ["loop.example/g00886/impl.directions"], apart := false, laid := [("loop.example/g00886/impl.directions", laid_loop_example_g00886_impl_directions)] }
def FnExactSourcesOfSaid : Prop := fnExactSourcesOfRow.holds Tryz.pinned (OpenSpec.ofChange fnExactSourcesOfSpec)

/-- ITS FALSE NEIGHBOUR: 'it returns false'. Refute it at one input. -/
def fnExactSourcesOfWrong : ChangeSpec := { name := "fnExactSourcesOf", vars := ["loop.example/g00886/impl.directions"], fn := fun _ => fun
  | [d1, d2, g1] => { results := [.lit (.bool false)], args := [d1, d2], vars := [g1] }
  | _ => none }
def FnExactSourcesOfWrongFalsely : Prop := fnExactSourcesOfRow.holds Tryz.pinned (OpenSpec.ofChange fnExactSourcesOfWrong)

/-- 'laws.FnExactHungryUnits': WHATEVER THE INPUT: true; the input reads as it did. -/
def fnExactHungryUnitsSpec : ChangeSpec := { name := "fnExactHungryUnits", vars := ["loop.example/g00886/impl.directions"], fn := fun _ => fun
  | [d1, d2, g1] => { results := [.lit (.bool true)], args := [d1, d2], vars := [g1] }
  | _ => none }
def fnExactHungryUnitsRow : OpenClaim := { program := "ytcggoeafffcghaagreatdoor", sum := "60864816ccf4e488d735cd5f45d6e87ce79cbde37f6cc134c30ee3879b1bf22d", func := "loop.example/g00886/laws.FnExactHungryUnits", spec := "fnExactHungryUnits", unfollowed := true, recurses := true, named := ["loop.example/g00886/impl.directions"], apart := false, laid := [("loop.example/g00886/impl.directions", laid_loop_example_g00886_impl_directions)] }
def FnExactHungryUnitsSaid : Prop := fnExactHungryUnitsRow.holds Tryz.pinned (OpenSpec.ofChange fnExactHungryUnitsSpec)

/-- ITS FALSE NEIGHBOUR: 'it returns false'. Refute it at one input. -/
def fnExactHungryUnitsWrong : ChangeSpec := { name := "fnExactHungryUnits", vars := ["loop.example/g00886/impl.directions"], fn := fun _ => fun
  | [d1, d2, g1] => { results := [.lit (.bool false)], args := [d1, d2], vars := [g1] }
  | _ => none }
def FnExactHungryUnitsWrongFalsely : Prop := fnExactHungryUnitsRow.holds Tryz.pinned (OpenSpec.ofChange fnExactHungryUnitsWrong)

/-- 'laws.FnExactSwapScenario': WHATEVER THE INPUT: true; the input reads as it did. -/
def fnExactSwapScenarioSpec : ChangeSpec := { name := "fnExactSwapScenario", vars := ["loop.example/g00886/impl.directions"], fn := fun _ => fun
  | [d, g1] => { results := [.lit (.bool true)], args := [d], vars := [g1] }
  | _ => none }
def fnExactSwapScenarioRow : OpenClaim := { program := "ytcggoeafffcghaagreatdoor", sum := "60864816ccf4e488d735cd5f45d6e87ce79cbde37f6cc134c30ee3879b1bf22d", func := "loop.example/g00886/laws.FnExactSwapScenario", spec := "fnExactSwapScenario", unfollowed := true, recurses := true, named := ["loop.example/g00886/impl.directions"], apart := false, laid := [("loop.example/g00886/impl.directions", laid_loop_example_g00886_impl_directions)] }
def FnExactSwapScenarioSaid : Prop := fnExactSwapScenarioRow.holds Tryz.pinned (OpenSpec.ofChange fnExactSwapScenarioSpec)

/-- ITS FALSE NEIGHBOUR: 'it returns false'. Refute it at one input. -/
def fnExactSwapScenarioWrong : ChangeSpec := { name := "fnExactSwapScenario", vars := ["loop.example/g00886/impl.directions"], fn := fun _ => fun
  | [d, g1] => { results := [.lit (.bool false)], args := [d], vars := [g1] }
  | _ => none }
def FnExactSwapScenarioWrongFalsely : Prop := fnExactSwapScenarioRow.holds Tryz.pinned (OpenSpec.ofChange fnExactSwapScenarioWrong)

/- THE SECOND FORM. 'bulk': how many values and letters a reading holds, each counted each time it is reached (what is shared counts as often as it is met; a slice's spare places count too). A statement '..UptoSaid' is the law's where the arguments, and the package variables that the reading takes, are together of bulk at most 1048576: NARROWER than '..Said'. Prove '..Said' where nothing that the law and all that it calls make is longer than what came in: it says more and counts as full. Else prove '..UptoSaid'. A law counts once. -/
mutual
def uptoBulk {H : Type} : DataW H → Nat
  | .lit (.string bytes) => bytes.length + 1
  | .lit _ => 1
  | .nil => 1
  | .ptr d => uptoBulk d + 1
  | .slice elems spare => uptoBulkAll elems + uptoBulkAll spare + 1
  | .agg parts => uptoBulkAll parts + 1
  | .iface _ d => uptoBulk d + 1
  | .map entries => uptoBulkEntries entries + 1
  | .held _ => 1
def uptoBulkAll {H : Type} : List (DataW H) → Nat
  | [] => 0
  | d :: r => uptoBulk d + uptoBulkAll r
def uptoBulkEntries {H : Type} : List (Lit × DataW H) → Nat
  | [] => 0
  | x :: r => uptoBulkEntry x + uptoBulkEntries r
def uptoBulkEntry {H : Type} : Lit × DataW H → Nat
  | (.string bytes, d) => bytes.length + uptoBulk d + 1
  | (_, d) => uptoBulk d + 1
 end
def uptoSmall : (H : Type) → List (DataW H) → Bool := fun _ ds => decide (uptoBulkAll ds ≤ 1048576)
def OpenSpec.upto (s : _root_.Go.ChangeSpec) : _root_.Go.OpenSpec := { _root_.Go.OpenSpec.ofChange s with cond := some uptoSmall }

/-- 'laws.FnExactScenarioFault', WHERE WHAT IT READS IS OF BULK AT MOST 1048576: true; the input reads as it did. -/
def fnExactScenarioFaultUptoRow : OpenClaim := { program := "ytcggoeafffcghaagreatdoor", sum := "60864816ccf4e488d735cd5f45d6e87ce79cbde37f6cc134c30ee3879b1bf22d", func := "loop.example/g00886/laws.FnExactScenarioFault", spec := "fnExactScenarioFault", unfollowed := true, recurses := true, named := ["loop.example/g00886/impl.directions"], apart := false, laid := [("loop.example/g00886/impl.directions", laid_loop_example_g00886_impl_directions)], narrowed := true }
def FnExactScenarioFaultUptoSaid : Prop := fnExactScenarioFaultUptoRow.holds Tryz.pinned (OpenSpec.upto fnExactScenarioFaultSpec)

/-- 'laws.FnExactIsScenario', WHERE WHAT IT READS IS OF BULK AT MOST 1048576: true; the input reads as it did. -/
def fnExactIsScenarioUptoRow : OpenClaim := { program := "ytcggoeafffcghaagreatdoor", sum := "60864816ccf4e488d735cd5f45d6e87ce79cbde37f6cc134c30ee3879b1bf22d", func := "loop.example/g00886/laws.FnExactIsScenario", spec := "fnExactIsScenario", unfollowed := true, recurses := true, named := ["loop.example/g00886/impl.directions"], apart := false, laid := [("loop.example/g00886/impl.directions", laid_loop_example_g00886_impl_directions)], narrowed := true }
def FnExactIsScenarioUptoSaid : Prop := fnExactIsScenarioUptoRow.holds Tryz.pinned (OpenSpec.upto fnExactIsScenarioSpec)

/-- 'laws.FnExactForcesOf', WHERE WHAT IT READS IS OF BULK AT MOST 1048576: true; the input reads as it did. -/
def fnExactForcesOfUptoRow : OpenClaim := { program := "ytcggoeafffcghaagreatdoor", sum := "60864816ccf4e488d735cd5f45d6e87ce79cbde37f6cc134c30ee3879b1bf22d", func := "loop.example/g00886/laws.FnExactForcesOf", spec := "fnExactForcesOf", unfollowed := true, recurses := true, named := ["loop.example/g00886/impl.directions"], apart := false, laid := [("loop.example/g00886/impl.directions", laid_loop_example_g00886_impl_directions)], narrowed := true }
def FnExactForcesOfUptoSaid : Prop := fnExactForcesOfUptoRow.holds Tryz.pinned (OpenSpec.upto fnExactForcesOfSpec)

/-- 'laws.FnExactSourcesOf', WHERE WHAT IT READS IS OF BULK AT MOST 1048576: true; the input reads as it did. -/
def fnExactSourcesOfUptoRow : OpenClaim := { program := "ytcggoeafffcghaagreatdoor", sum := "60864816ccf4e488d735cd5f45d6e87ce79cbde37f6cc134c30ee3879b1bf22d", func := "loop.example/g00886/laws.FnExactSourcesOf", spec := "fnExactSourcesOf", unfollowed := true, recurses := true, named := ["loop.example/g00886/impl.directions"], apart := false, laid := [("loop.example/g00886/impl.directions", laid_loop_example_g00886_impl_directions)], narrowed := true }
def FnExactSourcesOfUptoSaid : Prop := fnExactSourcesOfUptoRow.holds Tryz.pinned (OpenSpec.upto fnExactSourcesOfSpec)

/-- 'laws.FnExactHungryUnits', WHERE WHAT IT READS IS OF BULK AT MOST 1048576: true; the input reads as it did. -/
def fnExactHungryUnitsUptoRow : OpenClaim := { program := "ytcggoeafffcghaagreatdoor", sum := "60864816ccf4e488d735cd5f45d6e87ce79cbde37f6cc134c30ee3879b1bf22d", func := "loop.example/g00886/laws.FnExactHungryUnits", spec := "fnExactHungryUnits", unfollowed := true, recurses := true, named := ["loop.example/g00886/impl.directions"], apart := false, laid := [("loop.example/g00886/impl.directions", laid_loop_example_g00886_impl_directions)], narrowed := true }
def FnExactHungryUnitsUptoSaid : Prop := fnExactHungryUnitsUptoRow.holds Tryz.pinned (OpenSpec.upto fnExactHungryUnitsSpec)

/-- 'laws.FnExactSwapScenario', WHERE WHAT IT READS IS OF BULK AT MOST 1048576: true; the input reads as it did. -/
def fnExactSwapScenarioUptoRow : OpenClaim := { program := "ytcggoeafffcghaagreatdoor", sum := "60864816ccf4e488d735cd5f45d6e87ce79cbde37f6cc134c30ee3879b1bf22d", func := "loop.example/g00886/laws.FnExactSwapScenario", spec := "fnExactSwapScenario", unfollowed := true, recurses := true, named := ["loop.example/g00886/impl.directions"], apart := false, laid := [("loop.example/g00886/impl.directions", laid_loop_example_g00886_impl_directions)], narrowed := true }
def FnExactSwapScenarioUptoSaid : Prop := fnExactSwapScenarioUptoRow.holds Tryz.pinned (OpenSpec.upto fnExactSwapScenarioSpec)

end Rows
end Go.Proofs.YtcggoeafffcghaaGreatDoor
