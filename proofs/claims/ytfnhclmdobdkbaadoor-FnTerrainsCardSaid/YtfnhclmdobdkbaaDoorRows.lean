/-
  NARROWER THAN 'FOR EVERY INPUT', by the rows' own cells (each row's printed sentence says how): FnPlaces: laid · FnQueues: laid · FnTerrains: laid.
  DERIVED. THE GIVEN ROWS OF THIS SEAT. 3 by the template 'for every input the law returns true; each argument reads behind the call as it read before'; 0 by the template 'total and deterministic' (their statements: YtfnhclmdobdkbaaDoorTotals.lean).
  GIVEN WITH THE SEED: the statements are not yours to turn. If you find one false, say at which input.
  Laid BY PROGRAM, IN A SANDBOX (cutbox-rows.mjs): the forced cells as the released guide's own fill.sh prints them over the translation 4217c91ec680900c… (all of the seat's roots in one cut). By AI agents, Wed Nov 11 2026. No macro, syntax, notation, axiom, sorry.
-/
import Derived.Test.YtfnhclmdobdkbaaDoorChecked
import GoSem.Claim
import GoSem.ClaimJoined
import GoSem.ClaimMapViews
import Derived.JoinedTies
import Derived.KernelRfl
namespace Go.Proofs.YtfnhclmdobdkbaaDoor
/- THE CELL 'sum', in the pinned program and in every row, IS THE sha256 OF THE DUMP (.gsa) THAT YtfnhclmdobdkbaaDoorProg.lean LOADS. Nothing in Lean hashes anything: it is a label: what it is worth is what the hold of that sum in a sandbox is worth. -/
noncomputable def Tryd.pinned : Pinned := { name := "ytfnhclmdobdkbaadoor", sum := "4217c91ec680900c84ce7cdf64d117efb02f53344e5a35b64e961295a4328a25", checked := Tryd.checked }
namespace Rows
def none {H : Type} : Left H := { results := [], args := [] }

/- WHAT THE LISTED PACKAGE-LEVEL VARIABLES READ AS WHEN THE CALL BEGINS. Each datum BY PROGRAM (the guide's laid-datum.mjs) off the statement by which the dump's own 'gosem.cut.vars' lays the variable. In a bare row this is a premise. The card (YtfnhclmdobdkbaaDoorCards.lean) ties it to the program's text. -/
def laid_loop_example_g00886_impl_directions {H : Type} : DataW H := .agg [.agg [.lit (.int .i64 1), .lit (.int .i64 0)], .agg [.lit (.int .i64 1), .lit (.int .i64 (-1))], .agg [.lit (.int .i64 0), .lit (.int .i64 (-1))], .agg [.lit (.int .i64 (-1)), .lit (.int .i64 0)], .agg [.lit (.int .i64 (-1)), .lit (.int .i64 1)], .agg [.lit (.int .i64 0), .lit (.int .i64 1)]]

/-- 'laws.FnPlaces': WHATEVER THE INPUT: true; the input reads as it did. -/
def fnPlacesSpec : ChangeSpec := { name := "fnPlaces", vars := ["loop.example/g00886/impl.directions"], fn := fun _ => fun
  | [d1, d2, g1] => { results := [.lit (.bool true)], args := [d1, d2], vars := [g1] }
  | _ => none }
def fnPlacesRow : OpenClaim := { program := "ytfnhclmdobdkbaadoor", sum := "4217c91ec680900c84ce7cdf64d117efb02f53344e5a35b64e961295a4328a25", func := "loop.example/g00886/laws.FnPlaces", spec := "fnPlaces", named := ["loop.example/g00886/impl.directions"], apart := false, laid := [("loop.example/g00886/impl.directions", laid_loop_example_g00886_impl_directions)] }
def FnPlacesSaid : Prop := fnPlacesRow.holds Tryd.pinned (OpenSpec.ofChange fnPlacesSpec)

/-- ITS FALSE NEIGHBOUR: 'it returns false'. Refute it at one input. -/
def fnPlacesWrong : ChangeSpec := { name := "fnPlaces", vars := ["loop.example/g00886/impl.directions"], fn := fun _ => fun
  | [d1, d2, g1] => { results := [.lit (.bool false)], args := [d1, d2], vars := [g1] }
  | _ => none }
def FnPlacesWrongFalsely : Prop := fnPlacesRow.holds Tryd.pinned (OpenSpec.ofChange fnPlacesWrong)

/-- 'laws.FnQueues': WHATEVER THE INPUT: true; the input reads as it did. -/
def fnQueuesSpec : ChangeSpec := { name := "fnQueues", vars := ["loop.example/g00886/impl.directions"], fn := fun _ => fun
  | [d1, d2, g1] => { results := [.lit (.bool true)], args := [d1, d2], vars := [g1] }
  | _ => none }
def fnQueuesRow : OpenClaim := { program := "ytfnhclmdobdkbaadoor", sum := "4217c91ec680900c84ce7cdf64d117efb02f53344e5a35b64e961295a4328a25", func := "loop.example/g00886/laws.FnQueues", spec := "fnQueues", unfollowed := true, recurses := true, named := ["loop.example/g00886/impl.directions"], apart := false, laid := [("loop.example/g00886/impl.directions", laid_loop_example_g00886_impl_directions)] }
def FnQueuesSaid : Prop := fnQueuesRow.holds Tryd.pinned (OpenSpec.ofChange fnQueuesSpec)

/-- ITS FALSE NEIGHBOUR: 'it returns false'. Refute it at one input. -/
def fnQueuesWrong : ChangeSpec := { name := "fnQueues", vars := ["loop.example/g00886/impl.directions"], fn := fun _ => fun
  | [d1, d2, g1] => { results := [.lit (.bool false)], args := [d1, d2], vars := [g1] }
  | _ => none }
def FnQueuesWrongFalsely : Prop := fnQueuesRow.holds Tryd.pinned (OpenSpec.ofChange fnQueuesWrong)

/-- 'laws.FnTerrains': WHATEVER THE INPUT: true; the input reads as it did. -/
def fnTerrainsSpec : ChangeSpec := { name := "fnTerrains", vars := ["loop.example/g00886/impl.directions"], fn := fun _ => fun
  | [d1, d2, g1] => { results := [.lit (.bool true)], args := [d1, d2], vars := [g1] }
  | _ => none }
def fnTerrainsRow : OpenClaim := { program := "ytfnhclmdobdkbaadoor", sum := "4217c91ec680900c84ce7cdf64d117efb02f53344e5a35b64e961295a4328a25", func := "loop.example/g00886/laws.FnTerrains", spec := "fnTerrains", unfollowed := true, recurses := true, named := ["loop.example/g00886/impl.directions"], apart := false, laid := [("loop.example/g00886/impl.directions", laid_loop_example_g00886_impl_directions)] }
def FnTerrainsSaid : Prop := fnTerrainsRow.holds Tryd.pinned (OpenSpec.ofChange fnTerrainsSpec)

/-- ITS FALSE NEIGHBOUR: 'it returns false'. Refute it at one input. -/
def fnTerrainsWrong : ChangeSpec := { name := "fnTerrains", vars := ["loop.example/g00886/impl.directions"], fn := fun _ => fun
  | [d1, d2, g1] => { results := [.lit (.bool false)], args := [d1, d2], vars := [g1] }
  | _ => none }
def FnTerrainsWrongFalsely : Prop := fnTerrainsRow.holds Tryd.pinned (OpenSpec.ofChange fnTerrainsWrong)

/- THE SECOND FORM. 'bulk': how many values and letters a reading holds, each counted each time it is reached (what is shared counts as often as it is met; a slice's spare places count too). A statement '..UptoSaid' is the law's where the arguments, and the package variables that the reading takes, are together of bulk at most 1048576: NARROWER than '..Said'. Prove '..Said' where nothing that the law and all that it calls make is longer than what came in: it says more and counts as full. Else prove '..UptoSaid'. A law counts once. -/
mutual
def uptoBulk {H : Type} : DataW H → Nat
  | .lit (.string bytes) => bytes.length + 1
  | .lit _ => 1
  | .nil => 1
  | .ptr d => uptoBulk d + 1
  | .slice elems spare => uptoBulkAll elems + uptoBulkAll spare + 1
  | .agg parts => uptoBulkAll parts + 1
  | .iface _ d => uptoBulk d + 1
  | .map entries => uptoBulkEntries entries + 1
  | .held _ => 1
def uptoBulkAll {H : Type} : List (DataW H) → Nat
  | [] => 0
  | d :: r => uptoBulk d + uptoBulkAll r
def uptoBulkEntries {H : Type} : List (Lit × DataW H) → Nat
  | [] => 0
  | x :: r => uptoBulkEntry x + uptoBulkEntries r
def uptoBulkEntry {H : Type} : Lit × DataW H → Nat
  | (.string bytes, d) => bytes.length + uptoBulk d + 1
  | (_, d) => uptoBulk d + 1
 end
def uptoSmall : (H : Type) → List (DataW H) → Bool := fun _ ds => decide (uptoBulkAll ds ≤ 1048576)
def OpenSpec.upto (s : _root_.Go.ChangeSpec) : _root_.Go.OpenSpec := { _root_.Go.OpenSpec.ofChange s with cond := some uptoSmall }

/-- 'laws.FnPlaces', WHERE WHAT IT READS IS OF BULK AT MOST 1048576: true; the input reads as it did. -/
def fnPlacesUptoRow : OpenClaim := { program := "ytfnhclmdobdkbaadoor", sum := "4217c91ec680900c84ce7cdf64d117efb02f53344e5a35b64e961295a4328a25", func := "loop.example/g00886/laws.FnPlaces", spec := "fnPlaces", named := ["loop.example/g00886/impl.directions"], apart := false, laid := [("loop.example/g00886/impl.directions", laid_loop_example_g00886_impl_directions)], narrowed := true }
def FnPlacesUptoSaid : Prop := fnPlacesUptoRow.holds Tryd.pinned (OpenSpec.upto fnPlacesSpec)

/-- 'laws.FnQueues', WHERE WHAT IT READS IS OF BULK AT MOST 1048576: true; the input reads as it did. -/
def fnQueuesUptoRow : OpenClaim := { program := "ytfnhclmdobdkbaadoor", sum := "4217c91ec680900c84ce7cdf64d117efb02f53344e5a35b64e961295a4328a25", func := "loop.example/g00886/laws.FnQueues", spec := "fnQueues", unfollowed := true, recurses := true, named := ["loop.example/g00886/impl.directions"], apart := false, laid := [("loop.example/g00886/impl.directions", laid_loop_example_g00886_impl_directions)], narrowed := true }
def FnQueuesUptoSaid : Prop := fnQueuesUptoRow.holds Tryd.pinned (OpenSpec.upto fnQueuesSpec)

/-- 'laws.FnTerrains', WHERE WHAT IT READS IS OF BULK AT MOST 1048576: true; the input reads as it did. -/
def fnTerrainsUptoRow : OpenClaim := { program := "ytfnhclmdobdkbaadoor", sum := "4217c91ec680900c84ce7cdf64d117efb02f53344e5a35b64e961295a4328a25", func := "loop.example/g00886/laws.FnTerrains", spec := "fnTerrains", unfollowed := true, recurses := true, named := ["loop.example/g00886/impl.directions"], apart := false, laid := [("loop.example/g00886/impl.directions", laid_loop_example_g00886_impl_directions)], narrowed := true }
def FnTerrainsUptoSaid : Prop := fnTerrainsUptoRow.holds Tryd.pinned (OpenSpec.upto fnTerrainsSpec)

end Rows
end Go.Proofs.YtfnhclmdobdkbaaDoor
