/-
  NARROWER THAN 'FOR EVERY INPUT', by the rows' own cells (each row's printed sentence says how): FnCosts: laid · FnZones: laid · FnSight: laid · FnPlacing: laid.
  DERIVED. THE GIVEN ROWS OF THIS SEAT. 4 by the template 'for every input the law returns true; each argument reads behind the call as it read before'; 0 by the template 'total and deterministic' (their statements: YtpggeanoohlmjaaGreatDoorTotals.lean).
  GIVEN WITH THE SEED: the statements are not yours to turn. If you find one false, say at which input.
  Laid BY PROGRAM, IN A SANDBOX (cutbox-rows.mjs): the forced cells as the released guide's own fill.sh prints them over the translation f6ac00bf23a174e2… (all of the seat's roots in one cut). By AI agents, Wed Nov 11 2026. No macro, syntax, notation, axiom, sorry.
-/
import Derived.Test.YtpggeanoohlmjaaGreatDoorChecked
import GoSem.Claim
import GoSem.ClaimJoined
import GoSem.ClaimMapViews
import Derived.JoinedTies
import Derived.KernelRfl
namespace Go.Proofs.YtpggeanoohlmjaaGreatDoor
/- THE CELL 'sum', in the pinned program and in every row, IS THE sha256 OF THE DUMP (.gsa) THAT YtpggeanoohlmjaaGreatDoorProg.lean LOADS. Nothing in Lean hashes anything: it is a label: what it is worth is what the hold of that sum in a sandbox is worth. -/
noncomputable def Tryz.pinned : Pinned := { name := "ytpggeanoohlmjaagreatdoor", sum := "f6ac00bf23a174e296d558985b17a1f9465d51786eae3c304c72eb5cb9663829", checked := Tryz.checked }
namespace Rows
def none {H : Type} : Left H := { results := [], args := [] }

/- WHAT THE LISTED PACKAGE-LEVEL VARIABLES READ AS WHEN THE CALL BEGINS. Each datum BY PROGRAM (the guide's laid-datum.mjs) off the statement by which the dump's own 'gosem.cut.vars' lays the variable. In a bare row this is a premise. The card (YtpggeanoohlmjaaGreatDoorCards.lean) ties it to the program's text. -/
def laid_loop_example_g00886_impl_directions {H : Type} : DataW H := .agg [.agg [.lit (.int .i64 1), .lit (.int .i64 0)], .agg [.lit (.int .i64 1), .lit (.int .i64 (-1))], .agg [.lit (.int .i64 0), .lit (.int .i64 (-1))], .agg [.lit (.int .i64 (-1)), .lit (.int .i64 0)], .agg [.lit (.int .i64 (-1)), .lit (.int .i64 1)], .agg [.lit (.int .i64 0), .lit (.int .i64 1)]]

/-- 'laws.FnCosts': WHATEVER THE INPUT: true; the input reads as it did. -/
def fnCostsSpec : ChangeSpec := { name := "fnCosts", vars := ["loop.example/g00886/impl.directions"], fn := fun _ => fun
  | [d1, d2, g1] => { results := [.lit (.bool true)], args := [d1, d2], vars := [g1] }
  | _ => none }
def fnCostsRow : OpenClaim := { program := "ytpggeanoohlmjaagreatdoor", sum := "f6ac00bf23a174e296d558985b17a1f9465d51786eae3c304c72eb5cb9663829", func := "loop.example/g00886/laws.FnCosts", spec := "fnCosts", unfollowed := true, recurses := true, named := ["loop.example/g00886/impl.directions"], apart := false, laid := [("loop.example/g00886/impl.directions", laid_loop_example_g00886_impl_directions)] }
def FnCostsSaid : Prop := fnCostsRow.holds Tryz.pinned (OpenSpec.ofChange fnCostsSpec)

/-- ITS FALSE NEIGHBOUR: 'it returns false'. Refute it at one input. -/
def fnCostsWrong : ChangeSpec := { name := "fnCosts", vars := ["loop.example/g00886/impl.directions"], fn := fun _ => fun
  | [d1, d2, g1] => { results := [.lit (.bool false)], args := [d1, d2], vars := [g1] }
  | _ => none }
def FnCostsWrongFalsely : Prop := fnCostsRow.holds Tryz.pinned (OpenSpec.ofChange fnCostsWrong)

/-- 'laws.FnZones': WHATEVER THE INPUT: true; the input reads as it did. -/
def fnZonesSpec : ChangeSpec := { name := "fnZones", vars := ["loop.example/g00886/impl.directions"], fn := fun _ => fun
  | [d1, d2, g1] => { results := [.lit (.bool true)], args := [d1, d2], vars := [g1] }
  | _ => none }
def fnZonesRow : OpenClaim := { program := "ytpggeanoohlmjaagreatdoor", sum := "f6ac00bf23a174e296d558985b17a1f9465d51786eae3c304c72eb5cb9663829", func := "loop.example/g00886/laws.FnZones", spec := "fnZones", unfollowed := true, recurses := true, named := ["loop.example/g00886/impl.directions"], apart := false, laid := [("loop.example/g00886/impl.directions", laid_loop_example_g00886_impl_directions)] }
def FnZonesSaid : Prop := fnZonesRow.holds Tryz.pinned (OpenSpec.ofChange fnZonesSpec)

/-- ITS FALSE NEIGHBOUR: 'it returns false'. Refute it at one input. -/
def fnZonesWrong : ChangeSpec := { name := "fnZones", vars := ["loop.example/g00886/impl.directions"], fn := fun _ => fun
  | [d1, d2, g1] => { results := [.lit (.bool false)], args := [d1, d2], vars := [g1] }
  | _ => none }
def FnZonesWrongFalsely : Prop := fnZonesRow.holds Tryz.pinned (OpenSpec.ofChange fnZonesWrong)

/-- 'laws.FnSight': WHATEVER THE INPUT: true; the input reads as it did. -/
def fnSightSpec : ChangeSpec := { name := "fnSight", vars := ["loop.example/g00886/impl.directions"], fn := fun _ => fun
  | [d1, d2, g1] => { results := [.lit (.bool true)], args := [d1, d2], vars := [g1] }
  | _ => none }
def fnSightRow : OpenClaim := { program := "ytpggeanoohlmjaagreatdoor", sum := "f6ac00bf23a174e296d558985b17a1f9465d51786eae3c304c72eb5cb9663829", func := "loop.example/g00886/laws.FnSight", spec := "fnSight", unfollowed := true, recurses := true, named := ["loop.example/g00886/impl.directions"], apart := false, laid := [("loop.example/g00886/impl.directions", laid_loop_example_g00886_impl_directions)] }
def FnSightSaid : Prop := fnSightRow.holds Tryz.pinned (OpenSpec.ofChange fnSightSpec)

/-- ITS FALSE NEIGHBOUR: 'it returns false'. Refute it at one input. -/
def fnSightWrong : ChangeSpec := { name := "fnSight", vars := ["loop.example/g00886/impl.directions"], fn := fun _ => fun
  | [d1, d2, g1] => { results := [.lit (.bool false)], args := [d1, d2], vars := [g1] }
  | _ => none }
def FnSightWrongFalsely : Prop := fnSightRow.holds Tryz.pinned (OpenSpec.ofChange fnSightWrong)

/-- 'laws.FnPlacing': WHATEVER THE INPUT: true; the input reads as it did. -/
def fnPlacingSpec : ChangeSpec := { name := "fnPlacing", vars := ["loop.example/g00886/impl.directions"], fn := fun _ => fun
  | [d1, d2, g1] => { results := [.lit (.bool true)], args := [d1, d2], vars := [g1] }
  | _ => none }
def fnPlacingRow : OpenClaim := { program := "ytpggeanoohlmjaagreatdoor", sum := "f6ac00bf23a174e296d558985b17a1f9465d51786eae3c304c72eb5cb9663829", func := "loop.example/g00886/laws.FnPlacing", spec := "fnPlacing", unfollowed := true, recurses := true, named := ["loop.example/g00886/impl.directions"], apart := false, laid := [("loop.example/g00886/impl.directions", laid_loop_example_g00886_impl_directions)] }
def FnPlacingSaid : Prop := fnPlacingRow.holds Tryz.pinned (OpenSpec.ofChange fnPlacingSpec)

/-- ITS FALSE NEIGHBOUR: 'it returns false'. Refute it at one input. -/
def fnPlacingWrong : ChangeSpec := { name := "fnPlacing", vars := ["loop.example/g00886/impl.directions"], fn := fun _ => fun
  | [d1, d2, g1] => { results := [.lit (.bool false)], args := [d1, d2], vars := [g1] }
  | _ => none }
def FnPlacingWrongFalsely : Prop := fnPlacingRow.holds Tryz.pinned (OpenSpec.ofChange fnPlacingWrong)

/- THE SECOND FORM. 'bulk': how many values and letters a reading holds, each counted each time it is reached (what is shared counts as often as it is met; a slice's spare places count too). A statement '..UptoSaid' is the law's where the arguments, and the package variables that the reading takes, are together of bulk at most 1048576: NARROWER than '..Said'. Prove '..Said' where nothing that the law and all that it calls make is longer than what came in: it says more and counts as full. Else prove '..UptoSaid'. A law counts once. -/
mutual
def uptoBulk {H : Type} : DataW H → Nat
  | .lit (.string bytes) => bytes.length + 1
  | .lit _ => 1
  | .nil => 1
  | .ptr d => uptoBulk d + 1
  | .slice elems spare => uptoBulkAll elems + uptoBulkAll spare + 1
  | .agg parts => uptoBulkAll parts + 1
  | .iface _ d => uptoBulk d + 1
  | .map entries => uptoBulkEntries entries + 1
  | .held _ => 1
def uptoBulkAll {H : Type} : List (DataW H) → Nat
  | [] => 0
  | d :: r => uptoBulk d + uptoBulkAll r
def uptoBulkEntries {H : Type} : List (Lit × DataW H) → Nat
  | [] => 0
  | x :: r => uptoBulkEntry x + uptoBulkEntries r
def uptoBulkEntry {H : Type} : Lit × DataW H → Nat
  | (.string bytes, d) => bytes.length + uptoBulk d + 1
  | (_, d) => uptoBulk d + 1
 end
def uptoSmall : (H : Type) → List (DataW H) → Bool := fun _ ds => decide (uptoBulkAll ds ≤ 1048576)
def OpenSpec.upto (s : _root_.Go.ChangeSpec) : _root_.Go.OpenSpec := { _root_.Go.OpenSpec.ofChange s with cond := some uptoSmall }

/-- 'laws.FnCosts', WHERE WHAT IT READS IS OF BULK AT MOST 1048576: true; the input reads as it did. -/
def fnCostsUptoRow : OpenClaim := { program := "ytpggeanoohlmjaagreatdoor", sum := "f6ac00bf23a174e296d558985b17a1f9465d51786eae3c304c72eb5cb9663829", func := "loop.example/g00886/laws.FnCosts", spec := "fnCosts", unfollowed := true, recurses := true, named := ["loop.example/g00886/impl.directions"], apart := false, laid := [("loop.example/g00886/impl.directions", laid_loop_example_g00886_impl_directions)], narrowed := true }
def FnCostsUptoSaid : Prop := fnCostsUptoRow.holds Tryz.pinned (OpenSpec.upto fnCostsSpec)

/-- 'laws.FnZones', WHERE WHAT IT READS IS OF BULK AT MOST 1048576: true; the input reads as it did. -/
def fnZonesUptoRow : OpenClaim := { program := "ytpggeanoohlmjaagreatdoor", sum := "f6ac00bf23a174e296d558985b17a1f9465d51786eae3c304c72eb5cb9663829", func := "loop.example/g00886/laws.FnZones", spec := "fnZones", unfollowed := true, recurses := true, named := ["loop.example/g00886/impl.directions"], apart := false, laid := [("loop.example/g00886/impl.directions", laid_loop_example_g00886_impl_directions)], narrowed := true }
def FnZonesUptoSaid : Prop := fnZonesUptoRow.holds Tryz.pinned (OpenSpec.upto fnZonesSpec)

/-- 'laws.FnSight', WHERE WHAT IT READS IS OF BULK AT MOST 1048576: true; the input reads as it did. -/
def fnSightUptoRow : OpenClaim := { program := "ytpggeanoohlmjaagreatdoor", sum := "f6ac00bf23a174e296d558985b17a1f9465d51786eae3c304c72eb5cb9663829", func := "loop.example/g00886/laws.FnSight", spec := "fnSight", unfollowed := true, recurses := true, named := ["loop.example/g00886/impl.directions"], apart := false, laid := [("loop.example/g00886/impl.directions", laid_loop_example_g00886_impl_directions)], narrowed := true }
def FnSightUptoSaid : Prop := fnSightUptoRow.holds Tryz.pinned (OpenSpec.upto fnSightSpec)

/-- 'laws.FnPlacing', WHERE WHAT IT READS IS OF BULK AT MOST 1048576: true; the input reads as it did. -/
def fnPlacingUptoRow : OpenClaim := { program := "ytpggeanoohlmjaagreatdoor", sum := "f6ac00bf23a174e296d558985b17a1f9465d51786eae3c304c72eb5cb9663829", func := "loop.example/g00886/laws.FnPlacing", spec := "fnPlacing", unfollowed := true, recurses := true, named := ["loop.example/g00886/impl.directions"], apart := false, laid := [("loop.example/g00886/impl.directions", laid_loop_example_g00886_impl_directions)], narrowed := true }
def FnPlacingUptoSaid : Prop := fnPlacingUptoRow.holds Tryz.pinned (OpenSpec.upto fnPlacingSpec)

end Rows
end Go.Proofs.YtpggeanoohlmjaaGreatDoor
