/-
  No cell of these rows narrows 'for every input' (looked for: loops, veiled, ifaces, maps, wideKeys, modest, calm, conditions, laid).
  DERIVED. THE GIVEN ROWS OF THIS SEAT. 4 by the template 'for every input the law returns true; each argument reads behind the call as it read before'; 0 by the template 'total and deterministic' (their statements: YtgafibhekjnffaaTotals.lean).
  GIVEN WITH THE SEED: the statements are not yours to turn. If you find one false, say at which input.
  Laid BY PROGRAM, IN A SANDBOX (cutbox-rows.mjs): the forced cells as the released guide's own fill.sh prints them over the translation 6a85f2fc69b6b024… (all of the seat's roots in one cut). By AI agents, Wed Nov 11 2026. No macro, syntax, notation, axiom, sorry.
-/
import Derived.Test.YtgafibhekjnffaaChecked
import GoSem.Claim
import GoSem.ClaimJoined
import GoSem.ClaimMapViews
import Derived.JoinedTies
import Derived.KernelRfl
namespace Go.Proofs.Ytgafibhekjnffaa
/- THE CELL 'sum', in the pinned program and in every row, IS THE sha256 OF THE DUMP (.gsa) THAT YtgafibhekjnffaaProg.lean LOADS. Nothing in Lean hashes anything: it is a label: what it is worth is what the hold of that sum in a sandbox is worth. -/
noncomputable def Try.pinned : Pinned := { name := "ytgafibhekjnffaa", sum := "6a85f2fc69b6b024f9d22ab324a64674b4f25e37822b246fe2f632ea28e1c6e0", checked := Try.checked }
namespace Rows
def none {H : Type} : Left H := { results := [], args := [] }

/-- 'laws.FnExactLineTo': WHATEVER THE INPUT: true; the input reads as it did. -/
def fnExactLineToSpec : ChangeSpec := { name := "fnExactLineTo", fn := fun _ => fun
  | [d1, d2] => { results := [.lit (.bool true)], args := [d1, d2] }
  | _ => none }
def fnExactLineToRow : OpenClaim := { program := "ytgafibhekjnffaa", sum := "6a85f2fc69b6b024f9d22ab324a64674b4f25e37822b246fe2f632ea28e1c6e0", func := "loop.example/g00886/laws.FnExactLineTo", spec := "fnExactLineTo", unfollowed := true, recurses := true, apart := false }
def FnExactLineToSaid : Prop := fnExactLineToRow.holds Try.pinned (OpenSpec.ofChange fnExactLineToSpec)

/-- ITS FALSE NEIGHBOUR: 'it returns false'. Refute it at one input. -/
def fnExactLineToWrong : ChangeSpec := { name := "fnExactLineTo", fn := fun _ => fun
  | [d1, d2] => { results := [.lit (.bool false)], args := [d1, d2] }
  | _ => none }
def FnExactLineToWrongFalsely : Prop := fnExactLineToRow.holds Try.pinned (OpenSpec.ofChange fnExactLineToWrong)

/-- 'laws.FnExactTipsOf': WHATEVER THE INPUT: true; the input reads as it did. -/
def fnExactTipsOfSpec : ChangeSpec := { name := "fnExactTipsOf", fn := fun _ => fun
  | [d] => { results := [.lit (.bool true)], args := [d] }
  | _ => none }
def fnExactTipsOfRow : OpenClaim := { program := "ytgafibhekjnffaa", sum := "6a85f2fc69b6b024f9d22ab324a64674b4f25e37822b246fe2f632ea28e1c6e0", func := "loop.example/g00886/laws.FnExactTipsOf", spec := "fnExactTipsOf", unfollowed := true, recurses := true, apart := false }
def FnExactTipsOfSaid : Prop := fnExactTipsOfRow.holds Try.pinned (OpenSpec.ofChange fnExactTipsOfSpec)

/-- ITS FALSE NEIGHBOUR: 'it returns false'. Refute it at one input. -/
def fnExactTipsOfWrong : ChangeSpec := { name := "fnExactTipsOf", fn := fun _ => fun
  | [d] => { results := [.lit (.bool false)], args := [d] }
  | _ => none }
def FnExactTipsOfWrongFalsely : Prop := fnExactTipsOfRow.holds Try.pinned (OpenSpec.ofChange fnExactTipsOfWrong)

/-- 'laws.FnExactGraftTree': WHATEVER THE INPUT: true; the input reads as it did. -/
def fnExactGraftTreeSpec : ChangeSpec := { name := "fnExactGraftTree", fn := fun _ => fun
  | [d1, d2] => { results := [.lit (.bool true)], args := [d1, d2] }
  | _ => none }
def fnExactGraftTreeRow : OpenClaim := { program := "ytgafibhekjnffaa", sum := "6a85f2fc69b6b024f9d22ab324a64674b4f25e37822b246fe2f632ea28e1c6e0", func := "loop.example/g00886/laws.FnExactGraftTree", spec := "fnExactGraftTree", unfollowed := true, recurses := true, apart := false }
def FnExactGraftTreeSaid : Prop := fnExactGraftTreeRow.holds Try.pinned (OpenSpec.ofChange fnExactGraftTreeSpec)

/-- ITS FALSE NEIGHBOUR: 'it returns false'. Refute it at one input. -/
def fnExactGraftTreeWrong : ChangeSpec := { name := "fnExactGraftTree", fn := fun _ => fun
  | [d1, d2] => { results := [.lit (.bool false)], args := [d1, d2] }
  | _ => none }
def FnExactGraftTreeWrongFalsely : Prop := fnExactGraftTreeRow.holds Try.pinned (OpenSpec.ofChange fnExactGraftTreeWrong)

/-- 'laws.FnExactMergeMail': WHATEVER THE INPUT: true; the input reads as it did. -/
def fnExactMergeMailSpec : ChangeSpec := { name := "fnExactMergeMail", fn := fun _ => fun
  | [d1, d2] => { results := [.lit (.bool true)], args := [d1, d2] }
  | _ => none }
def fnExactMergeMailRow : OpenClaim := { program := "ytgafibhekjnffaa", sum := "6a85f2fc69b6b024f9d22ab324a64674b4f25e37822b246fe2f632ea28e1c6e0", func := "loop.example/g00886/laws.FnExactMergeMail", spec := "fnExactMergeMail", unfollowed := true, recurses := true, apart := false }
def FnExactMergeMailSaid : Prop := fnExactMergeMailRow.holds Try.pinned (OpenSpec.ofChange fnExactMergeMailSpec)

/-- ITS FALSE NEIGHBOUR: 'it returns false'. Refute it at one input. -/
def fnExactMergeMailWrong : ChangeSpec := { name := "fnExactMergeMail", fn := fun _ => fun
  | [d1, d2] => { results := [.lit (.bool false)], args := [d1, d2] }
  | _ => none }
def FnExactMergeMailWrongFalsely : Prop := fnExactMergeMailRow.holds Try.pinned (OpenSpec.ofChange fnExactMergeMailWrong)

/- THE SECOND FORM. 'bulk': how many values and letters a reading holds, each counted each time it is reached (what is shared counts as often as it is met; a slice's spare places count too). A statement '..UptoSaid' is the law's where the arguments, and the package variables that the reading takes, are together of bulk at most 1048576: NARROWER than '..Said'. Prove '..Said' where nothing that the law and all that it calls make is longer than what came in: it says more and counts as full. Else prove '..UptoSaid'. A law counts once. -/
mutual
def uptoBulk {H : Type} : DataW H → Nat
  | .lit (.string bytes) => bytes.length + 1
  | .lit _ => 1
  | .nil => 1
  | .ptr d => uptoBulk d + 1
  | .slice elems spare => uptoBulkAll elems + uptoBulkAll spare + 1
  | .agg parts => uptoBulkAll parts + 1
  | .iface _ d => uptoBulk d + 1
  | .map entries => uptoBulkEntries entries + 1
  | .held _ => 1
def uptoBulkAll {H : Type} : List (DataW H) → Nat
  | [] => 0
  | d :: r => uptoBulk d + uptoBulkAll r
def uptoBulkEntries {H : Type} : List (Lit × DataW H) → Nat
  | [] => 0
  | x :: r => uptoBulkEntry x + uptoBulkEntries r
def uptoBulkEntry {H : Type} : Lit × DataW H → Nat
  | (.string bytes, d) => bytes.length + uptoBulk d + 1
  | (_, d) => uptoBulk d + 1
 end
def uptoSmall : (H : Type) → List (DataW H) → Bool := fun _ ds => decide (uptoBulkAll ds ≤ 1048576)
def OpenSpec.upto (s : _root_.Go.ChangeSpec) : _root_.Go.OpenSpec := { _root_.Go.OpenSpec.ofChange s with cond := some uptoSmall }

/-- 'laws.FnExactLineTo', WHERE WHAT IT READS IS OF BULK AT MOST 1048576: true; the input reads as it did. -/
def fnExactLineToUptoRow : OpenClaim := { program := "ytgafibhekjnffaa", sum := "6a85f2fc69b6b024f9d22ab324a64674b4f25e37822b246fe2f632ea28e1c6e0", func := "loop.example/g00886/laws.FnExactLineTo", spec := "fnExactLineTo", unfollowed := true, recurses := true, apart := false, narrowed := true }
def FnExactLineToUptoSaid : Prop := fnExactLineToUptoRow.holds Try.pinned (OpenSpec.upto fnExactLineToSpec)

/-- 'laws.FnExactTipsOf', WHERE WHAT IT READS IS OF BULK AT MOST 1048576: true; the input reads as it did. -/
def fnExactTipsOfUptoRow : OpenClaim := { program := "ytgafibhekjnffaa", sum := "6a85f2fc69b6b024f9d22ab324a64674b4f25e37822b246fe2f632ea28e1c6e0", func := "loop.example/g00886/laws.FnExactTipsOf", spec := "fnExactTipsOf", unfollowed := true, recurses := true, apart := false, narrowed := true }
def FnExactTipsOfUptoSaid : Prop := fnExactTipsOfUptoRow.holds Try.pinned (OpenSpec.upto fnExactTipsOfSpec)

/-- 'laws.FnExactGraftTree', WHERE WHAT IT READS IS OF BULK AT MOST 1048576: true; the input reads as it did. -/
def fnExactGraftTreeUptoRow : OpenClaim := { program := "ytgafibhekjnffaa", sum := "6a85f2fc69b6b024f9d22ab324a64674b4f25e37822b246fe2f632ea28e1c6e0", func := "loop.example/g00886/laws.FnExactGraftTree", spec := "fnExactGraftTree", unfollowed := true, recurses := true, apart := false, narrowed := true }
def FnExactGraftTreeUptoSaid : Prop := fnExactGraftTreeUptoRow.holds Try.pinned (OpenSpec.upto fnExactGraftTreeSpec)

/-- 'laws.FnExactMergeMail', WHERE WHAT IT READS IS OF BULK AT MOST 1048576: true; the input reads as it did. -/
def fnExactMergeMailUptoRow : OpenClaim := { program := "ytgafibhekjnffaa", sum := "6a85f2fc69b6b024f9d22ab324a64674b4f25e37822b246fe2f632ea28e1c6e0", func := "loop.example/g00886/laws.FnExactMergeMail", spec := "fnExactMergeMail", unfollowed := true, recurses := true, apart := false, narrowed := true }
def FnExactMergeMailUptoSaid : Prop := fnExactMergeMailUptoRow.holds Try.pinned (OpenSpec.upto fnExactMergeMailSpec)

end Rows
end Go.Proofs.Ytgafibhekjnffaa
