/-
  No cell of these rows narrows 'for every input' (looked for: loops, veiled, ifaces, maps, wideKeys, modest, calm, conditions, laid).
  DERIVED. THE GIVEN ROWS OF THIS SEAT. 6 by the template 'for every input the law returns true; each argument reads behind the call as it read before'; 0 by the template 'total and deterministic' (their statements: YtipolkdlaepcaaaTotals.lean).
  GIVEN WITH THE SEED: the statements are not yours to turn. If you find one false, say at which input.
  Laid BY PROGRAM, IN A SANDBOX (cutbox-rows.mjs): the forced cells as the released guide's own fill.sh prints them over the translation 60cf0b9c2f631f26… (all of the seat's roots in one cut). By AI agents, Wed Nov 11 2026. No macro, syntax, notation, axiom, sorry.
-/
import Derived.Test.YtipolkdlaepcaaaChecked
import GoSem.Claim
import GoSem.ClaimJoined
import GoSem.ClaimMapViews
import Derived.JoinedTies
import Derived.KernelRfl
namespace Go.Proofs.Ytipolkdlaepcaaa
/- THE CELL 'sum', in the pinned program and in every row, IS THE sha256 OF THE DUMP (.gsa) THAT YtipolkdlaepcaaaProg.lean LOADS. Nothing in Lean hashes anything: it is a label: what it is worth is what the hold of that sum in a sandbox is worth. -/
noncomputable def Try.pinned : Pinned := { name := "ytipolkdlaepcaaa", sum := "60cf0b9c2f631f2637f87d48fd982b626bd40ba75d4ff9815f400da62a362c4e", checked := Try.checked }
namespace Rows
def none {H : Type} : Left H := { results := [], args := [] }

/-- 'laws.FnExactIsMailbox': WHATEVER THE INPUT: true; the input reads as it did. -/
def fnExactIsMailboxSpec : ChangeSpec := { name := "fnExactIsMailbox", fn := fun _ => fun
  | [d] => { results := [.lit (.bool true)], args := [d] }
  | _ => none }
def fnExactIsMailboxRow : OpenClaim := { program := "ytipolkdlaepcaaa", sum := "60cf0b9c2f631f2637f87d48fd982b626bd40ba75d4ff9815f400da62a362c4e", func := "loop.example/g00886/laws.FnExactIsMailbox", spec := "fnExactIsMailbox", apart := false }
def FnExactIsMailboxSaid : Prop := fnExactIsMailboxRow.holds Try.pinned (OpenSpec.ofChange fnExactIsMailboxSpec)

/-- ITS FALSE NEIGHBOUR: 'it returns false'. Refute it at one input. -/
def fnExactIsMailboxWrong : ChangeSpec := { name := "fnExactIsMailbox", fn := fun _ => fun
  | [d] => { results := [.lit (.bool false)], args := [d] }
  | _ => none }
def FnExactIsMailboxWrongFalsely : Prop := fnExactIsMailboxRow.holds Try.pinned (OpenSpec.ofChange fnExactIsMailboxWrong)

/-- 'laws.FnExactIsTree': WHATEVER THE INPUT: true; the input reads as it did. -/
def fnExactIsTreeSpec : ChangeSpec := { name := "fnExactIsTree", fn := fun _ => fun
  | [d] => { results := [.lit (.bool true)], args := [d] }
  | _ => none }
def fnExactIsTreeRow : OpenClaim := { program := "ytipolkdlaepcaaa", sum := "60cf0b9c2f631f2637f87d48fd982b626bd40ba75d4ff9815f400da62a362c4e", func := "loop.example/g00886/laws.FnExactIsTree", spec := "fnExactIsTree", unfollowed := true, recurses := true, apart := false }
def FnExactIsTreeSaid : Prop := fnExactIsTreeRow.holds Try.pinned (OpenSpec.ofChange fnExactIsTreeSpec)

/-- ITS FALSE NEIGHBOUR: 'it returns false'. Refute it at one input. -/
def fnExactIsTreeWrong : ChangeSpec := { name := "fnExactIsTree", fn := fun _ => fun
  | [d] => { results := [.lit (.bool false)], args := [d] }
  | _ => none }
def FnExactIsTreeWrongFalsely : Prop := fnExactIsTreeRow.holds Try.pinned (OpenSpec.ofChange fnExactIsTreeWrong)

/-- 'laws.FnExactNextDue': WHATEVER THE INPUT: true; the input reads as it did. -/
def fnExactNextDueSpec : ChangeSpec := { name := "fnExactNextDue", fn := fun _ => fun
  | [d] => { results := [.lit (.bool true)], args := [d] }
  | _ => none }
def fnExactNextDueRow : OpenClaim := { program := "ytipolkdlaepcaaa", sum := "60cf0b9c2f631f2637f87d48fd982b626bd40ba75d4ff9815f400da62a362c4e", func := "loop.example/g00886/laws.FnExactNextDue", spec := "fnExactNextDue", apart := false }
def FnExactNextDueSaid : Prop := fnExactNextDueRow.holds Try.pinned (OpenSpec.ofChange fnExactNextDueSpec)

/-- ITS FALSE NEIGHBOUR: 'it returns false'. Refute it at one input. -/
def fnExactNextDueWrong : ChangeSpec := { name := "fnExactNextDue", fn := fun _ => fun
  | [d] => { results := [.lit (.bool false)], args := [d] }
  | _ => none }
def FnExactNextDueWrongFalsely : Prop := fnExactNextDueRow.holds Try.pinned (OpenSpec.ofChange fnExactNextDueWrong)

/-- 'laws.FnExactForkOf': WHATEVER THE INPUT: true; the input reads as it did. -/
def fnExactForkOfSpec : ChangeSpec := { name := "fnExactForkOf", fn := fun _ => fun
  | [d1, d2, d3] => { results := [.lit (.bool true)], args := [d1, d2, d3] }
  | _ => none }
def fnExactForkOfRow : OpenClaim := { program := "ytipolkdlaepcaaa", sum := "60cf0b9c2f631f2637f87d48fd982b626bd40ba75d4ff9815f400da62a362c4e", func := "loop.example/g00886/laws.FnExactForkOf", spec := "fnExactForkOf", unfollowed := true, recurses := true, apart := false }
def FnExactForkOfSaid : Prop := fnExactForkOfRow.holds Try.pinned (OpenSpec.ofChange fnExactForkOfSpec)

/-- ITS FALSE NEIGHBOUR: 'it returns false'. Refute it at one input. -/
def fnExactForkOfWrong : ChangeSpec := { name := "fnExactForkOf", fn := fun _ => fun
  | [d1, d2, d3] => { results := [.lit (.bool false)], args := [d1, d2, d3] }
  | _ => none }
def FnExactForkOfWrongFalsely : Prop := fnExactForkOfRow.holds Try.pinned (OpenSpec.ofChange fnExactForkOfWrong)

/-- 'laws.FnExactMainTip': WHATEVER THE INPUT: true; the input reads as it did. -/
def fnExactMainTipSpec : ChangeSpec := { name := "fnExactMainTip", fn := fun _ => fun
  | [d] => { results := [.lit (.bool true)], args := [d] }
  | _ => none }
def fnExactMainTipRow : OpenClaim := { program := "ytipolkdlaepcaaa", sum := "60cf0b9c2f631f2637f87d48fd982b626bd40ba75d4ff9815f400da62a362c4e", func := "loop.example/g00886/laws.FnExactMainTip", spec := "fnExactMainTip", unfollowed := true, recurses := true, apart := false }
def FnExactMainTipSaid : Prop := fnExactMainTipRow.holds Try.pinned (OpenSpec.ofChange fnExactMainTipSpec)

/-- ITS FALSE NEIGHBOUR: 'it returns false'. Refute it at one input. -/
def fnExactMainTipWrong : ChangeSpec := { name := "fnExactMainTip", fn := fun _ => fun
  | [d] => { results := [.lit (.bool false)], args := [d] }
  | _ => none }
def FnExactMainTipWrongFalsely : Prop := fnExactMainTipRow.holds Try.pinned (OpenSpec.ofChange fnExactMainTipWrong)

/-- 'laws.FnExactChildOf': WHATEVER THE INPUT: true; the input reads as it did. -/
def fnExactChildOfSpec : ChangeSpec := { name := "fnExactChildOf", fn := fun _ => fun
  | [d1, d2, d3] => { results := [.lit (.bool true)], args := [d1, d2, d3] }
  | _ => none }
def fnExactChildOfRow : OpenClaim := { program := "ytipolkdlaepcaaa", sum := "60cf0b9c2f631f2637f87d48fd982b626bd40ba75d4ff9815f400da62a362c4e", func := "loop.example/g00886/laws.FnExactChildOf", spec := "fnExactChildOf", unfollowed := true, recurses := true, apart := false }
def FnExactChildOfSaid : Prop := fnExactChildOfRow.holds Try.pinned (OpenSpec.ofChange fnExactChildOfSpec)

/-- ITS FALSE NEIGHBOUR: 'it returns false'. Refute it at one input. -/
def fnExactChildOfWrong : ChangeSpec := { name := "fnExactChildOf", fn := fun _ => fun
  | [d1, d2, d3] => { results := [.lit (.bool false)], args := [d1, d2, d3] }
  | _ => none }
def FnExactChildOfWrongFalsely : Prop := fnExactChildOfRow.holds Try.pinned (OpenSpec.ofChange fnExactChildOfWrong)

/- THE SECOND FORM. 'bulk': how many values and letters a reading holds, each counted each time it is reached (what is shared counts as often as it is met; a slice's spare places count too). A statement '..UptoSaid' is the law's where the arguments, and the package variables that the reading takes, are together of bulk at most 1048576: NARROWER than '..Said'. Prove '..Said' where nothing that the law and all that it calls make is longer than what came in: it says more and counts as full. Else prove '..UptoSaid'. A law counts once. -/
mutual
def uptoBulk {H : Type} : DataW H → Nat
  | .lit (.string bytes) => bytes.length + 1
  | .lit _ => 1
  | .nil => 1
  | .ptr d => uptoBulk d + 1
  | .slice elems spare => uptoBulkAll elems + uptoBulkAll spare + 1
  | .agg parts => uptoBulkAll parts + 1
  | .iface _ d => uptoBulk d + 1
  | .map entries => uptoBulkEntries entries + 1
  | .held _ => 1
def uptoBulkAll {H : Type} : List (DataW H) → Nat
  | [] => 0
  | d :: r => uptoBulk d + uptoBulkAll r
def uptoBulkEntries {H : Type} : List (Lit × DataW H) → Nat
  | [] => 0
  | x :: r => uptoBulkEntry x + uptoBulkEntries r
def uptoBulkEntry {H : Type} : Lit × DataW H → Nat
  | (.string bytes, d) => bytes.length + uptoBulk d + 1
  | (_, d) => uptoBulk d + 1
 end
def uptoSmall : (H : Type) → List (DataW H) → Bool := fun _ ds => decide (uptoBulkAll ds ≤ 1048576)
def OpenSpec.upto (s : _root_.Go.ChangeSpec) : _root_.Go.OpenSpec := { _root_.Go.OpenSpec.ofChange s with cond := some uptoSmall }

/-- 'laws.FnExactIsMailbox', WHERE WHAT IT READS IS OF BULK AT MOST 1048576: true; the input reads as it did. -/
def fnExactIsMailboxUptoRow : OpenClaim := { program := "ytipolkdlaepcaaa", sum := "60cf0b9c2f631f2637f87d48fd982b626bd40ba75d4ff9815f400da62a362c4e", func := "loop.example/g00886/laws.FnExactIsMailbox", spec := "fnExactIsMailbox", apart := false, narrowed := true }
def FnExactIsMailboxUptoSaid : Prop := fnExactIsMailboxUptoRow.holds Try.pinned (OpenSpec.upto fnExactIsMailboxSpec)

/-- 'laws.FnExactIsTree', WHERE WHAT IT READS IS OF BULK AT MOST 1048576: true; the input reads as it did. -/
def fnExactIsTreeUptoRow : OpenClaim := { program := "ytipolkdlaepcaaa", sum := "60cf0b9c2f631f2637f87d48fd982b626bd40ba75d4ff9815f400da62a362c4e", func := "loop.example/g00886/laws.FnExactIsTree", spec := "fnExactIsTree", unfollowed := true, recurses := true, apart := false, narrowed := true }
def FnExactIsTreeUptoSaid : Prop := fnExactIsTreeUptoRow.holds Try.pinned (OpenSpec.upto fnExactIsTreeSpec)

/-- 'laws.FnExactNextDue', WHERE WHAT IT READS IS OF BULK AT MOST 1048576: true; the input reads as it did. -/
def fnExactNextDueUptoRow : OpenClaim := { program := "ytipolkdlaepcaaa", sum := "60cf0b9c2f631f2637f87d48fd982b626bd40ba75d4ff9815f400da62a362c4e", func := "loop.example/g00886/laws.FnExactNextDue", spec := "fnExactNextDue", apart := false, narrowed := true }
def FnExactNextDueUptoSaid : Prop := fnExactNextDueUptoRow.holds Try.pinned (OpenSpec.upto fnExactNextDueSpec)

/-- 'laws.FnExactForkOf', WHERE WHAT IT READS IS OF BULK AT MOST 1048576: true; the input reads as it did. -/
def fnExactForkOfUptoRow : OpenClaim := { program := "ytipolkdlaepcaaa", sum := "60cf0b9c2f631f2637f87d48fd982b626bd40ba75d4ff9815f400da62a362c4e", func := "loop.example/g00886/laws.FnExactForkOf", spec := "fnExactForkOf", unfollowed := true, recurses := true, apart := false, narrowed := true }
def FnExactForkOfUptoSaid : Prop := fnExactForkOfUptoRow.holds Try.pinned (OpenSpec.upto fnExactForkOfSpec)

/-- 'laws.FnExactMainTip', WHERE WHAT IT READS IS OF BULK AT MOST 1048576: true; the input reads as it did. -/
def fnExactMainTipUptoRow : OpenClaim := { program := "ytipolkdlaepcaaa", sum := "60cf0b9c2f631f2637f87d48fd982b626bd40ba75d4ff9815f400da62a362c4e", func := "loop.example/g00886/laws.FnExactMainTip", spec := "fnExactMainTip", unfollowed := true, recurses := true, apart := false, narrowed := true }
def FnExactMainTipUptoSaid : Prop := fnExactMainTipUptoRow.holds Try.pinned (OpenSpec.upto fnExactMainTipSpec)

/-- 'laws.FnExactChildOf', WHERE WHAT IT READS IS OF BULK AT MOST 1048576: true; the input reads as it did. -/
def fnExactChildOfUptoRow : OpenClaim := { program := "ytipolkdlaepcaaa", sum := "60cf0b9c2f631f2637f87d48fd982b626bd40ba75d4ff9815f400da62a362c4e", func := "loop.example/g00886/laws.FnExactChildOf", spec := "fnExactChildOf", unfollowed := true, recurses := true, apart := false, narrowed := true }
def FnExactChildOfUptoSaid : Prop := fnExactChildOfUptoRow.holds Try.pinned (OpenSpec.upto fnExactChildOfSpec)

end Rows
end Go.Proofs.Ytipolkdlaepcaaa
