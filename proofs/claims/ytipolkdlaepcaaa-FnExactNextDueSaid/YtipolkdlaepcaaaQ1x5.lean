/- What the laws of this text say, in the given statements' words; no condition. -/
import Derived.Test.YtipolkdlaepcaaaA1C1
import Derived.Test.YtipolkdlaepcaaaP3
import Derived.Test.YtipolkdlaepcaaaAb3
import Derived.Test.YtipolkdlaepcaaaRows
set_option linter.unusedVariables false
set_option linter.unusedSimpArgs false
open Go Go.Proofs Go.RowKit
namespace Go.Proofs.Ytipolkdlaepcaaa.Ab
theorem o48 : Opn X.P 48 g48 fun _ => True :=
  Opn.strct (isStrct_ok (by kernel_rfl)) fun enc w base spare held n cs xs hl hx hf => by
    obtain ⟨a0, _, h0⟩ := Opn.fieldAt (Opn.int (k := .i64) (t := 3) (by kernel_rfl)) hx hf 0 (off := 0) (sz := 1) (by kernel_rfl)
    obtain ⟨a1, _, h1⟩ := Opn.fieldAt (Opn.int (k := .i64) (t := 3) (by kernel_rfl)) hx hf 1 (off := 1) (sz := 1) (by kernel_rfl)
    obtain ⟨a2, _, h2⟩ := Opn.fieldAt (Opn.int (k := .i64) (t := 3) (by kernel_rfl)) hx hf 2 (off := 2) (sz := 1) (by kernel_rfl)
    have hc : X.P.cellsOf 48 = 3 := by kernel_rfl
    exact ⟨⟨a0, a1, a2⟩, trivial, by simpa [g48, D.cells, sl] using Seg.cons h0 (Seg.cons h1 (Seg.cons h2 (Seg.nil (cs := cs.drop 3) (List.drop_of_length_le (by omega)))))⟩
theorem own_ : ownKnob Go.Proofs.Try.prog.godebug = none := by kernel_rfl
set_option maxRecDepth 100000 in
theorem lifted5 (os : Os) (started : os.Started) (H : Type) (enc : TypeId × Value → H) :
    ReturnsInHanded {} Go.Proofs.Try.checked os 5 .any (Go.Proofs.Ytipolkdlaepcaaa.Rows.fnExactNextDueSpec.pre6 enc Go.Proofs.Try.prog Go.Proofs.Try.f5 Go.Proofs.Ytipolkdlaepcaaa.Rows.fnExactNextDueRow.domain false) (Go.Proofs.Ytipolkdlaepcaaa.Rows.fnExactNextDueSpec.post enc Go.Proofs.Try.prog Go.Proofs.Try.f5 false true false false) :=
  law_returns (C := Go.Proofs.Try.checked) (rt := 4) own_ started (by kernel_rfl) Go.Proofs.Try.func5
    (ChangeSpec.witness6 (enc := enc) (C := Go.Proofs.Try.checked) false ⟨#[], #[.slice none 0 0], []⟩ 8 (by kernel_rfl) (by kernel_rfl) (by kernel_rfl) (by kernel_rfl))
    (by kernel_rfl) (by kernel_rfl) (by kernel_rfl) (by kernel_rfl) (by kernel_rfl)
    (fun ds hd => match ds, hd with | [_], _ => rfl)
    (.cons (OpnV.slice (e := 48) (wd := 3) (by kernel_rfl) (by kernel_rfl) (by decide) (fun _ => rfl) o48) (.nil))
    (fun xs hq => by
      obtain ⟨_, _, rfl, ⟨x0, rfl, _, hb0⟩, rfl⟩ := hq
      exact c5 (e5 x0 (Nat.lt_of_le_of_lt hb0 (by decide))))
theorem fnExactNextDue_holds : Go.Proofs.Ytipolkdlaepcaaa.Rows.FnExactNextDueSaid :=
  OpenClaim.holds_of_wide 5 Go.Proofs.Try.f5 rfl rfl rfl rfl rfl rfl rfl ⟨rfl, rfl, rfl, rfl, rfl⟩ rfl rfl rfl rfl rfl (by kernel_rfl) Go.Proofs.Try.func5 (by kernel_rfl)
    (of_decide_eq_true (by kernel_rfl)) (by unfold Func.isWrapper; first | (rw [if_pos (by decide +kernel)]; kernel_rfl) | (rw [if_neg (by decide +kernel)]; exact ⟨rfl, rfl⟩))
    (fun os started H enc _ => lifted5 os started H enc)
end Go.Proofs.Ytipolkdlaepcaaa.Ab

namespace Go.Proofs.Ytipolkdlaepcaaa
theorem fnExactNextDue_holds_proved : Rows.FnExactNextDueSaid := Ab.fnExactNextDue_holds
end Go.Proofs.Ytipolkdlaepcaaa
