/- What the laws of this text say, in the given statements' words; no condition. -/
import Derived.Test.YtgafibhekjnffaaBLC
import Derived.Test.YtgafibhekjnffaaBLP
import Derived.Test.YtgafibhekjnffaaAb4
import Derived.Test.YtgafibhekjnffaaRows
set_option linter.unusedVariables false
set_option linter.unusedSimpArgs false
open Go Go.Proofs Go.RowKit
namespace Go.Proofs.Ytgafibhekjnffaa.Ab
theorem o53 : Opn X.P 53 gw_Node fun _ => True :=
  Opn.strct (isStrct_ok (by kernel_rfl)) fun enc w base spare held n cs xs hl hx hf => by
    obtain ⟨a0, _, h0⟩ := Opn.fieldAt (Opn.int (k := .i64) (t := 3) (by kernel_rfl)) hx hf 0 (off := 0) (sz := 1) (by kernel_rfl)
    obtain ⟨a1, _, h1⟩ := Opn.fieldAt (Opn.int (k := .i64) (t := 3) (by kernel_rfl)) hx hf 1 (off := 1) (sz := 1) (by kernel_rfl)
    obtain ⟨a2, _, h2⟩ := Opn.fieldAt (Opn.int (k := .i64) (t := 3) (by kernel_rfl)) hx hf 2 (off := 2) (sz := 1) (by kernel_rfl)
    have hc : X.P.cellsOf 53 = 3 := by kernel_rfl
    exact ⟨⟨a0, a1, a2⟩, trivial, by simpa [gw_Node, D.cells, sl] using Seg.cons h0 (Seg.cons h1 (Seg.cons h2 (Seg.nil (cs := cs.drop 3) (List.drop_of_length_le (by omega)))))⟩
theorem own_ : ownKnob Go.Proofs.Try.prog.godebug = none := by kernel_rfl
set_option maxRecDepth 100000 in
theorem lifted3 (os : Os) (started : os.Started) (H : Type) (enc : TypeId × Value → H) :
    ReturnsInHanded {} Go.Proofs.Try.checked os 3 .any (Go.Proofs.Ytgafibhekjnffaa.Rows.fnExactLineToSpec.pre6 enc Go.Proofs.Try.prog Go.Proofs.Try.f3 Go.Proofs.Ytgafibhekjnffaa.Rows.fnExactLineToRow.domain false) (Go.Proofs.Ytgafibhekjnffaa.Rows.fnExactLineToSpec.post enc Go.Proofs.Try.prog Go.Proofs.Try.f3 false true false false) :=
  law_returns (C := Go.Proofs.Try.checked) (rt := 4) own_ started (by kernel_rfl) Go.Proofs.Try.func3
    (ChangeSpec.witness6 (enc := enc) (C := Go.Proofs.Try.checked) false ⟨#[], #[.slice none 0 0, .int .i64 0], []⟩ 8 (by kernel_rfl) (by kernel_rfl) (by kernel_rfl) (by kernel_rfl))
    (by kernel_rfl) (by kernel_rfl) (by kernel_rfl) (by kernel_rfl) (by kernel_rfl)
    (fun ds hd => match ds, hd with | [_, _], _ => rfl)
    (.cons (OpnV.slice (e := 53) (wd := 3) (by kernel_rfl) (by kernel_rfl) (by decide) (fun _ => rfl) o53) (.cons (OpnV.int (k := .i64) (by kernel_rfl)) (.nil)))
    (fun xs hq => by
      obtain ⟨_, _, rfl, ⟨x0, rfl, _, hb0⟩, ⟨_, _, rfl, ⟨x1, rfl, hb1⟩, rfl⟩⟩ := hq
      exact cw_FnExactLineTo (lawLineTo x0 x1 (Nat.lt_of_le_of_lt hb0 (by decide))))
theorem fnExactLineTo_holds : Go.Proofs.Ytgafibhekjnffaa.Rows.FnExactLineToSaid :=
  OpenClaim.holds_of_wide 3 Go.Proofs.Try.f3 rfl rfl rfl rfl rfl rfl rfl ⟨rfl, rfl, rfl, rfl, rfl⟩ rfl rfl rfl rfl rfl (by kernel_rfl) Go.Proofs.Try.func3 (by kernel_rfl)
    (of_decide_eq_true (by kernel_rfl)) (by unfold Func.isWrapper; first | (rw [if_pos (by decide +kernel)]; kernel_rfl) | (rw [if_neg (by decide +kernel)]; exact ⟨rfl, rfl⟩))
    (fun os started H enc _ => lifted3 os started H enc)
end Go.Proofs.Ytgafibhekjnffaa.Ab

namespace Go.Proofs.Ytgafibhekjnffaa
theorem fnExactLineTo_holds_proved : Rows.FnExactLineToSaid := Ab.fnExactLineTo_holds
end Go.Proofs.Ytgafibhekjnffaa
