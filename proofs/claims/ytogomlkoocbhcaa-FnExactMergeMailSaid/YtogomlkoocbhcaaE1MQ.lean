/- What the laws of this text say, in the given statements' words; no condition. -/
import Derived.Test.YtogomlkoocbhcaaE1MC
import Derived.Test.YtogomlkoocbhcaaE1MP
import Derived.Test.YtogomlkoocbhcaaAb5
import Derived.Test.YtogomlkoocbhcaaRows
set_option linter.unusedVariables false
set_option linter.unusedSimpArgs false
open Go Go.Proofs Go.RowKit
namespace Go.Proofs.Ytogomlkoocbhcaa.Ab
theorem o35 : Opn X.P 35 gw_Mail fun _ => True :=
 Opn.strct (isStrct_ok (by kernel_rfl)) fun enc w base spare held n cs xs hl hx hf => by
  obtain ⟨a0, _, h0⟩ := Opn.fieldAt (Opn.int (k := .i64) (t := 3) (by kernel_rfl)) hx hf 0 (off := 0) (sz := 1) (by kernel_rfl)
  obtain ⟨a1, _, h1⟩ := Opn.fieldAt (Opn.int (k := .i64) (t := 3) (by kernel_rfl)) hx hf 1 (off := 1) (sz := 1) (by kernel_rfl)
  obtain ⟨a2, _, h2⟩ := Opn.fieldAt (Opn.int (k := .i64) (t := 3) (by kernel_rfl)) hx hf 2 (off := 2) (sz := 1) (by kernel_rfl)
  have hc : X.P.cellsOf 35 = 3 := by kernel_rfl
  exact ⟨⟨a0, a1, a2⟩, trivial, by simpa [gw_Mail, D.cells, sl] using Seg.cons h0 (Seg.cons h1 (Seg.cons h2 (Seg.nil (cs := cs.drop 3) (List.drop_of_length_le (by omega)))))⟩
theorem own_ : ownKnob Go.Proofs.Try.prog.godebug = none := by kernel_rfl
set_option maxRecDepth 100000 in
theorem lifted3 (os : Os) (started : os.Started) (H : Type) (enc : TypeId × Value → H) :
  ReturnsInHanded {} Go.Proofs.Try.checked os 3 .any (Go.Proofs.Ytogomlkoocbhcaa.Rows.fnExactMergeMailSpec.pre6 enc Go.Proofs.Try.prog Go.Proofs.Try.f3 Go.Proofs.Ytogomlkoocbhcaa.Rows.fnExactMergeMailRow.domain false) (Go.Proofs.Ytogomlkoocbhcaa.Rows.fnExactMergeMailSpec.post enc Go.Proofs.Try.prog Go.Proofs.Try.f3 false true false false) :=
 law_returns (C := Go.Proofs.Try.checked) (rt := 4) own_ started (by kernel_rfl) Go.Proofs.Try.func3
  (ChangeSpec.witness6 (enc := enc) (C := Go.Proofs.Try.checked) false ⟨#[], #[.slice none 0 0, .slice none 0 0], []⟩ 8 (by kernel_rfl) (by kernel_rfl) (by kernel_rfl) (by kernel_rfl))
  (by kernel_rfl) (by kernel_rfl) (by kernel_rfl) (by kernel_rfl) (by kernel_rfl)
  (fun ds hd => match ds, hd with | [_, _], _ => rfl)
  (.cons (OpnV.slice (e := 35) (wd := 3) (by kernel_rfl) (by kernel_rfl) (by decide) (fun _ => rfl) o35) (.cons (OpnV.slice (e := 35) (wd := 3) (by kernel_rfl) (by kernel_rfl) (by decide) (fun _ => rfl) o35) (.nil)))
  (fun xs hq => by
   obtain ⟨_, _, rfl, ⟨x0, rfl, hg0, hb0⟩, ⟨_, _, rfl, ⟨x1, rfl, hg1, hb1⟩, rfl⟩⟩ := hq
   exact cw_FnExactMergeMail (lawMergeMail x0 x1 (Nat.lt_of_le_of_lt hb0 (by decide)) (Nat.lt_of_le_of_lt hb1 (by decide))))
theorem fnExactMergeMail_holds : Go.Proofs.Ytogomlkoocbhcaa.Rows.FnExactMergeMailSaid :=
 OpenClaim.holds_of_wide 3 Go.Proofs.Try.f3 rfl rfl rfl rfl rfl rfl rfl ⟨rfl, rfl, rfl, rfl, rfl⟩ rfl rfl rfl rfl rfl (by kernel_rfl) Go.Proofs.Try.func3 (by kernel_rfl)
  (of_decide_eq_true (by kernel_rfl)) (by unfold Func.isWrapper; first | (rw [if_pos (by decide +kernel)]; kernel_rfl) | (rw [if_neg (by decide +kernel)]; exact ⟨rfl, rfl⟩))
  (fun os started H enc _ => lifted3 os started H enc)
end Go.Proofs.Ytogomlkoocbhcaa.Ab

namespace Go.Proofs.Ytogomlkoocbhcaa
theorem fnExactMergeMail_holds_proved : Rows.FnExactMergeMailSaid := Ab.fnExactMergeMail_holds
end Go.Proofs.Ytogomlkoocbhcaa
