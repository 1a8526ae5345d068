/- What the laws of this text say, in the given statements' words; no condition. -/
import Derived.Test.YtfnhclmdobdkbaaB2FnForecastsC
import Derived.Test.YtfnhclmdobdkbaaB2FnForecastsP
import Derived.Test.YtfnhclmdobdkbaaAb5
import Derived.Test.YtfnhclmdobdkbaaRows
set_option linter.unusedVariables false
set_option linter.unusedSimpArgs false
open Go Go.Proofs Go.RowKit
namespace Go.Proofs.Ytfnhclmdobdkbaa.Ab

theorem own_ : ownKnob Go.Proofs.Try.prog.godebug = none := by kernel_rfl
set_option maxRecDepth 100000 in
theorem lifted3 (os : Os) (started : os.Started) (H : Type) (enc : TypeId × Value → H) :
    ReturnsInHanded {} Go.Proofs.Try.checked os 3 .any (Go.Proofs.Ytfnhclmdobdkbaa.Rows.fnForecastsSpec.pre6 enc Go.Proofs.Try.prog Go.Proofs.Try.f3 Go.Proofs.Ytfnhclmdobdkbaa.Rows.fnForecastsRow.domain false) (Go.Proofs.Ytfnhclmdobdkbaa.Rows.fnForecastsSpec.post enc Go.Proofs.Try.prog Go.Proofs.Try.f3 false true false false) :=
  law_returns (C := Go.Proofs.Try.checked) (rt := 4) own_ started (by kernel_rfl) Go.Proofs.Try.func3
    (ChangeSpec.witness6 (enc := enc) (C := Go.Proofs.Try.checked) false ⟨#[], #[.slice none 0 0, .slice none 0 0], []⟩ 8 (by kernel_rfl) (by kernel_rfl) (by kernel_rfl) (by kernel_rfl))
    (by kernel_rfl) (by kernel_rfl) (by kernel_rfl) (by kernel_rfl) (by kernel_rfl)
    (fun ds hd => match ds, hd with | [_, _], _ => rfl)
    (.cons (OpnV.slice (e := 5) (wd := 1) (by kernel_rfl) (by kernel_rfl) (by decide) (fun _ => rfl) (Opn.int (k := .u8) (t := 5) (by kernel_rfl))) (.cons (OpnV.slice (e := 5) (wd := 1) (by kernel_rfl) (by kernel_rfl) (by decide) (fun _ => rfl) (Opn.int (k := .u8) (t := 5) (by kernel_rfl))) (.nil)))
    (fun xs hq => by
      obtain ⟨_, _, rfl, ⟨x0, rfl, hg0, hb0⟩, ⟨_, _, rfl, ⟨x1, rfl, hg1, hb1⟩, rfl⟩⟩ := hq
      exact cw_FnForecasts (lawForecasts x0 x1 (Nat.lt_of_le_of_lt hb0 (by decide)) (Nat.lt_of_le_of_lt hb1 (by decide)) (fun x hx => u8_wf (hg0 x hx)) (fun x hx => u8_wf (hg1 x hx))))
theorem fnForecasts_holds : Go.Proofs.Ytfnhclmdobdkbaa.Rows.FnForecastsSaid :=
  OpenClaim.holds_of_wide 3 Go.Proofs.Try.f3 rfl rfl rfl rfl rfl rfl rfl ⟨rfl, rfl, rfl, rfl, rfl⟩ rfl rfl rfl rfl rfl (by kernel_rfl) Go.Proofs.Try.func3 (by kernel_rfl)
    (of_decide_eq_true (by kernel_rfl)) (by unfold Func.isWrapper; first | (rw [if_pos (by decide +kernel)]; kernel_rfl) | (rw [if_neg (by decide +kernel)]; exact ⟨rfl, rfl⟩))
    (fun os started H enc _ => lifted3 os started H enc)
end Go.Proofs.Ytfnhclmdobdkbaa.Ab

namespace Go.Proofs.Ytfnhclmdobdkbaa
theorem fnForecasts_holds_proved : Rows.FnForecastsSaid := Ab.fnForecasts_holds
end Go.Proofs.Ytfnhclmdobdkbaa
