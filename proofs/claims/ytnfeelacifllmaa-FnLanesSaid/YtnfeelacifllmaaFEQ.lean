/- What the laws of this text say, in the given statements' words; no condition. -/
import Derived.Test.YtnfeelacifllmaaFEC
import Derived.Test.YtnfeelacifllmaaFEP1
import Derived.Test.YtnfeelacifllmaaAb6
import Derived.Test.YtnfeelacifllmaaRows
set_option linter.unusedVariables false
set_option linter.unusedSimpArgs false
open Go Go.Proofs Go.RowKit
namespace Go.Proofs.Ytnfeelacifllmaa.Ab

theorem own_ : ownKnob Go.Proofs.Try.prog.godebug = none := by kernel_rfl
set_option maxRecDepth 100000 in
theorem lifted4 (os : Os) (started : os.Started) (H : Type) (enc : TypeId × Value → H) :
    ReturnsInHanded {} Go.Proofs.Try.checked os 4 .any (Go.Proofs.Ytnfeelacifllmaa.Rows.fnLanesSpec.pre6 enc Go.Proofs.Try.prog Go.Proofs.Try.f4 Go.Proofs.Ytnfeelacifllmaa.Rows.fnLanesRow.domain false) (Go.Proofs.Ytnfeelacifllmaa.Rows.fnLanesSpec.post enc Go.Proofs.Try.prog Go.Proofs.Try.f4 false true false false) :=
  law_returns (C := Go.Proofs.Try.checked) (rt := 4) own_ started (by kernel_rfl) Go.Proofs.Try.func4
    (ChangeSpec.witness6 (enc := enc) (C := Go.Proofs.Try.checked) false ⟨#[], #[.slice none 0 0, .slice none 0 0], []⟩ 8 (by kernel_rfl) (by kernel_rfl) (by kernel_rfl) (by kernel_rfl))
    (by kernel_rfl) (by kernel_rfl) (by kernel_rfl) (by kernel_rfl) (by kernel_rfl)
    (fun ds hd => match ds, hd with | [_, _], _ => rfl)
    (.cons (OpnV.slice (e := 5) (wd := 1) (by kernel_rfl) (by kernel_rfl) (by decide) (fun _ => rfl) (Opn.int (k := .u8) (t := 5) (by kernel_rfl))) (.cons (OpnV.slice (e := 5) (wd := 1) (by kernel_rfl) (by kernel_rfl) (by decide) (fun _ => rfl) (Opn.int (k := .u8) (t := 5) (by kernel_rfl))) (.nil)))
    (fun xs hq => by
      obtain ⟨_, _, rfl, ⟨x0, rfl, hg0, hb0⟩, ⟨_, _, rfl, ⟨x1, rfl, hg1, hb1⟩, rfl⟩⟩ := hq
      exact cw_FnLanes (lawLanes x0 x1 (Nat.lt_of_le_of_lt hb0 (by decide)) (Nat.lt_of_le_of_lt hb1 (by decide)) (fun x hx => u8_wf (hg0 x hx)) (fun x hx => u8_wf (hg1 x hx))))
theorem fnLanes_holds : Go.Proofs.Ytnfeelacifllmaa.Rows.FnLanesSaid :=
  OpenClaim.holds_of_wide 4 Go.Proofs.Try.f4 rfl rfl rfl rfl rfl rfl rfl ⟨rfl, rfl, rfl, rfl, rfl⟩ rfl rfl rfl rfl rfl (by kernel_rfl) Go.Proofs.Try.func4 (by kernel_rfl)
    (of_decide_eq_true (by kernel_rfl)) (by unfold Func.isWrapper; first | (rw [if_pos (by decide +kernel)]; kernel_rfl) | (rw [if_neg (by decide +kernel)]; exact ⟨rfl, rfl⟩))
    (fun os started H enc _ => lifted4 os started H enc)
end Go.Proofs.Ytnfeelacifllmaa.Ab

namespace Go.Proofs.Ytnfeelacifllmaa
theorem fnLanes_holds_proved : Rows.FnLanesSaid := Ab.fnLanes_holds
end Go.Proofs.Ytnfeelacifllmaa
