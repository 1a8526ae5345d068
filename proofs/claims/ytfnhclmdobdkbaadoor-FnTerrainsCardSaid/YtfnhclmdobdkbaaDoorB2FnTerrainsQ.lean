/- What the laws of this text say, in the given statements' words; no condition. -/
import Derived.Test.YtfnhclmdobdkbaaDoorB2FnTerrainsC1
import Derived.Test.YtfnhclmdobdkbaaDoorB2FnTerrainsP
import Derived.Test.YtfnhclmdobdkbaaDoorAb5
import Derived.Test.YtfnhclmdobdkbaaDoorAb5
import Derived.Test.YtfnhclmdobdkbaaDoorTie
import Derived.Test.YtfnhclmdobdkbaaDoorCards
import Derived.SevenTiedAt
import Derived.Test.YtfnhclmdobdkbaaDoorRows
set_option linter.unusedVariables false
set_option linter.unusedSimpArgs false
open Go Go.Proofs Go.RowKit
namespace Go.Proofs.YtfnhclmdobdkbaaDoor.Ab

theorem own_ : ownKnob Go.Proofs.Tryd.prog.godebug = none := by kernel_rfl
set_option maxRecDepth 100000 in
theorem door_met5 (os : Os) (args : Array Value) : laidMetH Go.Proofs.Tryd.prog [("loop.example/g00886/impl.directions", Go.Proofs.YtfnhclmdobdkbaaDoor.Rows.laid_loop_example_g00886_impl_directions)] ((World.doorLaid Go.Proofs.Tryd.prog 4000 os).forCall (fun _ _ => 0) ⟨#[], args, []⟩).memory :=
  laidMetH_of_parts3 (fuel := 8) (laidMet_of_run' 8 (by kernel_rfl) (by kernel_rfl)) (by kernel_rfl) (by kernel_rfl)
set_option maxRecDepth 100000 in
theorem lifted5 (os : Os) (started : os.Started) (H : Type) (enc : TypeId × Value → H) :
    ReturnsInHanded {} Go.Proofs.Tryd.checked os 5 .any (fun w args => (Go.Proofs.YtfnhclmdobdkbaaDoor.Rows.fnTerrainsSpec.pre enc Go.Proofs.Tryd.prog Go.Proofs.Tryd.f5 [] false w args ∧ laidMetH Go.Proofs.Tryd.prog [("loop.example/g00886/impl.directions", Go.Proofs.YtfnhclmdobdkbaaDoor.Rows.laid_loop_example_g00886_impl_directions)] w) ∧ sizedMet enc Go.Proofs.Tryd.prog Go.Proofs.Tryd.f5 (OpenSpec.ofChange Go.Proofs.YtfnhclmdobdkbaaDoor.Rows.fnTerrainsSpec) false w args) (Go.Proofs.YtfnhclmdobdkbaaDoor.Rows.fnTerrainsSpec.post enc Go.Proofs.Tryd.prog Go.Proofs.Tryd.f5 false true false false) :=
  law_returns_laid (C := Go.Proofs.Tryd.checked) (rt := 4) (gl := X.gl) own_ started (by kernel_rfl) Go.Proofs.Tryd.func5
    (ChangeSpec.witness_shaped (enc := enc) (C := Go.Proofs.Tryd.checked) (os := os) (X := fun w _ => laidMetH Go.Proofs.Tryd.prog [("loop.example/g00886/impl.directions", Go.Proofs.YtfnhclmdobdkbaaDoor.Rows.laid_loop_example_g00886_impl_directions)] w) false (World.doorLaid Go.Proofs.Tryd.prog 4000 os) #[.slice none 0 0, .slice none 0 0] 8 rfl (World.shaped_of_RefB (by kernel_rfl) (by kernel_rfl)) (by kernel_rfl) (by kernel_rfl) (by kernel_rfl) (door_met5 os _))
    (by kernel_rfl) (by kernel_rfl) (by kernel_rfl) (by kernel_rfl) (by kernel_rfl)
    (fun ds gs hd hg => match ds, gs, hd, hg with | [_, _], [_], _, _ => rfl)
    (by kernel_rfl) (by kernel_rfl)
    (.cons (OpnV.slice (e := 5) (wd := 1) (by kernel_rfl) (by kernel_rfl) (by decide) (fun _ => rfl) (Opn.int (k := .u8) (t := 5) (by kernel_rfl))) (.cons (OpnV.slice (e := 5) (wd := 1) (by kernel_rfl) (by kernel_rfl) (by decide) (fun _ => rfl) (Opn.int (k := .u8) (t := 5) (by kernel_rfl))) (.nil)))
    (fun xs hq => by
      obtain ⟨_, _, rfl, ⟨x0, rfl, hg0, hb0⟩, ⟨_, _, rfl, ⟨x1, rfl, hg1, hb1⟩, rfl⟩⟩ := hq
      exact cw_FnTerrains (lawTerrains x0 x1 (Nat.lt_of_le_of_lt hb0 (by decide)) (Nat.lt_of_le_of_lt hb1 (by decide)) (fun x hx => u8_wf (hg0 x hx)) (fun x hx => u8_wf (hg1 x hx))))
theorem fnTerrains_holds : Go.Proofs.YtfnhclmdobdkbaaDoor.Rows.FnTerrainsSaid :=
  OpenClaim.holds_of_wide 5 Go.Proofs.Tryd.f5 rfl rfl rfl rfl rfl rfl rfl ⟨rfl, rfl, rfl, rfl, rfl⟩ rfl rfl rfl rfl rfl (by kernel_rfl) Go.Proofs.Tryd.func5 (by kernel_rfl)
    (of_decide_eq_true (by kernel_rfl)) (by unfold Func.isWrapper; first | (rw [if_pos (by decide +kernel)]; kernel_rfl) | (rw [if_neg (by decide +kernel)]; exact ⟨rfl, rfl⟩))
    (fun os started H enc _ => lifted5 os started H enc)
theorem fnTerrains_card : Go.Proofs.YtfnhclmdobdkbaaDoor.Rows.FnTerrainsCardSaid :=
  Claim7.holds_tied_plain_at .later [] [.data] true (true, "220028303c9aa2bd3065ec88ac6c35e612d17fce8ff4c710c55f810e2e22aa4b") false
    fnTerrains_holds (fun _ h => by cases h) (by kernel_rfl) (fun _ h => by cases h) Go.Proofs.YtfnhclmdobdkbaaDoor.fnTerrains_row_tie rfl ⟨rfl, rfl⟩ (by kernel_rfl) rfl
    (fun f fn hf hfn => by
      obtain rfl : f = 5 := Option.some.inj ((show Go.Proofs.Tryd.prog.funcNamed "loop.example/g00886/laws.FnTerrains" = some 5 by kernel_rfl).symm.trans hf) |>.symm
      obtain rfl : fn = Go.Proofs.Tryd.f5 := (Option.some.inj (Go.Proofs.Tryd.func5.symm.trans hfn)).symm
      exact ⟨by kernel_rfl, fun j t ht => by
        have hp : Go.Proofs.Tryd.f5.params = #[22, 22] := by kernel_rfl
        rw [hp] at ht
        have hm : t ∈ [22, 22] := by simpa using Array.mem_of_getElem? ht
        have hall : ([22, 22].all fun u => !Go.Proofs.Tryd.prog.wantsStandIn u) = true := by kernel_rfl
        exact (show Go.Proofs.Tryd.prog.wantsStandIn t = false by simpa using List.all_eq_true.1 hall t hm)⟩)
    (by kernel_rfl)
end Go.Proofs.YtfnhclmdobdkbaaDoor.Ab

namespace Go.Proofs.YtfnhclmdobdkbaaDoor
theorem fnTerrains_card_proved : Rows.FnTerrainsCardSaid := Ab.fnTerrains_card
end Go.Proofs.YtfnhclmdobdkbaaDoor
