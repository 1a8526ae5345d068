/- What the laws of this text say, in the given statements' words; no condition. -/
import Derived.Test.YtakcjcjfcignjaaGreatDoorB5BC1
import Derived.Test.YtakcjcjfcignjaaGreatDoorB5BP1
import Derived.Test.YtakcjcjfcignjaaGreatDoorAb5
import Derived.Test.YtakcjcjfcignjaaGreatDoorAb5
import Derived.Test.YtakcjcjfcignjaaGreatDoorTie
import Derived.Test.YtakcjcjfcignjaaGreatDoorCards
import Derived.SevenTiedAt
import Derived.Test.YtakcjcjfcignjaaGreatDoorRows
set_option linter.unusedVariables false
set_option linter.unusedSimpArgs false
open Go Go.Proofs Go.RowKit
namespace Go.Proofs.YtakcjcjfcignjaaGreatDoor.Ab

theorem own_ : ownKnob Go.Proofs.Tryz.prog.godebug = none := by kernel_rfl
set_option maxRecDepth 100000 in
theorem door_met6 (os : Os) (args : Array Value) : laidMetH Go.Proofs.Tryz.prog [("loop.example/g00886/impl.directions", Go.Proofs.YtakcjcjfcignjaaGreatDoor.Rows.laid_loop_example_g00886_impl_directions)] ((World.doorLaid Go.Proofs.Tryz.prog 4000 os).forCall (fun _ _ => 0) ⟨#[], args, []⟩).memory :=
  laidMetH_of_parts3 (fuel := 8) (laidMet_of_run' 8 (by kernel_rfl) (by kernel_rfl)) (by kernel_rfl) (by kernel_rfl)
set_option maxRecDepth 100000 in
theorem lifted6 (os : Os) (started : os.Started) (H : Type) (enc : TypeId × Value → H) :
    ReturnsInHanded {} Go.Proofs.Tryz.checked os 6 .any (fun w args => (Go.Proofs.YtakcjcjfcignjaaGreatDoor.Rows.fnBattlesSpec.pre enc Go.Proofs.Tryz.prog Go.Proofs.Tryz.f6 [] false w args ∧ laidMetH Go.Proofs.Tryz.prog [("loop.example/g00886/impl.directions", Go.Proofs.YtakcjcjfcignjaaGreatDoor.Rows.laid_loop_example_g00886_impl_directions)] w) ∧ sizedMet enc Go.Proofs.Tryz.prog Go.Proofs.Tryz.f6 (OpenSpec.ofChange Go.Proofs.YtakcjcjfcignjaaGreatDoor.Rows.fnBattlesSpec) false w args) (Go.Proofs.YtakcjcjfcignjaaGreatDoor.Rows.fnBattlesSpec.post enc Go.Proofs.Tryz.prog Go.Proofs.Tryz.f6 false true false false) :=
  law_returns_laid (C := Go.Proofs.Tryz.checked) (rt := 4) (gl := X.gl) own_ started (by kernel_rfl) Go.Proofs.Tryz.func6
    (ChangeSpec.witness_shaped (enc := enc) (C := Go.Proofs.Tryz.checked) (os := os) (X := fun w _ => laidMetH Go.Proofs.Tryz.prog [("loop.example/g00886/impl.directions", Go.Proofs.YtakcjcjfcignjaaGreatDoor.Rows.laid_loop_example_g00886_impl_directions)] w) false (World.doorLaid Go.Proofs.Tryz.prog 4000 os) #[.slice none 0 0, .slice none 0 0] 8 rfl (World.shaped_of_RefB (by kernel_rfl) (by kernel_rfl)) (by kernel_rfl) (by kernel_rfl) (by kernel_rfl) (door_met6 os _))
    (by kernel_rfl) (by kernel_rfl) (by kernel_rfl) (by kernel_rfl) (by kernel_rfl)
    (fun ds gs hd hg => match ds, gs, hd, hg with | [_, _], [_], _, _ => rfl)
    (by kernel_rfl) (by kernel_rfl)
    (.cons (OpnV.slice (e := 5) (wd := 1) (by kernel_rfl) (by kernel_rfl) (by decide) (fun _ => rfl) (Opn.int (k := .u8) (t := 5) (by kernel_rfl))) (.cons (OpnV.slice (e := 5) (wd := 1) (by kernel_rfl) (by kernel_rfl) (by decide) (fun _ => rfl) (Opn.int (k := .u8) (t := 5) (by kernel_rfl))) (.nil)))
    (fun xs hq => by
      obtain ⟨_, _, rfl, ⟨x0, rfl, hg0, hb0⟩, ⟨_, _, rfl, ⟨x1, rfl, hg1, hb1⟩, rfl⟩⟩ := hq
      exact cw_FnBattles (lawBattles x0 x1 (Nat.lt_of_le_of_lt hb0 (by decide)) (Nat.lt_of_le_of_lt hb1 (by decide)) (fun x hx => u8_wf (hg0 x hx)) (fun x hx => u8_wf (hg1 x hx))))
theorem fnBattles_holds : Go.Proofs.YtakcjcjfcignjaaGreatDoor.Rows.FnBattlesSaid :=
  OpenClaim.holds_of_wide 6 Go.Proofs.Tryz.f6 rfl rfl rfl rfl rfl rfl rfl ⟨rfl, rfl, rfl, rfl, rfl⟩ rfl rfl rfl rfl rfl (by kernel_rfl) Go.Proofs.Tryz.func6 (by kernel_rfl)
    (of_decide_eq_true (by kernel_rfl)) (by unfold Func.isWrapper; first | (rw [if_pos (by decide +kernel)]; kernel_rfl) | (rw [if_neg (by decide +kernel)]; exact ⟨rfl, rfl⟩))
    (fun os started H enc _ => lifted6 os started H enc)
theorem fnBattles_card : Go.Proofs.YtakcjcjfcignjaaGreatDoor.Rows.FnBattlesCardSaid :=
  Claim7.holds_tied_plain_at .later [] [.data] true (true, "842f11488c196283ab5110b59c50da4334cf180b824e800046d1a1cf2478710f") false
    fnBattles_holds (fun _ h => by cases h) (by kernel_rfl) (fun _ h => by cases h) Go.Proofs.YtakcjcjfcignjaaGreatDoor.fnBattles_row_tie rfl ⟨rfl, rfl⟩ (by kernel_rfl) rfl
    (fun f fn hf hfn => by
      obtain rfl : f = 6 := Option.some.inj ((show Go.Proofs.Tryz.prog.funcNamed "loop.example/g00886/laws.FnBattles" = some 6 by kernel_rfl).symm.trans hf) |>.symm
      obtain rfl : fn = Go.Proofs.Tryz.f6 := (Option.some.inj (Go.Proofs.Tryz.func6.symm.trans hfn)).symm
      exact ⟨by kernel_rfl, fun j t ht => by
        have hp : Go.Proofs.Tryz.f6.params = #[22, 22] := by kernel_rfl
        rw [hp] at ht
        have hm : t ∈ [22, 22] := by simpa using Array.mem_of_getElem? ht
        have hall : ([22, 22].all fun u => !Go.Proofs.Tryz.prog.wantsStandIn u) = true := by kernel_rfl
        exact (show Go.Proofs.Tryz.prog.wantsStandIn t = false by simpa using List.all_eq_true.1 hall t hm)⟩)
    (by kernel_rfl)
end Go.Proofs.YtakcjcjfcignjaaGreatDoor.Ab

namespace Go.Proofs.YtakcjcjfcignjaaGreatDoor
theorem fnBattles_card_proved : Rows.FnBattlesCardSaid := Ab.fnBattles_card
end Go.Proofs.YtakcjcjfcignjaaGreatDoor
