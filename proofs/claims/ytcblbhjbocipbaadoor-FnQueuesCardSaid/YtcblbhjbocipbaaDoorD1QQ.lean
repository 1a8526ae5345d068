/- What the laws of this text say, in the given statements' words; no condition. -/
import Derived.Test.YtcblbhjbocipbaaDoorD1QC1
import Derived.Test.YtcblbhjbocipbaaDoorD1QP
import Derived.Test.YtcblbhjbocipbaaDoorAb5
import Derived.Test.YtcblbhjbocipbaaDoorAb5
import Derived.Test.YtcblbhjbocipbaaDoorTie
import Derived.Test.YtcblbhjbocipbaaDoorCards
import Derived.SevenTiedAt
import Derived.Test.YtcblbhjbocipbaaDoorRows
set_option linter.unusedVariables false
set_option linter.unusedSimpArgs false
open Go Go.Proofs Go.RowKit
namespace Go.Proofs.YtcblbhjbocipbaaDoor.Ab

theorem own_ : ownKnob Go.Proofs.Tryd.prog.godebug = none := by kernel_rfl
set_option maxRecDepth 100000 in
theorem door_met3 (os : Os) (args : Array Value) : laidMetH Go.Proofs.Tryd.prog [("loop.example/g00886/impl.directions", Go.Proofs.YtcblbhjbocipbaaDoor.Rows.laid_loop_example_g00886_impl_directions)] ((World.doorLaid Go.Proofs.Tryd.prog 4000 os).forCall (fun _ _ => 0) ⟨#[], args, []⟩).memory :=
  laidMetH_of_parts3 (fuel := 8) (laidMet_of_run' 8 (by kernel_rfl) (by kernel_rfl)) (by kernel_rfl) (by kernel_rfl)
set_option maxRecDepth 100000 in
theorem lifted3 (os : Os) (started : os.Started) (H : Type) (enc : TypeId × Value → H) :
    ReturnsInHanded {} Go.Proofs.Tryd.checked os 3 .any (fun w args => (Go.Proofs.YtcblbhjbocipbaaDoor.Rows.fnQueuesSpec.pre enc Go.Proofs.Tryd.prog Go.Proofs.Tryd.f3 [] false w args ∧ laidMetH Go.Proofs.Tryd.prog [("loop.example/g00886/impl.directions", Go.Proofs.YtcblbhjbocipbaaDoor.Rows.laid_loop_example_g00886_impl_directions)] w) ∧ sizedMet enc Go.Proofs.Tryd.prog Go.Proofs.Tryd.f3 (OpenSpec.ofChange Go.Proofs.YtcblbhjbocipbaaDoor.Rows.fnQueuesSpec) false w args) (Go.Proofs.YtcblbhjbocipbaaDoor.Rows.fnQueuesSpec.post enc Go.Proofs.Tryd.prog Go.Proofs.Tryd.f3 false true false false) :=
  law_returns_laid (C := Go.Proofs.Tryd.checked) (rt := 4) (gl := X.gl) own_ started (by kernel_rfl) Go.Proofs.Tryd.func3
    (ChangeSpec.witness_shaped (enc := enc) (C := Go.Proofs.Tryd.checked) (os := os) (X := fun w _ => laidMetH Go.Proofs.Tryd.prog [("loop.example/g00886/impl.directions", Go.Proofs.YtcblbhjbocipbaaDoor.Rows.laid_loop_example_g00886_impl_directions)] w) false (World.doorLaid Go.Proofs.Tryd.prog 4000 os) #[.slice none 0 0, .slice none 0 0] 8 rfl (World.shaped_of_RefB (by kernel_rfl) (by kernel_rfl)) (by kernel_rfl) (by kernel_rfl) (by kernel_rfl) (door_met3 os _))
    (by kernel_rfl) (by kernel_rfl) (by kernel_rfl) (by kernel_rfl) (by kernel_rfl)
    (fun ds gs hd hg => match ds, gs, hd, hg with | [_, _], [_], _, _ => rfl)
    (by kernel_rfl) (by kernel_rfl)
    (.cons (OpnV.slice (e := 5) (wd := 1) (by kernel_rfl) (by kernel_rfl) (by decide) (fun _ => rfl) (Opn.int (k := .u8) (t := 5) (by kernel_rfl))) (.cons (OpnV.slice (e := 5) (wd := 1) (by kernel_rfl) (by kernel_rfl) (by decide) (fun _ => rfl) (Opn.int (k := .u8) (t := 5) (by kernel_rfl))) (.nil)))
    (fun xs hq => by
      obtain ⟨_, _, rfl, ⟨x0, rfl, hg0, hb0⟩, ⟨_, _, rfl, ⟨x1, rfl, hg1, hb1⟩, rfl⟩⟩ := hq
      exact cw_FnQueues (lawQueues x0 x1 (Nat.lt_of_le_of_lt hb0 (by decide)) (Nat.lt_of_le_of_lt hb1 (by decide)) (fun x hx => u8_wf (hg0 x hx)) (fun x hx => u8_wf (hg1 x hx))))
theorem fnQueues_holds : Go.Proofs.YtcblbhjbocipbaaDoor.Rows.FnQueuesSaid :=
  OpenClaim.holds_of_wide 3 Go.Proofs.Tryd.f3 rfl rfl rfl rfl rfl rfl rfl ⟨rfl, rfl, rfl, rfl, rfl⟩ rfl rfl rfl rfl rfl (by kernel_rfl) Go.Proofs.Tryd.func3 (by kernel_rfl)
    (of_decide_eq_true (by kernel_rfl)) (by unfold Func.isWrapper; first | (rw [if_pos (by decide +kernel)]; kernel_rfl) | (rw [if_neg (by decide +kernel)]; exact ⟨rfl, rfl⟩))
    (fun os started H enc _ => lifted3 os started H enc)
theorem fnQueues_card : Go.Proofs.YtcblbhjbocipbaaDoor.Rows.FnQueuesCardSaid :=
  Claim7.holds_tied_plain_at .later [] [.data] true (true, "664ad2e5a66384dcfeccbdf839a4e1fcfeb8a68f5cf5839bb0c24d5a82238876") false
    fnQueues_holds (fun _ h => by cases h) (by kernel_rfl) (fun _ h => by cases h) Go.Proofs.YtcblbhjbocipbaaDoor.fnQueues_row_tie rfl ⟨rfl, rfl⟩ (by kernel_rfl) rfl
    (fun f fn hf hfn => by
      obtain rfl : f = 3 := Option.some.inj ((show Go.Proofs.Tryd.prog.funcNamed "loop.example/g00886/laws.FnQueues" = some 3 by kernel_rfl).symm.trans hf) |>.symm
      obtain rfl : fn = Go.Proofs.Tryd.f3 := (Option.some.inj (Go.Proofs.Tryd.func3.symm.trans hfn)).symm
      exact ⟨by kernel_rfl, fun j t ht => by
        have hp : Go.Proofs.Tryd.f3.params = #[22, 22] := by kernel_rfl
        rw [hp] at ht
        have hm : t ∈ [22, 22] := by simpa using Array.mem_of_getElem? ht
        have hall : ([22, 22].all fun u => !Go.Proofs.Tryd.prog.wantsStandIn u) = true := by kernel_rfl
        exact (show Go.Proofs.Tryd.prog.wantsStandIn t = false by simpa using List.all_eq_true.1 hall t hm)⟩)
    (by kernel_rfl)
end Go.Proofs.YtcblbhjbocipbaaDoor.Ab

namespace Go.Proofs.YtcblbhjbocipbaaDoor
theorem fnQueues_card_proved : Rows.FnQueuesCardSaid := Ab.fnQueues_card
end Go.Proofs.YtcblbhjbocipbaaDoor
