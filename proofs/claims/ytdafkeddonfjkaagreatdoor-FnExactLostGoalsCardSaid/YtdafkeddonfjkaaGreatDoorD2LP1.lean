/- Part of the proof of FnExactLostGoalsCard: no condition of its own. -/
import Derived.Test.YtdafkeddonfjkaaGreatDoorD2LP
set_option linter.unusedVariables false
set_option linter.unusedSimpArgs false
open Go
namespace Go.Proofs.YtdafkeddonfjkaaGreatDoor.Ab
theorem lost_s {x : Gi_Scenario} (h : ScLen x) (side : Int) : Ds_LostGoals x side = some (lgR x side) := (lost_b h side).2

theorem lawLostGoals (a0 : Gw_Scenario) (a1 : Int) (hwa0 : Wf_Scenario a0) : Dw_FnExactLostGoals a0 a1 = some true := Ok.isTrue <| by
  unfold Dw_FnExactLostGoals
  refine Ok.bind (sz_Scenario hwa0 (left := 1048576) ⟨by omega, by omega⟩) fun r1 zr1 => Ok.ite (fun _ => Ok.ret rfl) fun cr1 => ?_
  replace zr1 := zr1.resolve_left cr1
  have hsa0 := zr1.2
  have hia0 := szi_Scenario hsa0
  refine Ok.eq (to_Scenario hsa0) ?_
  refine Ok.eq (lost_s (si_ScLen hia0) a1) ?_
  refine Ok.eq (to_Scenario hsa0) ?_
  refine Ok.eq (lost_i (si_ScLen hia0) a1) ?_
  refine Ok.eq (eq_IntS (lgR_len _ a1)) ?_
  refine Ok.chk rfl ?_
  refine Ok.els (by simp) ?_
  refine Ok.eq (to_Scenario hsa0) ?_
  refine Ok.eq (eq_Scenario hia0) ?_
  refine Ok.chk rfl ?_
  refine Ok.bind (mark_Scenario hia0 (k := 1) ⟨by omega, by omega⟩) fun r13 hr13 => ?_
  have br13 := hr13.1
  refine Ok.chk hr13.2.1 ?_
  refine Ok.chk hr13.2.2.1 ?_
  refine Ok.chk hr13.2.2.2.1 ?_
  refine Ok.chk hr13.2.2.2.2.1 ?_
  refine Ok.chk hr13.2.2.2.2.2.1 ?_
  refine Ok.chk hr13.2.2.2.2.2.2.1 ?_
  refine Ok.chk hr13.2.2.2.2.2.2.2.1 ?_
  refine Ok.chk hr13.2.2.2.2.2.2.2.2.1 ?_
  refine Ok.chk hr13.2.2.2.2.2.2.2.2.2.1 ?_
  refine Ok.chk hr13.2.2.2.2.2.2.2.2.2.2.1 ?_
  refine Ok.chk hr13.2.2.2.2.2.2.2.2.2.2.2 ?_
  refine Ok.els (by have := br13; omega) ?_
  refine Ok.eq (eq_IntS (lgR_len _ a1)) ?_
  refine Ok.chk rfl ?_
  refine Ok.els (by simp) ?_
  refine Ok.bind (markh_IntS (lgR_len _ a1) (k := 1) ⟨by omega, by omega⟩) fun r29 hr29 => ?_
  have br29 := hr29.1
  refine Ok.chk hr29.2.1 ?_
  refine Ok.eq hr29.2.2 ?_
  refine Ok.els (by have := br29; omega) ?_
  refine Ok.chk rfl ?_
  refine Ok.eq (to_Scenario hsa0) ?_
  refine Ok.eq (lost_i (si_ScLen hia0) a1) ?_
  refine Ok.eq (eq_IntS (lgR_len _ a1)) ?_
  refine Ok.chk rfl ?_
  refine Ok.els (by simp) ?_
  refine Ok.eq hr29.2.2 ?_
  refine Ok.els (by have := br29; omega) ?_
  exact Ok.chk rfl (Ok.ret rfl)

end Go.Proofs.YtdafkeddonfjkaaGreatDoor.Ab
