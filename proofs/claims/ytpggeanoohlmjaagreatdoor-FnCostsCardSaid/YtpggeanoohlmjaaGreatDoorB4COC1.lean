/- Part of the proof of FnCostsCard: no condition of its own. -/
import Derived.Test.YtpggeanoohlmjaaGreatDoorB4COC
set_option linter.unusedVariables false
set_option linter.unusedSimpArgs false
open Go Go.Proofs Go.Proofs.Tryz
namespace Go.Proofs.YtpggeanoohlmjaaGreatDoor.Ab
/-! loop example/g00886/spec bCost -/
theorem cs_bCost {a0 : Gi_Board} {a1 : Int} {a2 : Int} {r : Int} (H : Ds_bCost a0 a1 a2 = some r) : Ct X.P X.gl 171 [.agg [sl 5 gi_Terrain a0.Rules.Terrains, sl 6 gi_Kind a0.Rules.Kinds, I a0.Rules.Stack, I a0.Rules.River, I a0.Rules.Road, I a0.Rules.Supply, I a0.Rules.Turns, I a0.Map.Width, I a0.Map.Height, sl 1 I a0.Map.Terrain, sl 1 I a0.Map.Rivers, sl 1 I a0.Map.Roads], I a1, I a2] [] (RI r) [] :=
  Ct.of func171 (c := bdy f171) (by kernel_rfl) (by kernel_rfl) <|
  eBind H fun r1 hr1 H =>
  eCk H fun h2 H =>
  eBind H fun x3 hx3 H =>
  eW RI (fun _ => []) H <| gE func171 [r0, rg [hC 2 true [] (Rs_bTerrain r1) [], hE 6 (I x3)]] (by kernel_rfl) (P1 (cs_bTerrain hr1) <| P1 h2 <| P1 (int_lt_of_at h2 hx3) <| P1 (at_map I hx3) <| P0)
/-! loop example/g00886/spec l1Has -/
noncomputable def Ks_l1Has : Ss_l1Has → List Item
  | .h1 .. => nav 300 2 [] [.code (bdy f193)]
def Zs_l1Has : Ss_l1Has → St
  | .h1 n0 t1 t2 t3 => ⟨sts 17 [(1, I n0), (7, sl 1 I t1), (8, I t2), (9, I t3)], []⟩
abbrev Qs_l1Has := Nx X 193 0 Ks_l1Has Zs_l1Has RB (fun _ => [])
theorem ns_l1Has : ∀ s o, Bs_l1Has s = some o → Qs_l1Has (Ks_l1Has s) (Zs_l1Has s) o
  | .h1 n0 t1 t2 t3, o, H =>
    eIf H (fun h1 H =>
      eCk H fun h2 H =>
      eBind H fun x3 hx3 H =>
      gN [rg [hT 0], rg [hE 1 (I x3)]] (by kernel_rfl) (P2 ((decide (t3 < t2)) = true) (decide_eq_true h1) <| P1 h2 <| P1 (int_lt_of_at h2 hx3) <| P1 (at_map I hx3) <| P0) <|
      eIf H (fun h4 H =>
        eN H <| gE func193 [rg [hT 2], r0] (by kernel_rfl) (P2 (((x3 : Int) == n0) = true) (beqT h4) <| P0))
      (fun h4 H =>
        eN H fun r hn => gO [rg [hF 2], r0, .canon [] [1, 7, 8, 9]] (by kernel_rfl) (P2 (((x3 : Int) == n0) = false) (beqF h4) <| P0) hn))
    (fun h1 H =>
      eN H <| gE func193 [rg [hF 0], r0] (by kernel_rfl) (P2 ((decide (t3 < t2)) = false) (decide_eq_false h1) <| P0))
theorem ws_l1Has : ∀ s r, loop Bs_l1Has s = some r → Wc X 193 0 (Ks_l1Has s) (Zs_l1Has s) (RB r) ((fun _ => []) r) := Nx.all ns_l1Has
theorem cs_l1Has {a0 : (List Int)} {a1 : Int} {r : Bool} (H : Ds_l1Has a0 a1 = some r) : Ct X.P X.gl 193 [sl 1 I a0, I a1] [] (RB r) [] :=
  Ct.of func193 (c := bdy f193) (by kernel_rfl) (by kernel_rfl) <|
  gO [r0, r0, .canon [] [1, 7, 8, 9]] (by kernel_rfl) P0 (ws_l1Has _ _ H)
/-! loop example/g00886/spec mRoad -/
theorem cs_mRoad {a0 : Gi_Map} {a1 : Int} {a2 : Int} {r : Bool} (H : Ds_mRoad a0 a1 a2 = some r) : Ct X.P X.gl 172 [.agg [I a0.Width, I a0.Height, sl 1 I a0.Terrain, sl 1 I a0.Rivers, sl 1 I a0.Roads], I a1, I a2] [] (RB r) [] :=
  Ct.of func172 (c := bdy f172) (by kernel_rfl) (by kernel_rfl) <|
  eBind H fun r1 hr1 H =>
  eBind H fun r2 hr2 H =>
  eW RB (fun _ => []) H <| gE func172 [r0, rg [hC 5 true [] (RI r1) [], hC 6 true [] (RB r2) []]] (by kernel_rfl) (P1 (cs_mEdge hr1) <| P1 (cs_l1Has hr2) <| P0)
/-! loop example/g00886/spec csWeather -/
theorem cs_csWeather {a0 : Int} {a1 : Bool} {r : Int} (H : Ds_csWeather a0 a1 = some r) : Ct X.P X.gl 173 [I a0, .bool a1] [] (RI r) [] := by
  cases a1 with
  | false =>
    exact Ct.of func173 (c := bdy f173) (by kernel_rfl) (by kernel_rfl) <|
      eW RI (fun _ => []) H <| gE func173 [r0, r0, r0] (by kernel_rfl) P0
  | true =>
    exact Ct.of func173 (c := bdy f173) (by kernel_rfl) (by kernel_rfl) <|
      eW RI (fun _ => []) H <| gE func173 [r0, r0, r0] (by kernel_rfl) (P2 (¬ (2 : Int) = 0) (by decide) <| P0)
/-! loop example/g00886/spec mRiver -/
theorem cs_mRiver {a0 : Gi_Map} {a1 : Int} {a2 : Int} {r : Bool} (H : Ds_mRiver a0 a1 a2 = some r) : Ct X.P X.gl 174 [.agg [I a0.Width, I a0.Height, sl 1 I a0.Terrain, sl 1 I a0.Rivers, sl 1 I a0.Roads], I a1, I a2] [] (RB r) [] :=
  Ct.of func174 (c := bdy f174) (by kernel_rfl) (by kernel_rfl) <|
  eBind H fun r1 hr1 H =>
  eBind H fun r2 hr2 H =>
  eW RB (fun _ => []) H <| gE func174 [r0, rg [hC 5 true [] (RI r1) [], hC 6 true [] (RB r2) []]] (by kernel_rfl) (P1 (cs_mEdge hr1) <| P1 (cs_l1Has hr2) <| P0)
/-! loop example/g00886/spec cStep -/
theorem cs_cStep {a0 : Gi_Board} {a1 : Int} {a2 : Int} {a3 : Int} {a4 : Int} {r : Int} (H : Ds_cStep a0 a1 a2 a3 a4 = some r) : Ct X.P X.gl 137 [.agg [sl 5 gi_Terrain a0.Rules.Terrains, sl 6 gi_Kind a0.Rules.Kinds, I a0.Rules.Stack, I a0.Rules.River, I a0.Rules.Road, I a0.Rules.Supply, I a0.Rules.Turns, I a0.Map.Width, I a0.Map.Height, sl 1 I a0.Map.Terrain, sl 1 I a0.Map.Rivers, sl 1 I a0.Map.Roads], I a1, I a2, I a3, I a4] [] (RI r) [] :=
  Ct.of func137 (c := bdy f137) (by kernel_rfl) (by kernel_rfl) <|
  eBind H fun r1 hr1 H =>
  gS [r0, rg [hC 4 true [] (RI r1) []]] (by kernel_rfl) (P1 (cs_mNext hr1) <| P0) <|
  eIf H (fun h2 H =>
    eW RI (fun _ => []) H <| gE func137 [rg [hT 1], r0] (by kernel_rfl) (P2 ((decide (r1 < 0)) = true) (decide_eq_true h2) <| P0))
  (fun h2 H =>
    eBind H fun r3 hr3 H =>
    eIf H (fun h4 H =>
      eW RI (fun _ => []) H <| gE func137 [rg [hF 1, hC 6 true [] (RI r3) [], hT 7], r0] (by kernel_rfl) (P2 ((decide (r1 < 0)) = false) (decide_eq_false h2) <| P1 (cs_bCost hr3) <| P2 (((r3 : Int) == 0) = true) (beqT h4) <| P0))
    (fun h4 H =>
      eBind H fun r5 hr5 H =>
      gS [rg [hF 1, hC 6 true [] (RI r3) [], hF 7]] (by kernel_rfl) (P2 ((decide (r1 < 0)) = false) (decide_eq_false h2) <| P1 (cs_bCost hr3) <| P2 (((r3 : Int) == 0) = false) (beqF h4) <| P0) <|
      eIf H (fun h6 H =>
        eBind H fun r7 hr7 H =>
        eW RI (fun _ => []) H <| gE func137 [rg [{ i := 4, call := some { cl := true, auto := true, ins := [], res := (RB r5), G' := [] }, dec := some true }], rg [hC 4 true [] (RI r7) []]] (by kernel_rfl) (P1 (cs_mRoad hr5) <| P2 (r5 = true) (h6) <| P1 (cs_csWeather hr7) <| P0))
      (fun h6 H =>
        eBind H fun r7 hr7 H =>
        eBind H fun r8 hr8 H =>
        eBind H fun r9 hr9 H =>
        gS [rg [{ i := 4, call := some { cl := true, auto := true, ins := [], res := (RB r5), G' := [] }, dec := some false }], rg [hC 3 true [] (RI r7) [], hC 5 true [] (RI r8) []]] (by kernel_rfl) (P1 (cs_mRoad hr5) <| P2 (r5 = false) (eqF h6) <| P1 (cs_bCost hr7) <| P1 (cs_csWeather hr8) <| P0) <|
        eIf H (fun h10 H =>
          eW RI (fun _ => []) H <| gE func137 [rg [{ i := 4, call := some { cl := true, auto := true, ins := [], res := (RB r9), G' := [] }, dec := some true }], r0, r0] (by kernel_rfl) (P1 (cs_mRiver hr9) <| P2 (r9 = true) (h10) <| P0))
        (fun h10 H =>
          eW RI (fun _ => []) H <| gE func137 [rg [{ i := 4, call := some { cl := true, auto := true, ins := [], res := (RB r9), G' := [] }, dec := some false }], r0] (by kernel_rfl) (P1 (cs_mRiver hr9) <| P2 (r9 = false) (eqF h10) <| P0)))))
/-! loop example/g00886/spec csCost -/
noncomputable def Ks_csCost : Ss_csCost → List Item
  | .h1 .. => nav 300 3 [] [.code (bdy f69)]
def Zs_csCost : Ss_csCost → St
  | .h1 kind0 weather1 i2 sum3 t4 t5 t6 b7 => ⟨sts 39 [(1, I kind0), (2, I weather1), (3, I i2), (5, .ptr 0 12 0 0), (11, I sum3), (15, sl 1 I t4), (16, I t5), (17, I t6)], [some ⟨false, true, 12, 1, [.agg [sl 5 gi_Terrain b7.Rules.Terrains, sl 6 gi_Kind b7.Rules.Kinds, I b7.Rules.Stack, I b7.Rules.River, I b7.Rules.Road, I b7.Rules.Supply, I b7.Rules.Turns, I b7.Map.Width, I b7.Map.Height, sl 1 I b7.Map.Terrain, sl 1 I b7.Map.Rivers, sl 1 I b7.Map.Roads]]⟩]⟩
abbrev Qs_csCost := Nx X 69 0 Ks_csCost Zs_csCost RI (fun _ => [])
theorem ns_csCost : ∀ s o, Bs_csCost s = some o → Qs_csCost (Ks_csCost s) (Zs_csCost s) o
  | .h1 kind0 weather1 i2 sum3 t4 t5 t6 b7, o, H =>
    eIf H (fun h1 H =>
      eCk H fun h2 H =>
      eBind H fun x3 hx3 H =>
      eBind H fun r4 hr4 H =>
      gN [rg [hT 0], rg [hE 1 (I x3)], rg [hC 5 true [] (RI r4) []]] (by kernel_rfl) (P2 ((decide (t6 < t5)) = true) (decide_eq_true h1) <| P1 h2 <| P1 (int_lt_of_at h2 hx3) <| P1 (at_map I hx3) <| P1 (cs_cStep hr4) <| P0) <|
      eIf H (fun h5 H =>
        eN H <| gE func69 [rg [hT 1], r0] (by kernel_rfl) (P2 (((r4 : Int) == 0) = true) (beqT h5) <| P0))
      (fun h5 H =>
        eBind H fun r6 hr6 H =>
        eN H fun r hn => gO [rg [hF 1], r0, rg [hC 4 true [] (RI r6) []], r0, .canon [0] [1, 2, 3, 5, 11, 15, 16, 17]] (by kernel_rfl) (P2 (((r4 : Int) == 0) = false) (beqF h5) <| P1 (cs_mNext hr6) <| P0) hn))
    (fun h1 H =>
      eN H <| gE func69 [rg [hF 0], r0] (by kernel_rfl) (P2 ((decide (t6 < t5)) = false) (decide_eq_false h1) <| P0))
theorem ws_csCost : ∀ s r, loop Bs_csCost s = some r → Wc X 69 0 (Ks_csCost s) (Zs_csCost s) (RI r) ((fun _ => []) r) := Nx.all ns_csCost
theorem cs_csCost {a0 : Gi_Board} {a1 : Int} {a2 : Int} {a3 : Int} {a4 : (List Int)} {r : Int} (H : Ds_csCost a0 a1 a2 a3 a4 = some r) : Ct X.P X.gl 69 [.agg [sl 5 gi_Terrain a0.Rules.Terrains, sl 6 gi_Kind a0.Rules.Kinds, I a0.Rules.Stack, I a0.Rules.River, I a0.Rules.Road, I a0.Rules.Supply, I a0.Rules.Turns, I a0.Map.Width, I a0.Map.Height, sl 1 I a0.Map.Terrain, sl 1 I a0.Map.Rivers, sl 1 I a0.Map.Roads], I a1, I a2, I a3, sl 1 I a4] [] (RI r) [] :=
  Ct.of func69 (c := bdy f69) (by kernel_rfl) (by kernel_rfl) <|
  gO [r0, r0, r0, .canon [0] [1, 2, 3, 5, 11, 15, 16, 17]] (by kernel_rfl) P0 (ws_csCost _ _ H)
/-! loop example/g00886/spec PathCost -/
def Rs_PathCost (r : Int × Bool) : List D := [I r.1, .bool r.2]
theorem cs_PathCost {a0 : Gi_Board} {a1 : Int} {a2 : Int} {a3 : Int} {a4 : (List Int)} {r : Int × Bool} (H : Ds_PathCost a0 a1 a2 a3 a4 = some r) : Ct X.P X.gl 9 [.agg [sl 5 gi_Terrain a0.Rules.Terrains, sl 6 gi_Kind a0.Rules.Kinds, I a0.Rules.Stack, I a0.Rules.River, I a0.Rules.Road, I a0.Rules.Supply, I a0.Rules.Turns, I a0.Map.Width, I a0.Map.Height, sl 1 I a0.Map.Terrain, sl 1 I a0.Map.Rivers, sl 1 I a0.Map.Roads], I a1, I a2, I a3, sl 1 I a4] [] (Rs_PathCost r) [] :=
  Ct.of func9 (c := bdy f9) (by kernel_rfl) (by kernel_rfl) <|
  eBind H fun r1 hr1 H =>
  gS [r0] (by kernel_rfl) P0 <|
  eIf H (fun h2 H =>
    eBind H fun r3 hr3 H =>
    eIf H (fun h4 H =>
      eBind H fun r5 hr5 H =>
      gS [rg [{ i := 4, call := some { cl := true, auto := true, ins := [], res := (RB r1), G' := [] }, dec := some true }, { i := 8, call := some { cl := true, auto := true, ins := [], res := (RB r3), G' := [] }, dec := some true }], rg [hC 5 true [] (RI r5) []]] (by kernel_rfl) (P1 (cs_csInput hr1) <| P2 (r1 = true) (h2) <| P1 (cs_csPath hr3) <| P2 (r3 = true) (h4) <| P1 (cs_csCost hr5) <| P0) <|
      eIf H (fun h6 H =>
        eW Rs_PathCost (fun _ => []) H <| gE func9 [rg [hT 1], r0] (by kernel_rfl) (P2 ((decide (r5 < 0)) = true) (decide_eq_true h6) <| P0))
      (fun h6 H =>
        eW Rs_PathCost (fun _ => []) H <| gE func9 [rg [hF 1], r0] (by kernel_rfl) (P2 ((decide (r5 < 0)) = false) (decide_eq_false h6) <| P0)))
    (fun h4 H =>
      eW Rs_PathCost (fun _ => []) H <| gE func9 [rg [{ i := 4, call := some { cl := true, auto := true, ins := [], res := (RB r1), G' := [] }, dec := some true }, { i := 8, call := some { cl := true, auto := true, ins := [], res := (RB r3), G' := [] }, dec := some false }], r0] (by kernel_rfl) (P1 (cs_csInput hr1) <| P2 (r1 = true) (h2) <| P1 (cs_csPath hr3) <| P2 (r3 = false) (eqF h4) <| P0)))
  (fun h2 H =>
    eW Rs_PathCost (fun _ => []) H <| gE func9 [rg [{ i := 4, call := some { cl := true, auto := true, ins := [], res := (RB r1), G' := [] }, dec := some false }], r0] (by kernel_rfl) (P1 (cs_csInput hr1) <| P2 (r1 = false) (eqF h2) <| P0))
/-! loop example/g00886/spec DrawStepsWithin -/
def Rs_DrawStepsWithin (r : Gi_Board × Int × Int × Int × (List Int) × Int) : List D := [.agg [sl 5 gi_Terrain r.1.Rules.Terrains, sl 6 gi_Kind r.1.Rules.Kinds, I r.1.Rules.Stack, I r.1.Rules.River, I r.1.Rules.Road, I r.1.Rules.Supply, I r.1.Rules.Turns, I r.1.Map.Width, I r.1.Map.Height, sl 1 I r.1.Map.Terrain, sl 1 I r.1.Map.Rivers, sl 1 I r.1.Map.Roads], I r.2.1, I r.2.2.1, I r.2.2.2.1, ow 1 I r.2.2.2.2.1, I r.2.2.2.2.2]
theorem cs_DrawStepsWithin {a0 : (List Int)} {r : Gi_Board × Int × Int × Int × (List Int) × Int} (H : Ds_DrawStepsWithin a0 = some r) : Ct X.P X.gl 10 [sl 1 (D.int .u8) a0] [] (Rs_DrawStepsWithin r) [] :=
  Ct.of func10 (c := bdy f10) (by kernel_rfl) (by kernel_rfl) <|
  eBind H fun r1 hr1 H =>
  eBind H fun r2 hr2 H =>
  eW Rs_DrawStepsWithin (fun _ => []) H <| gE func10 [r0, r0, rg [hC 1 true [] (Rs_DrawPathCost r1) []], rg [{ i := 7, frz := [19], call := some { cl := true, auto := true, ins := [1], res := (Rs_l1Cur_among r2), G' := (Ns_l1Cur_among r2) } }]] (by kernel_rfl) (P1 (cs_DrawPathCost hr1) <| PI (1 : Nat) <| P1 (cs_l1Cur_among hr2) <| P0)
/-! loop example/g00886/impl StepsWithin -/
def Ri_StepsWithin (r : Int × Bool) : List D := [I r.1, .bool r.2]
noncomputable def Ki_StepsWithin : Si_StepsWithin → List Item
  | .h1 .. => nav 300 4 [false] [.code (bdy f11)]
def Zi_StepsWithin : Si_StepsWithin → St
  | .h1 moves0 many1 t2 t3 l4 => ⟨sts 53 [(5, I moves0), (14, I many1), (38, .ref 0 1 none), (39, I t2), (40, I t3)], [some ⟨false, false, 1, l4.length, List.map I l4⟩]⟩
abbrev Qi_StepsWithin := Nx X 11 0 Ki_StepsWithin Zi_StepsWithin Ri_StepsWithin (fun _ => [])
theorem ni_StepsWithin : ∀ s o, Bi_StepsWithin s = some o → Qi_StepsWithin (Ki_StepsWithin s) (Zi_StepsWithin s) o
  | .h1 moves0 many1 t2 t3 l4, o, H =>
    eIf H (fun h1 H =>
      eCk H fun h2 H =>
      eBind H fun x3 hx3 H =>
      gN [rg [hT 0], rg [hE 1 (I x3)], r0] (by kernel_rfl) (P2 ((decide (t3 < t2)) = true) (decide_eq_true h1) <| P1 h2 <| P1 (int_lt_of_at h2 hx3) <| P1 (at_map I hx3) <| P0) <|
      eIf H (fun h4 H =>
        eN H <| gE func11 [rg [hT 1], r0] (by kernel_rfl) (P2 ((decide ((IntKind.wrap .i64 (moves0 - x3)) < 0)) = true) (decide_eq_true h4) <| P0))
      (fun h4 H =>
        eN H fun r hn => gO [rg [hF 1], r0, r0, .canon [0] [5, 14, 38, 39, 40]] (by kernel_rfl) (P2 ((decide ((IntKind.wrap .i64 (moves0 - x3)) < 0)) = false) (decide_eq_false h4) <| P0) hn))
    (fun h1 H =>
      eN H <| gE func11 [rg [hF 0], r0] (by kernel_rfl) (P2 ((decide (t3 < t2)) = false) (decide_eq_false h1) <| P0))
theorem wi_StepsWithin : ∀ s r, loop Bi_StepsWithin s = some r → Wc X 11 0 (Ki_StepsWithin s) (Zi_StepsWithin s) (Ri_StepsWithin r) ((fun _ => []) r) := Nx.all ni_StepsWithin
theorem ci_StepsWithin {a0 : Gi_Board} {a1 : Int} {a2 : Int} {a3 : Int} {a4 : (List Int)} {a5 : Int} {r : Int × Bool} (H : Di_StepsWithin a0 a1 a2 a3 a4 a5 = some r) : Ct X.P X.gl 11 [.agg [sl 5 gi_Terrain a0.Rules.Terrains, sl 6 gi_Kind a0.Rules.Kinds, I a0.Rules.Stack, I a0.Rules.River, I a0.Rules.Road, I a0.Rules.Supply, I a0.Rules.Turns, I a0.Map.Width, I a0.Map.Height, sl 1 I a0.Map.Terrain, sl 1 I a0.Map.Rivers, sl 1 I a0.Map.Roads], I a1, I a2, I a3, sl 1 I a4, I a5] [] (Ri_StepsWithin r) [] :=
  Ct.of func11 (c := bdy f11) (by kernel_rfl) (by kernel_rfl) <|
  eBind H fun r1 hr1 H =>
  gS [r0] (by kernel_rfl) P0 <|
  eIf H (fun h2 H =>
    eBind H fun r3 hr3 H =>
    eIf H (fun h4 H =>
      eBind H fun r5 hr5 H =>
      eIf H (fun h6 H =>
        eBind H fun r7 hr7 H =>
        gO [rg [{ i := 4, call := some { cl := true, auto := true, ins := [], res := (RB r1), G' := [] }, dec := some true }, { i := 8, call := some { cl := true, auto := true, ins := [], res := (RB r3), G' := [] }, dec := some true }, { i := 13, call := some { cl := true, auto := true, ins := [], res := (RB r5), G' := [] }, dec := some true }], r0, rg [hC 5 true [] (Ri_costsAlong r7) []], .canon [1] [5, 14, 38, 39, 40]] (by kernel_rfl) (P1 (ci_isMover hr1) <| P2 (r1 = true) (h2) <| P1 (ci_isPath hr3) <| P2 (r3 = true) (h4) <| P1 (ci_inRange hr5) <| P2 (r5 = true) (h6) <| P1 (ci_costsAlong hr7) <| P0) (wi_StepsWithin _ _ H))
      (fun h6 H =>
        eW Ri_StepsWithin (fun _ => []) H <| gE func11 [rg [{ i := 4, call := some { cl := true, auto := true, ins := [], res := (RB r1), G' := [] }, dec := some true }, { i := 8, call := some { cl := true, auto := true, ins := [], res := (RB r3), G' := [] }, dec := some true }, { i := 13, call := some { cl := true, auto := true, ins := [], res := (RB r5), G' := [] }, dec := some false }], r0] (by kernel_rfl) (P1 (ci_isMover hr1) <| P2 (r1 = true) (h2) <| P1 (ci_isPath hr3) <| P2 (r3 = true) (h4) <| P1 (ci_inRange hr5) <| P2 (r5 = false) (eqF h6) <| P0)))
    (fun h4 H =>
      eW Ri_StepsWithin (fun _ => []) H <| gE func11 [rg [{ i := 4, call := some { cl := true, auto := true, ins := [], res := (RB r1), G' := [] }, dec := some true }, { i := 8, call := some { cl := true, auto := true, ins := [], res := (RB r3), G' := [] }, dec := some false }], r0] (by kernel_rfl) (P1 (ci_isMover hr1) <| P2 (r1 = true) (h2) <| P1 (ci_isPath hr3) <| P2 (r3 = false) (eqF h4) <| P0)))
  (fun h2 H =>
    eW Ri_StepsWithin (fun _ => []) H <| gE func11 [rg [{ i := 4, call := some { cl := true, auto := true, ins := [], res := (RB r1), G' := [] }, dec := some false }], r0] (by kernel_rfl) (P1 (ci_isMover hr1) <| P2 (r1 = false) (eqF h2) <| P0))
/-! loop example/g00886/spec csWithin -/
noncomputable def Ks_csWithin : Ss_csWithin → List Item
  | .h1 .. => nav 300 2 [] [.code (bdy f73)]
def Zs_csWithin : Ss_csWithin → St
  | .h1 kind0 weather1 i2 path3 moves4 t5 t6 t7 b8 => ⟨sts 48 [(1, I kind0), (2, I weather1), (3, I i2), (4, sl 1 I path3), (5, I moves4), (6, .ptr 0 12 0 0), (16, sl 1 I t5), (17, I t6), (18, I t7)], [some ⟨false, true, 12, 1, [.agg [sl 5 gi_Terrain b8.Rules.Terrains, sl 6 gi_Kind b8.Rules.Kinds, I b8.Rules.Stack, I b8.Rules.River, I b8.Rules.Road, I b8.Rules.Supply, I b8.Rules.Turns, I b8.Map.Width, I b8.Map.Height, sl 1 I b8.Map.Terrain, sl 1 I b8.Map.Rivers, sl 1 I b8.Map.Roads]]⟩]⟩
abbrev Qs_csWithin := Nx X 73 0 Ks_csWithin Zs_csWithin RI (fun _ => [])
theorem ns_csWithin : ∀ s o, Bs_csWithin s = some o → Qs_csWithin (Ks_csWithin s) (Zs_csWithin s) o
  | .h1 kind0 weather1 i2 path3 moves4 t5 t6 t7 b8, o, H =>
    eIf H (fun h1 H =>
      eCk H fun h2 H =>
      eBind H fun x3 hx3 H =>
      eBind H fun r4 hr4 H =>
      gN [rg [hT 0], rg [hE 2 (I x3)], rg [hC 5 true [] (RI r4) []]] (by kernel_rfl) (P2 ((decide (t7 < t6)) = true) (decide_eq_true h1) <| P1 h2 <| P1 (int_lt_of_at h2 hx3) <| P1 (at_map I hx3) <| P1 (cs_cStep hr4) <| P0) <|
      eIf H (fun h5 H =>
        eN H <| gE func73 [rg [hT 1], r0] (by kernel_rfl) (P2 (((r4 : Int) == 0) = true) (beqT h5) <| P0))
      (fun h5 H =>
        eIf H (fun h6 H =>
          eN H <| gE func73 [rg [hF 1, hT 5], r0] (by kernel_rfl) (P2 (((r4 : Int) == 0) = false) (beqF h5) <| P2 ((decide (r4 > moves4)) = true) (decide_eq_true h6) <| P0))
        (fun h6 H =>
          eBind H fun r7 hr7 H =>
          eN H fun r hn => gO [rg [hF 1, hF 5], r0, rg [hC 4 true [] (RI r7) []], r0, .canon [0] [1, 2, 3, 4, 5, 6, 16, 17, 18]] (by kernel_rfl) (P2 (((r4 : Int) == 0) = false) (beqF h5) <| P2 ((decide (r4 > moves4)) = false) (decide_eq_false h6) <| P1 (cs_mNext hr7) <| P0) hn)))
    (fun h1 H =>
      eN H <| gE func73 [rg [hF 0], r0] (by kernel_rfl) (P2 ((decide (t7 < t6)) = false) (decide_eq_false h1) <| P0))
theorem ws_csWithin : ∀ s r, loop Bs_csWithin s = some r → Wc X 73 0 (Ks_csWithin s) (Zs_csWithin s) (RI r) ((fun _ => []) r) := Nx.all ns_csWithin
theorem cs_csWithin {a0 : Gi_Board} {a1 : Int} {a2 : Int} {a3 : Int} {a4 : (List Int)} {a5 : Int} {r : Int} (H : Ds_csWithin a0 a1 a2 a3 a4 a5 = some r) : Ct X.P X.gl 73 [.agg [sl 5 gi_Terrain a0.Rules.Terrains, sl 6 gi_Kind a0.Rules.Kinds, I a0.Rules.Stack, I a0.Rules.River, I a0.Rules.Road, I a0.Rules.Supply, I a0.Rules.Turns, I a0.Map.Width, I a0.Map.Height, sl 1 I a0.Map.Terrain, sl 1 I a0.Map.Rivers, sl 1 I a0.Map.Roads], I a1, I a2, I a3, sl 1 I a4, I a5] [] (RI r) [] :=
  Ct.of func73 (c := bdy f73) (by kernel_rfl) (by kernel_rfl) <|
  gO [r0, r0, .canon [0] [1, 2, 3, 4, 5, 6, 16, 17, 18]] (by kernel_rfl) P0 (ws_csWithin _ _ H)
/-! loop example/g00886/spec StepsWithin -/
def Rs_StepsWithin (r : Int × Bool) : List D := [I r.1, .bool r.2]
theorem cs_StepsWithin {a0 : Gi_Board} {a1 : Int} {a2 : Int} {a3 : Int} {a4 : (List Int)} {a5 : Int} {r : Int × Bool} (H : Ds_StepsWithin a0 a1 a2 a3 a4 a5 = some r) : Ct X.P X.gl 12 [.agg [sl 5 gi_Terrain a0.Rules.Terrains, sl 6 gi_Kind a0.Rules.Kinds, I a0.Rules.Stack, I a0.Rules.River, I a0.Rules.Road, I a0.Rules.Supply, I a0.Rules.Turns, I a0.Map.Width, I a0.Map.Height, sl 1 I a0.Map.Terrain, sl 1 I a0.Map.Rivers, sl 1 I a0.Map.Roads], I a1, I a2, I a3, sl 1 I a4, I a5] [] (Rs_StepsWithin r) [] :=
  Ct.of func12 (c := bdy f12) (by kernel_rfl) (by kernel_rfl) <|
  eBind H fun r1 hr1 H =>
  gS [r0] (by kernel_rfl) P0 <|
  eIf H (fun h2 H =>
    eBind H fun r3 hr3 H =>
    eIf H (fun h4 H =>
      eBind H fun r5 hr5 H =>
      eIf H (fun h6 H =>
        eBind H fun r7 hr7 H =>
        eW Rs_StepsWithin (fun _ => []) H <| gE func12 [rg [{ i := 4, call := some { cl := true, auto := true, ins := [], res := (RB r1), G' := [] }, dec := some true }, { i := 8, call := some { cl := true, auto := true, ins := [], res := (RB r3), G' := [] }, dec := some true }, { i := 13, call := some { cl := true, auto := true, ins := [], res := (RB r5), G' := [] }, dec := some true }], rg [hC 6 true [] (RI r7) []]] (by kernel_rfl) (P1 (cs_csInput hr1) <| P2 (r1 = true) (h2) <| P1 (cs_csPath hr3) <| P2 (r3 = true) (h4) <| P1 (cs_l1In hr5) <| P2 (r5 = true) (h6) <| P1 (cs_csWithin hr7) <| P0))
      (fun h6 H =>
        eW Rs_StepsWithin (fun _ => []) H <| gE func12 [rg [{ i := 4, call := some { cl := true, auto := true, ins := [], res := (RB r1), G' := [] }, dec := some true }, { i := 8, call := some { cl := true, auto := true, ins := [], res := (RB r3), G' := [] }, dec := some true }, { i := 13, call := some { cl := true, auto := true, ins := [], res := (RB r5), G' := [] }, dec := some false }], r0] (by kernel_rfl) (P1 (cs_csInput hr1) <| P2 (r1 = true) (h2) <| P1 (cs_csPath hr3) <| P2 (r3 = true) (h4) <| P1 (cs_l1In hr5) <| P2 (r5 = false) (eqF h6) <| P0)))
    (fun h4 H =>
      eW Rs_StepsWithin (fun _ => []) H <| gE func12 [rg [{ i := 4, call := some { cl := true, auto := true, ins := [], res := (RB r1), G' := [] }, dec := some true }, { i := 8, call := some { cl := true, auto := true, ins := [], res := (RB r3), G' := [] }, dec := some false }], r0] (by kernel_rfl) (P1 (cs_csInput hr1) <| P2 (r1 = true) (h2) <| P1 (cs_csPath hr3) <| P2 (r3 = false) (eqF h4) <| P0)))
  (fun h2 H =>
    eW Rs_StepsWithin (fun _ => []) H <| gE func12 [rg [{ i := 4, call := some { cl := true, auto := true, ins := [], res := (RB r1), G' := [] }, dec := some false }], r0] (by kernel_rfl) (P1 (cs_csInput hr1) <| P2 (r1 = false) (eqF h2) <| P0))
/-! loop example/g00886/impl isPair -/
theorem ci_isPair {a0 : Gi_Board} {a1 : Int} {a2 : Int} {r : Bool} (H : Di_isPair a0 a1 a2 = some r) : Ct X.P X.gl 74 [.agg [sl 5 gi_Terrain a0.Rules.Terrains, sl 6 gi_Kind a0.Rules.Kinds, I a0.Rules.Stack, I a0.Rules.River, I a0.Rules.Road, I a0.Rules.Supply, I a0.Rules.Turns, I a0.Map.Width, I a0.Map.Height, sl 1 I a0.Map.Terrain, sl 1 I a0.Map.Rivers, sl 1 I a0.Map.Roads], I a1, I a2] [] (RB r) [] :=
  Ct.of func74 (c := bdy f74) (by kernel_rfl) (by kernel_rfl) <|
  eBind H fun r1 hr1 H =>
  gS [r0] (by kernel_rfl) P0 <|
  eIf H (fun h2 H =>
    eBind H fun r3 hr3 H =>
    eBind H fun r4 hr4 H =>
    eIf H (fun h5 H =>
      eBind H fun r6 hr6 H =>
      eBind H fun r7 hr7 H =>
      eW RB (fun _ => []) H <| gE func74 [rg [{ i := 1, call := some { cl := true, auto := true, ins := [], res := (RB r1), G' := [] }, dec := some true }, hC 5 true [] (RI r3) [], { i := 6, call := some { cl := true, auto := true, ins := [], res := (RB r4), G' := [] }, dec := some true }, hC 11 true [] (RI r6) [], hC 12 true [] (RB r7) []]] (by kernel_rfl) (P1 (ci_IsBoard hr1) <| P2 (r1 = true) (h2) <| P1 (ci_sizeOf hr3) <| P1 (ci_isIndex hr4) <| P2 (r4 = true) (h5) <| P1 (ci_sizeOf hr6) <| P1 (ci_isIndex hr7) <| P0))
    (fun h5 H =>
      eW RB (fun _ => []) H <| gE func74 [rg [{ i := 1, call := some { cl := true, auto := true, ins := [], res := (RB r1), G' := [] }, dec := some true }, hC 5 true [] (RI r3) [], { i := 6, call := some { cl := true, auto := true, ins := [], res := (RB r4), G' := [] }, dec := some false }]] (by kernel_rfl) (P1 (ci_IsBoard hr1) <| P2 (r1 = true) (h2) <| P1 (ci_sizeOf hr3) <| P1 (ci_isIndex hr4) <| P2 (r4 = false) (eqF h5) <| P0)))
  (fun h2 H =>
    eW RB (fun _ => []) H <| gE func74 [rg [{ i := 1, call := some { cl := true, auto := true, ins := [], res := (RB r1), G' := [] }, dec := some false }]] (by kernel_rfl) (P1 (ci_IsBoard hr1) <| P2 (r1 = false) (eqF h2) <| P0))
/-! loop example/g00886/impl pathHexes -/
def Ri_pathHexes (r : (List Int) × Bool) : List D := [ow 1 I r.1, .bool r.2]
noncomputable def Ki_pathHexes : Si_pathHexes → List Item
  | .h1 .. => nav 300 3 [] [.code (bdy f75)]
def Zi_pathHexes : Si_pathHexes → St
  | .h1 i0 t1 t2 t3 b4 l5 => ⟨sts 30 [(1, I i0), (3, .ptr 0 5 0 0), (8, .ref 1 1 none), (12, sl 1 I t1), (13, I t2), (14, I t3)], [some ⟨false, true, 5, 1, [.agg [I b4.Width, I b4.Height, sl 1 I b4.Terrain, sl 1 I b4.Rivers, sl 1 I b4.Roads]]⟩, some ⟨false, false, 1, l5.length, List.map I l5⟩]⟩
abbrev Qi_pathHexes := Nx X 75 0 Ki_pathHexes Zi_pathHexes Ri_pathHexes (fun _ => [])
theorem ni_pathHexes : ∀ s o, Bi_pathHexes s = some o → Qi_pathHexes (Ki_pathHexes s) (Zi_pathHexes s) o
  | .h1 i0 t1 t2 t3 b4 l5, o, H =>
    eIf H (fun h1 H =>
      eCk H fun h2 H =>
      eBind H fun x3 hx3 H =>
      eBind H fun r4 hr4 H =>
      gN [rg [hT 0], rg [hE 1 (I x3)], rg [hC 3 true [] (RI r4) []]] (by kernel_rfl) (P2 ((decide (t3 < t2)) = true) (decide_eq_true h1) <| P1 h2 <| P1 (int_lt_of_at h2 hx3) <| P1 (at_map I hx3) <| P1 (ci_nextTo hr4) <| P0) <|
      eIf H (fun h5 H =>
        eN H <| gE func75 [rg [hT 1], r0] (by kernel_rfl) (P2 ((decide (r4 < 0)) = true) (decide_eq_true h5) <| P0))
      (fun h5 H =>
        eCk H fun h6 H =>
        eN H fun r hn => gO [rg [hF 1], rg [hA 3 ((l5 ++ [r4]).length) (List.map I (l5 ++ [r4]))], r0, .canon [0, 3] [1, 3, 8, 12, 13, 14]] (by kernel_rfl) (P2 ((decide (r4 < 0)) = false) (decide_eq_false h5) <| P1 (apL l5 [r4]) <| P1 (apB h6) <| P1 (apM I l5 [r4]) <| P0) hn))
    (fun h1 H =>
      eN H <| gE func75 [rg [hF 0], r0] (by kernel_rfl) (P2 ((decide (t3 < t2)) = false) (decide_eq_false h1) <| P0))
theorem wi_pathHexes : ∀ s r, loop Bi_pathHexes s = some r → Wc X 75 0 (Ki_pathHexes s) (Zi_pathHexes s) (Ri_pathHexes r) ((fun _ => []) r) := Nx.all ni_pathHexes
theorem ci_pathHexes {a0 : Gi_Map} {a1 : Int} {a2 : (List Int)} {r : (List Int) × Bool} (H : Di_pathHexes a0 a1 a2 = some r) : Ct X.P X.gl 75 [.agg [I a0.Width, I a0.Height, sl 1 I a0.Terrain, sl 1 I a0.Rivers, sl 1 I a0.Roads], I a1, sl 1 I a2] [] (Ri_pathHexes r) [] :=
  Ct.of func75 (c := bdy f75) (by kernel_rfl) (by kernel_rfl) <|
  gO [r0, r0, r0, .canon [0, 1] [1, 3, 8, 12, 13, 14]] (by kernel_rfl) P0 (wi_pathHexes _ _ H)
/-! loop example/g00886/impl PathHexes -/
def Ri_PathHexes (r : (List Int) × Bool) : List D := [ow 1 I r.1, .bool r.2]
theorem ci_PathHexes {a0 : Gi_Board} {a1 : Int} {a2 : (List Int)} {r : (List Int) × Bool} (H : Di_PathHexes a0 a1 a2 = some r) : Ct X.P X.gl 13 [.agg [sl 5 gi_Terrain a0.Rules.Terrains, sl 6 gi_Kind a0.Rules.Kinds, I a0.Rules.Stack, I a0.Rules.River, I a0.Rules.Road, I a0.Rules.Supply, I a0.Rules.Turns, I a0.Map.Width, I a0.Map.Height, sl 1 I a0.Map.Terrain, sl 1 I a0.Map.Rivers, sl 1 I a0.Map.Roads], I a1, sl 1 I a2] [] (Ri_PathHexes r) [] :=
  Ct.of func13 (c := bdy f13) (by kernel_rfl) (by kernel_rfl) <|
  eBind H fun r1 hr1 H =>
  gS [r0] (by kernel_rfl) P0 <|
  eIf H (fun h2 H =>
    eBind H fun r3 hr3 H =>
    eIf H (fun h4 H =>
      eBind H fun r5 hr5 H =>
      eW Ri_PathHexes (fun _ => []) H <| gE func13 [rg [{ i := 3, call := some { cl := true, auto := true, ins := [], res := (RB r1), G' := [] }, dec := some true }, { i := 7, call := some { cl := true, auto := true, ins := [], res := (RB r3), G' := [] }, dec := some true }], rg [hC 4 true [] (Ri_pathHexes r5) []]] (by kernel_rfl) (P1 (ci_isPair hr1) <| P2 (r1 = true) (h2) <| P1 (ci_isPath hr3) <| P2 (r3 = true) (h4) <| P1 (ci_pathHexes hr5) <| P0))
    (fun h4 H =>
      eW Ri_PathHexes (fun _ => []) H <| gE func13 [rg [{ i := 3, call := some { cl := true, auto := true, ins := [], res := (RB r1), G' := [] }, dec := some true }, { i := 7, call := some { cl := true, auto := true, ins := [], res := (RB r3), G' := [] }, dec := some false }], r0] (by kernel_rfl) (P1 (ci_isPair hr1) <| P2 (r1 = true) (h2) <| P1 (ci_isPath hr3) <| P2 (r3 = false) (eqF h4) <| P0)))
  (fun h2 H =>
    eW Ri_PathHexes (fun _ => []) H <| gE func13 [rg [{ i := 3, call := some { cl := true, auto := true, ins := [], res := (RB r1), G' := [] }, dec := some false }], r0] (by kernel_rfl) (P1 (ci_isPair hr1) <| P2 (r1 = false) (eqF h2) <| P0))
/-! loop example/g00886/spec csHexes -/
def Rs_csHexes (r : (List Int) × Bool) : List D := [ow 1 I r.1, .bool r.2]
noncomputable def Ks_csHexes : Ss_csHexes → List Item
  | .h1 .. => nav 300 3 [] [.code (bdy f77)]
def Zs_csHexes : Ss_csHexes → St
  | .h1 i0 t1 t2 t3 b4 l5 => ⟨sts 29 [(1, I i0), (3, .ptr 0 5 0 0), (8, .ref 1 1 none), (11, sl 1 I t1), (12, I t2), (13, I t3)], [some ⟨false, true, 5, 1, [.agg [I b4.Width, I b4.Height, sl 1 I b4.Terrain, sl 1 I b4.Rivers, sl 1 I b4.Roads]]⟩, some ⟨false, false, 1, l5.length, List.map I l5⟩]⟩
abbrev Qs_csHexes := Nx X 77 0 Ks_csHexes Zs_csHexes Rs_csHexes (fun _ => [])
theorem ns_csHexes : ∀ s o, Bs_csHexes s = some o → Qs_csHexes (Ks_csHexes s) (Zs_csHexes s) o
  | .h1 i0 t1 t2 t3 b4 l5, o, H =>
    eIf H (fun h1 H =>
      eCk H fun h2 H =>
      eBind H fun x3 hx3 H =>
      eBind H fun r4 hr4 H =>
      gN [rg [hT 0], rg [hE 1 (I x3)], rg [hC 3 true [] (RI r4) []]] (by kernel_rfl) (P2 ((decide (t3 < t2)) = true) (decide_eq_true h1) <| P1 h2 <| P1 (int_lt_of_at h2 hx3) <| P1 (at_map I hx3) <| P1 (cs_mNext hr4) <| P0) <|
      eIf H (fun h5 H =>
        eN H <| gE func77 [rg [hT 1], r0] (by kernel_rfl) (P2 ((decide (r4 < 0)) = true) (decide_eq_true h5) <| P0))
      (fun h5 H =>
        eCk H fun h6 H =>
        eN H fun r hn => gO [rg [hF 1], rg [hA 3 ((l5 ++ [r4]).length) (List.map I (l5 ++ [r4]))], r0, .canon [0, 3] [1, 3, 8, 11, 12, 13]] (by kernel_rfl) (P2 ((decide (r4 < 0)) = false) (decide_eq_false h5) <| P1 (apL l5 [r4]) <| P1 (apB h6) <| P1 (apM I l5 [r4]) <| P0) hn))
    (fun h1 H =>
      eN H <| gE func77 [rg [hF 0], r0] (by kernel_rfl) (P2 ((decide (t3 < t2)) = false) (decide_eq_false h1) <| P0))
theorem ws_csHexes : ∀ s r, loop Bs_csHexes s = some r → Wc X 77 0 (Ks_csHexes s) (Zs_csHexes s) (Rs_csHexes r) ((fun _ => []) r) := Nx.all ns_csHexes
theorem cs_csHexes {a0 : Gi_Map} {a1 : Int} {a2 : (List Int)} {r : (List Int) × Bool} (H : Ds_csHexes a0 a1 a2 = some r) : Ct X.P X.gl 77 [.agg [I a0.Width, I a0.Height, sl 1 I a0.Terrain, sl 1 I a0.Rivers, sl 1 I a0.Roads], I a1, sl 1 I a2] [] (Rs_csHexes r) [] :=
  Ct.of func77 (c := bdy f77) (by kernel_rfl) (by kernel_rfl) <|
  gO [r0, r0, r0, .own 8 1, .canon [0, 1] [1, 3, 8, 11, 12, 13]] (by kernel_rfl) P0 (ws_csHexes _ _ H)
/-! loop example/g00886/spec PathHexes -/
def Rs_PathHexes (r : (List Int) × Bool) : List D := [ow 1 I r.1, .bool r.2]
theorem cs_PathHexes {a0 : Gi_Board} {a1 : Int} {a2 : (List Int)} {r : (List Int) × Bool} (H : Ds_PathHexes a0 a1 a2 = some r) : Ct X.P X.gl 14 [.agg [sl 5 gi_Terrain a0.Rules.Terrains, sl 6 gi_Kind a0.Rules.Kinds, I a0.Rules.Stack, I a0.Rules.River, I a0.Rules.Road, I a0.Rules.Supply, I a0.Rules.Turns, I a0.Map.Width, I a0.Map.Height, sl 1 I a0.Map.Terrain, sl 1 I a0.Map.Rivers, sl 1 I a0.Map.Roads], I a1, sl 1 I a2] [] (Rs_PathHexes r) [] :=
  Ct.of func14 (c := bdy f14) (by kernel_rfl) (by kernel_rfl) <|
  eBind H fun r1 hr1 H =>
  gS [r0] (by kernel_rfl) P0 <|
  eIf H (fun h2 H =>
    eBind H fun r3 hr3 H =>
    eIf H (fun h4 H =>
      eBind H fun r5 hr5 H =>
      eW Rs_PathHexes (fun _ => []) H <| gE func14 [rg [{ i := 2, call := some { cl := true, auto := true, ins := [], res := (RB r1), G' := [] }, dec := some true }, { i := 6, call := some { cl := true, auto := true, ins := [], res := (RB r3), G' := [] }, dec := some true }], rg [hC 4 true [] (Rs_csHexes r5) []]] (by kernel_rfl) (P1 (cs_bAt hr1) <| P2 (r1 = true) (h2) <| P1 (cs_csPath hr3) <| P2 (r3 = true) (h4) <| P1 (cs_csHexes hr5) <| P0))
    (fun h4 H =>
      eW Rs_PathHexes (fun _ => []) H <| gE func14 [rg [{ i := 2, call := some { cl := true, auto := true, ins := [], res := (RB r1), G' := [] }, dec := some true }, { i := 6, call := some { cl := true, auto := true, ins := [], res := (RB r3), G' := [] }, dec := some false }], r0] (by kernel_rfl) (P1 (cs_bAt hr1) <| P2 (r1 = true) (h2) <| P1 (cs_csPath hr3) <| P2 (r3 = false) (eqF h4) <| P0)))
  (fun h2 H =>
    eW Rs_PathHexes (fun _ => []) H <| gE func14 [rg [{ i := 2, call := some { cl := true, auto := true, ins := [], res := (RB r1), G' := [] }, dec := some false }], r0] (by kernel_rfl) (P1 (cs_bAt hr1) <| P2 (r1 = false) (eqF h2) <| P0))
/-! loop example/g00886/laws qInts -/
noncomputable def Kw_qInts : Sw_qInts → List Item
  | .h1 .. => nav 300 3 [false] [.code (bdy f15)]
def Zw_qInts : Sw_qInts → St
  | .h1 va0 b1 t2 t3 => ⟨sts 26 [(0, sl 1 I va0), (1, sl 1 I b1), (12, I t2), (13, I t3)], []⟩
abbrev Qw_qInts := Nx X 15 0 Kw_qInts Zw_qInts RB (fun _ => [])
theorem nw_qInts : ∀ s o, Bw_qInts s = some o → Qw_qInts (Kw_qInts s) (Zw_qInts s) o
  | .h1 va0 b1 t2 t3, o, H =>
    eIf H (fun h1 H =>
      eCk H fun h2 H =>
      eBind H fun x3 hx3 H =>
      eCk H fun h4 H =>
      eBind H fun x5 hx5 H =>
      gN [rg [hT 0], r0] (by kernel_rfl) (P2 ((decide (t3 < t2)) = true) (decide_eq_true h1) <| P0) <|
      eIf H (fun h6 H =>
        eN H fun r hn => gO [rg [hE 3 (I x3), hE 7 (I x5), hF 8], r0, .canon [] [0, 1, 12, 13]] (by kernel_rfl) (P1 h2 <| P1 (int_lt_of_at h2 hx3) <| P1 (at_map I hx3) <| P1 h4 <| P1 (int_lt_of_at h4 hx5) <| P1 (at_map I hx5) <| P2 (((x3 : Int) != x5) = false) (bneF h6) <| P0) hn)
      (fun h6 H =>
        eN H <| gE func15 [rg [hE 3 (I x3), hE 7 (I x5), hT 8], r0] (by kernel_rfl) (P1 h2 <| P1 (int_lt_of_at h2 hx3) <| P1 (at_map I hx3) <| P1 h4 <| P1 (int_lt_of_at h4 hx5) <| P1 (at_map I hx5) <| P2 (((x3 : Int) != x5) = true) (bneT h6) <| P0)))
    (fun h1 H =>
      eN H <| gE func15 [rg [hF 0], r0] (by kernel_rfl) (P2 ((decide (t3 < t2)) = false) (decide_eq_false h1) <| P0))
theorem ww_qInts : ∀ s r, loop Bw_qInts s = some r → Wc X 15 0 (Kw_qInts s) (Zw_qInts s) (RB r) ((fun _ => []) r) := Nx.all nw_qInts
theorem cw_qInts {a0 : (List Int)} {a1 : (List Int)} {r : Bool} (H : Dw_qInts a0 a1 = some r) : Ct X.P X.gl 15 [sl 1 I a0, sl 1 I a1] [] (RB r) [] :=
  Ct.of func15 (c := bdy f15) (by kernel_rfl) (by kernel_rfl) <|
  gS [r0] (by kernel_rfl) P0 <|
  eIf H (fun h1 H =>
    gO [rg [hF 4], r0, .canon [] [0, 1, 12, 13]] (by kernel_rfl) (P2 (((((a0.length : Nat) : Int) : Int) != ((a1.length : Nat) : Int)) = false) (bneF h1) <| P0) (ww_qInts _ _ H))
  (fun h1 H =>
    eW RB (fun _ => []) H <| gE func15 [rg [hT 4], r0] (by kernel_rfl) (P2 (((((a0.length : Nat) : Int) : Int) != ((a1.length : Nat) : Int)) = true) (bneT h1) <| P0))
/-! loop example/g00886/impl StepCost -/
def Ri_StepCost (r : Int × Bool) : List D := [I r.1, .bool r.2]
theorem ci_StepCost {a0 : Gi_Board} {a1 : Int} {a2 : Int} {a3 : Int} {a4 : Int} {r : Int × Bool} (H : Di_StepCost a0 a1 a2 a3 a4 = some r) : Ct X.P X.gl 16 [.agg [sl 5 gi_Terrain a0.Rules.Terrains, sl 6 gi_Kind a0.Rules.Kinds, I a0.Rules.Stack, I a0.Rules.River, I a0.Rules.Road, I a0.Rules.Supply, I a0.Rules.Turns, I a0.Map.Width, I a0.Map.Height, sl 1 I a0.Map.Terrain, sl 1 I a0.Map.Rivers, sl 1 I a0.Map.Roads], I a1, I a2, I a3, I a4] [] (Ri_StepCost r) [] :=
  Ct.of func16 (c := bdy f16) (by kernel_rfl) (by kernel_rfl) <|
  eBind H fun r1 hr1 H =>
  gS [r0] (by kernel_rfl) P0 <|
  eIf H (fun h2 H =>
    eBind H fun r3 hr3 H =>
    eIf H (fun h4 H =>
      eBind H fun r5 hr5 H =>
      eW Ri_StepCost (fun _ => []) H <| gE func16 [rg [{ i := 4, call := some { cl := true, auto := true, ins := [], res := (RB r1), G' := [] }, dec := some true }, { i := 8, call := some { cl := true, auto := true, ins := [], res := (RB r3), G' := [] }, dec := some true }], rg [hC 5 true [] (RI r5) []], r0] (by kernel_rfl) (P1 (ci_isMover hr1) <| P2 (r1 = true) (h2) <| P1 (ci_isDirection hr3) <| P2 (r3 = true) (h4) <| P1 (ci_stepCost hr5) <| P0))
    (fun h4 H =>
      eW Ri_StepCost (fun _ => []) H <| gE func16 [rg [{ i := 4, call := some { cl := true, auto := true, ins := [], res := (RB r1), G' := [] }, dec := some true }, { i := 8, call := some { cl := true, auto := true, ins := [], res := (RB r3), G' := [] }, dec := some false }], r0] (by kernel_rfl) (P1 (ci_isMover hr1) <| P2 (r1 = true) (h2) <| P1 (ci_isDirection hr3) <| P2 (r3 = false) (eqF h4) <| P0)))
  (fun h2 H =>
    eW Ri_StepCost (fun _ => []) H <| gE func16 [rg [{ i := 4, call := some { cl := true, auto := true, ins := [], res := (RB r1), G' := [] }, dec := some false }], r0] (by kernel_rfl) (P1 (ci_isMover hr1) <| P2 (r1 = false) (eqF h2) <| P0))
/-! loop example/g00886/impl ReversePath -/
def Ri_ReversePath (r : Int × (List Int) × Bool) : List D := [I r.1, ow 1 I r.2.1, .bool r.2.2]
noncomputable def Ki_ReversePath : Si_ReversePath → List Item
  | .h1 .. => nav 300 5 [false] [.code (bdy f17)]
def Zi_ReversePath : Si_ReversePath → St
  | .h1 i0 path1 k2 l3 l4 => ⟨sts 50 [(1, I i0), (2, sl 1 I path1), (9, .ref 0 1 none), (11, .ref 1 1 none), (12, I k2)], [some ⟨false, false, 1, l3.length, List.map I l3⟩, some ⟨false, false, 1, l4.length, List.map I l4⟩]⟩
abbrev Qi_ReversePath := Nx X 17 0 Ki_ReversePath Zi_ReversePath Ri_ReversePath (fun _ => [])
theorem ni_ReversePath : ∀ s o, Bi_ReversePath s = some o → Qi_ReversePath (Ki_ReversePath s) (Zi_ReversePath s) o
  | .h1 i0 path1 k2 l3 l4, o, H =>
    eIf H (fun h1 H =>
      eCk H fun h2 H =>
      eBind H fun x3 hx3 H =>
      eCk H fun h4 H =>
      eN H fun r hn => gO [rg [hT 1], rg [hE 4 (I x3), hA 8 ((l4 ++ [(Int.tmod (IntKind.wrap .i64 (x3 + 3)) 6)]).length) (List.map I (l4 ++ [(Int.tmod (IntKind.wrap .i64 (x3 + 3)) 6)]))], r0, .canon [0, 3] [1, 2, 9, 11, 12]] (by kernel_rfl) (P2 ((decide (k2 ≥ 0)) = true) (decide_eq_true h1) <| P1 h2 <| P1 (int_lt_of_at h2 hx3) <| P1 (at_map I hx3) <| P2 (¬ (6 : Int) = 0) (by decide) <| P1 (apL l4 [(Int.tmod (IntKind.wrap .i64 (x3 + 3)) 6)]) <| P1 (apB h4) <| P1 (apM I l4 [(Int.tmod (IntKind.wrap .i64 (x3 + 3)) 6)]) <| P0) hn)
    (fun h1 H =>
      gN [rg [hF 1]] (by kernel_rfl) (P2 ((decide (k2 ≥ 0)) = false) (decide_eq_false h1) <| P0) <|
      eIf H (fun h2 H =>
        eCk H fun h3 H =>
        eBind H fun x4 hx4 H =>
        eN H <| gE func17 [rg [hT 2], rg [hE 5 (I x4)], r0] (by kernel_rfl) (P2 ((decide (((l3.length : Nat) : Int) > 0)) = true) (decide_eq_true h2) <| P1 h3 <| P1 (int_lt_of_at h3 hx4) <| P1 (at_map I hx4) <| P0))
      (fun h2 H =>
        eN H <| gE func17 [rg [hF 2], r0] (by kernel_rfl) (P2 ((decide (((l3.length : Nat) : Int) > 0)) = false) (decide_eq_false h2) <| P0)))
theorem wi_ReversePath : ∀ s r, loop Bi_ReversePath s = some r → Wc X 17 0 (Ki_ReversePath s) (Zi_ReversePath s) (Ri_ReversePath r) ((fun _ => []) r) := Nx.all ni_ReversePath
theorem ci_ReversePath {a0 : Gi_Board} {a1 : Int} {a2 : (List Int)} {r : Int × (List Int) × Bool} (H : Di_ReversePath a0 a1 a2 = some r) : Ct X.P X.gl 17 [.agg [sl 5 gi_Terrain a0.Rules.Terrains, sl 6 gi_Kind a0.Rules.Kinds, I a0.Rules.Stack, I a0.Rules.River, I a0.Rules.Road, I a0.Rules.Supply, I a0.Rules.Turns, I a0.Map.Width, I a0.Map.Height, sl 1 I a0.Map.Terrain, sl 1 I a0.Map.Rivers, sl 1 I a0.Map.Roads], I a1, sl 1 I a2] [] (Ri_ReversePath r) [] :=
  Ct.of func17 (c := bdy f17) (by kernel_rfl) (by kernel_rfl) <|
  eBind H fun r1 hr1 H =>
  gS [r0] (by kernel_rfl) P0 <|
  eIf H (fun h2 H =>
    gO [rg [hC 3 true [] (Ri_PathHexes r1) [], hT 6], r0, r0, r0, .canon [1, 2] [1, 2, 9, 11, 12]] (by kernel_rfl) (P1 (ci_PathHexes hr1) <| P2 (r1.2 = true) (h2) <| P0) (wi_ReversePath _ _ H))
  (fun h2 H =>
    eW Ri_ReversePath (fun _ => []) H <| gE func17 [rg [hC 3 true [] (Ri_PathHexes r1) [], hF 6], r0, r0] (by kernel_rfl) (P1 (ci_PathHexes hr1) <| P2 (r1.2 = false) (eqF h2) <| P0))
/-! loop example/g00886/laws FnCosts -/
noncomputable def Kw_FnCosts : Sw_FnCosts → List Item
  | .h1 .. => nav 300 12 [false, false, true, false] [.code (bdy f3)]
  | .h2 .. => nav 300 18 [false, false, true, false, false, false] [.code (bdy f3)]
def Zw_FnCosts : Sw_FnCosts → St
  | .h1 t0 t1 t2 t3 t4 b5 l6 => ⟨sts 256 [(5, .ptr 0 12 0 0), (6, I t0), (7, I t1), (8, I t2), (9, .ref 1 1 none), (10, I t3), (11, .bool t4)], [some ⟨false, true, 12, 1, [.agg [sl 5 gi_Terrain b5.Rules.Terrains, sl 6 gi_Kind b5.Rules.Kinds, I b5.Rules.Stack, I b5.Rules.River, I b5.Rules.Road, I b5.Rules.Supply, I b5.Rules.Turns, I b5.Map.Width, I b5.Map.Height, sl 1 I b5.Map.Terrain, sl 1 I b5.Map.Rivers, sl 1 I b5.Map.Roads]]⟩, some ⟨false, false, 1, l6.length, List.map I l6⟩]⟩
  | .h2 t0 t1 t2 t3 t4 t5 t6 t7 b8 l9 l10 => ⟨sts 256 [(5, .ptr 0 12 0 0), (6, I t0), (7, I t1), (8, I t2), (9, .ref 1 1 none), (10, I t3), (26, .ref 2 1 none), (30, I t4), (31, I t5), (171, .ref 1 1 none), (172, I t6), (173, I t7)], [some ⟨false, true, 12, 1, [.agg [sl 5 gi_Terrain b8.Rules.Terrains, sl 6 gi_Kind b8.Rules.Kinds, I b8.Rules.Stack, I b8.Rules.River, I b8.Rules.Road, I b8.Rules.Supply, I b8.Rules.Turns, I b8.Map.Width, I b8.Map.Height, sl 1 I b8.Map.Terrain, sl 1 I b8.Map.Rivers, sl 1 I b8.Map.Roads]]⟩, some ⟨false, false, 1, l9.length, List.map I l9⟩, some ⟨false, false, 1, l10.length, List.map I l10⟩]⟩
abbrev Qw_FnCosts := Nx X 3 0 Kw_FnCosts Zw_FnCosts RB (fun _ => [])
theorem nw_FnCosts : ∀ s o, Bw_FnCosts s = some o → Qw_FnCosts (Kw_FnCosts s) (Zw_FnCosts s) o
  | .h1 t0 t1 t2 t3 true b5 l6, o, H =>
    eBind H fun r1 hr1 H =>
    gN [r0] (by kernel_rfl) P0 <|
    eIf H (fun h2 H =>
      eBind H fun r3 hr3 H =>
      gN [rg [hC 3 false [] (Ri_PathHexes r1) [], hT 6]] (by kernel_rfl) (P2 (nfL (List.flatMap D.cells (Ri_PathHexes r1))) ⟨nfL_map nf_3 _, trivial, trivial⟩ <| P2 (nfG []) trivial <| P1 (ci_PathHexes hr1) <| P2 (r1.2 = true) (h2) <| P0) <|
      eIf H (fun h4 H =>
        eBind H fun r5 hr5 H =>
        gN [rg [hC 3 false [] (Rs_PathHexes r3) [], hT 6]] (by kernel_rfl) (P2 (nfL (List.flatMap D.cells (Rs_PathHexes r3))) ⟨nfL_map nf_3 _, trivial, trivial⟩ <| P2 (nfG []) trivial <| P1 (cs_PathHexes hr3) <| P2 (r3.2 = true) (h4) <| P0) <|
        eIf H (fun h6 H =>
          eN H fun r hn => gO [rg [{ i := 9, call := some { cl := false, auto := true, ins := [], res := (RB r5), G' := [] }, dec := some true }], r0, r0, .canon [0, 1, 2] [5, 6, 7, 8, 9, 10, 26, 30, 31, 171, 172, 173]] (by kernel_rfl) (P1 (cw_qInts hr5) <| P2 (r5 = true) (h6) <| P0) hn)
        (fun h6 H =>
          eN H <| gE func3 [rg [{ i := 9, call := some { cl := false, auto := true, ins := [], res := (RB r5), G' := [] }, dec := some false }], r0] (by kernel_rfl) (P1 (cw_qInts hr5) <| P2 (r5 = false) (eqF h6) <| P0)))
      (fun h4 H =>
        eN H <| gE func3 [rg [hC 3 false [] (Rs_PathHexes r3) [], hF 6], r0, r0] (by kernel_rfl) (P2 (nfL (List.flatMap D.cells (Rs_PathHexes r3))) ⟨nfL_map nf_3 _, trivial, trivial⟩ <| P2 (nfG []) trivial <| P1 (cs_PathHexes hr3) <| P2 (r3.2 = false) (eqF h4) <| P0)))
    (fun h2 H =>
      eBind H fun r3 hr3 H =>
      eN H <| gE func3 [rg [hC 3 false [] (Ri_PathHexes r1) [], hF 6], rg [hC 3 false [] (Rs_PathHexes r3) []], r0, r0] (by kernel_rfl) (P2 (nfL (List.flatMap D.cells (Ri_PathHexes r1))) ⟨nfL_map nf_3 _, trivial, trivial⟩ <| P2 (nfG []) trivial <| P1 (ci_PathHexes hr1) <| P2 (r1.2 = false) (eqF h2) <| P2 (nfL (List.flatMap D.cells (Rs_PathHexes r3))) ⟨nfL_map nf_3 _, trivial, trivial⟩ <| P2 (nfG []) trivial <| P1 (cs_PathHexes hr3) <| P0))
  | .h1 t0 t1 t2 t3 false b5 l6, o, H =>
    eN H <| gE func3 [r0, r0] (by kernel_rfl) P0
  | .h2 t0 t1 t2 t3 t4 t5 t6 t7 b8 l9 l10, o, H =>
    eIf H (fun h1 H =>
      eCk H fun h2 H =>
      eBind H fun x3 hx3 H =>
      eBind H fun r4 hr4 H =>
      gN [rg [hT 0], rg [hE 2 (I x3)]] (by kernel_rfl) (P2 ((decide (t7 < t6)) = true) (decide_eq_true h1) <| P1 h2 <| P1 (int_lt_of_at h2 hx3) <| P1 (at_map I hx3) <| P0) <|
      eIf H (fun h5 H =>
        eCk H fun h6 H =>
        eBind H fun x7 hx7 H =>
        eN H fun r hn => gO [rg [hC 5 true [] (Ri_StepCost r4) [], hT 8], r0, r0, rg [hE 3 (I x7)], r0, .canon [0, 1, 2] [5, 6, 7, 8, 9, 10, 26, 30, 31, 171, 172, 173]] (by kernel_rfl) (P1 (ci_StepCost hr4) <| P2 (r4.2 = true) (h5) <| P1 h6 <| P1 (int_lt_of_at h6 hx7) <| P1 (at_map I hx7) <| P0) hn)
      (fun h5 H =>
        eN H <| gE func3 [rg [hC 5 true [] (Ri_StepCost r4) [], hF 8], r0, r0] (by kernel_rfl) (P1 (ci_StepCost hr4) <| P2 (r4.2 = false) (eqF h5) <| P0)))
    (fun h1 H =>
      eBind H fun r2 hr2 H =>
      gN [rg [hF 0]] (by kernel_rfl) (P2 ((decide (t7 < t6)) = false) (decide_eq_false h1) <| P0) <|
      eIf H (fun h3 H =>
        eBind H fun r4 hr4 H =>
        gN [rg [hC 6 false [] (Ri_StepsWithin r2) [], hT 9]] (by kernel_rfl) (P1 (ci_StepsWithin hr2) <| P2 (r2.2 = true) (h3) <| P0) <|
        eIf H (fun h5 H =>
          eBind H fun r6 hr6 H =>
          gN [rg [hC 3 false [] (Ri_ReversePath r4) [], hT 7]] (by kernel_rfl) (P2 (nfL (List.flatMap D.cells (Ri_ReversePath r4))) ⟨trivial, nfL_map nf_3 _, trivial, trivial⟩ <| P2 (nfG []) trivial <| P1 (ci_ReversePath hr4) <| P2 (r4.2.2 = true) (h5) <| P0) <|
          eIf H (fun h7 H =>
            gN [rg [hC 3 false [] (Ri_ReversePath r6) [], hT 7]] (by kernel_rfl) (P2 (nfL (List.flatMap D.cells (Ri_ReversePath r6))) ⟨trivial, nfL_map nf_3 _, trivial, trivial⟩ <| P2 (nfG []) trivial <| P1 (ci_ReversePath hr6) <| P2 (r6.2.2 = true) (h7) <| P0) <|
            eIf H (fun h8 H =>
              eIf H (fun h9 H =>
                eIf H (fun h10 H =>
                  eIf H (fun h11 H =>
                    eBind H fun r12 hr12 H =>
                    eN H <| gE func3 [rg [hT 2, hT 10, hT 18, hT 26, hC 31 false [] (RB r12) []]] (by kernel_rfl) (P2 (((t5 : Int) == t3) = true) (beqT h8) <| P2 (((r2.1 : Int) == ((l9.length : Nat) : Int)) = true) (beqT h9) <| P2 (((r4.1 : Int) == t4) = true) (beqT h10) <| P2 (((r6.1 : Int) == t2) = true) (beqT h11) <| P1 (cw_qInts hr12) <| P0))
                  (fun h11 H =>
                    eN H <| gE func3 [rg [hT 2, hT 10, hT 18, hF 26]] (by kernel_rfl) (P2 (((t5 : Int) == t3) = true) (beqT h8) <| P2 (((r2.1 : Int) == ((l9.length : Nat) : Int)) = true) (beqT h9) <| P2 (((r4.1 : Int) == t4) = true) (beqT h10) <| P2 (((r6.1 : Int) == t2) = false) (beqF h11) <| P0)))
                (fun h10 H =>
                  eN H <| gE func3 [rg [hT 2, hT 10, hF 18]] (by kernel_rfl) (P2 (((t5 : Int) == t3) = true) (beqT h8) <| P2 (((r2.1 : Int) == ((l9.length : Nat) : Int)) = true) (beqT h9) <| P2 (((r4.1 : Int) == t4) = false) (beqF h10) <| P0)))
              (fun h9 H =>
                eN H <| gE func3 [rg [hT 2, hF 10]] (by kernel_rfl) (P2 (((t5 : Int) == t3) = true) (beqT h8) <| P2 (((r2.1 : Int) == ((l9.length : Nat) : Int)) = false) (beqF h9) <| P0)))
            (fun h8 H =>
              eN H <| gE func3 [rg [hF 2]] (by kernel_rfl) (P2 (((t5 : Int) == t3) = false) (beqF h8) <| P0)))
          (fun h7 H =>
            gN [rg [hC 3 false [] (Ri_ReversePath r6) [], hF 7]] (by kernel_rfl) (P2 (nfL (List.flatMap D.cells (Ri_ReversePath r6))) ⟨trivial, nfL_map nf_3 _, trivial, trivial⟩ <| P2 (nfG []) trivial <| P1 (ci_ReversePath hr6) <| P2 (r6.2.2 = false) (eqF h7) <| P0) <|
            eIf H (fun h8 H =>
              eIf H (fun h9 H =>
                eIf H (fun h10 H =>
                  eN H <| gE func3 [rg [hT 2, hT 10, hT 18]] (by kernel_rfl) (P2 (((t5 : Int) == t3) = true) (beqT h8) <| P2 (((r2.1 : Int) == ((l9.length : Nat) : Int)) = true) (beqT h9) <| P2 (((r4.1 : Int) == t4) = true) (beqT h10) <| P0))
                (fun h10 H =>
                  eN H <| gE func3 [rg [hT 2, hT 10, hF 18]] (by kernel_rfl) (P2 (((t5 : Int) == t3) = true) (beqT h8) <| P2 (((r2.1 : Int) == ((l9.length : Nat) : Int)) = true) (beqT h9) <| P2 (((r4.1 : Int) == t4) = false) (beqF h10) <| P0)))
              (fun h9 H =>
                eN H <| gE func3 [rg [hT 2, hF 10]] (by kernel_rfl) (P2 (((t5 : Int) == t3) = true) (beqT h8) <| P2 (((r2.1 : Int) == ((l9.length : Nat) : Int)) = false) (beqF h9) <| P0)))
            (fun h8 H =>
              eN H <| gE func3 [rg [hF 2]] (by kernel_rfl) (P2 (((t5 : Int) == t3) = false) (beqF h8) <| P0))))
        (fun h5 H =>
          eBind H fun r6 hr6 H =>
          gN [rg [hC 3 false [] (Ri_ReversePath r4) [], hF 7]] (by kernel_rfl) (P2 (nfL (List.flatMap D.cells (Ri_ReversePath r4))) ⟨trivial, nfL_map nf_3 _, trivial, trivial⟩ <| P2 (nfG []) trivial <| P1 (ci_ReversePath hr4) <| P2 (r4.2.2 = false) (eqF h5) <| P0) <|
          eIf H (fun h7 H =>
            gN [rg [hC 3 false [] (Ri_ReversePath r6) [], hT 7]] (by kernel_rfl) (P2 (nfL (List.flatMap D.cells (Ri_ReversePath r6))) ⟨trivial, nfL_map nf_3 _, trivial, trivial⟩ <| P2 (nfG []) trivial <| P1 (ci_ReversePath hr6) <| P2 (r6.2.2 = true) (h7) <| P0) <|
            eIf H (fun h8 H =>
              eIf H (fun h9 H =>
                eN H <| gE func3 [rg [hT 2, hT 10]] (by kernel_rfl) (P2 (((t5 : Int) == t3) = true) (beqT h8) <| P2 (((r2.1 : Int) == ((l9.length : Nat) : Int)) = true) (beqT h9) <| P0))
              (fun h9 H =>
                eN H <| gE func3 [rg [hT 2, hF 10]] (by kernel_rfl) (P2 (((t5 : Int) == t3) = true) (beqT h8) <| P2 (((r2.1 : Int) == ((l9.length : Nat) : Int)) = false) (beqF h9) <| P0)))
            (fun h8 H =>
              eN H <| gE func3 [rg [hF 2]] (by kernel_rfl) (P2 (((t5 : Int) == t3) = false) (beqF h8) <| P0)))
          (fun h7 H =>
            gN [rg [hC 3 false [] (Ri_ReversePath r6) [], hF 7]] (by kernel_rfl) (P2 (nfL (List.flatMap D.cells (Ri_ReversePath r6))) ⟨trivial, nfL_map nf_3 _, trivial, trivial⟩ <| P2 (nfG []) trivial <| P1 (ci_ReversePath hr6) <| P2 (r6.2.2 = false) (eqF h7) <| P0) <|
            eIf H (fun h8 H =>
              eIf H (fun h9 H =>
                eN H <| gE func3 [rg [hT 2, hT 10]] (by kernel_rfl) (P2 (((t5 : Int) == t3) = true) (beqT h8) <| P2 (((r2.1 : Int) == ((l9.length : Nat) : Int)) = true) (beqT h9) <| P0))
              (fun h9 H =>
                eN H <| gE func3 [rg [hT 2, hF 10]] (by kernel_rfl) (P2 (((t5 : Int) == t3) = true) (beqT h8) <| P2 (((r2.1 : Int) == ((l9.length : Nat) : Int)) = false) (beqF h9) <| P0)))
            (fun h8 H =>
              eN H <| gE func3 [rg [hF 2]] (by kernel_rfl) (P2 (((t5 : Int) == t3) = false) (beqF h8) <| P0)))))
      (fun h3 H =>
        eBind H fun r4 hr4 H =>
        gN [rg [hC 6 false [] (Ri_StepsWithin r2) [], hF 9]] (by kernel_rfl) (P1 (ci_StepsWithin hr2) <| P2 (r2.2 = false) (eqF h3) <| P0) <|
        eIf H (fun h5 H =>
          eBind H fun r6 hr6 H =>
          gN [rg [hC 3 false [] (Ri_ReversePath r4) [], hT 7]] (by kernel_rfl) (P2 (nfL (List.flatMap D.cells (Ri_ReversePath r4))) ⟨trivial, nfL_map nf_3 _, trivial, trivial⟩ <| P2 (nfG []) trivial <| P1 (ci_ReversePath hr4) <| P2 (r4.2.2 = true) (h5) <| P0) <|
          eIf H (fun h7 H =>
            gN [rg [hC 3 false [] (Ri_ReversePath r6) [], hT 7]] (by kernel_rfl) (P2 (nfL (List.flatMap D.cells (Ri_ReversePath r6))) ⟨trivial, nfL_map nf_3 _, trivial, trivial⟩ <| P2 (nfG []) trivial <| P1 (ci_ReversePath hr6) <| P2 (r6.2.2 = true) (h7) <| P0) <|
            eIf H (fun h8 H =>
              eN H <| gE func3 [rg [hT 2]] (by kernel_rfl) (P2 (((t5 : Int) == t3) = true) (beqT h8) <| P0))
            (fun h8 H =>
              eN H <| gE func3 [rg [hF 2]] (by kernel_rfl) (P2 (((t5 : Int) == t3) = false) (beqF h8) <| P0)))
          (fun h7 H =>
            gN [rg [hC 3 false [] (Ri_ReversePath r6) [], hF 7]] (by kernel_rfl) (P2 (nfL (List.flatMap D.cells (Ri_ReversePath r6))) ⟨trivial, nfL_map nf_3 _, trivial, trivial⟩ <| P2 (nfG []) trivial <| P1 (ci_ReversePath hr6) <| P2 (r6.2.2 = false) (eqF h7) <| P0) <|
            eIf H (fun h8 H =>
              eN H <| gE func3 [rg [hT 2]] (by kernel_rfl) (P2 (((t5 : Int) == t3) = true) (beqT h8) <| P0))
            (fun h8 H =>
              eN H <| gE func3 [rg [hF 2]] (by kernel_rfl) (P2 (((t5 : Int) == t3) = false) (beqF h8) <| P0))))
        (fun h5 H =>
          eBind H fun r6 hr6 H =>
          gN [rg [hC 3 false [] (Ri_ReversePath r4) [], hF 7]] (by kernel_rfl) (P2 (nfL (List.flatMap D.cells (Ri_ReversePath r4))) ⟨trivial, nfL_map nf_3 _, trivial, trivial⟩ <| P2 (nfG []) trivial <| P1 (ci_ReversePath hr4) <| P2 (r4.2.2 = false) (eqF h5) <| P0) <|
          eIf H (fun h7 H =>
            gN [rg [hC 3 false [] (Ri_ReversePath r6) [], hT 7]] (by kernel_rfl) (P2 (nfL (List.flatMap D.cells (Ri_ReversePath r6))) ⟨trivial, nfL_map nf_3 _, trivial, trivial⟩ <| P2 (nfG []) trivial <| P1 (ci_ReversePath hr6) <| P2 (r6.2.2 = true) (h7) <| P0) <|
            eIf H (fun h8 H =>
              eN H <| gE func3 [rg [hT 2]] (by kernel_rfl) (P2 (((t5 : Int) == t3) = true) (beqT h8) <| P0))
            (fun h8 H =>
              eN H <| gE func3 [rg [hF 2]] (by kernel_rfl) (P2 (((t5 : Int) == t3) = false) (beqF h8) <| P0)))
          (fun h7 H =>
            gN [rg [hC 3 false [] (Ri_ReversePath r6) [], hF 7]] (by kernel_rfl) (P2 (nfL (List.flatMap D.cells (Ri_ReversePath r6))) ⟨trivial, nfL_map nf_3 _, trivial, trivial⟩ <| P2 (nfG []) trivial <| P1 (ci_ReversePath hr6) <| P2 (r6.2.2 = false) (eqF h7) <| P0) <|
            eIf H (fun h8 H =>
              eN H <| gE func3 [rg [hT 2]] (by kernel_rfl) (P2 (((t5 : Int) == t3) = true) (beqT h8) <| P0))
            (fun h8 H =>
              eN H <| gE func3 [rg [hF 2]] (by kernel_rfl) (P2 (((t5 : Int) == t3) = false) (beqF h8) <| P0))))))
theorem ww_FnCosts : ∀ s r, loop Bw_FnCosts s = some r → Wc X 3 0 (Kw_FnCosts s) (Zw_FnCosts s) (RB r) ((fun _ => []) r) := Nx.all nw_FnCosts
theorem cw_FnCosts {a0 : (List Int)} {a1 : (List Int)} {r : Bool} (H : Dw_FnCosts a0 a1 = some r) : Ct X.P X.gl 3 [sl 1 (D.int .u8) a0, sl 1 (D.int .u8) a1] [] (RB r) [] :=
  Ct.of func3 (c := bdy f3) (by kernel_rfl) (by kernel_rfl) <|
  gS [r0] (by kernel_rfl) P0 <|
  eIf H (fun h1 H =>
    eW RB (fun _ => []) H <| gE func3 [rg [hT 5], r0] (by kernel_rfl) (P2 ((decide ((IntKind.wrap .i64 (((a0.length : Nat) : Int) + ((a1.length : Nat) : Int))) > 1048576)) = true) (decide_eq_true h1) <| P0))
  (fun h1 H =>
    eBind H fun r2 hr2 H =>
    eBind H fun r3 hr3 H =>
    eBind H fun r4 hr4 H =>
    eBind H fun r5 hr5 H =>
    eBind H fun r6 hr6 H =>
    gS [rg [hF 5], rg [hC 1 true [] (Rs_DrawPathCost r2) []], rg [hC 5 false [] (Ri_PathCost r3) []], rg [hC 5 false [] (Rs_PathCost r4) []], rg [hC 1 true [] (Rs_DrawStepsWithin r5) []]] (by kernel_rfl) (P2 ((decide ((IntKind.wrap .i64 (((a0.length : Nat) : Int) + ((a1.length : Nat) : Int))) > 1048576)) = false) (decide_eq_false h1) <| P1 (cs_DrawPathCost hr2) <| P1 (ci_PathCost hr3) <| P1 (cs_PathCost hr4) <| P1 (cs_DrawStepsWithin hr5) <| P0) <|
    eIf H (fun h7 H =>
      eBind H fun r8 hr8 H =>
      gS [rg [hC 6 false [] (Ri_StepsWithin r6) [], hT 9], rg [hC 6 false [] (Rs_StepsWithin r8) []]] (by kernel_rfl) (P1 (ci_StepsWithin hr6) <| P2 (r6.2 = true) (h7) <| P1 (cs_StepsWithin hr8) <| P0) <|
      eIf H (fun h9 H =>
        eW RB (fun _ => []) H <| gE func3 [rg [hT 2], r0] (by kernel_rfl) (P2 ((!(r3.2 == r4.2)) = true) (h9) <| P0))
      (fun h9 H =>
        eIf H (fun h10 H =>
          eIf H (fun h11 H =>
            eW RB (fun _ => []) H <| gE func3 [rg [hF 2, hF 6, hT 11], r0] (by kernel_rfl) (P2 ((!(r3.2 == r4.2)) = false) (eqF h9) <| P2 (((r3.1 : Int) != r4.1) = false) (bneF h10) <| P2 ((!(true == r8.2)) = true) (h11) <| P0))
          (fun h11 H =>
            eIf H (fun h12 H =>
              eCk H fun h13 H =>
              eCk H fun h14 H =>
              eBind H fun r15 hr15 H =>
              gS [rg [hF 2, hF 6, hF 11, hF 16], r0] (by kernel_rfl) (P2 ((!(r3.2 == r4.2)) = false) (eqF h9) <| P2 (((r3.1 : Int) != r4.1) = false) (bneF h10) <| P2 ((!(true == r8.2)) = false) (eqF h11) <| P2 (((r6.1 : Int) != r8.1) = false) (bneF h12) <| P0) <|
              eIf H (fun h16 H =>
                gS [rg [{ i := 7, call := some { cl := false, ins := [], args := [.agg [sl 5 gi_Terrain r5.1.Rules.Terrains, sl 6 gi_Kind r5.1.Rules.Kinds, I r5.1.Rules.Stack, I r5.1.Rules.River, I r5.1.Rules.Road, I r5.1.Rules.Supply, I r5.1.Rules.Turns, I r5.1.Map.Width, I r5.1.Map.Height, sl 1 I r5.1.Map.Terrain, sl 1 I r5.1.Map.Rivers, sl 1 I r5.1.Map.Roads], I r5.2.1, I r5.2.2.1, I r5.2.2.2.1, sl 1 I (List.take ((Int.toNat r6.1) - 0) (List.drop 0 r5.2.2.2.2.1))], res := Ri_PathCost r15, G' := [] } }, hT 10]] (by kernel_rfl) (P2 ((0 : Int) ≤ r6.1) h13 <| P2 ((r6.1 : Int) ≤ ((r5.2.2.2.2.1.length : Nat) : Int)) h14 <| PL gi_Terrain r5.1.Rules.Terrains <| PL gi_Kind r5.1.Rules.Kinds <| PI (r5.1.Rules.Stack : Int) <| PI (r5.1.Rules.River : Int) <| PI (r5.1.Rules.Road : Int) <| PI (r5.1.Rules.Supply : Int) <| PI (r5.1.Rules.Turns : Int) <| PI (r5.1.Map.Width : Int) <| PI (r5.1.Map.Height : Int) <| PL I r5.1.Map.Terrain <| PL I r5.1.Map.Rivers <| PL I r5.1.Map.Roads <| PI (r5.2.1 : Int) <| PI (r5.2.2.1 : Int) <| PI (r5.2.2.2.1 : Int) <| P2 (((Int.toNat r6.1) - 0) = (List.take ((Int.toNat r6.1) - 0) (List.drop 0 r5.2.2.2.2.1)).length) (by first | (simp <;> omega) | (simp only [List.length_take, List.length_drop, List.length_nil] <;> omega)) <| P2 (erL (List.take ((Int.toNat r6.1) - 0) (List.drop 0 (List.map I r5.2.2.2.2.1))) = erL (List.map I (List.take ((Int.toNat r6.1) - 0) (List.drop 0 r5.2.2.2.2.1)))) (by rw [List.map_take, List.map_drop]) <| P1 (ci_PathCost hr15) <| P2 (r15.2 = true) (h16) <| P0) <|
                eIf H (fun h17 H =>
                  eW RB (fun _ => []) H <| gE func3 [rg [hT 5], r0] (by kernel_rfl) (P2 ((decide (r15.1 > r5.2.2.2.2.2)) = true) (decide_eq_true h17) <| P0))
                (fun h17 H =>
                  gO [rg [hF 5], .canon [16, 15] [5, 6, 7, 8, 9, 10, 11]] (by kernel_rfl) (P2 ((decide (r15.1 > r5.2.2.2.2.2)) = false) (decide_eq_false h17) <| P0) (ww_FnCosts _ _ H)))
              (fun h16 H =>
                eW RB (fun _ => []) H <| gE func3 [rg [{ i := 7, call := some { cl := false, ins := [], args := [.agg [sl 5 gi_Terrain r5.1.Rules.Terrains, sl 6 gi_Kind r5.1.Rules.Kinds, I r5.1.Rules.Stack, I r5.1.Rules.River, I r5.1.Rules.Road, I r5.1.Rules.Supply, I r5.1.Rules.Turns, I r5.1.Map.Width, I r5.1.Map.Height, sl 1 I r5.1.Map.Terrain, sl 1 I r5.1.Map.Rivers, sl 1 I r5.1.Map.Roads], I r5.2.1, I r5.2.2.1, I r5.2.2.2.1, sl 1 I (List.take ((Int.toNat r6.1) - 0) (List.drop 0 r5.2.2.2.2.1))], res := Ri_PathCost r15, G' := [] } }, hF 10], r0, r0] (by kernel_rfl) (P2 ((0 : Int) ≤ r6.1) h13 <| P2 ((r6.1 : Int) ≤ ((r5.2.2.2.2.1.length : Nat) : Int)) h14 <| PL gi_Terrain r5.1.Rules.Terrains <| PL gi_Kind r5.1.Rules.Kinds <| PI (r5.1.Rules.Stack : Int) <| PI (r5.1.Rules.River : Int) <| PI (r5.1.Rules.Road : Int) <| PI (r5.1.Rules.Supply : Int) <| PI (r5.1.Rules.Turns : Int) <| PI (r5.1.Map.Width : Int) <| PI (r5.1.Map.Height : Int) <| PL I r5.1.Map.Terrain <| PL I r5.1.Map.Rivers <| PL I r5.1.Map.Roads <| PI (r5.2.1 : Int) <| PI (r5.2.2.1 : Int) <| PI (r5.2.2.2.1 : Int) <| P2 (((Int.toNat r6.1) - 0) = (List.take ((Int.toNat r6.1) - 0) (List.drop 0 r5.2.2.2.2.1)).length) (by first | (simp <;> omega) | (simp only [List.length_take, List.length_drop, List.length_nil] <;> omega)) <| P2 (erL (List.take ((Int.toNat r6.1) - 0) (List.drop 0 (List.map I r5.2.2.2.2.1))) = erL (List.map I (List.take ((Int.toNat r6.1) - 0) (List.drop 0 r5.2.2.2.2.1)))) (by rw [List.map_take, List.map_drop]) <| P1 (ci_PathCost hr15) <| P2 (r15.2 = false) (eqF h16) <| P0)))
            (fun h12 H =>
              eW RB (fun _ => []) H <| gE func3 [rg [hF 2, hF 6, hF 11, hT 16], r0] (by kernel_rfl) (P2 ((!(r3.2 == r4.2)) = false) (eqF h9) <| P2 (((r3.1 : Int) != r4.1) = false) (bneF h10) <| P2 ((!(true == r8.2)) = false) (eqF h11) <| P2 (((r6.1 : Int) != r8.1) = true) (bneT h12) <| P0))))
        (fun h10 H =>
          eW RB (fun _ => []) H <| gE func3 [rg [hF 2, hT 6], r0] (by kernel_rfl) (P2 ((!(r3.2 == r4.2)) = false) (eqF h9) <| P2 (((r3.1 : Int) != r4.1) = true) (bneT h10) <| P0))))
    (fun h7 H =>
      eBind H fun r8 hr8 H =>
      gS [rg [hC 6 false [] (Ri_StepsWithin r6) [], hF 9], rg [hC 6 false [] (Rs_StepsWithin r8) []]] (by kernel_rfl) (P1 (ci_StepsWithin hr6) <| P2 (r6.2 = false) (eqF h7) <| P1 (cs_StepsWithin hr8) <| P0) <|
      eIf H (fun h9 H =>
        eW RB (fun _ => []) H <| gE func3 [rg [hT 2], r0] (by kernel_rfl) (P2 ((!(r3.2 == r4.2)) = true) (h9) <| P0))
      (fun h9 H =>
        eIf H (fun h10 H =>
          eIf H (fun h11 H =>
            eW RB (fun _ => []) H <| gE func3 [rg [hF 2, hF 6, hT 11], r0] (by kernel_rfl) (P2 ((!(r3.2 == r4.2)) = false) (eqF h9) <| P2 (((r3.1 : Int) != r4.1) = false) (bneF h10) <| P2 ((!(false == r8.2)) = true) (h11) <| P0))
          (fun h11 H =>
            eIf H (fun h12 H =>
              gO [rg [hF 2, hF 6, hF 11, hF 16], r0, .canon [16, 15] [5, 6, 7, 8, 9, 10, 11]] (by kernel_rfl) (P2 ((!(r3.2 == r4.2)) = false) (eqF h9) <| P2 (((r3.1 : Int) != r4.1) = false) (bneF h10) <| P2 ((!(false == r8.2)) = false) (eqF h11) <| P2 (((r6.1 : Int) != r8.1) = false) (bneF h12) <| P0) (ww_FnCosts _ _ H))
            (fun h12 H =>
              eW RB (fun _ => []) H <| gE func3 [rg [hF 2, hF 6, hF 11, hT 16], r0] (by kernel_rfl) (P2 ((!(r3.2 == r4.2)) = false) (eqF h9) <| P2 (((r3.1 : Int) != r4.1) = false) (bneF h10) <| P2 ((!(false == r8.2)) = false) (eqF h11) <| P2 (((r6.1 : Int) != r8.1) = true) (bneT h12) <| P0))))
        (fun h10 H =>
          eW RB (fun _ => []) H <| gE func3 [rg [hF 2, hT 6], r0] (by kernel_rfl) (P2 ((!(r3.2 == r4.2)) = false) (eqF h9) <| P2 (((r3.1 : Int) != r4.1) = true) (bneT h10) <| P0)))))
end Go.Proofs.YtpggeanoohlmjaaGreatDoor.Ab
