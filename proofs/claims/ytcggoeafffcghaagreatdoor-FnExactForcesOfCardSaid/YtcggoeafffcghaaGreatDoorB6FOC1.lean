/- Part of the proof of FnExactForcesOfCard: no condition of its own. -/
import Derived.Test.YtcggoeafffcghaaGreatDoorB6FOC
set_option linter.unusedVariables false
set_option linter.unusedSimpArgs false
open Go Go.Proofs Go.Proofs.Tryz
namespace Go.Proofs.YtcggoeafffcghaaGreatDoor.Ab
/-! loop example/g00886/impl goodConditions -/
noncomputable def Ki_goodConditions : Si_goodConditions → List Item
  | .h1 .. => nav 300 3 [false] [.code (bdy f44)]
def Zi_goodConditions : Si_goodConditions → St
  | .h1 t0 t1 t2 b3 b4 => ⟨sts 60 [(2, .ptr 0 12 0 0), (3, .ptr 1 3 0 0), (24, sl 2 gi_Goal t0), (25, I t1), (26, I t2)], [some ⟨false, true, 12, 1, [.agg [sl 5 gi_Terrain b3.Rules.Terrains, sl 6 gi_Kind b3.Rules.Kinds, I b3.Rules.Stack, I b3.Rules.River, I b3.Rules.Road, I b3.Rules.Supply, I b3.Rules.Turns, I b3.Map.Width, I b3.Map.Height, sl 1 I b3.Map.Terrain, sl 1 I b3.Map.Rivers, sl 1 I b3.Map.Roads]]⟩, some ⟨false, true, 3, 1, [.agg [sl 2 gi_Goal b4.Goals, I b4.Step, I b4.Margin]]⟩]⟩
abbrev Qi_goodConditions := Nx X 44 0 Ki_goodConditions Zi_goodConditions RB (fun _ => [])
theorem ni_goodConditions : ∀ s o, Bi_goodConditions s = some o → Qi_goodConditions (Ki_goodConditions s) (Zi_goodConditions s) o
  | .h1 t0 t1 t2 b3 b4, o, H =>
    eIf H (fun h1 H =>
      eCk H fun h2 H =>
      eBind H fun x3 hx3 H =>
      eBind H fun r4 hr4 H =>
      eBind H fun r5 hr5 H =>
      gN [rg [hT 0], rg [hE 2 (gi_Goal x3)]] (by kernel_rfl) (P2 ((decide (t2 < t1)) = true) (decide_eq_true h1) <| P1 h2 <| P1 (int_lt_of_at h2 hx3) <| P1 (at_map gi_Goal hx3) <| P0) <|
      eIf H (fun h6 H =>
        eBind H fun r7 hr7 H =>
        eIf H (fun h8 H =>
          eIf H (fun h9 H =>
            eCk H fun h10 H =>
            eBind H fun x11 hx11 H =>
            eIf H (fun h12 H =>
              eN H <| gE func44 [rg [hC 3 true [] (RI r4) [], { i := 4, call := some { cl := true, auto := true, ins := [], res := (RB r5), G' := [] }, dec := some true }, { i := 9, call := some { cl := true, auto := true, ins := [], res := (RB r7), G' := [] }, dec := some true }, hT 14, hE 22 (gi_Goal x11), hT 25], r0] (by kernel_rfl) (P1 (ci_sizeOf hr4) <| P1 (ci_isIndex hr5) <| P2 (r5 = true) (h6) <| P1 (ci_inRange hr7) <| P2 (r7 = true) (h8) <| P2 ((decide (t2 > 0)) = true) (decide_eq_true h9) <| P1 h10 <| P1 (int_lt_of_at h10 hx11) <| P1 (at_map gi_Goal hx11) <| P2 ((decide (x11.At ≥ x3.At)) = true) (decide_eq_true h12) <| P0))
            (fun h12 H =>
              eN H fun r hn => gO [rg [hC 3 true [] (RI r4) [], { i := 4, call := some { cl := true, auto := true, ins := [], res := (RB r5), G' := [] }, dec := some true }, { i := 9, call := some { cl := true, auto := true, ins := [], res := (RB r7), G' := [] }, dec := some true }, hT 14, hE 22 (gi_Goal x11), hF 25], r0, .canon [0, 1] [2, 3, 24, 25, 26]] (by kernel_rfl) (P1 (ci_sizeOf hr4) <| P1 (ci_isIndex hr5) <| P2 (r5 = true) (h6) <| P1 (ci_inRange hr7) <| P2 (r7 = true) (h8) <| P2 ((decide (t2 > 0)) = true) (decide_eq_true h9) <| P1 h10 <| P1 (int_lt_of_at h10 hx11) <| P1 (at_map gi_Goal hx11) <| P2 ((decide (x11.At ≥ x3.At)) = false) (decide_eq_false h12) <| P0) hn))
          (fun h9 H =>
            eN H fun r hn => gO [rg [hC 3 true [] (RI r4) [], { i := 4, call := some { cl := true, auto := true, ins := [], res := (RB r5), G' := [] }, dec := some true }, { i := 9, call := some { cl := true, auto := true, ins := [], res := (RB r7), G' := [] }, dec := some true }, hF 14], r0, .canon [0, 1] [2, 3, 24, 25, 26]] (by kernel_rfl) (P1 (ci_sizeOf hr4) <| P1 (ci_isIndex hr5) <| P2 (r5 = true) (h6) <| P1 (ci_inRange hr7) <| P2 (r7 = true) (h8) <| P2 ((decide (t2 > 0)) = false) (decide_eq_false h9) <| P0) hn))
        (fun h8 H =>
          eN H <| gE func44 [rg [hC 3 true [] (RI r4) [], { i := 4, call := some { cl := true, auto := true, ins := [], res := (RB r5), G' := [] }, dec := some true }, { i := 9, call := some { cl := true, auto := true, ins := [], res := (RB r7), G' := [] }, dec := some false }], r0] (by kernel_rfl) (P1 (ci_sizeOf hr4) <| P1 (ci_isIndex hr5) <| P2 (r5 = true) (h6) <| P1 (ci_inRange hr7) <| P2 (r7 = false) (eqF h8) <| P0)))
      (fun h6 H =>
        eN H <| gE func44 [rg [hC 3 true [] (RI r4) [], { i := 4, call := some { cl := true, auto := true, ins := [], res := (RB r5), G' := [] }, dec := some false }], r0] (by kernel_rfl) (P1 (ci_sizeOf hr4) <| P1 (ci_isIndex hr5) <| P2 (r5 = false) (eqF h6) <| P0)))
    (fun h1 H =>
      eN H <| gE func44 [rg [hF 0], r0] (by kernel_rfl) (P2 ((decide (t2 < t1)) = false) (decide_eq_false h1) <| P0))
theorem wi_goodConditions : ∀ s r, loop Bi_goodConditions s = some r → Wc X 44 0 (Ki_goodConditions s) (Zi_goodConditions s) (RB r) ((fun _ => []) r) := Nx.all ni_goodConditions
theorem ci_goodConditions {a0 : Gi_Board} {a1 : Gi_Conditions} {r : Bool} (H : Di_goodConditions a0 a1 = some r) : Ct X.P X.gl 44 [.agg [sl 5 gi_Terrain a0.Rules.Terrains, sl 6 gi_Kind a0.Rules.Kinds, I a0.Rules.Stack, I a0.Rules.River, I a0.Rules.Road, I a0.Rules.Supply, I a0.Rules.Turns, I a0.Map.Width, I a0.Map.Height, sl 1 I a0.Map.Terrain, sl 1 I a0.Map.Rivers, sl 1 I a0.Map.Roads], .agg [sl 2 gi_Goal a1.Goals, I a1.Step, I a1.Margin]] [] (RB r) [] :=
  Ct.of func44 (c := bdy f44) (by kernel_rfl) (by kernel_rfl) <|
  gS [r0] (by kernel_rfl) P0 <|
  eIf H (fun h1 H =>
    eW RB (fun _ => []) H <| gE func44 [rg [hT 3], r0] (by kernel_rfl) (P2 ((decide (((a1.Goals.length : Nat) : Int) > 12)) = true) (decide_eq_true h1) <| P0))
  (fun h1 H =>
    eBind H fun r2 hr2 H =>
    eIf H (fun h3 H =>
      eBind H fun r4 hr4 H =>
      eIf H (fun h5 H =>
        gO [rg [hF 3, { i := 7, call := some { cl := true, auto := true, ins := [], res := (RB r2), G' := [] }, dec := some true }, { i := 13, call := some { cl := true, auto := true, ins := [], res := (RB r4), G' := [] }, dec := some true }], r0, .canon [0, 1] [2, 3, 24, 25, 26]] (by kernel_rfl) (P2 ((decide (((a1.Goals.length : Nat) : Int) > 12)) = false) (decide_eq_false h1) <| P1 (ci_inRange hr2) <| P2 (r2 = true) (h3) <| P1 (ci_inRange hr4) <| P2 (r4 = true) (h5) <| P0) (wi_goodConditions _ _ H))
      (fun h5 H =>
        eW RB (fun _ => []) H <| gE func44 [rg [hF 3, { i := 7, call := some { cl := true, auto := true, ins := [], res := (RB r2), G' := [] }, dec := some true }, { i := 13, call := some { cl := true, auto := true, ins := [], res := (RB r4), G' := [] }, dec := some false }], r0] (by kernel_rfl) (P2 ((decide (((a1.Goals.length : Nat) : Int) > 12)) = false) (decide_eq_false h1) <| P1 (ci_inRange hr2) <| P2 (r2 = true) (h3) <| P1 (ci_inRange hr4) <| P2 (r4 = false) (eqF h5) <| P0)))
    (fun h3 H =>
      eW RB (fun _ => []) H <| gE func44 [rg [hF 3, { i := 7, call := some { cl := true, auto := true, ins := [], res := (RB r2), G' := [] }, dec := some false }], r0] (by kernel_rfl) (P2 ((decide (((a1.Goals.length : Nat) : Int) > 12)) = false) (decide_eq_false h1) <| P1 (ci_inRange hr2) <| P2 (r2 = false) (eqF h3) <| P0)))
/-! loop example/g00886/impl areSources 1 -/
theorem ci_areSources_1 {a0 : Int} {a1 : Gi_Board} {r : Bool} (H : Di_areSources_1 a0 a1 = some r) : Ct X.P X.gl 102 [I a0, .fptr 12 [.agg [sl 5 gi_Terrain a1.Rules.Terrains, sl 6 gi_Kind a1.Rules.Kinds, I a1.Rules.Stack, I a1.Rules.River, I a1.Rules.Road, I a1.Rules.Supply, I a1.Rules.Turns, I a1.Map.Width, I a1.Map.Height, sl 1 I a1.Map.Terrain, sl 1 I a1.Map.Rivers, sl 1 I a1.Map.Roads]] 0 0] [] (RB r) [] :=
  have H := (Di_areSources_1.eq_1 ..).symm.trans H
  Ct.of func102 (c := bdy f102) (by kernel_rfl) (by kernel_rfl) <|
  eBind H fun r1 hr1 H =>
  eBind H fun r2 hr2 H =>
  eW RB (fun _ => []) H <| gE func102 [r0, rg [hC 2 true [] (RI r1) [], hC 3 true [] (RB r2) []]] (by kernel_rfl) (P1 (ci_sizeOf hr1) <| P1 (ci_isIndex hr2) <| P0)
/-! slices IndexFunc   int int  -/
noncomputable def Kslices_IndexFunc_int_i_areSources_1 : Sslices_IndexFunc_int_i_areSources_1 → List Item
  | .h1 .. => nav 300 2 [] [.code (bdy f147)]
def Zslices_IndexFunc_int_i_areSources_1 : Sslices_IndexFunc_int_i_areSources_1 → St
  | .h1 s0 f1 t2 t3 => ⟨sts 19 [(0, sl 1 I s0), (1, .fn 102 [.fptr 12 [.agg [sl 5 gi_Terrain f1.Rules.Terrains, sl 6 gi_Kind f1.Rules.Kinds, I f1.Rules.Stack, I f1.Rules.River, I f1.Rules.Road, I f1.Rules.Supply, I f1.Rules.Turns, I f1.Map.Width, I f1.Map.Height, sl 1 I f1.Map.Terrain, sl 1 I f1.Map.Rivers, sl 1 I f1.Map.Roads]] 0 0]), (7, I t2), (8, I t3)], []⟩
abbrev Qslices_IndexFunc_int_i_areSources_1 := Nx X 147 0 Kslices_IndexFunc_int_i_areSources_1 Zslices_IndexFunc_int_i_areSources_1 RI (fun _ => [])
theorem nslices_IndexFunc_int_i_areSources_1 : ∀ s o, Bslices_IndexFunc_int_i_areSources_1 s = some o → Qslices_IndexFunc_int_i_areSources_1 (Kslices_IndexFunc_int_i_areSources_1 s) (Zslices_IndexFunc_int_i_areSources_1 s) o
  | .h1 s0 f1 t2 t3, o, H =>
    eIf H (fun h1 H =>
      eCk H fun h2 H =>
      eBind H fun x3 hx3 H =>
      eBind H fun r4 hr4 H =>
      gN [rg [hT 0], r0] (by kernel_rfl) (P2 ((decide (t3 < t2)) = true) (decide_eq_true h1) <| P0) <|
      eIf H (fun h5 H =>
        eN H <| gE func147 [rg [hE 4 (I x3), { i := 5, call := some { cl := true, auto := true, ins := [], res := (RB r4), G' := [] }, dec := some true }], r0] (by kernel_rfl) (P1 h2 <| P1 (int_lt_of_at h2 hx3) <| P1 (at_map I hx3) <| P1 (ci_areSources_1 hr4) <| P2 (r4 = true) (h5) <| P0))
      (fun h5 H =>
        eN H fun r hn => gO [rg [hE 4 (I x3), { i := 5, call := some { cl := true, auto := true, ins := [], res := (RB r4), G' := [] }, dec := some false }], r0, .canon [] [0, 1, 7, 8]] (by kernel_rfl) (P1 h2 <| P1 (int_lt_of_at h2 hx3) <| P1 (at_map I hx3) <| P1 (ci_areSources_1 hr4) <| P2 (r4 = false) (eqF h5) <| P0) hn))
    (fun h1 H =>
      eN H <| gE func147 [rg [hF 0], r0] (by kernel_rfl) (P2 ((decide (t3 < t2)) = false) (decide_eq_false h1) <| P0))
theorem wslices_IndexFunc_int_i_areSources_1 : ∀ s r, loop Bslices_IndexFunc_int_i_areSources_1 s = some r → Wc X 147 0 (Kslices_IndexFunc_int_i_areSources_1 s) (Zslices_IndexFunc_int_i_areSources_1 s) (RI r) ((fun _ => []) r) := Nx.all nslices_IndexFunc_int_i_areSources_1
theorem cslices_IndexFunc_int_i_areSources_1 {a0 : (List Int)} {a100 : Gi_Board} {r : Int} (H : Dslices_IndexFunc_int_i_areSources_1 a0 a100 = some r) : Ct X.P X.gl 147 [sl 1 I a0, .fn 102 [.fptr 12 [.agg [sl 5 gi_Terrain a100.Rules.Terrains, sl 6 gi_Kind a100.Rules.Kinds, I a100.Rules.Stack, I a100.Rules.River, I a100.Rules.Road, I a100.Rules.Supply, I a100.Rules.Turns, I a100.Map.Width, I a100.Map.Height, sl 1 I a100.Map.Terrain, sl 1 I a100.Map.Rivers, sl 1 I a100.Map.Roads]] 0 0]] [] (RI r) [] :=
  Ct.of func147 (c := bdy f147) (by kernel_rfl) (by kernel_rfl) <|
  gO [r0, r0, .canon [] [0, 1, 7, 8]] (by kernel_rfl) P0 (wslices_IndexFunc_int_i_areSources_1 _ _ H)
/-! slices ContainsFunc   int int  -/
theorem cslices_ContainsFunc_int_i_areSources_1 {a0 : (List Int)} {a100 : Gi_Board} {r : Bool} (H : Dslices_ContainsFunc_int_i_areSources_1 a0 a100 = some r) : Ct X.P X.gl 94 [sl 1 I a0, .fn 102 [.fptr 12 [.agg [sl 5 gi_Terrain a100.Rules.Terrains, sl 6 gi_Kind a100.Rules.Kinds, I a100.Rules.Stack, I a100.Rules.River, I a100.Rules.Road, I a100.Rules.Supply, I a100.Rules.Turns, I a100.Map.Width, I a100.Map.Height, sl 1 I a100.Map.Terrain, sl 1 I a100.Map.Rivers, sl 1 I a100.Map.Roads]] 0 0]] [] (RB r) [] :=
  Ct.of func94 (c := bdy f94) (by kernel_rfl) (by kernel_rfl) <|
  eBind H fun r1 hr1 H =>
  eW RB (fun _ => []) H <| gE func94 [r0, rg [hC 2 true [] (RI r1) []]] (by kernel_rfl) (P1 (cslices_IndexFunc_int_i_areSources_1 hr1) <| P0)
/-! loop example/g00886/impl areSources -/
theorem ci_areSources {a0 : Gi_Board} {a1 : (List Int)} {r : Bool} (H : Di_areSources a0 a1 = some r) : Ct X.P X.gl 45 [.agg [sl 5 gi_Terrain a0.Rules.Terrains, sl 6 gi_Kind a0.Rules.Kinds, I a0.Rules.Stack, I a0.Rules.River, I a0.Rules.Road, I a0.Rules.Supply, I a0.Rules.Turns, I a0.Map.Width, I a0.Map.Height, sl 1 I a0.Map.Terrain, sl 1 I a0.Map.Rivers, sl 1 I a0.Map.Roads], sl 1 I a1] [] (RB r) [] :=
  Ct.of func45 (c := bdy f45) (by kernel_rfl) (by kernel_rfl) <|
  gS [r0] (by kernel_rfl) P0 <|
  eIf H (fun h1 H =>
    eBind H fun r2 hr2 H =>
    eIf H (fun h3 H =>
      eBind H fun r4 hr4 H =>
      eW RB (fun _ => []) H <| gE func45 [rg [hT 2, { i := 5, call := some { cl := true, auto := true, ins := [], res := (RB r2), G' := [] }, dec := some true }, hC 10 false [] (RB r4) []]] (by kernel_rfl) (P2 ((decide (((a1.length : Nat) : Int) ≤ 6)) = true) (decide_eq_true h1) <| P1 (ci_increasing hr2) <| P2 (r2 = true) (h3) <| P1 (cslices_ContainsFunc_int_i_areSources_1 hr4) <| P0))
    (fun h3 H =>
      eW RB (fun _ => []) H <| gE func45 [rg [hT 2, { i := 5, call := some { cl := true, auto := true, ins := [], res := (RB r2), G' := [] }, dec := some false }]] (by kernel_rfl) (P2 ((decide (((a1.length : Nat) : Int) ≤ 6)) = true) (decide_eq_true h1) <| P1 (ci_increasing hr2) <| P2 (r2 = false) (eqF h3) <| P0)))
  (fun h1 H =>
    eW RB (fun _ => []) H <| gE func45 [rg [hF 2]] (by kernel_rfl) (P2 ((decide (((a1.length : Nat) : Int) ≤ 6)) = false) (decide_eq_false h1) <| P0))
/-! loop example/g00886/impl ScenarioFault -/
theorem ci_ScenarioFault {a0 : Gi_Scenario} {r : Int} (H : Di_ScenarioFault a0 = some r) : Ct X.P X.gl 12 [.agg [.str a0.Name, sl 5 gi_Terrain a0.Board.Rules.Terrains, sl 6 gi_Kind a0.Board.Rules.Kinds, I a0.Board.Rules.Stack, I a0.Board.Rules.River, I a0.Board.Rules.Road, I a0.Board.Rules.Supply, I a0.Board.Rules.Turns, I a0.Board.Map.Width, I a0.Board.Map.Height, sl 1 I a0.Board.Map.Terrain, sl 1 I a0.Board.Map.Rivers, sl 1 I a0.Board.Map.Roads, sl 2 gi_Odds a0.Table.Columns, I a0.Table.Dice, sl 1 (sl 1 I) a0.Table.Results, I a0.Start.Turn, I a0.Start.Weather, sl 4 gi_Unit a0.Start.Units, sl 2 gi_Goal a0.Conditions.Goals, I a0.Conditions.Step, I a0.Conditions.Margin, sl 1 I a0.First, sl 1 I a0.Other]] [] (RI r) [] :=
  Ct.of func12 (c := bdy f12) (by kernel_rfl) (by kernel_rfl) <|
  eBind H fun r1 hr1 H =>
  gS [r0] (by kernel_rfl) P0 <|
  eIf H (fun h2 H =>
    eBind H fun r3 hr3 H =>
    gS [rg [{ i := 2, call := some { cl := true, auto := true, ins := [], res := (RB r1), G' := [] }, dec := some true }]] (by kernel_rfl) (P1 (ci_isName hr1) <| P2 (r1 = true) (h2) <| P0) <|
    eIf H (fun h4 H =>
      eBind H fun r5 hr5 H =>
      gS [rg [{ i := 2, call := some { cl := true, auto := true, ins := [], res := (RB r3), G' := [] }, dec := some true }]] (by kernel_rfl) (P1 (ci_IsBoard hr3) <| P2 (r3 = true) (h4) <| P0) <|
      eIf H (fun h6 H =>
        eBind H fun r7 hr7 H =>
        gS [rg [{ i := 2, call := some { cl := true, auto := true, ins := [], res := (RB r5), G' := [] }, dec := some true }]] (by kernel_rfl) (P1 (ci_IsCombatTable hr5) <| P2 (r5 = true) (h6) <| P0) <|
        eIf H (fun h8 H =>
          eBind H fun r9 hr9 H =>
          gS [rg [{ i := 4, call := some { cl := true, auto := true, ins := [], res := (RB r7), G' := [] }, dec := some true }]] (by kernel_rfl) (P1 (ci_goodState hr7) <| P2 (r7 = true) (h8) <| P0) <|
          eIf H (fun h10 H =>
            eBind H fun r11 hr11 H =>
            gS [rg [{ i := 4, call := some { cl := true, auto := true, ins := [], res := (RB r9), G' := [] }, dec := some true }]] (by kernel_rfl) (P1 (ci_goodConditions hr9) <| P2 (r9 = true) (h10) <| P0) <|
            eIf H (fun h12 H =>
              eBind H fun r13 hr13 H =>
              eIf H (fun h14 H =>
                eW RI (fun _ => []) H <| gE func12 [rg [{ i := 4, call := some { cl := true, auto := true, ins := [], res := (RB r11), G' := [] }, dec := some true }, { i := 11, call := some { cl := true, auto := true, ins := [], res := (RB r13), G' := [] }, dec := some true }], r0] (by kernel_rfl) (P1 (ci_areSources hr11) <| P2 (r11 = true) (h12) <| P1 (ci_areSources hr13) <| P2 (r13 = true) (h14) <| P0))
              (fun h14 H =>
                eW RI (fun _ => []) H <| gE func12 [rg [{ i := 4, call := some { cl := true, auto := true, ins := [], res := (RB r11), G' := [] }, dec := some true }, { i := 11, call := some { cl := true, auto := true, ins := [], res := (RB r13), G' := [] }, dec := some false }], r0] (by kernel_rfl) (P1 (ci_areSources hr11) <| P2 (r11 = true) (h12) <| P1 (ci_areSources hr13) <| P2 (r13 = false) (eqF h14) <| P0)))
            (fun h12 H =>
              eW RI (fun _ => []) H <| gE func12 [rg [{ i := 4, call := some { cl := true, auto := true, ins := [], res := (RB r11), G' := [] }, dec := some false }], r0] (by kernel_rfl) (P1 (ci_areSources hr11) <| P2 (r11 = false) (eqF h12) <| P0)))
          (fun h10 H =>
            eW RI (fun _ => []) H <| gE func12 [rg [{ i := 4, call := some { cl := true, auto := true, ins := [], res := (RB r9), G' := [] }, dec := some false }], r0] (by kernel_rfl) (P1 (ci_goodConditions hr9) <| P2 (r9 = false) (eqF h10) <| P0)))
        (fun h8 H =>
          eW RI (fun _ => []) H <| gE func12 [rg [{ i := 4, call := some { cl := true, auto := true, ins := [], res := (RB r7), G' := [] }, dec := some false }], r0] (by kernel_rfl) (P1 (ci_goodState hr7) <| P2 (r7 = false) (eqF h8) <| P0)))
      (fun h6 H =>
        eW RI (fun _ => []) H <| gE func12 [rg [{ i := 2, call := some { cl := true, auto := true, ins := [], res := (RB r5), G' := [] }, dec := some false }], r0] (by kernel_rfl) (P1 (ci_IsCombatTable hr5) <| P2 (r5 = false) (eqF h6) <| P0)))
    (fun h4 H =>
      eW RI (fun _ => []) H <| gE func12 [rg [{ i := 2, call := some { cl := true, auto := true, ins := [], res := (RB r3), G' := [] }, dec := some false }], r0] (by kernel_rfl) (P1 (ci_IsBoard hr3) <| P2 (r3 = false) (eqF h4) <| P0)))
  (fun h2 H =>
    eW RI (fun _ => []) H <| gE func12 [rg [{ i := 2, call := some { cl := true, auto := true, ins := [], res := (RB r1), G' := [] }, dec := some false }], r0] (by kernel_rfl) (P1 (ci_isName hr1) <| P2 (r1 = false) (eqF h2) <| P0))
/-! loop example/g00886/impl IsScenario -/
theorem ci_IsScenario {a0 : Gi_Scenario} {r : Bool} (H : Di_IsScenario a0 = some r) : Ct X.P X.gl 15 [.agg [.str a0.Name, sl 5 gi_Terrain a0.Board.Rules.Terrains, sl 6 gi_Kind a0.Board.Rules.Kinds, I a0.Board.Rules.Stack, I a0.Board.Rules.River, I a0.Board.Rules.Road, I a0.Board.Rules.Supply, I a0.Board.Rules.Turns, I a0.Board.Map.Width, I a0.Board.Map.Height, sl 1 I a0.Board.Map.Terrain, sl 1 I a0.Board.Map.Rivers, sl 1 I a0.Board.Map.Roads, sl 2 gi_Odds a0.Table.Columns, I a0.Table.Dice, sl 1 (sl 1 I) a0.Table.Results, I a0.Start.Turn, I a0.Start.Weather, sl 4 gi_Unit a0.Start.Units, sl 2 gi_Goal a0.Conditions.Goals, I a0.Conditions.Step, I a0.Conditions.Margin, sl 1 I a0.First, sl 1 I a0.Other]] [] (RB r) [] :=
  Ct.of func15 (c := bdy f15) (by kernel_rfl) (by kernel_rfl) <|
  eBind H fun r1 hr1 H =>
  eW RB (fun _ => []) H <| gE func15 [r0, rg [hC 1 true [] (RI r1) []]] (by kernel_rfl) (P1 (ci_ScenarioFault hr1) <| P0)
/-! loop example/g00886/impl forceOf -/
theorem ci_forceOf {a0 : Gi_Board} {a1 : Gi_Unit} {r : Int} (H : Di_forceOf a0 a1 = some r) : Ct X.P X.gl 52 [.agg [sl 5 gi_Terrain a0.Rules.Terrains, sl 6 gi_Kind a0.Rules.Kinds, I a0.Rules.Stack, I a0.Rules.River, I a0.Rules.Road, I a0.Rules.Supply, I a0.Rules.Turns, I a0.Map.Width, I a0.Map.Height, sl 1 I a0.Map.Terrain, sl 1 I a0.Map.Rivers, sl 1 I a0.Map.Roads], .agg [I a1.Side, I a1.Kind, I a1.At, I a1.Steps]] [] (RI r) [] :=
  Ct.of func52 (c := bdy f52) (by kernel_rfl) (by kernel_rfl) <|
  eCk H fun h1 H =>
  eBind H fun x2 hx2 H =>
  eW RI (fun _ => []) H <| gE func52 [r0, rg [hE 7 (gi_Kind x2)]] (by kernel_rfl) (P1 h1 <| P1 (int_lt_of_at h1 hx2) <| P1 (at_map gi_Kind hx2) <| P0)
/-! loop example/g00886/impl ForcesOf -/
def Ri_ForcesOf (r : Int × Int × Bool) : List D := [I r.1, I r.2.1, .bool r.2.2]
noncomputable def Ki_ForcesOf : Si_ForcesOf → List Item
  | .h1 .. => nav 300 4 [false] [.code (bdy f17)]
def Zi_ForcesOf : Si_ForcesOf → St
  | .h1 t0 t1 t2 b3 b4 => ⟨sts 35 [(1, .ptr 0 24 0 0), (5, .ptr 1 2 0 0), (14, sl 4 gi_Unit t0), (15, I t1), (16, I t2)], [some ⟨false, true, 24, 1, [.agg [.str b3.Name, sl 5 gi_Terrain b3.Board.Rules.Terrains, sl 6 gi_Kind b3.Board.Rules.Kinds, I b3.Board.Rules.Stack, I b3.Board.Rules.River, I b3.Board.Rules.Road, I b3.Board.Rules.Supply, I b3.Board.Rules.Turns, I b3.Board.Map.Width, I b3.Board.Map.Height, sl 1 I b3.Board.Map.Terrain, sl 1 I b3.Board.Map.Rivers, sl 1 I b3.Board.Map.Roads, sl 2 gi_Odds b3.Table.Columns, I b3.Table.Dice, sl 1 (sl 1 I) b3.Table.Results, I b3.Start.Turn, I b3.Start.Weather, sl 4 gi_Unit b3.Start.Units, sl 2 gi_Goal b3.Conditions.Goals, I b3.Conditions.Step, I b3.Conditions.Margin, sl 1 I b3.First, sl 1 I b3.Other]]⟩, some ⟨false, true, 2, 1, [.agg [I b4.c0, I b4.c1]]⟩]⟩
abbrev Qi_ForcesOf := Nx X 17 0 Ki_ForcesOf Zi_ForcesOf Ri_ForcesOf (fun _ => [])
theorem ni_ForcesOf : ∀ s o, Bi_ForcesOf s = some o → Qi_ForcesOf (Ki_ForcesOf s) (Zi_ForcesOf s) o
  | .h1 t0 t1 t2 b3 b4, o, H =>
    eIf H (fun h1 H =>
      eCk H fun h2 H =>
      eBind H fun x3 hx3 H =>
      gN [rg [hT 0], rg [hE 1 (gi_Unit x3)]] (by kernel_rfl) (P2 ((decide (t2 < t1)) = true) (decide_eq_true h1) <| P1 h2 <| P1 (int_lt_of_at h2 hx3) <| P1 (at_map gi_Unit hx3) <| P0) <|
      eIf H (fun h4 H =>
        eBind H fun r5 hr5 H =>
        eN H fun r hn => gO [rg [{ i := 2, n := 0 }, hC 7 true [] (RI r5) [], { i := 9, n := 0 }], r0, .canon [0, 1] [1, 5, 14, 15, 16]] (by kernel_rfl) (P1 h4 <| P1 (ci_forceOf hr5) <| P1 h4 <| P0) hn)
      (fun h4 H =>
        eCk H fun h5 H =>
        eBind H fun r6 hr6 H =>
        eN H fun r hn => gO [rg [{ i := 2, n := 1 }, hC 7 true [] (RI r6) [], { i := 9, n := 1 }], r0, .canon [0, 1] [1, 5, 14, 15, 16]] (by kernel_rfl) (P1 h5 <| P1 (ci_forceOf hr6) <| P1 h5 <| P0) hn))
    (fun h1 H =>
      eN H <| gE func17 [rg [hF 0], rg [{ i := 0, n := 0 }, { i := 2, n := 1 }]] (by kernel_rfl) (P2 ((decide (t2 < t1)) = false) (decide_eq_false h1) <| P2 ((0 : Int) = ((0 : Nat) : Int)) rfl <| P2 ((1 : Int) = ((1 : Nat) : Int)) rfl <| P0))
theorem wi_ForcesOf : ∀ s r, loop Bi_ForcesOf s = some r → Wc X 17 0 (Ki_ForcesOf s) (Zi_ForcesOf s) (Ri_ForcesOf r) ((fun _ => []) r) := Nx.all ni_ForcesOf
theorem ci_ForcesOf {a0 : Gi_Scenario} {r : Int × Int × Bool} (H : Di_ForcesOf a0 = some r) : Ct X.P X.gl 17 [.agg [.str a0.Name, sl 5 gi_Terrain a0.Board.Rules.Terrains, sl 6 gi_Kind a0.Board.Rules.Kinds, I a0.Board.Rules.Stack, I a0.Board.Rules.River, I a0.Board.Rules.Road, I a0.Board.Rules.Supply, I a0.Board.Rules.Turns, I a0.Board.Map.Width, I a0.Board.Map.Height, sl 1 I a0.Board.Map.Terrain, sl 1 I a0.Board.Map.Rivers, sl 1 I a0.Board.Map.Roads, sl 2 gi_Odds a0.Table.Columns, I a0.Table.Dice, sl 1 (sl 1 I) a0.Table.Results, I a0.Start.Turn, I a0.Start.Weather, sl 4 gi_Unit a0.Start.Units, sl 2 gi_Goal a0.Conditions.Goals, I a0.Conditions.Step, I a0.Conditions.Margin, sl 1 I a0.First, sl 1 I a0.Other]] [] (Ri_ForcesOf r) [] :=
  Ct.of func17 (c := bdy f17) (by kernel_rfl) (by kernel_rfl) <|
  eBind H fun r1 hr1 H =>
  gS [r0] (by kernel_rfl) P0 <|
  eIf H (fun h2 H =>
    gO [rg [{ i := 1, call := some { cl := true, auto := true, ins := [], res := (RB r1), G' := [] }, dec := some true }], r0, r0, .canon [0, 1] [1, 5, 14, 15, 16]] (by kernel_rfl) (P1 (ci_IsScenario hr1) <| P2 (r1 = true) (h2) <| P0) (wi_ForcesOf _ _ H))
  (fun h2 H =>
    eW Ri_ForcesOf (fun _ => []) H <| gE func17 [rg [{ i := 1, call := some { cl := true, auto := true, ins := [], res := (RB r1), G' := [] }, dec := some false }], r0] (by kernel_rfl) (P1 (ci_IsScenario hr1) <| P2 (r1 = false) (eqF h2) <| P0))
/-! loop example/g00886/laws eqIntS -/
noncomputable def Kw_eqIntS : Sw_eqIntS → List Item
  | .h1 .. => nav 300 3 [false] [.code (bdy f20)]
def Zw_eqIntS : Sw_eqIntS → St
  | .h1 va0 b1 i2 => ⟨sts 26 [(0, sl 1 I va0), (1, sl 1 I b1), (5, I i2)], []⟩
abbrev Qw_eqIntS := Nx X 20 0 Kw_eqIntS Zw_eqIntS RB (fun _ => [])
theorem nw_eqIntS : ∀ s o, Bw_eqIntS s = some o → Qw_eqIntS (Kw_eqIntS s) (Zw_eqIntS s) o
  | .h1 va0 b1 i2, o, H =>
    eIf H (fun h1 H =>
      eCk H fun h2 H =>
      eBind H fun x3 hx3 H =>
      eCk H fun h4 H =>
      eBind H fun x5 hx5 H =>
      gN [rg [hT 3]] (by kernel_rfl) (P2 ((decide (i2 < ((va0.length : Nat) : Int))) = true) (decide_eq_true h1) <| P0) <|
      eIf H (fun h6 H =>
        eN H fun r hn => gO [rg [hE 3 (I x3), hE 7 (I x5), hF 8], r0, .canon [] [0, 1, 5]] (by kernel_rfl) (P1 h2 <| P1 (int_lt_of_at h2 hx3) <| P1 (at_map I hx3) <| P1 h4 <| P1 (int_lt_of_at h4 hx5) <| P1 (at_map I hx5) <| P2 (((x3 : Int) != x5) = false) (bneF h6) <| P0) hn)
      (fun h6 H =>
        eN H <| gE func20 [rg [hE 3 (I x3), hE 7 (I x5), hT 8], r0] (by kernel_rfl) (P1 h2 <| P1 (int_lt_of_at h2 hx3) <| P1 (at_map I hx3) <| P1 h4 <| P1 (int_lt_of_at h4 hx5) <| P1 (at_map I hx5) <| P2 (((x3 : Int) != x5) = true) (bneT h6) <| P0)))
    (fun h1 H =>
      eN H <| gE func20 [rg [hF 3], r0] (by kernel_rfl) (P2 ((decide (i2 < ((va0.length : Nat) : Int))) = false) (decide_eq_false h1) <| P0))
theorem ww_eqIntS : ∀ s r, loop Bw_eqIntS s = some r → Wc X 20 0 (Kw_eqIntS s) (Zw_eqIntS s) (RB r) ((fun _ => []) r) := Nx.all nw_eqIntS
theorem cw_eqIntS {a0 : (List Int)} {a1 : (List Int)} {r : Bool} (H : Dw_eqIntS a0 a1 = some r) : Ct X.P X.gl 20 [sl 1 I a0, sl 1 I a1] [] (RB r) [] :=
  Ct.of func20 (c := bdy f20) (by kernel_rfl) (by kernel_rfl) <|
  gS [r0] (by kernel_rfl) P0 <|
  eIf H (fun h1 H =>
    gO [rg [hF 4], r0, .canon [] [0, 1, 5]] (by kernel_rfl) (P2 (((((a0.length : Nat) : Int) : Int) != ((a1.length : Nat) : Int)) = false) (bneF h1) <| P0) (ww_eqIntS _ _ H))
  (fun h1 H =>
    eW RB (fun _ => []) H <| gE func20 [rg [hT 4], r0] (by kernel_rfl) (P2 (((((a0.length : Nat) : Int) : Int) != ((a1.length : Nat) : Int)) = true) (bneT h1) <| P0))
/-! loop example/g00886/laws eqTerrain -/
theorem cw_eqTerrain {a0 : Gi_Terrain} {a1 : Gi_Terrain} {r : Bool} (H : Dw_eqTerrain a0 a1 = some r) : Ct X.P X.gl 185 [.agg [.str a0.Name, sl 1 I a0.Cost, I a0.Shift, I a0.Height, .bool a0.Blocks], .agg [.str a1.Name, sl 1 I a1.Cost, I a1.Shift, I a1.Height, .bool a1.Blocks]] [] (RB r) [] :=
  Ct.of func185 (c := bdy f185) (by kernel_rfl) (by kernel_rfl) <|
  gS [r0] (by kernel_rfl) P0 <|
  eIf H (fun h1 H =>
    eBind H fun r2 hr2 H =>
    gS [rg [hF 4]] (by kernel_rfl) (P2 ((!(a0.Name == a1.Name)) = false) (nbeqF h1) <| P0) <|
    eIf H (fun h3 H =>
      gS [rg [{ i := 4, call := some { cl := true, auto := true, ins := [], res := (RB r2), G' := [] }, dec := some true }]] (by kernel_rfl) (P1 (cw_eqIntS hr2) <| P2 (r2 = true) (h3) <| P0) <|
      eIf H (fun h4 H =>
        gS [rg [hF 4]] (by kernel_rfl) (P2 (((a0.Shift : Int) != a1.Shift) = false) (bneF h4) <| P0) <|
        eIf H (fun h5 H =>
          gS [rg [hF 4]] (by kernel_rfl) (P2 (((a0.Height : Int) != a1.Height) = false) (bneF h5) <| P0) <|
          eIf H (fun h6 H =>
            eW RB (fun _ => []) H <| gE func185 [rg [hT 4], r0] (by kernel_rfl) (P2 ((!(a0.Blocks == a1.Blocks)) = true) (h6) <| P0))
          (fun h6 H =>
            eW RB (fun _ => []) H <| gE func185 [rg [hF 4], r0] (by kernel_rfl) (P2 ((!(a0.Blocks == a1.Blocks)) = false) (eqF h6) <| P0)))
        (fun h5 H =>
          eW RB (fun _ => []) H <| gE func185 [rg [hT 4], r0] (by kernel_rfl) (P2 (((a0.Height : Int) != a1.Height) = true) (bneT h5) <| P0)))
      (fun h4 H =>
        eW RB (fun _ => []) H <| gE func185 [rg [hT 4], r0] (by kernel_rfl) (P2 (((a0.Shift : Int) != a1.Shift) = true) (bneT h4) <| P0)))
    (fun h3 H =>
      eW RB (fun _ => []) H <| gE func185 [rg [{ i := 4, call := some { cl := true, auto := true, ins := [], res := (RB r2), G' := [] }, dec := some false }], r0] (by kernel_rfl) (P1 (cw_eqIntS hr2) <| P2 (r2 = false) (eqF h3) <| P0)))
  (fun h1 H =>
    eW RB (fun _ => []) H <| gE func185 [rg [hT 4], r0] (by kernel_rfl) (P2 ((!(a0.Name == a1.Name)) = true) (nbeqT h1) <| P0))
/-! loop example/g00886/laws eqTerrainS -/
noncomputable def Kw_eqTerrainS : Sw_eqTerrainS → List Item
  | .h1 .. => nav 300 3 [false] [.code (bdy f149)]
def Zw_eqTerrainS : Sw_eqTerrainS → St
  | .h1 va0 b1 i2 => ⟨sts 27 [(0, sl 5 gi_Terrain va0), (1, sl 5 gi_Terrain b1), (5, I i2)], []⟩
abbrev Qw_eqTerrainS := Nx X 149 0 Kw_eqTerrainS Zw_eqTerrainS RB (fun _ => [])
theorem nw_eqTerrainS : ∀ s o, Bw_eqTerrainS s = some o → Qw_eqTerrainS (Kw_eqTerrainS s) (Zw_eqTerrainS s) o
  | .h1 va0 b1 i2, o, H =>
    eIf H (fun h1 H =>
      eCk H fun h2 H =>
      eBind H fun x3 hx3 H =>
      eCk H fun h4 H =>
      eBind H fun x5 hx5 H =>
      eBind H fun r6 hr6 H =>
      gN [rg [hT 3]] (by kernel_rfl) (P2 ((decide (i2 < ((va0.length : Nat) : Int))) = true) (decide_eq_true h1) <| P0) <|
      eIf H (fun h7 H =>
        eN H fun r hn => gO [rg [hE 3 (gi_Terrain x3), hE 7 (gi_Terrain x5), { i := 8, call := some { cl := true, auto := true, ins := [], res := (RB r6), G' := [] }, dec := some true }], r0, .canon [] [0, 1, 5]] (by kernel_rfl) (P1 h2 <| P1 (int_lt_of_at h2 hx3) <| P1 (at_map gi_Terrain hx3) <| P1 h4 <| P1 (int_lt_of_at h4 hx5) <| P1 (at_map gi_Terrain hx5) <| P1 (cw_eqTerrain hr6) <| P2 (r6 = true) (h7) <| P0) hn)
      (fun h7 H =>
        eN H <| gE func149 [rg [hE 3 (gi_Terrain x3), hE 7 (gi_Terrain x5), { i := 8, call := some { cl := true, auto := true, ins := [], res := (RB r6), G' := [] }, dec := some false }], r0] (by kernel_rfl) (P1 h2 <| P1 (int_lt_of_at h2 hx3) <| P1 (at_map gi_Terrain hx3) <| P1 h4 <| P1 (int_lt_of_at h4 hx5) <| P1 (at_map gi_Terrain hx5) <| P1 (cw_eqTerrain hr6) <| P2 (r6 = false) (eqF h7) <| P0)))
    (fun h1 H =>
      eN H <| gE func149 [rg [hF 3], r0] (by kernel_rfl) (P2 ((decide (i2 < ((va0.length : Nat) : Int))) = false) (decide_eq_false h1) <| P0))
theorem ww_eqTerrainS : ∀ s r, loop Bw_eqTerrainS s = some r → Wc X 149 0 (Kw_eqTerrainS s) (Zw_eqTerrainS s) (RB r) ((fun _ => []) r) := Nx.all nw_eqTerrainS
theorem cw_eqTerrainS {a0 : (List Gi_Terrain)} {a1 : (List Gi_Terrain)} {r : Bool} (H : Dw_eqTerrainS a0 a1 = some r) : Ct X.P X.gl 149 [sl 5 gi_Terrain a0, sl 5 gi_Terrain a1] [] (RB r) [] :=
  Ct.of func149 (c := bdy f149) (by kernel_rfl) (by kernel_rfl) <|
  gS [r0] (by kernel_rfl) P0 <|
  eIf H (fun h1 H =>
    gO [rg [hF 4], r0, .canon [] [0, 1, 5]] (by kernel_rfl) (P2 (((((a0.length : Nat) : Int) : Int) != ((a1.length : Nat) : Int)) = false) (bneF h1) <| P0) (ww_eqTerrainS _ _ H))
  (fun h1 H =>
    eW RB (fun _ => []) H <| gE func149 [rg [hT 4], r0] (by kernel_rfl) (P2 (((((a0.length : Nat) : Int) : Int) != ((a1.length : Nat) : Int)) = true) (bneT h1) <| P0))
/-! loop example/g00886/laws eqKind -/
theorem cw_eqKind {a0 : Gi_Kind} {a1 : Gi_Kind} {r : Bool} (H : Dw_eqKind a0 a1 = some r) : Ct X.P X.gl 186 [.agg [.str a0.Name, I a0.Strength, I a0.Moves, I a0.Steps, .bool a0.Zone, I a0.View], .agg [.str a1.Name, I a1.Strength, I a1.Moves, I a1.Steps, .bool a1.Zone, I a1.View]] [] (RB r) [] :=
  Ct.of func186 (c := bdy f186) (by kernel_rfl) (by kernel_rfl) <|
  gS [r0] (by kernel_rfl) P0 <|
  eIf H (fun h1 H =>
    gS [rg [hF 4]] (by kernel_rfl) (P2 ((!(a0.Name == a1.Name)) = false) (nbeqF h1) <| P0) <|
    eIf H (fun h2 H =>
      gS [rg [hF 4]] (by kernel_rfl) (P2 (((a0.Strength : Int) != a1.Strength) = false) (bneF h2) <| P0) <|
      eIf H (fun h3 H =>
        gS [rg [hF 4]] (by kernel_rfl) (P2 (((a0.Moves : Int) != a1.Moves) = false) (bneF h3) <| P0) <|
        eIf H (fun h4 H =>
          gS [rg [hF 4]] (by kernel_rfl) (P2 (((a0.Steps : Int) != a1.Steps) = false) (bneF h4) <| P0) <|
          eIf H (fun h5 H =>
            eW RB (fun _ => []) H <| gE func186 [rg [hT 4], r0] (by kernel_rfl) (P2 ((!(a0.Zone == a1.Zone)) = true) (h5) <| P0))
          (fun h5 H =>
            gS [rg [hF 4]] (by kernel_rfl) (P2 ((!(a0.Zone == a1.Zone)) = false) (eqF h5) <| P0) <|
            eIf H (fun h6 H =>
              eW RB (fun _ => []) H <| gE func186 [rg [hF 4], r0] (by kernel_rfl) (P2 (((a0.View : Int) != a1.View) = false) (bneF h6) <| P0))
            (fun h6 H =>
              eW RB (fun _ => []) H <| gE func186 [rg [hT 4], r0] (by kernel_rfl) (P2 (((a0.View : Int) != a1.View) = true) (bneT h6) <| P0))))
        (fun h4 H =>
          eW RB (fun _ => []) H <| gE func186 [rg [hT 4], r0] (by kernel_rfl) (P2 (((a0.Steps : Int) != a1.Steps) = true) (bneT h4) <| P0)))
      (fun h3 H =>
        eW RB (fun _ => []) H <| gE func186 [rg [hT 4], r0] (by kernel_rfl) (P2 (((a0.Moves : Int) != a1.Moves) = true) (bneT h3) <| P0)))
    (fun h2 H =>
      eW RB (fun _ => []) H <| gE func186 [rg [hT 4], r0] (by kernel_rfl) (P2 (((a0.Strength : Int) != a1.Strength) = true) (bneT h2) <| P0)))
  (fun h1 H =>
    eW RB (fun _ => []) H <| gE func186 [rg [hT 4], r0] (by kernel_rfl) (P2 ((!(a0.Name == a1.Name)) = true) (nbeqT h1) <| P0))
/-! loop example/g00886/laws eqKindS -/
noncomputable def Kw_eqKindS : Sw_eqKindS → List Item
  | .h1 .. => nav 300 3 [false] [.code (bdy f150)]
def Zw_eqKindS : Sw_eqKindS → St
  | .h1 va0 b1 i2 => ⟨sts 27 [(0, sl 6 gi_Kind va0), (1, sl 6 gi_Kind b1), (5, I i2)], []⟩
abbrev Qw_eqKindS := Nx X 150 0 Kw_eqKindS Zw_eqKindS RB (fun _ => [])
theorem nw_eqKindS : ∀ s o, Bw_eqKindS s = some o → Qw_eqKindS (Kw_eqKindS s) (Zw_eqKindS s) o
  | .h1 va0 b1 i2, o, H =>
    eIf H (fun h1 H =>
      eCk H fun h2 H =>
      eBind H fun x3 hx3 H =>
      eCk H fun h4 H =>
      eBind H fun x5 hx5 H =>
      eBind H fun r6 hr6 H =>
      gN [rg [hT 3]] (by kernel_rfl) (P2 ((decide (i2 < ((va0.length : Nat) : Int))) = true) (decide_eq_true h1) <| P0) <|
      eIf H (fun h7 H =>
        eN H fun r hn => gO [rg [hE 3 (gi_Kind x3), hE 7 (gi_Kind x5), { i := 8, call := some { cl := true, auto := true, ins := [], res := (RB r6), G' := [] }, dec := some true }], r0, .canon [] [0, 1, 5]] (by kernel_rfl) (P1 h2 <| P1 (int_lt_of_at h2 hx3) <| P1 (at_map gi_Kind hx3) <| P1 h4 <| P1 (int_lt_of_at h4 hx5) <| P1 (at_map gi_Kind hx5) <| P1 (cw_eqKind hr6) <| P2 (r6 = true) (h7) <| P0) hn)
      (fun h7 H =>
        eN H <| gE func150 [rg [hE 3 (gi_Kind x3), hE 7 (gi_Kind x5), { i := 8, call := some { cl := true, auto := true, ins := [], res := (RB r6), G' := [] }, dec := some false }], r0] (by kernel_rfl) (P1 h2 <| P1 (int_lt_of_at h2 hx3) <| P1 (at_map gi_Kind hx3) <| P1 h4 <| P1 (int_lt_of_at h4 hx5) <| P1 (at_map gi_Kind hx5) <| P1 (cw_eqKind hr6) <| P2 (r6 = false) (eqF h7) <| P0)))
    (fun h1 H =>
      eN H <| gE func150 [rg [hF 3], r0] (by kernel_rfl) (P2 ((decide (i2 < ((va0.length : Nat) : Int))) = false) (decide_eq_false h1) <| P0))
theorem ww_eqKindS : ∀ s r, loop Bw_eqKindS s = some r → Wc X 150 0 (Kw_eqKindS s) (Zw_eqKindS s) (RB r) ((fun _ => []) r) := Nx.all nw_eqKindS
theorem cw_eqKindS {a0 : (List Gi_Kind)} {a1 : (List Gi_Kind)} {r : Bool} (H : Dw_eqKindS a0 a1 = some r) : Ct X.P X.gl 150 [sl 6 gi_Kind a0, sl 6 gi_Kind a1] [] (RB r) [] :=
  Ct.of func150 (c := bdy f150) (by kernel_rfl) (by kernel_rfl) <|
  gS [r0] (by kernel_rfl) P0 <|
  eIf H (fun h1 H =>
    gO [rg [hF 4], r0, .canon [] [0, 1, 5]] (by kernel_rfl) (P2 (((((a0.length : Nat) : Int) : Int) != ((a1.length : Nat) : Int)) = false) (bneF h1) <| P0) (ww_eqKindS _ _ H))
  (fun h1 H =>
    eW RB (fun _ => []) H <| gE func150 [rg [hT 4], r0] (by kernel_rfl) (P2 (((((a0.length : Nat) : Int) : Int) != ((a1.length : Nat) : Int)) = true) (bneT h1) <| P0))
/-! loop example/g00886/laws eqRules -/
theorem cw_eqRules {a0 : Gi_Rules} {a1 : Gi_Rules} {r : Bool} (H : Dw_eqRules a0 a1 = some r) : Ct X.P X.gl 103 [.agg [sl 5 gi_Terrain a0.Terrains, sl 6 gi_Kind a0.Kinds, I a0.Stack, I a0.River, I a0.Road, I a0.Supply, I a0.Turns], .agg [sl 5 gi_Terrain a1.Terrains, sl 6 gi_Kind a1.Kinds, I a1.Stack, I a1.River, I a1.Road, I a1.Supply, I a1.Turns]] [] (RB r) [] :=
  Ct.of func103 (c := bdy f103) (by kernel_rfl) (by kernel_rfl) <|
  eBind H fun r1 hr1 H =>
  gS [r0] (by kernel_rfl) P0 <|
  eIf H (fun h2 H =>
    eBind H fun r3 hr3 H =>
    gS [rg [{ i := 4, call := some { cl := true, auto := true, ins := [], res := (RB r1), G' := [] }, dec := some true }]] (by kernel_rfl) (P1 (cw_eqTerrainS hr1) <| P2 (r1 = true) (h2) <| P0) <|
    eIf H (fun h4 H =>
      gS [rg [{ i := 4, call := some { cl := true, auto := true, ins := [], res := (RB r3), G' := [] }, dec := some true }]] (by kernel_rfl) (P1 (cw_eqKindS hr3) <| P2 (r3 = true) (h4) <| P0) <|
      eIf H (fun h5 H =>
        gS [rg [hF 4]] (by kernel_rfl) (P2 (((a0.Stack : Int) != a1.Stack) = false) (bneF h5) <| P0) <|
        eIf H (fun h6 H =>
          gS [rg [hF 4]] (by kernel_rfl) (P2 (((a0.River : Int) != a1.River) = false) (bneF h6) <| P0) <|
          eIf H (fun h7 H =>
            gS [rg [hF 4]] (by kernel_rfl) (P2 (((a0.Road : Int) != a1.Road) = false) (bneF h7) <| P0) <|
            eIf H (fun h8 H =>
              gS [rg [hF 4]] (by kernel_rfl) (P2 (((a0.Supply : Int) != a1.Supply) = false) (bneF h8) <| P0) <|
              eIf H (fun h9 H =>
                eW RB (fun _ => []) H <| gE func103 [rg [hF 4], r0] (by kernel_rfl) (P2 (((a0.Turns : Int) != a1.Turns) = false) (bneF h9) <| P0))
              (fun h9 H =>
                eW RB (fun _ => []) H <| gE func103 [rg [hT 4], r0] (by kernel_rfl) (P2 (((a0.Turns : Int) != a1.Turns) = true) (bneT h9) <| P0)))
            (fun h8 H =>
              eW RB (fun _ => []) H <| gE func103 [rg [hT 4], r0] (by kernel_rfl) (P2 (((a0.Supply : Int) != a1.Supply) = true) (bneT h8) <| P0)))
          (fun h7 H =>
            eW RB (fun _ => []) H <| gE func103 [rg [hT 4], r0] (by kernel_rfl) (P2 (((a0.Road : Int) != a1.Road) = true) (bneT h7) <| P0)))
        (fun h6 H =>
          eW RB (fun _ => []) H <| gE func103 [rg [hT 4], r0] (by kernel_rfl) (P2 (((a0.River : Int) != a1.River) = true) (bneT h6) <| P0)))
      (fun h5 H =>
        eW RB (fun _ => []) H <| gE func103 [rg [hT 4], r0] (by kernel_rfl) (P2 (((a0.Stack : Int) != a1.Stack) = true) (bneT h5) <| P0)))
    (fun h4 H =>
      eW RB (fun _ => []) H <| gE func103 [rg [{ i := 4, call := some { cl := true, auto := true, ins := [], res := (RB r3), G' := [] }, dec := some false }], r0] (by kernel_rfl) (P1 (cw_eqKindS hr3) <| P2 (r3 = false) (eqF h4) <| P0)))
  (fun h2 H =>
    eW RB (fun _ => []) H <| gE func103 [rg [{ i := 4, call := some { cl := true, auto := true, ins := [], res := (RB r1), G' := [] }, dec := some false }], r0] (by kernel_rfl) (P1 (cw_eqTerrainS hr1) <| P2 (r1 = false) (eqF h2) <| P0))
/-! loop example/g00886/laws eqMap -/
theorem cw_eqMap {a0 : Gi_Map} {a1 : Gi_Map} {r : Bool} (H : Dw_eqMap a0 a1 = some r) : Ct X.P X.gl 104 [.agg [I a0.Width, I a0.Height, sl 1 I a0.Terrain, sl 1 I a0.Rivers, sl 1 I a0.Roads], .agg [I a1.Width, I a1.Height, sl 1 I a1.Terrain, sl 1 I a1.Rivers, sl 1 I a1.Roads]] [] (RB r) [] :=
  Ct.of func104 (c := bdy f104) (by kernel_rfl) (by kernel_rfl) <|
  gS [r0] (by kernel_rfl) P0 <|
  eIf H (fun h1 H =>
    gS [rg [hF 4]] (by kernel_rfl) (P2 (((a0.Width : Int) != a1.Width) = false) (bneF h1) <| P0) <|
    eIf H (fun h2 H =>
      eBind H fun r3 hr3 H =>
      gS [rg [hF 4]] (by kernel_rfl) (P2 (((a0.Height : Int) != a1.Height) = false) (bneF h2) <| P0) <|
      eIf H (fun h4 H =>
        eBind H fun r5 hr5 H =>
        gS [rg [{ i := 4, call := some { cl := true, auto := true, ins := [], res := (RB r3), G' := [] }, dec := some true }]] (by kernel_rfl) (P1 (cw_eqIntS hr3) <| P2 (r3 = true) (h4) <| P0) <|
        eIf H (fun h6 H =>
          eBind H fun r7 hr7 H =>
          gS [rg [{ i := 4, call := some { cl := true, auto := true, ins := [], res := (RB r5), G' := [] }, dec := some true }]] (by kernel_rfl) (P1 (cw_eqIntS hr5) <| P2 (r5 = true) (h6) <| P0) <|
          eIf H (fun h8 H =>
            eW RB (fun _ => []) H <| gE func104 [rg [{ i := 4, call := some { cl := true, auto := true, ins := [], res := (RB r7), G' := [] }, dec := some true }], r0] (by kernel_rfl) (P1 (cw_eqIntS hr7) <| P2 (r7 = true) (h8) <| P0))
          (fun h8 H =>
            eW RB (fun _ => []) H <| gE func104 [rg [{ i := 4, call := some { cl := true, auto := true, ins := [], res := (RB r7), G' := [] }, dec := some false }], r0] (by kernel_rfl) (P1 (cw_eqIntS hr7) <| P2 (r7 = false) (eqF h8) <| P0)))
        (fun h6 H =>
          eW RB (fun _ => []) H <| gE func104 [rg [{ i := 4, call := some { cl := true, auto := true, ins := [], res := (RB r5), G' := [] }, dec := some false }], r0] (by kernel_rfl) (P1 (cw_eqIntS hr5) <| P2 (r5 = false) (eqF h6) <| P0)))
      (fun h4 H =>
        eW RB (fun _ => []) H <| gE func104 [rg [{ i := 4, call := some { cl := true, auto := true, ins := [], res := (RB r3), G' := [] }, dec := some false }], r0] (by kernel_rfl) (P1 (cw_eqIntS hr3) <| P2 (r3 = false) (eqF h4) <| P0)))
    (fun h2 H =>
      eW RB (fun _ => []) H <| gE func104 [rg [hT 4], r0] (by kernel_rfl) (P2 (((a0.Height : Int) != a1.Height) = true) (bneT h2) <| P0)))
  (fun h1 H =>
    eW RB (fun _ => []) H <| gE func104 [rg [hT 4], r0] (by kernel_rfl) (P2 (((a0.Width : Int) != a1.Width) = true) (bneT h1) <| P0))
/-! loop example/g00886/laws eqBoard -/
theorem cw_eqBoard {a0 : Gi_Board} {a1 : Gi_Board} {r : Bool} (H : Dw_eqBoard a0 a1 = some r) : Ct X.P X.gl 46 [.agg [sl 5 gi_Terrain a0.Rules.Terrains, sl 6 gi_Kind a0.Rules.Kinds, I a0.Rules.Stack, I a0.Rules.River, I a0.Rules.Road, I a0.Rules.Supply, I a0.Rules.Turns, I a0.Map.Width, I a0.Map.Height, sl 1 I a0.Map.Terrain, sl 1 I a0.Map.Rivers, sl 1 I a0.Map.Roads], .agg [sl 5 gi_Terrain a1.Rules.Terrains, sl 6 gi_Kind a1.Rules.Kinds, I a1.Rules.Stack, I a1.Rules.River, I a1.Rules.Road, I a1.Rules.Supply, I a1.Rules.Turns, I a1.Map.Width, I a1.Map.Height, sl 1 I a1.Map.Terrain, sl 1 I a1.Map.Rivers, sl 1 I a1.Map.Roads]] [] (RB r) [] :=
  Ct.of func46 (c := bdy f46) (by kernel_rfl) (by kernel_rfl) <|
  eBind H fun r1 hr1 H =>
  gS [r0] (by kernel_rfl) P0 <|
  eIf H (fun h2 H =>
    eBind H fun r3 hr3 H =>
    gS [rg [{ i := 4, call := some { cl := true, auto := true, ins := [], res := (RB r1), G' := [] }, dec := some true }]] (by kernel_rfl) (P1 (cw_eqRules hr1) <| P2 (r1 = true) (h2) <| P0) <|
    eIf H (fun h4 H =>
      eW RB (fun _ => []) H <| gE func46 [rg [{ i := 4, call := some { cl := true, auto := true, ins := [], res := (RB r3), G' := [] }, dec := some true }], r0] (by kernel_rfl) (P1 (cw_eqMap hr3) <| P2 (r3 = true) (h4) <| P0))
    (fun h4 H =>
      eW RB (fun _ => []) H <| gE func46 [rg [{ i := 4, call := some { cl := true, auto := true, ins := [], res := (RB r3), G' := [] }, dec := some false }], r0] (by kernel_rfl) (P1 (cw_eqMap hr3) <| P2 (r3 = false) (eqF h4) <| P0)))
  (fun h2 H =>
    eW RB (fun _ => []) H <| gE func46 [rg [{ i := 4, call := some { cl := true, auto := true, ins := [], res := (RB r1), G' := [] }, dec := some false }], r0] (by kernel_rfl) (P1 (cw_eqRules hr1) <| P2 (r1 = false) (eqF h2) <| P0))
/-! loop example/g00886/laws eqOdds -/
theorem cw_eqOdds {a0 : Gi_Odds} {a1 : Gi_Odds} {r : Bool} (H : Dw_eqOdds a0 a1 = some r) : Ct X.P X.gl 151 [.agg [I a0.Num, I a0.Den], .agg [I a1.Num, I a1.Den]] [] (RB r) [] :=
  Ct.of func151 (c := bdy f151) (by kernel_rfl) (by kernel_rfl) <|
  gS [r0] (by kernel_rfl) P0 <|
  eIf H (fun h1 H =>
    gS [rg [hF 4]] (by kernel_rfl) (P2 (((a0.Num : Int) != a1.Num) = false) (bneF h1) <| P0) <|
    eIf H (fun h2 H =>
      eW RB (fun _ => []) H <| gE func151 [rg [hF 4], r0] (by kernel_rfl) (P2 (((a0.Den : Int) != a1.Den) = false) (bneF h2) <| P0))
    (fun h2 H =>
      eW RB (fun _ => []) H <| gE func151 [rg [hT 4], r0] (by kernel_rfl) (P2 (((a0.Den : Int) != a1.Den) = true) (bneT h2) <| P0)))
  (fun h1 H =>
    eW RB (fun _ => []) H <| gE func151 [rg [hT 4], r0] (by kernel_rfl) (P2 (((a0.Num : Int) != a1.Num) = true) (bneT h1) <| P0))
/-! loop example/g00886/laws eqOddsS -/
noncomputable def Kw_eqOddsS : Sw_eqOddsS → List Item
  | .h1 .. => nav 300 3 [false] [.code (bdy f105)]
def Zw_eqOddsS : Sw_eqOddsS → St
  | .h1 va0 b1 i2 => ⟨sts 27 [(0, sl 2 gi_Odds va0), (1, sl 2 gi_Odds b1), (5, I i2)], []⟩
abbrev Qw_eqOddsS := Nx X 105 0 Kw_eqOddsS Zw_eqOddsS RB (fun _ => [])
theorem nw_eqOddsS : ∀ s o, Bw_eqOddsS s = some o → Qw_eqOddsS (Kw_eqOddsS s) (Zw_eqOddsS s) o
  | .h1 va0 b1 i2, o, H =>
    eIf H (fun h1 H =>
      eCk H fun h2 H =>
      eBind H fun x3 hx3 H =>
      eCk H fun h4 H =>
      eBind H fun x5 hx5 H =>
      eBind H fun r6 hr6 H =>
      gN [rg [hT 3]] (by kernel_rfl) (P2 ((decide (i2 < ((va0.length : Nat) : Int))) = true) (decide_eq_true h1) <| P0) <|
      eIf H (fun h7 H =>
        eN H fun r hn => gO [rg [hE 3 (gi_Odds x3), hE 7 (gi_Odds x5), { i := 8, call := some { cl := true, auto := true, ins := [], res := (RB r6), G' := [] }, dec := some true }], r0, .canon [] [0, 1, 5]] (by kernel_rfl) (P1 h2 <| P1 (int_lt_of_at h2 hx3) <| P1 (at_map gi_Odds hx3) <| P1 h4 <| P1 (int_lt_of_at h4 hx5) <| P1 (at_map gi_Odds hx5) <| P1 (cw_eqOdds hr6) <| P2 (r6 = true) (h7) <| P0) hn)
      (fun h7 H =>
        eN H <| gE func105 [rg [hE 3 (gi_Odds x3), hE 7 (gi_Odds x5), { i := 8, call := some { cl := true, auto := true, ins := [], res := (RB r6), G' := [] }, dec := some false }], r0] (by kernel_rfl) (P1 h2 <| P1 (int_lt_of_at h2 hx3) <| P1 (at_map gi_Odds hx3) <| P1 h4 <| P1 (int_lt_of_at h4 hx5) <| P1 (at_map gi_Odds hx5) <| P1 (cw_eqOdds hr6) <| P2 (r6 = false) (eqF h7) <| P0)))
    (fun h1 H =>
      eN H <| gE func105 [rg [hF 3], r0] (by kernel_rfl) (P2 ((decide (i2 < ((va0.length : Nat) : Int))) = false) (decide_eq_false h1) <| P0))
theorem ww_eqOddsS : ∀ s r, loop Bw_eqOddsS s = some r → Wc X 105 0 (Kw_eqOddsS s) (Zw_eqOddsS s) (RB r) ((fun _ => []) r) := Nx.all nw_eqOddsS
theorem cw_eqOddsS {a0 : (List Gi_Odds)} {a1 : (List Gi_Odds)} {r : Bool} (H : Dw_eqOddsS a0 a1 = some r) : Ct X.P X.gl 105 [sl 2 gi_Odds a0, sl 2 gi_Odds a1] [] (RB r) [] :=
  Ct.of func105 (c := bdy f105) (by kernel_rfl) (by kernel_rfl) <|
  gS [r0] (by kernel_rfl) P0 <|
  eIf H (fun h1 H =>
    gO [rg [hF 4], r0, .canon [] [0, 1, 5]] (by kernel_rfl) (P2 (((((a0.length : Nat) : Int) : Int) != ((a1.length : Nat) : Int)) = false) (bneF h1) <| P0) (ww_eqOddsS _ _ H))
  (fun h1 H =>
    eW RB (fun _ => []) H <| gE func105 [rg [hT 4], r0] (by kernel_rfl) (P2 (((((a0.length : Nat) : Int) : Int) != ((a1.length : Nat) : Int)) = true) (bneT h1) <| P0))
/-! loop example/g00886/laws eqIntSS -/
noncomputable def Kw_eqIntSS : Sw_eqIntSS → List Item
  | .h1 .. => nav 300 3 [false] [.code (bdy f106)]
def Zw_eqIntSS : Sw_eqIntSS → St
  | .h1 va0 b1 i2 => ⟨sts 27 [(0, sl 1 (sl 1 I) va0), (1, sl 1 (sl 1 I) b1), (5, I i2)], []⟩
abbrev Qw_eqIntSS := Nx X 106 0 Kw_eqIntSS Zw_eqIntSS RB (fun _ => [])
theorem nw_eqIntSS : ∀ s o, Bw_eqIntSS s = some o → Qw_eqIntSS (Kw_eqIntSS s) (Zw_eqIntSS s) o
  | .h1 va0 b1 i2, o, H =>
    eIf H (fun h1 H =>
      eCk H fun h2 H =>
      eBind H fun x3 hx3 H =>
      eCk H fun h4 H =>
      eBind H fun x5 hx5 H =>
      eBind H fun r6 hr6 H =>
      gN [rg [hT 3]] (by kernel_rfl) (P2 ((decide (i2 < ((va0.length : Nat) : Int))) = true) (decide_eq_true h1) <| P0) <|
      eIf H (fun h7 H =>
        eN H fun r hn => gO [rg [hE 3 ((sl 1 I) x3), hE 7 ((sl 1 I) x5), { i := 8, call := some { cl := true, auto := true, ins := [], res := (RB r6), G' := [] }, dec := some true }], r0, .canon [] [0, 1, 5]] (by kernel_rfl) (P1 h2 <| P1 (int_lt_of_at h2 hx3) <| P1 (at_map (sl 1 I) hx3) <| P1 h4 <| P1 (int_lt_of_at h4 hx5) <| P1 (at_map (sl 1 I) hx5) <| P1 (cw_eqIntS hr6) <| P2 (r6 = true) (h7) <| P0) hn)
      (fun h7 H =>
        eN H <| gE func106 [rg [hE 3 ((sl 1 I) x3), hE 7 ((sl 1 I) x5), { i := 8, call := some { cl := true, auto := true, ins := [], res := (RB r6), G' := [] }, dec := some false }], r0] (by kernel_rfl) (P1 h2 <| P1 (int_lt_of_at h2 hx3) <| P1 (at_map (sl 1 I) hx3) <| P1 h4 <| P1 (int_lt_of_at h4 hx5) <| P1 (at_map (sl 1 I) hx5) <| P1 (cw_eqIntS hr6) <| P2 (r6 = false) (eqF h7) <| P0)))
    (fun h1 H =>
      eN H <| gE func106 [rg [hF 3], r0] (by kernel_rfl) (P2 ((decide (i2 < ((va0.length : Nat) : Int))) = false) (decide_eq_false h1) <| P0))
theorem ww_eqIntSS : ∀ s r, loop Bw_eqIntSS s = some r → Wc X 106 0 (Kw_eqIntSS s) (Zw_eqIntSS s) (RB r) ((fun _ => []) r) := Nx.all nw_eqIntSS
theorem cw_eqIntSS {a0 : (List (List Int))} {a1 : (List (List Int))} {r : Bool} (H : Dw_eqIntSS a0 a1 = some r) : Ct X.P X.gl 106 [sl 1 (sl 1 I) a0, sl 1 (sl 1 I) a1] [] (RB r) [] :=
  Ct.of func106 (c := bdy f106) (by kernel_rfl) (by kernel_rfl) <|
  gS [r0] (by kernel_rfl) P0 <|
  eIf H (fun h1 H =>
    gO [rg [hF 4], r0, .canon [] [0, 1, 5]] (by kernel_rfl) (P2 (((((a0.length : Nat) : Int) : Int) != ((a1.length : Nat) : Int)) = false) (bneF h1) <| P0) (ww_eqIntSS _ _ H))
  (fun h1 H =>
    eW RB (fun _ => []) H <| gE func106 [rg [hT 4], r0] (by kernel_rfl) (P2 (((((a0.length : Nat) : Int) : Int) != ((a1.length : Nat) : Int)) = true) (bneT h1) <| P0))
/-! loop example/g00886/laws eqCombatTable -/
theorem cw_eqCombatTable {a0 : Gi_CombatTable} {a1 : Gi_CombatTable} {r : Bool} (H : Dw_eqCombatTable a0 a1 = some r) : Ct X.P X.gl 47 [.agg [sl 2 gi_Odds a0.Columns, I a0.Dice, sl 1 (sl 1 I) a0.Results], .agg [sl 2 gi_Odds a1.Columns, I a1.Dice, sl 1 (sl 1 I) a1.Results]] [] (RB r) [] :=
  Ct.of func47 (c := bdy f47) (by kernel_rfl) (by kernel_rfl) <|
  eBind H fun r1 hr1 H =>
  gS [r0] (by kernel_rfl) P0 <|
  eIf H (fun h2 H =>
    gS [rg [{ i := 4, call := some { cl := true, auto := true, ins := [], res := (RB r1), G' := [] }, dec := some true }]] (by kernel_rfl) (P1 (cw_eqOddsS hr1) <| P2 (r1 = true) (h2) <| P0) <|
    eIf H (fun h3 H =>
      eBind H fun r4 hr4 H =>
      gS [rg [hF 4]] (by kernel_rfl) (P2 (((a0.Dice : Int) != a1.Dice) = false) (bneF h3) <| P0) <|
      eIf H (fun h5 H =>
        eW RB (fun _ => []) H <| gE func47 [rg [{ i := 4, call := some { cl := true, auto := true, ins := [], res := (RB r4), G' := [] }, dec := some true }], r0] (by kernel_rfl) (P1 (cw_eqIntSS hr4) <| P2 (r4 = true) (h5) <| P0))
      (fun h5 H =>
        eW RB (fun _ => []) H <| gE func47 [rg [{ i := 4, call := some { cl := true, auto := true, ins := [], res := (RB r4), G' := [] }, dec := some false }], r0] (by kernel_rfl) (P1 (cw_eqIntSS hr4) <| P2 (r4 = false) (eqF h5) <| P0)))
    (fun h3 H =>
      eW RB (fun _ => []) H <| gE func47 [rg [hT 4], r0] (by kernel_rfl) (P2 (((a0.Dice : Int) != a1.Dice) = true) (bneT h3) <| P0)))
  (fun h2 H =>
    eW RB (fun _ => []) H <| gE func47 [rg [{ i := 4, call := some { cl := true, auto := true, ins := [], res := (RB r1), G' := [] }, dec := some false }], r0] (by kernel_rfl) (P1 (cw_eqOddsS hr1) <| P2 (r1 = false) (eqF h2) <| P0))
/-! loop example/g00886/laws eqUnit -/
theorem cw_eqUnit {a0 : Gi_Unit} {a1 : Gi_Unit} {r : Bool} (H : Dw_eqUnit a0 a1 = some r) : Ct X.P X.gl 152 [.agg [I a0.Side, I a0.Kind, I a0.At, I a0.Steps], .agg [I a1.Side, I a1.Kind, I a1.At, I a1.Steps]] [] (RB r) [] :=
  Ct.of func152 (c := bdy f152) (by kernel_rfl) (by kernel_rfl) <|
  gS [r0] (by kernel_rfl) P0 <|
  eIf H (fun h1 H =>
    gS [rg [hF 4]] (by kernel_rfl) (P2 (((a0.Side : Int) != a1.Side) = false) (bneF h1) <| P0) <|
    eIf H (fun h2 H =>
      gS [rg [hF 4]] (by kernel_rfl) (P2 (((a0.Kind : Int) != a1.Kind) = false) (bneF h2) <| P0) <|
      eIf H (fun h3 H =>
        gS [rg [hF 4]] (by kernel_rfl) (P2 (((a0.At : Int) != a1.At) = false) (bneF h3) <| P0) <|
        eIf H (fun h4 H =>
          eW RB (fun _ => []) H <| gE func152 [rg [hF 4], r0] (by kernel_rfl) (P2 (((a0.Steps : Int) != a1.Steps) = false) (bneF h4) <| P0))
        (fun h4 H =>
          eW RB (fun _ => []) H <| gE func152 [rg [hT 4], r0] (by kernel_rfl) (P2 (((a0.Steps : Int) != a1.Steps) = true) (bneT h4) <| P0)))
      (fun h3 H =>
        eW RB (fun _ => []) H <| gE func152 [rg [hT 4], r0] (by kernel_rfl) (P2 (((a0.At : Int) != a1.At) = true) (bneT h3) <| P0)))
    (fun h2 H =>
      eW RB (fun _ => []) H <| gE func152 [rg [hT 4], r0] (by kernel_rfl) (P2 (((a0.Kind : Int) != a1.Kind) = true) (bneT h2) <| P0)))
  (fun h1 H =>
    eW RB (fun _ => []) H <| gE func152 [rg [hT 4], r0] (by kernel_rfl) (P2 (((a0.Side : Int) != a1.Side) = true) (bneT h1) <| P0))
/-! loop example/g00886/laws eqUnitS -/
noncomputable def Kw_eqUnitS : Sw_eqUnitS → List Item
  | .h1 .. => nav 300 3 [false] [.code (bdy f107)]
def Zw_eqUnitS : Sw_eqUnitS → St
  | .h1 va0 b1 i2 => ⟨sts 27 [(0, sl 4 gi_Unit va0), (1, sl 4 gi_Unit b1), (5, I i2)], []⟩
abbrev Qw_eqUnitS := Nx X 107 0 Kw_eqUnitS Zw_eqUnitS RB (fun _ => [])
theorem nw_eqUnitS : ∀ s o, Bw_eqUnitS s = some o → Qw_eqUnitS (Kw_eqUnitS s) (Zw_eqUnitS s) o
  | .h1 va0 b1 i2, o, H =>
    eIf H (fun h1 H =>
      eCk H fun h2 H =>
      eBind H fun x3 hx3 H =>
      eCk H fun h4 H =>
      eBind H fun x5 hx5 H =>
      eBind H fun r6 hr6 H =>
      gN [rg [hT 3]] (by kernel_rfl) (P2 ((decide (i2 < ((va0.length : Nat) : Int))) = true) (decide_eq_true h1) <| P0) <|
      eIf H (fun h7 H =>
        eN H fun r hn => gO [rg [hE 3 (gi_Unit x3), hE 7 (gi_Unit x5), { i := 8, call := some { cl := true, auto := true, ins := [], res := (RB r6), G' := [] }, dec := some true }], r0, .canon [] [0, 1, 5]] (by kernel_rfl) (P1 h2 <| P1 (int_lt_of_at h2 hx3) <| P1 (at_map gi_Unit hx3) <| P1 h4 <| P1 (int_lt_of_at h4 hx5) <| P1 (at_map gi_Unit hx5) <| P1 (cw_eqUnit hr6) <| P2 (r6 = true) (h7) <| P0) hn)
      (fun h7 H =>
        eN H <| gE func107 [rg [hE 3 (gi_Unit x3), hE 7 (gi_Unit x5), { i := 8, call := some { cl := true, auto := true, ins := [], res := (RB r6), G' := [] }, dec := some false }], r0] (by kernel_rfl) (P1 h2 <| P1 (int_lt_of_at h2 hx3) <| P1 (at_map gi_Unit hx3) <| P1 h4 <| P1 (int_lt_of_at h4 hx5) <| P1 (at_map gi_Unit hx5) <| P1 (cw_eqUnit hr6) <| P2 (r6 = false) (eqF h7) <| P0)))
    (fun h1 H =>
      eN H <| gE func107 [rg [hF 3], r0] (by kernel_rfl) (P2 ((decide (i2 < ((va0.length : Nat) : Int))) = false) (decide_eq_false h1) <| P0))
theorem ww_eqUnitS : ∀ s r, loop Bw_eqUnitS s = some r → Wc X 107 0 (Kw_eqUnitS s) (Zw_eqUnitS s) (RB r) ((fun _ => []) r) := Nx.all nw_eqUnitS
theorem cw_eqUnitS {a0 : (List Gi_Unit)} {a1 : (List Gi_Unit)} {r : Bool} (H : Dw_eqUnitS a0 a1 = some r) : Ct X.P X.gl 107 [sl 4 gi_Unit a0, sl 4 gi_Unit a1] [] (RB r) [] :=
  Ct.of func107 (c := bdy f107) (by kernel_rfl) (by kernel_rfl) <|
  gS [r0] (by kernel_rfl) P0 <|
  eIf H (fun h1 H =>
    gO [rg [hF 4], r0, .canon [] [0, 1, 5]] (by kernel_rfl) (P2 (((((a0.length : Nat) : Int) : Int) != ((a1.length : Nat) : Int)) = false) (bneF h1) <| P0) (ww_eqUnitS _ _ H))
  (fun h1 H =>
    eW RB (fun _ => []) H <| gE func107 [rg [hT 4], r0] (by kernel_rfl) (P2 (((((a0.length : Nat) : Int) : Int) != ((a1.length : Nat) : Int)) = true) (bneT h1) <| P0))
/-! loop example/g00886/laws eqState -/
theorem cw_eqState {a0 : Gi_State} {a1 : Gi_State} {r : Bool} (H : Dw_eqState a0 a1 = some r) : Ct X.P X.gl 48 [.agg [I a0.Turn, I a0.Weather, sl 4 gi_Unit a0.Units], .agg [I a1.Turn, I a1.Weather, sl 4 gi_Unit a1.Units]] [] (RB r) [] :=
  Ct.of func48 (c := bdy f48) (by kernel_rfl) (by kernel_rfl) <|
  gS [r0] (by kernel_rfl) P0 <|
  eIf H (fun h1 H =>
    gS [rg [hF 4]] (by kernel_rfl) (P2 (((a0.Turn : Int) != a1.Turn) = false) (bneF h1) <| P0) <|
    eIf H (fun h2 H =>
      eBind H fun r3 hr3 H =>
      gS [rg [hF 4]] (by kernel_rfl) (P2 (((a0.Weather : Int) != a1.Weather) = false) (bneF h2) <| P0) <|
      eIf H (fun h4 H =>
        eW RB (fun _ => []) H <| gE func48 [rg [{ i := 4, call := some { cl := true, auto := true, ins := [], res := (RB r3), G' := [] }, dec := some true }], r0] (by kernel_rfl) (P1 (cw_eqUnitS hr3) <| P2 (r3 = true) (h4) <| P0))
      (fun h4 H =>
        eW RB (fun _ => []) H <| gE func48 [rg [{ i := 4, call := some { cl := true, auto := true, ins := [], res := (RB r3), G' := [] }, dec := some false }], r0] (by kernel_rfl) (P1 (cw_eqUnitS hr3) <| P2 (r3 = false) (eqF h4) <| P0)))
    (fun h2 H =>
      eW RB (fun _ => []) H <| gE func48 [rg [hT 4], r0] (by kernel_rfl) (P2 (((a0.Weather : Int) != a1.Weather) = true) (bneT h2) <| P0)))
  (fun h1 H =>
    eW RB (fun _ => []) H <| gE func48 [rg [hT 4], r0] (by kernel_rfl) (P2 (((a0.Turn : Int) != a1.Turn) = true) (bneT h1) <| P0))
/-! loop example/g00886/laws eqGoal -/
theorem cw_eqGoal {a0 : Gi_Goal} {a1 : Gi_Goal} {r : Bool} (H : Dw_eqGoal a0 a1 = some r) : Ct X.P X.gl 153 [.agg [I a0.At, I a0.Points], .agg [I a1.At, I a1.Points]] [] (RB r) [] :=
  Ct.of func153 (c := bdy f153) (by kernel_rfl) (by kernel_rfl) <|
  gS [r0] (by kernel_rfl) P0 <|
  eIf H (fun h1 H =>
    gS [rg [hF 4]] (by kernel_rfl) (P2 (((a0.At : Int) != a1.At) = false) (bneF h1) <| P0) <|
    eIf H (fun h2 H =>
      eW RB (fun _ => []) H <| gE func153 [rg [hF 4], r0] (by kernel_rfl) (P2 (((a0.Points : Int) != a1.Points) = false) (bneF h2) <| P0))
    (fun h2 H =>
      eW RB (fun _ => []) H <| gE func153 [rg [hT 4], r0] (by kernel_rfl) (P2 (((a0.Points : Int) != a1.Points) = true) (bneT h2) <| P0)))
  (fun h1 H =>
    eW RB (fun _ => []) H <| gE func153 [rg [hT 4], r0] (by kernel_rfl) (P2 (((a0.At : Int) != a1.At) = true) (bneT h1) <| P0))
/-! loop example/g00886/laws eqGoalS -/
noncomputable def Kw_eqGoalS : Sw_eqGoalS → List Item
  | .h1 .. => nav 300 3 [false] [.code (bdy f108)]
def Zw_eqGoalS : Sw_eqGoalS → St
  | .h1 va0 b1 i2 => ⟨sts 27 [(0, sl 2 gi_Goal va0), (1, sl 2 gi_Goal b1), (5, I i2)], []⟩
abbrev Qw_eqGoalS := Nx X 108 0 Kw_eqGoalS Zw_eqGoalS RB (fun _ => [])
theorem nw_eqGoalS : ∀ s o, Bw_eqGoalS s = some o → Qw_eqGoalS (Kw_eqGoalS s) (Zw_eqGoalS s) o
  | .h1 va0 b1 i2, o, H =>
    eIf H (fun h1 H =>
      eCk H fun h2 H =>
      eBind H fun x3 hx3 H =>
      eCk H fun h4 H =>
      eBind H fun x5 hx5 H =>
      eBind H fun r6 hr6 H =>
      gN [rg [hT 3]] (by kernel_rfl) (P2 ((decide (i2 < ((va0.length : Nat) : Int))) = true) (decide_eq_true h1) <| P0) <|
      eIf H (fun h7 H =>
        eN H fun r hn => gO [rg [hE 3 (gi_Goal x3), hE 7 (gi_Goal x5), { i := 8, call := some { cl := true, auto := true, ins := [], res := (RB r6), G' := [] }, dec := some true }], r0, .canon [] [0, 1, 5]] (by kernel_rfl) (P1 h2 <| P1 (int_lt_of_at h2 hx3) <| P1 (at_map gi_Goal hx3) <| P1 h4 <| P1 (int_lt_of_at h4 hx5) <| P1 (at_map gi_Goal hx5) <| P1 (cw_eqGoal hr6) <| P2 (r6 = true) (h7) <| P0) hn)
      (fun h7 H =>
        eN H <| gE func108 [rg [hE 3 (gi_Goal x3), hE 7 (gi_Goal x5), { i := 8, call := some { cl := true, auto := true, ins := [], res := (RB r6), G' := [] }, dec := some false }], r0] (by kernel_rfl) (P1 h2 <| P1 (int_lt_of_at h2 hx3) <| P1 (at_map gi_Goal hx3) <| P1 h4 <| P1 (int_lt_of_at h4 hx5) <| P1 (at_map gi_Goal hx5) <| P1 (cw_eqGoal hr6) <| P2 (r6 = false) (eqF h7) <| P0)))
    (fun h1 H =>
      eN H <| gE func108 [rg [hF 3], r0] (by kernel_rfl) (P2 ((decide (i2 < ((va0.length : Nat) : Int))) = false) (decide_eq_false h1) <| P0))
theorem ww_eqGoalS : ∀ s r, loop Bw_eqGoalS s = some r → Wc X 108 0 (Kw_eqGoalS s) (Zw_eqGoalS s) (RB r) ((fun _ => []) r) := Nx.all nw_eqGoalS
theorem cw_eqGoalS {a0 : (List Gi_Goal)} {a1 : (List Gi_Goal)} {r : Bool} (H : Dw_eqGoalS a0 a1 = some r) : Ct X.P X.gl 108 [sl 2 gi_Goal a0, sl 2 gi_Goal a1] [] (RB r) [] :=
  Ct.of func108 (c := bdy f108) (by kernel_rfl) (by kernel_rfl) <|
  gS [r0] (by kernel_rfl) P0 <|
  eIf H (fun h1 H =>
    gO [rg [hF 4], r0, .canon [] [0, 1, 5]] (by kernel_rfl) (P2 (((((a0.length : Nat) : Int) : Int) != ((a1.length : Nat) : Int)) = false) (bneF h1) <| P0) (ww_eqGoalS _ _ H))
  (fun h1 H =>
    eW RB (fun _ => []) H <| gE func108 [rg [hT 4], r0] (by kernel_rfl) (P2 (((((a0.length : Nat) : Int) : Int) != ((a1.length : Nat) : Int)) = true) (bneT h1) <| P0))
/-! loop example/g00886/laws eqConditions -/
theorem cw_eqConditions {a0 : Gi_Conditions} {a1 : Gi_Conditions} {r : Bool} (H : Dw_eqConditions a0 a1 = some r) : Ct X.P X.gl 49 [.agg [sl 2 gi_Goal a0.Goals, I a0.Step, I a0.Margin], .agg [sl 2 gi_Goal a1.Goals, I a1.Step, I a1.Margin]] [] (RB r) [] :=
  Ct.of func49 (c := bdy f49) (by kernel_rfl) (by kernel_rfl) <|
  eBind H fun r1 hr1 H =>
  gS [r0] (by kernel_rfl) P0 <|
  eIf H (fun h2 H =>
    gS [rg [{ i := 4, call := some { cl := true, auto := true, ins := [], res := (RB r1), G' := [] }, dec := some true }]] (by kernel_rfl) (P1 (cw_eqGoalS hr1) <| P2 (r1 = true) (h2) <| P0) <|
    eIf H (fun h3 H =>
      gS [rg [hF 4]] (by kernel_rfl) (P2 (((a0.Step : Int) != a1.Step) = false) (bneF h3) <| P0) <|
      eIf H (fun h4 H =>
        eW RB (fun _ => []) H <| gE func49 [rg [hF 4], r0] (by kernel_rfl) (P2 (((a0.Margin : Int) != a1.Margin) = false) (bneF h4) <| P0))
      (fun h4 H =>
        eW RB (fun _ => []) H <| gE func49 [rg [hT 4], r0] (by kernel_rfl) (P2 (((a0.Margin : Int) != a1.Margin) = true) (bneT h4) <| P0)))
    (fun h3 H =>
      eW RB (fun _ => []) H <| gE func49 [rg [hT 4], r0] (by kernel_rfl) (P2 (((a0.Step : Int) != a1.Step) = true) (bneT h3) <| P0)))
  (fun h2 H =>
    eW RB (fun _ => []) H <| gE func49 [rg [{ i := 4, call := some { cl := true, auto := true, ins := [], res := (RB r1), G' := [] }, dec := some false }], r0] (by kernel_rfl) (P1 (cw_eqGoalS hr1) <| P2 (r1 = false) (eqF h2) <| P0))
/-! loop example/g00886/laws eqScenario -/
theorem cw_eqScenario {a0 : Gi_Scenario} {a1 : Gi_Scenario} {r : Bool} (H : Dw_eqScenario a0 a1 = some r) : Ct X.P X.gl 13 [.agg [.str a0.Name, sl 5 gi_Terrain a0.Board.Rules.Terrains, sl 6 gi_Kind a0.Board.Rules.Kinds, I a0.Board.Rules.Stack, I a0.Board.Rules.River, I a0.Board.Rules.Road, I a0.Board.Rules.Supply, I a0.Board.Rules.Turns, I a0.Board.Map.Width, I a0.Board.Map.Height, sl 1 I a0.Board.Map.Terrain, sl 1 I a0.Board.Map.Rivers, sl 1 I a0.Board.Map.Roads, sl 2 gi_Odds a0.Table.Columns, I a0.Table.Dice, sl 1 (sl 1 I) a0.Table.Results, I a0.Start.Turn, I a0.Start.Weather, sl 4 gi_Unit a0.Start.Units, sl 2 gi_Goal a0.Conditions.Goals, I a0.Conditions.Step, I a0.Conditions.Margin, sl 1 I a0.First, sl 1 I a0.Other], .agg [.str a1.Name, sl 5 gi_Terrain a1.Board.Rules.Terrains, sl 6 gi_Kind a1.Board.Rules.Kinds, I a1.Board.Rules.Stack, I a1.Board.Rules.River, I a1.Board.Rules.Road, I a1.Board.Rules.Supply, I a1.Board.Rules.Turns, I a1.Board.Map.Width, I a1.Board.Map.Height, sl 1 I a1.Board.Map.Terrain, sl 1 I a1.Board.Map.Rivers, sl 1 I a1.Board.Map.Roads, sl 2 gi_Odds a1.Table.Columns, I a1.Table.Dice, sl 1 (sl 1 I) a1.Table.Results, I a1.Start.Turn, I a1.Start.Weather, sl 4 gi_Unit a1.Start.Units, sl 2 gi_Goal a1.Conditions.Goals, I a1.Conditions.Step, I a1.Conditions.Margin, sl 1 I a1.First, sl 1 I a1.Other]] [] (RB r) [] :=
  Ct.of func13 (c := bdy f13) (by kernel_rfl) (by kernel_rfl) <|
  gS [r0] (by kernel_rfl) P0 <|
  eIf H (fun h1 H =>
    eBind H fun r2 hr2 H =>
    gS [rg [hF 4]] (by kernel_rfl) (P2 ((!(a0.Name == a1.Name)) = false) (nbeqF h1) <| P0) <|
    eIf H (fun h3 H =>
      eBind H fun r4 hr4 H =>
      gS [rg [{ i := 4, call := some { cl := true, auto := true, ins := [], res := (RB r2), G' := [] }, dec := some true }]] (by kernel_rfl) (P1 (cw_eqBoard hr2) <| P2 (r2 = true) (h3) <| P0) <|
      eIf H (fun h5 H =>
        eBind H fun r6 hr6 H =>
        gS [rg [{ i := 4, call := some { cl := true, auto := true, ins := [], res := (RB r4), G' := [] }, dec := some true }]] (by kernel_rfl) (P1 (cw_eqCombatTable hr4) <| P2 (r4 = true) (h5) <| P0) <|
        eIf H (fun h7 H =>
          eBind H fun r8 hr8 H =>
          gS [rg [{ i := 4, call := some { cl := true, auto := true, ins := [], res := (RB r6), G' := [] }, dec := some true }]] (by kernel_rfl) (P1 (cw_eqState hr6) <| P2 (r6 = true) (h7) <| P0) <|
          eIf H (fun h9 H =>
            eBind H fun r10 hr10 H =>
            gS [rg [{ i := 4, call := some { cl := true, auto := true, ins := [], res := (RB r8), G' := [] }, dec := some true }]] (by kernel_rfl) (P1 (cw_eqConditions hr8) <| P2 (r8 = true) (h9) <| P0) <|
            eIf H (fun h11 H =>
              eBind H fun r12 hr12 H =>
              gS [rg [{ i := 4, call := some { cl := true, auto := true, ins := [], res := (RB r10), G' := [] }, dec := some true }]] (by kernel_rfl) (P1 (cw_eqIntS hr10) <| P2 (r10 = true) (h11) <| P0) <|
              eIf H (fun h13 H =>
                eW RB (fun _ => []) H <| gE func13 [rg [{ i := 4, call := some { cl := true, auto := true, ins := [], res := (RB r12), G' := [] }, dec := some true }], r0] (by kernel_rfl) (P1 (cw_eqIntS hr12) <| P2 (r12 = true) (h13) <| P0))
              (fun h13 H =>
                eW RB (fun _ => []) H <| gE func13 [rg [{ i := 4, call := some { cl := true, auto := true, ins := [], res := (RB r12), G' := [] }, dec := some false }], r0] (by kernel_rfl) (P1 (cw_eqIntS hr12) <| P2 (r12 = false) (eqF h13) <| P0)))
            (fun h11 H =>
              eW RB (fun _ => []) H <| gE func13 [rg [{ i := 4, call := some { cl := true, auto := true, ins := [], res := (RB r10), G' := [] }, dec := some false }], r0] (by kernel_rfl) (P1 (cw_eqIntS hr10) <| P2 (r10 = false) (eqF h11) <| P0)))
          (fun h9 H =>
            eW RB (fun _ => []) H <| gE func13 [rg [{ i := 4, call := some { cl := true, auto := true, ins := [], res := (RB r8), G' := [] }, dec := some false }], r0] (by kernel_rfl) (P1 (cw_eqConditions hr8) <| P2 (r8 = false) (eqF h9) <| P0)))
        (fun h7 H =>
          eW RB (fun _ => []) H <| gE func13 [rg [{ i := 4, call := some { cl := true, auto := true, ins := [], res := (RB r6), G' := [] }, dec := some false }], r0] (by kernel_rfl) (P1 (cw_eqState hr6) <| P2 (r6 = false) (eqF h7) <| P0)))
      (fun h5 H =>
        eW RB (fun _ => []) H <| gE func13 [rg [{ i := 4, call := some { cl := true, auto := true, ins := [], res := (RB r4), G' := [] }, dec := some false }], r0] (by kernel_rfl) (P1 (cw_eqCombatTable hr4) <| P2 (r4 = false) (eqF h5) <| P0)))
    (fun h3 H =>
      eW RB (fun _ => []) H <| gE func13 [rg [{ i := 4, call := some { cl := true, auto := true, ins := [], res := (RB r2), G' := [] }, dec := some false }], r0] (by kernel_rfl) (P1 (cw_eqBoard hr2) <| P2 (r2 = false) (eqF h3) <| P0)))
  (fun h1 H =>
    eW RB (fun _ => []) H <| gE func13 [rg [hT 4], r0] (by kernel_rfl) (P2 ((!(a0.Name == a1.Name)) = true) (nbeqT h1) <| P0))
/-! loop example/g00886/laws FnExactForcesOf -/
theorem cw_FnExactForcesOf {a0 : Gw_Scenario} {r : Bool} (H : Dw_FnExactForcesOf a0 = some r) : Ct X.P X.gl 5 [.agg [.str a0.Name, sl 5 gw_Terrain a0.Board.Rules.Terrains, sl 6 gw_Kind a0.Board.Rules.Kinds, I a0.Board.Rules.Stack, I a0.Board.Rules.River, I a0.Board.Rules.Road, I a0.Board.Rules.Supply, I a0.Board.Rules.Turns, I a0.Board.Map.Width, I a0.Board.Map.Height, sl 1 I a0.Board.Map.Terrain, sl 1 I a0.Board.Map.Rivers, sl 1 I a0.Board.Map.Roads, sl 2 gw_Odds a0.Table.Columns, I a0.Table.Dice, sl 1 (sl 1 I) a0.Table.Results, I a0.Start.Turn, I a0.Start.Weather, sl 4 gw_Unit a0.Start.Units, sl 2 gw_Goal a0.Conditions.Goals, I a0.Conditions.Step, I a0.Conditions.Margin, sl 1 I a0.First, sl 1 I a0.Other]] [] (RB r) [] :=
  Ct.of func5 (c := bdy f5) (by kernel_rfl) (by kernel_rfl) <|
  eBind H fun r1 hr1 H =>
  gS [r0, r0, rg [hC 2 true [] (RI r1) []]] (by kernel_rfl) (P1 (cw_szScenario hr1) <| P0) <|
  eIf H (fun h2 H =>
    eW RB (fun _ => []) H <| gE func5 [rg [hT 1], r0] (by kernel_rfl) (P2 ((decide (r1 < 0)) = true) (decide_eq_true h2) <| P0))
  (fun h2 H =>
    eBind H fun r3 hr3 H =>
    eBind H fun r4 hr4 H =>
    eBind H fun r5 hr5 H =>
    eBind H fun r6 hr6 H =>
    gS [rg [hF 1], rg [hC 1 true [] (Rw_toScenario r3) [], { i := 2, call := some { cl := false, ins := [], args := [.agg [.str r3.Name, sl 5 gi_Terrain r3.Board.Rules.Terrains, sl 6 gi_Kind r3.Board.Rules.Kinds, I r3.Board.Rules.Stack, I r3.Board.Rules.River, I r3.Board.Rules.Road, I r3.Board.Rules.Supply, I r3.Board.Rules.Turns, I r3.Board.Map.Width, I r3.Board.Map.Height, sl 1 I r3.Board.Map.Terrain, sl 1 I r3.Board.Map.Rivers, sl 1 I r3.Board.Map.Roads, sl 2 gi_Odds r3.Table.Columns, I r3.Table.Dice, sl 1 (sl 1 I) r3.Table.Results, I r3.Start.Turn, I r3.Start.Weather, sl 4 gi_Unit r3.Start.Units, sl 2 gi_Goal r3.Conditions.Goals, I r3.Conditions.Step, I r3.Conditions.Margin, sl 1 I r3.First, sl 1 I r3.Other]], res := Rs_ForcesOf r4, G' := [] } }], rg [hC 1 true [] (Rw_toScenario r5) []], rg [{ i := 1, call := some { cl := false, ins := [], args := [.agg [.str r5.Name, sl 5 gi_Terrain r5.Board.Rules.Terrains, sl 6 gi_Kind r5.Board.Rules.Kinds, I r5.Board.Rules.Stack, I r5.Board.Rules.River, I r5.Board.Rules.Road, I r5.Board.Rules.Supply, I r5.Board.Rules.Turns, I r5.Board.Map.Width, I r5.Board.Map.Height, sl 1 I r5.Board.Map.Terrain, sl 1 I r5.Board.Map.Rivers, sl 1 I r5.Board.Map.Roads, sl 2 gi_Odds r5.Table.Columns, I r5.Table.Dice, sl 1 (sl 1 I) r5.Table.Results, I r5.Start.Turn, I r5.Start.Weather, sl 4 gi_Unit r5.Start.Units, sl 2 gi_Goal r5.Conditions.Goals, I r5.Conditions.Step, I r5.Conditions.Margin, sl 1 I r5.First, sl 1 I r5.Other]], res := Ri_ForcesOf r6, G' := [] } }]] (by kernel_rfl) (P2 ((decide (r1 < 0)) = false) (decide_eq_false h2) <| P1 (cw_toScenario hr3) <| PI r3.Name <| PE ero_169 r3.Board.Rules.Terrains <| PL gi_Kind r3.Board.Rules.Kinds <| PI (r3.Board.Rules.Stack : Int) <| PI (r3.Board.Rules.River : Int) <| PI (r3.Board.Rules.Road : Int) <| PI (r3.Board.Rules.Supply : Int) <| PI (r3.Board.Rules.Turns : Int) <| PI (r3.Board.Map.Width : Int) <| PI (r3.Board.Map.Height : Int) <| PL I r3.Board.Map.Terrain <| PL I r3.Board.Map.Rivers <| PL I r3.Board.Map.Roads <| PL gi_Odds r3.Table.Columns <| PI (r3.Table.Dice : Int) <| PE ero_26 r3.Table.Results <| PI (r3.Start.Turn : Int) <| PI (r3.Start.Weather : Int) <| PL gi_Unit r3.Start.Units <| PL gi_Goal r3.Conditions.Goals <| PI (r3.Conditions.Step : Int) <| PI (r3.Conditions.Margin : Int) <| PL I r3.First <| PL I r3.Other <| P1 (cs_ForcesOf hr4) <| P1 (cw_toScenario hr5) <| PI r5.Name <| PE ero_169 r5.Board.Rules.Terrains <| PL gi_Kind r5.Board.Rules.Kinds <| PI (r5.Board.Rules.Stack : Int) <| PI (r5.Board.Rules.River : Int) <| PI (r5.Board.Rules.Road : Int) <| PI (r5.Board.Rules.Supply : Int) <| PI (r5.Board.Rules.Turns : Int) <| PI (r5.Board.Map.Width : Int) <| PI (r5.Board.Map.Height : Int) <| PL I r5.Board.Map.Terrain <| PL I r5.Board.Map.Rivers <| PL I r5.Board.Map.Roads <| PL gi_Odds r5.Table.Columns <| PI (r5.Table.Dice : Int) <| PE ero_26 r5.Table.Results <| PI (r5.Start.Turn : Int) <| PI (r5.Start.Weather : Int) <| PL gi_Unit r5.Start.Units <| PL gi_Goal r5.Conditions.Goals <| PI (r5.Conditions.Step : Int) <| PI (r5.Conditions.Margin : Int) <| PL I r5.First <| PL I r5.Other <| P1 (ci_ForcesOf hr6) <| P0) <|
    eIf H (fun h7 H =>
      eIf H (fun h8 H =>
        eIf H (fun h9 H =>
          eW RB (fun _ => []) H <| gE func5 [rg [hF 2, hF 6, hT 11], r0] (by kernel_rfl) (P2 (((r6.1 : Int) != r4.1) = false) (bneF h7) <| P2 (((r6.2.1 : Int) != r4.2.1) = false) (bneF h8) <| P2 ((!(r6.2.2 == r4.2.2)) = true) (h9) <| P0))
        (fun h9 H =>
          eBind H fun r10 hr10 H =>
          eBind H fun r11 hr11 H =>
          gS [rg [hF 2, hF 6, hF 11]] (by kernel_rfl) (P2 (((r6.1 : Int) != r4.1) = false) (bneF h7) <| P2 (((r6.2.1 : Int) != r4.2.1) = false) (bneF h8) <| P2 ((!(r6.2.2 == r4.2.2)) = false) (eqF h9) <| P0) <|
          eIf H (fun h12 H =>
            eW RB (fun _ => []) H <| gE func5 [rg [hC 2 true [] (Rw_toScenario r10) [], { i := 3, call := some { cl := false, ins := [], args := [.agg [.str r5.Name, sl 5 gi_Terrain r5.Board.Rules.Terrains, sl 6 gi_Kind r5.Board.Rules.Kinds, I r5.Board.Rules.Stack, I r5.Board.Rules.River, I r5.Board.Rules.Road, I r5.Board.Rules.Supply, I r5.Board.Rules.Turns, I r5.Board.Map.Width, I r5.Board.Map.Height, sl 1 I r5.Board.Map.Terrain, sl 1 I r5.Board.Map.Rivers, sl 1 I r5.Board.Map.Roads, sl 2 gi_Odds r5.Table.Columns, I r5.Table.Dice, sl 1 (sl 1 I) r5.Table.Results, I r5.Start.Turn, I r5.Start.Weather, sl 4 gi_Unit r5.Start.Units, sl 2 gi_Goal r5.Conditions.Goals, I r5.Conditions.Step, I r5.Conditions.Margin, sl 1 I r5.First, sl 1 I r5.Other], .agg [.str r10.Name, sl 5 gi_Terrain r10.Board.Rules.Terrains, sl 6 gi_Kind r10.Board.Rules.Kinds, I r10.Board.Rules.Stack, I r10.Board.Rules.River, I r10.Board.Rules.Road, I r10.Board.Rules.Supply, I r10.Board.Rules.Turns, I r10.Board.Map.Width, I r10.Board.Map.Height, sl 1 I r10.Board.Map.Terrain, sl 1 I r10.Board.Map.Rivers, sl 1 I r10.Board.Map.Roads, sl 2 gi_Odds r10.Table.Columns, I r10.Table.Dice, sl 1 (sl 1 I) r10.Table.Results, I r10.Start.Turn, I r10.Start.Weather, sl 4 gi_Unit r10.Start.Units, sl 2 gi_Goal r10.Conditions.Goals, I r10.Conditions.Step, I r10.Conditions.Margin, sl 1 I r10.First, sl 1 I r10.Other]], res := RB r11, G' := [] }, dec := some true }], r0] (by kernel_rfl) (P1 (cw_toScenario hr10) <| PI r5.Name <| PE ero_169 r5.Board.Rules.Terrains <| PL gi_Kind r5.Board.Rules.Kinds <| PI (r5.Board.Rules.Stack : Int) <| PI (r5.Board.Rules.River : Int) <| PI (r5.Board.Rules.Road : Int) <| PI (r5.Board.Rules.Supply : Int) <| PI (r5.Board.Rules.Turns : Int) <| PI (r5.Board.Map.Width : Int) <| PI (r5.Board.Map.Height : Int) <| PL I r5.Board.Map.Terrain <| PL I r5.Board.Map.Rivers <| PL I r5.Board.Map.Roads <| PL gi_Odds r5.Table.Columns <| PI (r5.Table.Dice : Int) <| PE ero_26 r5.Table.Results <| PI (r5.Start.Turn : Int) <| PI (r5.Start.Weather : Int) <| PL gi_Unit r5.Start.Units <| PL gi_Goal r5.Conditions.Goals <| PI (r5.Conditions.Step : Int) <| PI (r5.Conditions.Margin : Int) <| PL I r5.First <| PL I r5.Other <| PI r10.Name <| PE ero_169 r10.Board.Rules.Terrains <| PL gi_Kind r10.Board.Rules.Kinds <| PI (r10.Board.Rules.Stack : Int) <| PI (r10.Board.Rules.River : Int) <| PI (r10.Board.Rules.Road : Int) <| PI (r10.Board.Rules.Supply : Int) <| PI (r10.Board.Rules.Turns : Int) <| PI (r10.Board.Map.Width : Int) <| PI (r10.Board.Map.Height : Int) <| PL I r10.Board.Map.Terrain <| PL I r10.Board.Map.Rivers <| PL I r10.Board.Map.Roads <| PL gi_Odds r10.Table.Columns <| PI (r10.Table.Dice : Int) <| PE ero_26 r10.Table.Results <| PI (r10.Start.Turn : Int) <| PI (r10.Start.Weather : Int) <| PL gi_Unit r10.Start.Units <| PL gi_Goal r10.Conditions.Goals <| PI (r10.Conditions.Step : Int) <| PI (r10.Conditions.Margin : Int) <| PL I r10.First <| PL I r10.Other <| P1 (cw_eqScenario hr11) <| P2 (r11 = true) (h12) <| P0))
          (fun h12 H =>
            eW RB (fun _ => []) H <| gE func5 [rg [hC 2 true [] (Rw_toScenario r10) [], { i := 3, call := some { cl := false, ins := [], args := [.agg [.str r5.Name, sl 5 gi_Terrain r5.Board.Rules.Terrains, sl 6 gi_Kind r5.Board.Rules.Kinds, I r5.Board.Rules.Stack, I r5.Board.Rules.River, I r5.Board.Rules.Road, I r5.Board.Rules.Supply, I r5.Board.Rules.Turns, I r5.Board.Map.Width, I r5.Board.Map.Height, sl 1 I r5.Board.Map.Terrain, sl 1 I r5.Board.Map.Rivers, sl 1 I r5.Board.Map.Roads, sl 2 gi_Odds r5.Table.Columns, I r5.Table.Dice, sl 1 (sl 1 I) r5.Table.Results, I r5.Start.Turn, I r5.Start.Weather, sl 4 gi_Unit r5.Start.Units, sl 2 gi_Goal r5.Conditions.Goals, I r5.Conditions.Step, I r5.Conditions.Margin, sl 1 I r5.First, sl 1 I r5.Other], .agg [.str r10.Name, sl 5 gi_Terrain r10.Board.Rules.Terrains, sl 6 gi_Kind r10.Board.Rules.Kinds, I r10.Board.Rules.Stack, I r10.Board.Rules.River, I r10.Board.Rules.Road, I r10.Board.Rules.Supply, I r10.Board.Rules.Turns, I r10.Board.Map.Width, I r10.Board.Map.Height, sl 1 I r10.Board.Map.Terrain, sl 1 I r10.Board.Map.Rivers, sl 1 I r10.Board.Map.Roads, sl 2 gi_Odds r10.Table.Columns, I r10.Table.Dice, sl 1 (sl 1 I) r10.Table.Results, I r10.Start.Turn, I r10.Start.Weather, sl 4 gi_Unit r10.Start.Units, sl 2 gi_Goal r10.Conditions.Goals, I r10.Conditions.Step, I r10.Conditions.Margin, sl 1 I r10.First, sl 1 I r10.Other]], res := RB r11, G' := [] }, dec := some false }], r0] (by kernel_rfl) (P1 (cw_toScenario hr10) <| PI r5.Name <| PE ero_169 r5.Board.Rules.Terrains <| PL gi_Kind r5.Board.Rules.Kinds <| PI (r5.Board.Rules.Stack : Int) <| PI (r5.Board.Rules.River : Int) <| PI (r5.Board.Rules.Road : Int) <| PI (r5.Board.Rules.Supply : Int) <| PI (r5.Board.Rules.Turns : Int) <| PI (r5.Board.Map.Width : Int) <| PI (r5.Board.Map.Height : Int) <| PL I r5.Board.Map.Terrain <| PL I r5.Board.Map.Rivers <| PL I r5.Board.Map.Roads <| PL gi_Odds r5.Table.Columns <| PI (r5.Table.Dice : Int) <| PE ero_26 r5.Table.Results <| PI (r5.Start.Turn : Int) <| PI (r5.Start.Weather : Int) <| PL gi_Unit r5.Start.Units <| PL gi_Goal r5.Conditions.Goals <| PI (r5.Conditions.Step : Int) <| PI (r5.Conditions.Margin : Int) <| PL I r5.First <| PL I r5.Other <| PI r10.Name <| PE ero_169 r10.Board.Rules.Terrains <| PL gi_Kind r10.Board.Rules.Kinds <| PI (r10.Board.Rules.Stack : Int) <| PI (r10.Board.Rules.River : Int) <| PI (r10.Board.Rules.Road : Int) <| PI (r10.Board.Rules.Supply : Int) <| PI (r10.Board.Rules.Turns : Int) <| PI (r10.Board.Map.Width : Int) <| PI (r10.Board.Map.Height : Int) <| PL I r10.Board.Map.Terrain <| PL I r10.Board.Map.Rivers <| PL I r10.Board.Map.Roads <| PL gi_Odds r10.Table.Columns <| PI (r10.Table.Dice : Int) <| PE ero_26 r10.Table.Results <| PI (r10.Start.Turn : Int) <| PI (r10.Start.Weather : Int) <| PL gi_Unit r10.Start.Units <| PL gi_Goal r10.Conditions.Goals <| PI (r10.Conditions.Step : Int) <| PI (r10.Conditions.Margin : Int) <| PL I r10.First <| PL I r10.Other <| P1 (cw_eqScenario hr11) <| P2 (r11 = false) (eqF h12) <| P0))))
      (fun h8 H =>
        eW RB (fun _ => []) H <| gE func5 [rg [hF 2, hT 6], r0] (by kernel_rfl) (P2 (((r6.1 : Int) != r4.1) = false) (bneF h7) <| P2 (((r6.2.1 : Int) != r4.2.1) = true) (bneT h8) <| P0)))
    (fun h7 H =>
      eW RB (fun _ => []) H <| gE func5 [rg [hT 2], r0] (by kernel_rfl) (P2 (((r6.1 : Int) != r4.1) = true) (bneT h7) <| P0)))
end Go.Proofs.YtcggoeafffcghaaGreatDoor.Ab
