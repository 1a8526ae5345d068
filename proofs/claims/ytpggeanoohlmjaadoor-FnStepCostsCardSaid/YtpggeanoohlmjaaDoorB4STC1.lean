/- Part of the proof of FnStepCostsCard: no condition of its own. -/
import Derived.Test.YtpggeanoohlmjaaDoorB4STC
set_option linter.unusedVariables false
set_option linter.unusedSimpArgs false
open Go Go.Proofs Go.Proofs.Tryd
namespace Go.Proofs.YtpggeanoohlmjaaDoor.Ab
/-! loop example/g00886/spec StepCost -/
def Rs_StepCost (r : Int × Bool) : List D := [I r.1, .bool r.2]
theorem cs_StepCost {a0 : Gi_Board} {a1 : Int} {a2 : Int} {a3 : Int} {a4 : Int} {r : Int × Bool} (H : Ds_StepCost a0 a1 a2 a3 a4 = some r) : Ct X.P X.gl 12 [.agg [sl 5 gi_Terrain a0.Rules.Terrains, sl 6 gi_Kind a0.Rules.Kinds, I a0.Rules.Stack, I a0.Rules.River, I a0.Rules.Road, I a0.Rules.Supply, I a0.Rules.Turns, I a0.Map.Width, I a0.Map.Height, sl 1 I a0.Map.Terrain, sl 1 I a0.Map.Rivers, sl 1 I a0.Map.Roads], I a1, I a2, I a3, I a4] [] (Rs_StepCost r) [] :=
  Ct.of func12 (c := bdy f12) (by kernel_rfl) (by kernel_rfl) <|
  eBind H fun r1 hr1 H =>
  gS [r0] (by kernel_rfl) P0 <|
  eIf H (fun h2 H =>
    eBind H fun r3 hr3 H =>
    eIf H (fun h4 H =>
      eBind H fun r5 hr5 H =>
      eW Rs_StepCost (fun _ => []) H <| gE func12 [rg [{ i := 4, call := some { cl := true, auto := true, ins := [], res := (RB r1), G' := [] }, dec := some true }, { i := 8, call := some { cl := true, auto := true, ins := [], res := (RB r3), G' := [] }, dec := some true }], rg [hC 5 true [] (RI r5) []], r0] (by kernel_rfl) (P1 (cs_csInput hr1) <| P2 (r1 = true) (h2) <| P1 (cs_l1In hr3) <| P2 (r3 = true) (h4) <| P1 (cs_cStep hr5) <| P0))
    (fun h4 H =>
      eW Rs_StepCost (fun _ => []) H <| gE func12 [rg [{ i := 4, call := some { cl := true, auto := true, ins := [], res := (RB r1), G' := [] }, dec := some true }, { i := 8, call := some { cl := true, auto := true, ins := [], res := (RB r3), G' := [] }, dec := some false }], r0] (by kernel_rfl) (P1 (cs_csInput hr1) <| P2 (r1 = true) (h2) <| P1 (cs_l1In hr3) <| P2 (r3 = false) (eqF h4) <| P0)))
  (fun h2 H =>
    eW Rs_StepCost (fun _ => []) H <| gE func12 [rg [{ i := 4, call := some { cl := true, auto := true, ins := [], res := (RB r1), G' := [] }, dec := some false }], r0] (by kernel_rfl) (P1 (cs_csInput hr1) <| P2 (r1 = false) (eqF h2) <| P0))
/-! loop example/g00886/laws qInts -/
noncomputable def Kw_qInts : Sw_qInts → List Item
  | .h1 .. => nav 300 3 [false] [.code (bdy f13)]
def Zw_qInts : Sw_qInts → St
  | .h1 va0 b1 t2 t3 => ⟨sts 26 [(0, sl 1 I va0), (1, sl 1 I b1), (12, I t2), (13, I t3)], []⟩
abbrev Qw_qInts := Nx X 13 0 Kw_qInts Zw_qInts RB (fun _ => [])
theorem nw_qInts : ∀ s o, Bw_qInts s = some o → Qw_qInts (Kw_qInts s) (Zw_qInts s) o
  | .h1 va0 b1 t2 t3, o, H =>
    eIf H (fun h1 H =>
      eCk H fun h2 H =>
      eBind H fun x3 hx3 H =>
      eCk H fun h4 H =>
      eBind H fun x5 hx5 H =>
      gN [rg [hT 0], r0] (by kernel_rfl) (P2 ((decide (t3 < t2)) = true) (decide_eq_true h1) <| P0) <|
      eIf H (fun h6 H =>
        eN H fun r hn => gO [rg [hE 3 (I x3), hE 7 (I x5), hF 8], r0, .canon [] [0, 1, 12, 13]] (by kernel_rfl) (P1 h2 <| P1 (int_lt_of_at h2 hx3) <| P1 (at_map I hx3) <| P1 h4 <| P1 (int_lt_of_at h4 hx5) <| P1 (at_map I hx5) <| P2 (((x3 : Int) != x5) = false) (bneF h6) <| P0) hn)
      (fun h6 H =>
        eN H <| gE func13 [rg [hE 3 (I x3), hE 7 (I x5), hT 8], r0] (by kernel_rfl) (P1 h2 <| P1 (int_lt_of_at h2 hx3) <| P1 (at_map I hx3) <| P1 h4 <| P1 (int_lt_of_at h4 hx5) <| P1 (at_map I hx5) <| P2 (((x3 : Int) != x5) = true) (bneT h6) <| P0)))
    (fun h1 H =>
      eN H <| gE func13 [rg [hF 0], r0] (by kernel_rfl) (P2 ((decide (t3 < t2)) = false) (decide_eq_false h1) <| P0))
theorem ww_qInts : ∀ s r, loop Bw_qInts s = some r → Wc X 13 0 (Kw_qInts s) (Zw_qInts s) (RB r) ((fun _ => []) r) := Nx.all nw_qInts
theorem cw_qInts {a0 : (List Int)} {a1 : (List Int)} {r : Bool} (H : Dw_qInts a0 a1 = some r) : Ct X.P X.gl 13 [sl 1 I a0, sl 1 I a1] [] (RB r) [] :=
  Ct.of func13 (c := bdy f13) (by kernel_rfl) (by kernel_rfl) <|
  gS [r0] (by kernel_rfl) P0 <|
  eIf H (fun h1 H =>
    gO [rg [hF 4], r0, .canon [] [0, 1, 12, 13]] (by kernel_rfl) (P2 (((((a0.length : Nat) : Int) : Int) != ((a1.length : Nat) : Int)) = false) (bneF h1) <| P0) (ww_qInts _ _ H))
  (fun h1 H =>
    eW RB (fun _ => []) H <| gE func13 [rg [hT 4], r0] (by kernel_rfl) (P2 (((((a0.length : Nat) : Int) : Int) != ((a1.length : Nat) : Int)) = true) (bneT h1) <| P0))
/-! loop example/g00886/impl CheapestStep -/
def Ri_CheapestStep (r : Int × Bool) : List D := [I r.1, .bool r.2]
noncomputable def Ki_CheapestStep : Si_CheapestStep → List Item
  | .h1 .. => nav 300 4 [] [.code (bdy f14)]
def Zi_CheapestStep : Si_CheapestStep → St
  | .h1 ok0 best1 t2 t3 l4 => ⟨sts 53 [(10, .ref 0 1 none), (11, .bool ok0), (12, I best1), (23, .ref 0 1 none), (24, I t2), (25, I t3)], [some ⟨false, false, 1, l4.length, List.map I l4⟩]⟩
abbrev Qi_CheapestStep := Nx X 14 0 Ki_CheapestStep Zi_CheapestStep Ri_CheapestStep (fun _ => [])
theorem ni_CheapestStep : ∀ s o, Bi_CheapestStep s = some o → Qi_CheapestStep (Ki_CheapestStep s) (Zi_CheapestStep s) o
  | .h1 true best1 t2 t3 l4, o, H =>
    eIf H (fun h1 H =>
      eCk H fun h2 H =>
      eBind H fun x3 hx3 H =>
      gN [rg [hT 0], rg [hE 2 (I x3)]] (by kernel_rfl) (P2 ((decide (t3 < t2)) = true) (decide_eq_true h1) <| P1 h2 <| P1 (int_lt_of_at h2 hx3) <| P1 (at_map I hx3) <| P0) <|
      eIf H (fun h4 H =>
        eIf H (fun h5 H =>
          eN H fun r hn => gO [rg [hT 1, hT 4], r0, r0, .canon [0] [10, 11, 12, 23, 24, 25]] (by kernel_rfl) (P2 ((decide (x3 > 0)) = true) (decide_eq_true h4) <| P2 ((decide (best1 < 0)) = true) (decide_eq_true h5) <| P0) hn)
        (fun h5 H =>
          eCk H fun h6 H =>
          eBind H fun x7 hx7 H =>
          eIf H (fun h8 H =>
            eN H fun r hn => gO [rg [hT 1, hF 4, hE 10 (I x7), hT 11], r0, r0, .canon [0] [10, 11, 12, 23, 24, 25]] (by kernel_rfl) (P2 ((decide (x3 > 0)) = true) (decide_eq_true h4) <| P2 ((decide (best1 < 0)) = false) (decide_eq_false h5) <| P1 h6 <| P1 (int_lt_of_at h6 hx7) <| P1 (at_map I hx7) <| P2 ((decide (x3 < x7)) = true) (decide_eq_true h8) <| P0) hn)
          (fun h8 H =>
            eN H fun r hn => gO [rg [hT 1, hF 4, hE 10 (I x7), hF 11], r0, .canon [0] [10, 11, 12, 23, 24, 25]] (by kernel_rfl) (P2 ((decide (x3 > 0)) = true) (decide_eq_true h4) <| P2 ((decide (best1 < 0)) = false) (decide_eq_false h5) <| P1 h6 <| P1 (int_lt_of_at h6 hx7) <| P1 (at_map I hx7) <| P2 ((decide (x3 < x7)) = false) (decide_eq_false h8) <| P0) hn)))
      (fun h4 H =>
        eN H fun r hn => gO [rg [hF 1], r0, .canon [0] [10, 11, 12, 23, 24, 25]] (by kernel_rfl) (P2 ((decide (x3 > 0)) = false) (decide_eq_false h4) <| P0) hn))
    (fun h1 H =>
      gN [rg [hF 0]] (by kernel_rfl) (P2 ((decide (t3 < t2)) = false) (decide_eq_false h1) <| P0) <|
      eIf H (fun h2 H =>
        eN H <| gE func14 [rg [hT 4], r0] (by kernel_rfl) (P2 ((decide (best1 < 0)) = true) (decide_eq_true h2) <| P0))
      (fun h2 H =>
        eN H <| gE func14 [rg [hF 4], r0] (by kernel_rfl) (P2 ((decide (best1 < 0)) = false) (decide_eq_false h2) <| P0)))
  | .h1 false best1 t2 t3 l4, o, H =>
    eIf H (fun h1 H =>
      eCk H fun h2 H =>
      eBind H fun x3 hx3 H =>
      gN [rg [hT 0], rg [hE 2 (I x3)]] (by kernel_rfl) (P2 ((decide (t3 < t2)) = true) (decide_eq_true h1) <| P1 h2 <| P1 (int_lt_of_at h2 hx3) <| P1 (at_map I hx3) <| P0) <|
      eIf H (fun h4 H =>
        eIf H (fun h5 H =>
          eN H fun r hn => gO [rg [hT 1, hT 4], r0, r0, .canon [0] [10, 11, 12, 23, 24, 25]] (by kernel_rfl) (P2 ((decide (x3 > 0)) = true) (decide_eq_true h4) <| P2 ((decide (best1 < 0)) = true) (decide_eq_true h5) <| P0) hn)
        (fun h5 H =>
          eCk H fun h6 H =>
          eBind H fun x7 hx7 H =>
          eIf H (fun h8 H =>
            eN H fun r hn => gO [rg [hT 1, hF 4, hE 10 (I x7), hT 11], r0, r0, .canon [0] [10, 11, 12, 23, 24, 25]] (by kernel_rfl) (P2 ((decide (x3 > 0)) = true) (decide_eq_true h4) <| P2 ((decide (best1 < 0)) = false) (decide_eq_false h5) <| P1 h6 <| P1 (int_lt_of_at h6 hx7) <| P1 (at_map I hx7) <| P2 ((decide (x3 < x7)) = true) (decide_eq_true h8) <| P0) hn)
          (fun h8 H =>
            eN H fun r hn => gO [rg [hT 1, hF 4, hE 10 (I x7), hF 11], r0, .canon [0] [10, 11, 12, 23, 24, 25]] (by kernel_rfl) (P2 ((decide (x3 > 0)) = true) (decide_eq_true h4) <| P2 ((decide (best1 < 0)) = false) (decide_eq_false h5) <| P1 h6 <| P1 (int_lt_of_at h6 hx7) <| P1 (at_map I hx7) <| P2 ((decide (x3 < x7)) = false) (decide_eq_false h8) <| P0) hn)))
      (fun h4 H =>
        eN H fun r hn => gO [rg [hF 1], r0, .canon [0] [10, 11, 12, 23, 24, 25]] (by kernel_rfl) (P2 ((decide (x3 > 0)) = false) (decide_eq_false h4) <| P0) hn))
    (fun h1 H =>
      eN H <| gE func14 [rg [hF 0], r0, r0] (by kernel_rfl) (P2 ((decide (t3 < t2)) = false) (decide_eq_false h1) <| P0))
theorem wi_CheapestStep : ∀ s r, loop Bi_CheapestStep s = some r → Wc X 14 0 (Ki_CheapestStep s) (Zi_CheapestStep s) (Ri_CheapestStep r) ((fun _ => []) r) := Nx.all ni_CheapestStep
theorem ci_CheapestStep {a0 : Gi_Board} {a1 : Int} {a2 : Int} {a3 : Int} {r : Int × Bool} (H : Di_CheapestStep a0 a1 a2 a3 = some r) : Ct X.P X.gl 14 [.agg [sl 5 gi_Terrain a0.Rules.Terrains, sl 6 gi_Kind a0.Rules.Kinds, I a0.Rules.Stack, I a0.Rules.River, I a0.Rules.Road, I a0.Rules.Supply, I a0.Rules.Turns, I a0.Map.Width, I a0.Map.Height, sl 1 I a0.Map.Terrain, sl 1 I a0.Map.Rivers, sl 1 I a0.Map.Roads], I a1, I a2, I a3] [] (Ri_CheapestStep r) [] :=
  Ct.of func14 (c := bdy f14) (by kernel_rfl) (by kernel_rfl) <|
  eBind H fun r1 hr1 H =>
  gO [r0, rg [hC 4 true [] (Ri_StepCosts r1) []], r0, r0, .canon [1] [10, 11, 12, 23, 24, 25]] (by kernel_rfl) (P1 (ci_StepCosts hr1) <| P0) (wi_CheapestStep _ _ H)
/-! loop example/g00886/spec CheapestStep -/
def Rs_CheapestStep (r : Int × Bool) : List D := [I r.1, .bool r.2]
noncomputable def Ks_CheapestStep : Ss_CheapestStep → List Item
  | .h1 .. => nav 300 5 [false] [.code (bdy f15)]
def Zs_CheapestStep : Ss_CheapestStep → St
  | .h1 best0 t1 t2 l3 => ⟨sts 51 [(10, .ref 0 1 none), (11, I best0), (25, .ref 0 1 none), (26, I t1), (27, I t2)], [some ⟨false, false, 1, l3.length, List.map I l3⟩]⟩
abbrev Qs_CheapestStep := Nx X 15 0 Ks_CheapestStep Zs_CheapestStep Rs_CheapestStep (fun _ => [])
theorem ns_CheapestStep : ∀ s o, Bs_CheapestStep s = some o → Qs_CheapestStep (Ks_CheapestStep s) (Zs_CheapestStep s) o
  | .h1 best0 t1 t2 l3, o, H =>
    eIf H (fun h1 H =>
      eCk H fun h2 H =>
      eBind H fun x3 hx3 H =>
      gN [rg [hT 0], rg [hE 2 (I x3)]] (by kernel_rfl) (P2 ((decide (t2 < t1)) = true) (decide_eq_true h1) <| P1 h2 <| P1 (int_lt_of_at h2 hx3) <| P1 (at_map I hx3) <| P0) <|
      eIf H (fun h4 H =>
        eIf H (fun h5 H =>
          eN H fun r hn => gO [rg [hT 1, hT 4], r0, r0, .canon [0] [10, 11, 25, 26, 27]] (by kernel_rfl) (P2 ((decide (x3 > 0)) = true) (decide_eq_true h4) <| P2 ((decide (best0 < 0)) = true) (decide_eq_true h5) <| P0) hn)
        (fun h5 H =>
          eCk H fun h6 H =>
          eBind H fun x7 hx7 H =>
          eIf H (fun h8 H =>
            eN H fun r hn => gO [rg [hT 1, hF 4, hE 10 (I x7), hT 11], r0, r0, .canon [0] [10, 11, 25, 26, 27]] (by kernel_rfl) (P2 ((decide (x3 > 0)) = true) (decide_eq_true h4) <| P2 ((decide (best0 < 0)) = false) (decide_eq_false h5) <| P1 h6 <| P1 (int_lt_of_at h6 hx7) <| P1 (at_map I hx7) <| P2 ((decide (x3 < x7)) = true) (decide_eq_true h8) <| P0) hn)
          (fun h8 H =>
            eN H fun r hn => gO [rg [hT 1, hF 4, hE 10 (I x7), hF 11], r0, .canon [0] [10, 11, 25, 26, 27]] (by kernel_rfl) (P2 ((decide (x3 > 0)) = true) (decide_eq_true h4) <| P2 ((decide (best0 < 0)) = false) (decide_eq_false h5) <| P1 h6 <| P1 (int_lt_of_at h6 hx7) <| P1 (at_map I hx7) <| P2 ((decide (x3 < x7)) = false) (decide_eq_false h8) <| P0) hn)))
      (fun h4 H =>
        eN H fun r hn => gO [rg [hF 1], r0, .canon [0] [10, 11, 25, 26, 27]] (by kernel_rfl) (P2 ((decide (x3 > 0)) = false) (decide_eq_false h4) <| P0) hn))
    (fun h1 H =>
      gN [rg [hF 0]] (by kernel_rfl) (P2 ((decide (t2 < t1)) = false) (decide_eq_false h1) <| P0) <|
      eIf H (fun h2 H =>
        eN H <| gE func15 [rg [hT 1], r0] (by kernel_rfl) (P2 ((decide (best0 < 0)) = true) (decide_eq_true h2) <| P0))
      (fun h2 H =>
        eN H <| gE func15 [rg [hF 1], r0] (by kernel_rfl) (P2 ((decide (best0 < 0)) = false) (decide_eq_false h2) <| P0)))
theorem ws_CheapestStep : ∀ s r, loop Bs_CheapestStep s = some r → Wc X 15 0 (Ks_CheapestStep s) (Zs_CheapestStep s) (Rs_CheapestStep r) ((fun _ => []) r) := Nx.all ns_CheapestStep
theorem cs_CheapestStep {a0 : Gi_Board} {a1 : Int} {a2 : Int} {a3 : Int} {r : Int × Bool} (H : Ds_CheapestStep a0 a1 a2 a3 = some r) : Ct X.P X.gl 15 [.agg [sl 5 gi_Terrain a0.Rules.Terrains, sl 6 gi_Kind a0.Rules.Kinds, I a0.Rules.Stack, I a0.Rules.River, I a0.Rules.Road, I a0.Rules.Supply, I a0.Rules.Turns, I a0.Map.Width, I a0.Map.Height, sl 1 I a0.Map.Terrain, sl 1 I a0.Map.Rivers, sl 1 I a0.Map.Roads], I a1, I a2, I a3] [] (Rs_CheapestStep r) [] :=
  Ct.of func15 (c := bdy f15) (by kernel_rfl) (by kernel_rfl) <|
  eBind H fun r1 hr1 H =>
  gS [r0] (by kernel_rfl) P0 <|
  eIf H (fun h2 H =>
    eBind H fun r3 hr3 H =>
    gO [rg [{ i := 4, call := some { cl := true, auto := true, ins := [], res := (RB r1), G' := [] }, dec := some true }], rg [hC 4 true [] (Rs_csAll r3) []], r0, r0, .canon [1] [10, 11, 25, 26, 27]] (by kernel_rfl) (P1 (cs_csInput hr1) <| P2 (r1 = true) (h2) <| P1 (cs_csAll hr3) <| P0) (ws_CheapestStep _ _ H))
  (fun h2 H =>
    eW Rs_CheapestStep (fun _ => []) H <| gE func15 [rg [{ i := 4, call := some { cl := true, auto := true, ins := [], res := (RB r1), G' := [] }, dec := some false }], r0] (by kernel_rfl) (P1 (cs_csInput hr1) <| P2 (r1 = false) (eqF h2) <| P0))
/-! loop example/g00886/impl CostliestStep -/
def Ri_CostliestStep (r : Int × Bool) : List D := [I r.1, .bool r.2]
noncomputable def Ki_CostliestStep : Si_CostliestStep → List Item
  | .h1 .. => nav 300 4 [false] [.code (bdy f16)]
  | .h2 .. => nav 300 7 [false, true] [.code (bdy f16)]
def Zi_CostliestStep : Si_CostliestStep → St
  | .h1 kind0 weather1 most2 t3 t4 b5 => ⟨sts 37 [(1, I kind0), (2, I weather1), (3, .ptr 0 12 0 0), (8, I most2), (19, I t3), (20, I t4)], [some ⟨false, true, 12, 1, [.agg [sl 5 gi_Terrain b5.Rules.Terrains, sl 6 gi_Kind b5.Rules.Kinds, I b5.Rules.Stack, I b5.Rules.River, I b5.Rules.Road, I b5.Rules.Supply, I b5.Rules.Turns, I b5.Map.Width, I b5.Map.Height, sl 1 I b5.Map.Terrain, sl 1 I b5.Map.Rivers, sl 1 I b5.Map.Roads]]⟩]⟩
  | .h2 kind0 weather1 most2 i3 t4 t5 t6 b7 => ⟨sts 37 [(1, I kind0), (2, I weather1), (3, .ptr 0 12 0 0), (8, I most2), (9, I i3), (19, I t4), (20, I t5), (23, I t6)], [some ⟨false, true, 12, 1, [.agg [sl 5 gi_Terrain b7.Rules.Terrains, sl 6 gi_Kind b7.Rules.Kinds, I b7.Rules.Stack, I b7.Rules.River, I b7.Rules.Road, I b7.Rules.Supply, I b7.Rules.Turns, I b7.Map.Width, I b7.Map.Height, sl 1 I b7.Map.Terrain, sl 1 I b7.Map.Rivers, sl 1 I b7.Map.Roads]]⟩]⟩
abbrev Qi_CostliestStep := Nx X 16 0 Ki_CostliestStep Zi_CostliestStep Ri_CostliestStep (fun _ => [])
theorem ni_CostliestStep : ∀ s o, Bi_CostliestStep s = some o → Qi_CostliestStep (Ki_CostliestStep s) (Zi_CostliestStep s) o
  | .h1 kind0 weather1 most2 t3 t4 b5, o, H =>
    eIf H (fun h1 H =>
      eN H fun r hn => gO [rg [hT 0], r0, r0, .canon [0] [1, 2, 3, 8, 9, 19, 20, 23]] (by kernel_rfl) (P2 ((decide (t4 < t3)) = true) (decide_eq_true h1) <| P0) hn)
    (fun h1 H =>
      eN H <| gE func16 [rg [hF 0], r0] (by kernel_rfl) (P2 ((decide (t4 < t3)) = false) (decide_eq_false h1) <| P0))
  | .h2 kind0 weather1 most2 i3 t4 t5 t6 b7, o, H =>
    eIf H (fun h1 H =>
      eBind H fun r2 hr2 H =>
      eN H fun r hn => gO [rg [hT 0], r0, rg [hC 6 true [] (RI r2) []], r0, .canon [0] [1, 2, 3, 8, 9, 19, 20, 23]] (by kernel_rfl) (P2 ((decide (t6 < 6)) = true) (decide_eq_true h1) <| P1 (ci_stepCost hr2) <| P0) hn)
    (fun h1 H =>
      eN H fun r hn => gO [rg [hF 0], r0, .canon [0] [1, 2, 3, 8, 19, 20]] (by kernel_rfl) (P2 ((decide (t6 < 6)) = false) (decide_eq_false h1) <| P0) hn)
theorem wi_CostliestStep : ∀ s r, loop Bi_CostliestStep s = some r → Wc X 16 0 (Ki_CostliestStep s) (Zi_CostliestStep s) (Ri_CostliestStep r) ((fun _ => []) r) := Nx.all ni_CostliestStep
theorem ci_CostliestStep {a0 : Gi_Board} {a1 : Int} {a2 : Int} {r : Int × Bool} (H : Di_CostliestStep a0 a1 a2 = some r) : Ct X.P X.gl 16 [.agg [sl 5 gi_Terrain a0.Rules.Terrains, sl 6 gi_Kind a0.Rules.Kinds, I a0.Rules.Stack, I a0.Rules.River, I a0.Rules.Road, I a0.Rules.Supply, I a0.Rules.Turns, I a0.Map.Width, I a0.Map.Height, sl 1 I a0.Map.Terrain, sl 1 I a0.Map.Rivers, sl 1 I a0.Map.Roads], I a1, I a2] [] (Ri_CostliestStep r) [] :=
  Ct.of func16 (c := bdy f16) (by kernel_rfl) (by kernel_rfl) <|
  eBind H fun r1 hr1 H =>
  gS [r0] (by kernel_rfl) P0 <|
  eIf H (fun h2 H =>
    gO [rg [{ i := 3, call := some { cl := true, auto := true, ins := [], res := (RB r1), G' := [] }, dec := some true }], r0, r0, .canon [0] [1, 2, 3, 8, 19, 20]] (by kernel_rfl) (P1 (ci_isMover hr1) <| P2 (r1 = true) (h2) <| P0) (wi_CostliestStep _ _ H))
  (fun h2 H =>
    eW Ri_CostliestStep (fun _ => []) H <| gE func16 [rg [{ i := 3, call := some { cl := true, auto := true, ins := [], res := (RB r1), G' := [] }, dec := some false }], r0] (by kernel_rfl) (P1 (ci_isMover hr1) <| P2 (r1 = false) (eqF h2) <| P0))
/-! loop example/g00886/laws qSum -/
noncomputable def Kw_qSum : Sw_qSum → List Item
  | .h1 .. => nav 300 3 [] [.code (bdy f17)]
def Zw_qSum : Sw_qSum → St
  | .h1 sum0 t1 t2 t3 => ⟨sts 17 [(3, I sum0), (6, sl 1 I t1), (7, I t2), (8, I t3)], []⟩
abbrev Qw_qSum := Nx X 17 0 Kw_qSum Zw_qSum RI (fun _ => [])
theorem nw_qSum : ∀ s o, Bw_qSum s = some o → Qw_qSum (Kw_qSum s) (Zw_qSum s) o
  | .h1 sum0 t1 t2 t3, o, H =>
    eIf H (fun h1 H =>
      eCk H fun h2 H =>
      eBind H fun x3 hx3 H =>
      eN H fun r hn => gO [rg [hT 0], rg [hE 1 (I x3)], r0, r0, .canon [] [3, 6, 7, 8]] (by kernel_rfl) (P2 ((decide (t3 < t2)) = true) (decide_eq_true h1) <| P1 h2 <| P1 (int_lt_of_at h2 hx3) <| P1 (at_map I hx3) <| P0) hn)
    (fun h1 H =>
      eN H <| gE func17 [rg [hF 0], r0] (by kernel_rfl) (P2 ((decide (t3 < t2)) = false) (decide_eq_false h1) <| P0))
theorem ww_qSum : ∀ s r, loop Bw_qSum s = some r → Wc X 17 0 (Kw_qSum s) (Zw_qSum s) (RI r) ((fun _ => []) r) := Nx.all nw_qSum
theorem cw_qSum {a0 : (List Int)} {r : Int} (H : Dw_qSum a0 = some r) : Ct X.P X.gl 17 [sl 1 I a0] [] (RI r) [] :=
  Ct.of func17 (c := bdy f17) (by kernel_rfl) (by kernel_rfl) <|
  gO [r0, r0, r0, .canon [] [3, 6, 7, 8]] (by kernel_rfl) P0 (ww_qSum _ _ H)
/-! loop example/g00886/laws FnStepCosts -/
noncomputable def Kw_FnStepCosts : Sw_FnStepCosts → List Item
  | .h1 .. => nav 300 18 [false, false, false, false] [.code (bdy f3)]
def Zw_FnStepCosts : Sw_FnStepCosts → St
  | .h1 t0 t1 t2 t3 t4 l5 => ⟨sts 204 [(9, .ref 0 1 none), (28, I t0), (29, .bool t1), (32, I t2), (174, .ref 0 1 none), (175, I t3), (176, I t4)], [some ⟨false, false, 1, l5.length, List.map I l5⟩]⟩
abbrev Qw_FnStepCosts := Nx X 3 0 Kw_FnStepCosts Zw_FnStepCosts RB (fun _ => [])
theorem nw_FnStepCosts : ∀ s o, Bw_FnStepCosts s = some o → Qw_FnStepCosts (Kw_FnStepCosts s) (Zw_FnStepCosts s) o
  | .h1 t0 true t2 t3 t4 l5, o, H =>
    eIf H (fun h1 H =>
      eCk H fun h2 H =>
      eBind H fun x3 hx3 H =>
      gN [rg [hT 0], rg [hE 1 (I x3)]] (by kernel_rfl) (P2 ((decide (t4 < t3)) = true) (decide_eq_true h1) <| P1 h2 <| P1 (int_lt_of_at h2 hx3) <| P1 (at_map I hx3) <| P0) <|
      eIf H (fun h4 H =>
        eN H <| gE func3 [rg [hT 2], r0] (by kernel_rfl) (P2 ((decide (x3 > t2)) = true) (decide_eq_true h4) <| P0))
      (fun h4 H =>
        eIf H (fun h5 H =>
          eCk H fun h6 H =>
          eBind H fun x7 hx7 H =>
          eIf H (fun h8 H =>
            eN H <| gE func3 [rg [hF 2, hT 7, hE 14 (I x7), hT 15], r0] (by kernel_rfl) (P2 ((decide (x3 > t2)) = false) (decide_eq_false h4) <| P2 ((decide (x3 > 0)) = true) (decide_eq_true h5) <| P1 h6 <| P1 (int_lt_of_at h6 hx7) <| P1 (at_map I hx7) <| P2 ((decide (x3 < x7)) = true) (decide_eq_true h8) <| P0))
          (fun h8 H =>
            eN H fun r hn => gO [rg [hF 2, hT 7, hE 14 (I x7), hF 15], r0, .canon [0] [9, 28, 29, 32, 174, 175, 176]] (by kernel_rfl) (P2 ((decide (x3 > t2)) = false) (decide_eq_false h4) <| P2 ((decide (x3 > 0)) = true) (decide_eq_true h5) <| P1 h6 <| P1 (int_lt_of_at h6 hx7) <| P1 (at_map I hx7) <| P2 ((decide (x3 < x7)) = false) (decide_eq_false h8) <| P0) hn))
        (fun h5 H =>
          eN H fun r hn => gO [rg [hF 2, hF 7], r0, .canon [0] [9, 28, 29, 32, 174, 175, 176]] (by kernel_rfl) (P2 ((decide (x3 > t2)) = false) (decide_eq_false h4) <| P2 ((decide (x3 > 0)) = false) (decide_eq_false h5) <| P0) hn)))
    (fun h1 H =>
      eBind H fun r2 hr2 H =>
      eN H <| gE func3 [rg [hF 0], rg [hC 2 false [] (RI r2) []]] (by kernel_rfl) (P2 ((decide (t4 < t3)) = false) (decide_eq_false h1) <| P1 (cw_qSum hr2) <| P0))
  | .h1 t0 false t2 t3 t4 l5, o, H =>
    eIf H (fun h1 H =>
      eCk H fun h2 H =>
      eBind H fun x3 hx3 H =>
      gN [rg [hT 0], rg [hE 1 (I x3)]] (by kernel_rfl) (P2 ((decide (t4 < t3)) = true) (decide_eq_true h1) <| P1 h2 <| P1 (int_lt_of_at h2 hx3) <| P1 (at_map I hx3) <| P0) <|
      eIf H (fun h4 H =>
        eN H <| gE func3 [rg [hT 2], r0] (by kernel_rfl) (P2 ((decide (x3 > t2)) = true) (decide_eq_true h4) <| P0))
      (fun h4 H =>
        eN H fun r hn => gO [rg [hF 2], r0, .canon [0] [9, 28, 29, 32, 174, 175, 176]] (by kernel_rfl) (P2 ((decide (x3 > t2)) = false) (decide_eq_false h4) <| P0) hn))
    (fun h1 H =>
      eBind H fun r2 hr2 H =>
      eN H <| gE func3 [rg [hF 0], rg [hC 2 false [] (RI r2) []]] (by kernel_rfl) (P2 ((decide (t4 < t3)) = false) (decide_eq_false h1) <| P1 (cw_qSum hr2) <| P0))
theorem ww_FnStepCosts : ∀ s r, loop Bw_FnStepCosts s = some r → Wc X 3 0 (Kw_FnStepCosts s) (Zw_FnStepCosts s) (RB r) ((fun _ => []) r) := Nx.all nw_FnStepCosts
theorem cw_FnStepCosts {a0 : (List Int)} {a1 : (List Int)} {r : Bool} (H : Dw_FnStepCosts a0 a1 = some r) : Ct X.P X.gl 3 [sl 1 (D.int .u8) a0, sl 1 (D.int .u8) a1] [] (RB r) [] :=
  Ct.of func3 (c := bdy f3) (by kernel_rfl) (by kernel_rfl) <|
  gS [r0] (by kernel_rfl) P0 <|
  eIf H (fun h1 H =>
    eW RB (fun _ => []) H <| gE func3 [rg [hT 5], r0] (by kernel_rfl) (P2 ((decide ((IntKind.wrap .i64 (((a0.length : Nat) : Int) + ((a1.length : Nat) : Int))) > 1048576)) = true) (decide_eq_true h1) <| P0))
  (fun h1 H =>
    eBind H fun r2 hr2 H =>
    eBind H fun r3 hr3 H =>
    gS [rg [hF 5], rg [hC 1 true [] (Rs_DrawStepCosts r2) []]] (by kernel_rfl) (P2 ((decide ((IntKind.wrap .i64 (((a0.length : Nat) : Int) + ((a1.length : Nat) : Int))) > 1048576)) = false) (decide_eq_false h1) <| P1 (cs_DrawStepCosts hr2) <| P0) <|
    eIf H (fun h4 H =>
      eBind H fun r5 hr5 H =>
      eBind H fun r6 hr6 H =>
      eBind H fun r7 hr7 H =>
      eBind H fun r8 hr8 H =>
      eBind H fun r9 hr9 H =>
      eBind H fun r10 hr10 H =>
      eBind H fun r11 hr11 H =>
      gS [rg [hC 4 true [] (Ri_StepCosts r3) [], hT 7], rg [hC 4 true [] (Rs_StepCosts r5) []], rg [hC 1 true [] (Rs_DrawWeatherCost r6) []], rg [hC 2 true [] (Ri_WeatherCost r7) []], rg [hC 2 true [] (Rs_WeatherCost r8) []], rg [hC 1 true [] (Rs_DrawStepCost r9) []], rg [hC 5 true [] (Ri_StepCost r10) []], rg [hC 5 true [] (Rs_StepCost r11) []]] (by kernel_rfl) (P1 (ci_StepCosts hr3) <| P2 (r3.2 = true) (h4) <| P1 (cs_StepCosts hr5) <| P1 (cs_DrawWeatherCost hr6) <| P1 (ci_WeatherCost hr7) <| P1 (cs_WeatherCost hr8) <| P1 (cs_DrawStepCost hr9) <| P1 (ci_StepCost hr10) <| P1 (cs_StepCost hr11) <| P0) <|
      eIf H (fun h12 H =>
        eW RB (fun _ => []) H <| gE func3 [rg [hT 2], r0] (by kernel_rfl) (P2 ((!(true == r5.2)) = true) (h12) <| P0))
      (fun h12 H =>
        eBind H fun r13 hr13 H =>
        eIf H (fun h14 H =>
          eIf H (fun h15 H =>
            eW RB (fun _ => []) H <| gE func3 [rg [hF 2, { i := 6, call := some { cl := false, auto := true, ins := [], res := (RB r13), G' := [] }, dec := some true }, hT 12], r0] (by kernel_rfl) (P2 ((!(true == r5.2)) = false) (eqF h12) <| P1 (cw_qInts hr13) <| P2 (r13 = true) (h14) <| P2 ((!(r7.2 == r8.2)) = true) (h15) <| P0))
          (fun h15 H =>
            eIf H (fun h16 H =>
              eIf H (fun h17 H =>
                eW RB (fun _ => []) H <| gE func3 [rg [hF 2, { i := 6, call := some { cl := false, auto := true, ins := [], res := (RB r13), G' := [] }, dec := some true }, hF 12, hF 17, hT 22], r0] (by kernel_rfl) (P2 ((!(true == r5.2)) = false) (eqF h12) <| P1 (cw_qInts hr13) <| P2 (r13 = true) (h14) <| P2 ((!(r7.2 == r8.2)) = false) (eqF h15) <| P2 (((r7.1 : Int) != r8.1) = false) (bneF h16) <| P2 ((!(r10.2 == r11.2)) = true) (h17) <| P0))
              (fun h17 H =>
                eIf H (fun h18 H =>
                  eBind H fun r19 hr19 H =>
                  eBind H fun r20 hr20 H =>
                  eBind H fun r21 hr21 H =>
                  gS [rg [hF 2, { i := 6, call := some { cl := false, auto := true, ins := [], res := (RB r13), G' := [] }, dec := some true }, hF 12, hF 17, hF 22, hF 27], r0, rg [hC 4 true [] (Ri_CheapestStep r19) []], rg [hC 4 true [] (Rs_CheapestStep r20) []]] (by kernel_rfl) (P2 ((!(true == r5.2)) = false) (eqF h12) <| P1 (cw_qInts hr13) <| P2 (r13 = true) (h14) <| P2 ((!(r7.2 == r8.2)) = false) (eqF h15) <| P2 (((r7.1 : Int) != r8.1) = false) (bneF h16) <| P2 ((!(r10.2 == r11.2)) = false) (eqF h17) <| P2 (((r10.1 : Int) != r11.1) = false) (bneF h18) <| P1 (ci_CheapestStep hr19) <| P1 (cs_CheapestStep hr20) <| P0) <|
                  eIf H (fun h22 H =>
                    gS [rg [hC 3 true [] (Ri_CostliestStep r21) [], hT 6]] (by kernel_rfl) (P1 (ci_CostliestStep hr21) <| P2 (r21.2 = true) (h22) <| P0) <|
                    eIf H (fun h23 H =>
                      eW RB (fun _ => []) H <| gE func3 [rg [hT 2], r0] (by kernel_rfl) (P2 ((!(r19.2 == r20.2)) = true) (h23) <| P0))
                    (fun h23 H =>
                      eIf H (fun h24 H =>
                        gO [rg [hF 2, hF 6], r0, .canon [1] [9, 28, 29, 32, 174, 175, 176]] (by kernel_rfl) (P2 ((!(r19.2 == r20.2)) = false) (eqF h23) <| P2 (((r19.1 : Int) != r20.1) = false) (bneF h24) <| P0) (ww_FnStepCosts _ _ H))
                      (fun h24 H =>
                        eW RB (fun _ => []) H <| gE func3 [rg [hF 2, hT 6], r0] (by kernel_rfl) (P2 ((!(r19.2 == r20.2)) = false) (eqF h23) <| P2 (((r19.1 : Int) != r20.1) = true) (bneT h24) <| P0))))
                  (fun h22 H =>
                    gS [rg [hC 3 true [] (Ri_CostliestStep r21) [], hF 6]] (by kernel_rfl) (P1 (ci_CostliestStep hr21) <| P2 (r21.2 = false) (eqF h22) <| P0) <|
                    eIf H (fun h23 H =>
                      eW RB (fun _ => []) H <| gE func3 [rg [hT 2], r0] (by kernel_rfl) (P2 ((!(r19.2 == r20.2)) = true) (h23) <| P0))
                    (fun h23 H =>
                      eIf H (fun h24 H =>
                        eW RB (fun _ => []) H <| gE func3 [rg [hF 2, hF 6], r0] (by kernel_rfl) (P2 ((!(r19.2 == r20.2)) = false) (eqF h23) <| P2 (((r19.1 : Int) != r20.1) = false) (bneF h24) <| P0))
                      (fun h24 H =>
                        eW RB (fun _ => []) H <| gE func3 [rg [hF 2, hT 6], r0] (by kernel_rfl) (P2 ((!(r19.2 == r20.2)) = false) (eqF h23) <| P2 (((r19.1 : Int) != r20.1) = true) (bneT h24) <| P0)))))
                (fun h18 H =>
                  eW RB (fun _ => []) H <| gE func3 [rg [hF 2, { i := 6, call := some { cl := false, auto := true, ins := [], res := (RB r13), G' := [] }, dec := some true }, hF 12, hF 17, hF 22, hT 27], r0] (by kernel_rfl) (P2 ((!(true == r5.2)) = false) (eqF h12) <| P1 (cw_qInts hr13) <| P2 (r13 = true) (h14) <| P2 ((!(r7.2 == r8.2)) = false) (eqF h15) <| P2 (((r7.1 : Int) != r8.1) = false) (bneF h16) <| P2 ((!(r10.2 == r11.2)) = false) (eqF h17) <| P2 (((r10.1 : Int) != r11.1) = true) (bneT h18) <| P0))))
            (fun h16 H =>
              eW RB (fun _ => []) H <| gE func3 [rg [hF 2, { i := 6, call := some { cl := false, auto := true, ins := [], res := (RB r13), G' := [] }, dec := some true }, hF 12, hT 17], r0] (by kernel_rfl) (P2 ((!(true == r5.2)) = false) (eqF h12) <| P1 (cw_qInts hr13) <| P2 (r13 = true) (h14) <| P2 ((!(r7.2 == r8.2)) = false) (eqF h15) <| P2 (((r7.1 : Int) != r8.1) = true) (bneT h16) <| P0))))
        (fun h14 H =>
          eW RB (fun _ => []) H <| gE func3 [rg [hF 2, { i := 6, call := some { cl := false, auto := true, ins := [], res := (RB r13), G' := [] }, dec := some false }], r0] (by kernel_rfl) (P2 ((!(true == r5.2)) = false) (eqF h12) <| P1 (cw_qInts hr13) <| P2 (r13 = false) (eqF h14) <| P0))))
    (fun h4 H =>
      eBind H fun r5 hr5 H =>
      eBind H fun r6 hr6 H =>
      eBind H fun r7 hr7 H =>
      eBind H fun r8 hr8 H =>
      eBind H fun r9 hr9 H =>
      eBind H fun r10 hr10 H =>
      eBind H fun r11 hr11 H =>
      gS [rg [hC 4 true [] (Ri_StepCosts r3) [], hF 7], rg [hC 4 true [] (Rs_StepCosts r5) []], rg [hC 1 true [] (Rs_DrawWeatherCost r6) []], rg [hC 2 true [] (Ri_WeatherCost r7) []], rg [hC 2 true [] (Rs_WeatherCost r8) []], rg [hC 1 true [] (Rs_DrawStepCost r9) []], rg [hC 5 true [] (Ri_StepCost r10) []], rg [hC 5 true [] (Rs_StepCost r11) []]] (by kernel_rfl) (P1 (ci_StepCosts hr3) <| P2 (r3.2 = false) (eqF h4) <| P1 (cs_StepCosts hr5) <| P1 (cs_DrawWeatherCost hr6) <| P1 (ci_WeatherCost hr7) <| P1 (cs_WeatherCost hr8) <| P1 (cs_DrawStepCost hr9) <| P1 (ci_StepCost hr10) <| P1 (cs_StepCost hr11) <| P0) <|
      eIf H (fun h12 H =>
        eW RB (fun _ => []) H <| gE func3 [rg [hT 2], r0] (by kernel_rfl) (P2 ((!(false == r5.2)) = true) (h12) <| P0))
      (fun h12 H =>
        eBind H fun r13 hr13 H =>
        eIf H (fun h14 H =>
          eIf H (fun h15 H =>
            eW RB (fun _ => []) H <| gE func3 [rg [hF 2, { i := 6, call := some { cl := false, auto := true, ins := [], res := (RB r13), G' := [] }, dec := some true }, hT 12], r0] (by kernel_rfl) (P2 ((!(false == r5.2)) = false) (eqF h12) <| P1 (cw_qInts hr13) <| P2 (r13 = true) (h14) <| P2 ((!(r7.2 == r8.2)) = true) (h15) <| P0))
          (fun h15 H =>
            eIf H (fun h16 H =>
              eIf H (fun h17 H =>
                eW RB (fun _ => []) H <| gE func3 [rg [hF 2, { i := 6, call := some { cl := false, auto := true, ins := [], res := (RB r13), G' := [] }, dec := some true }, hF 12, hF 17, hT 22], r0] (by kernel_rfl) (P2 ((!(false == r5.2)) = false) (eqF h12) <| P1 (cw_qInts hr13) <| P2 (r13 = true) (h14) <| P2 ((!(r7.2 == r8.2)) = false) (eqF h15) <| P2 (((r7.1 : Int) != r8.1) = false) (bneF h16) <| P2 ((!(r10.2 == r11.2)) = true) (h17) <| P0))
              (fun h17 H =>
                eIf H (fun h18 H =>
                  eW RB (fun _ => []) H <| gE func3 [rg [hF 2, { i := 6, call := some { cl := false, auto := true, ins := [], res := (RB r13), G' := [] }, dec := some true }, hF 12, hF 17, hF 22, hF 27], r0, r0] (by kernel_rfl) (P2 ((!(false == r5.2)) = false) (eqF h12) <| P1 (cw_qInts hr13) <| P2 (r13 = true) (h14) <| P2 ((!(r7.2 == r8.2)) = false) (eqF h15) <| P2 (((r7.1 : Int) != r8.1) = false) (bneF h16) <| P2 ((!(r10.2 == r11.2)) = false) (eqF h17) <| P2 (((r10.1 : Int) != r11.1) = false) (bneF h18) <| P0))
                (fun h18 H =>
                  eW RB (fun _ => []) H <| gE func3 [rg [hF 2, { i := 6, call := some { cl := false, auto := true, ins := [], res := (RB r13), G' := [] }, dec := some true }, hF 12, hF 17, hF 22, hT 27], r0] (by kernel_rfl) (P2 ((!(false == r5.2)) = false) (eqF h12) <| P1 (cw_qInts hr13) <| P2 (r13 = true) (h14) <| P2 ((!(r7.2 == r8.2)) = false) (eqF h15) <| P2 (((r7.1 : Int) != r8.1) = false) (bneF h16) <| P2 ((!(r10.2 == r11.2)) = false) (eqF h17) <| P2 (((r10.1 : Int) != r11.1) = true) (bneT h18) <| P0))))
            (fun h16 H =>
              eW RB (fun _ => []) H <| gE func3 [rg [hF 2, { i := 6, call := some { cl := false, auto := true, ins := [], res := (RB r13), G' := [] }, dec := some true }, hF 12, hT 17], r0] (by kernel_rfl) (P2 ((!(false == r5.2)) = false) (eqF h12) <| P1 (cw_qInts hr13) <| P2 (r13 = true) (h14) <| P2 ((!(r7.2 == r8.2)) = false) (eqF h15) <| P2 (((r7.1 : Int) != r8.1) = true) (bneT h16) <| P0))))
        (fun h14 H =>
          eW RB (fun _ => []) H <| gE func3 [rg [hF 2, { i := 6, call := some { cl := false, auto := true, ins := [], res := (RB r13), G' := [] }, dec := some false }], r0] (by kernel_rfl) (P2 ((!(false == r5.2)) = false) (eqF h12) <| P1 (cw_qInts hr13) <| P2 (r13 = false) (eqF h14) <| P0)))))
end Go.Proofs.YtpggeanoohlmjaaDoor.Ab
