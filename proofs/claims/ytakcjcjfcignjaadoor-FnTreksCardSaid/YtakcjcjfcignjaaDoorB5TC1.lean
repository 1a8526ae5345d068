/- Part of the proof of FnTreksCard: no condition of its own. -/
import Derived.Test.YtakcjcjfcignjaaDoorB5TC
set_option linter.unusedVariables false
set_option linter.unusedSimpArgs false
open Go Go.Proofs Go.Proofs.Tryd
namespace Go.Proofs.YtakcjcjfcignjaaDoor.Ab
/-! loop example/g00886/spec bTerrain -/
def Rs_bTerrain (r : Gi_Terrain) : List D := [.agg [.str r.Name, sl 1 I r.Cost, I r.Shift, I r.Height, .bool r.Blocks]]
theorem cs_bTerrain {a0 : Gi_Board} {a1 : Int} {r : Gi_Terrain} (H : Ds_bTerrain a0 a1 = some r) : Ct X.P X.gl 83 [.agg [sl 5 gi_Terrain a0.Rules.Terrains, sl 6 gi_Kind a0.Rules.Kinds, I a0.Rules.Stack, I a0.Rules.River, I a0.Rules.Road, I a0.Rules.Supply, I a0.Rules.Turns, I a0.Map.Width, I a0.Map.Height, sl 1 I a0.Map.Terrain, sl 1 I a0.Map.Rivers, sl 1 I a0.Map.Roads], I a1] [] (Rs_bTerrain r) [] :=
  Ct.of func83 (c := bdy f83) (by kernel_rfl) (by kernel_rfl) <|
  eCk H fun h1 H =>
  eBind H fun x2 hx2 H =>
  eCk H fun h3 H =>
  eBind H fun x4 hx4 H =>
  eW Rs_bTerrain (fun _ => []) H <| gE func83 [r0, rg [hE 8 (I x2), hE 10 (gi_Terrain x4)]] (by kernel_rfl) (P1 h1 <| P1 (int_lt_of_at h1 hx2) <| P1 (at_map I hx2) <| P1 h3 <| P1 (int_lt_of_at h3 hx4) <| P1 (at_map gi_Terrain hx4) <| P0)
/-! loop example/g00886/spec bCost -/
theorem cs_bCost {a0 : Gi_Board} {a1 : Int} {a2 : Int} {r : Int} (H : Ds_bCost a0 a1 a2 = some r) : Ct X.P X.gl 66 [.agg [sl 5 gi_Terrain a0.Rules.Terrains, sl 6 gi_Kind a0.Rules.Kinds, I a0.Rules.Stack, I a0.Rules.River, I a0.Rules.Road, I a0.Rules.Supply, I a0.Rules.Turns, I a0.Map.Width, I a0.Map.Height, sl 1 I a0.Map.Terrain, sl 1 I a0.Map.Rivers, sl 1 I a0.Map.Roads], I a1, I a2] [] (RI r) [] :=
  Ct.of func66 (c := bdy f66) (by kernel_rfl) (by kernel_rfl) <|
  eBind H fun r1 hr1 H =>
  eCk H fun h2 H =>
  eBind H fun x3 hx3 H =>
  eW RI (fun _ => []) H <| gE func66 [r0, rg [hC 2 true [] (Rs_bTerrain r1) [], hE 6 (I x3)]] (by kernel_rfl) (P1 (cs_bTerrain hr1) <| P1 h2 <| P1 (int_lt_of_at h2 hx3) <| P1 (at_map I hx3) <| P0)
/-! loop example/g00886/spec l1Has -/
noncomputable def Ks_l1Has : Ss_l1Has → List Item
  | .h1 .. => nav 300 2 [] [.code (bdy f51)]
def Zs_l1Has : Ss_l1Has → St
  | .h1 n0 t1 t2 t3 => ⟨sts 17 [(1, I n0), (7, sl 1 I t1), (8, I t2), (9, I t3)], []⟩
abbrev Qs_l1Has := Nx X 51 0 Ks_l1Has Zs_l1Has RB (fun _ => [])
theorem ns_l1Has : ∀ s o, Bs_l1Has s = some o → Qs_l1Has (Ks_l1Has s) (Zs_l1Has s) o
  | .h1 n0 t1 t2 t3, o, H =>
    eIf H (fun h1 H =>
      eCk H fun h2 H =>
      eBind H fun x3 hx3 H =>
      gN [rg [hT 0], rg [hE 1 (I x3)]] (by kernel_rfl) (P2 ((decide (t3 < t2)) = true) (decide_eq_true h1) <| P1 h2 <| P1 (int_lt_of_at h2 hx3) <| P1 (at_map I hx3) <| P0) <|
      eIf H (fun h4 H =>
        eN H <| gE func51 [rg [hT 2], r0] (by kernel_rfl) (P2 (((x3 : Int) == n0) = true) (beqT h4) <| P0))
      (fun h4 H =>
        eN H fun r hn => gO [rg [hF 2], r0, .canon [] [1, 7, 8, 9]] (by kernel_rfl) (P2 (((x3 : Int) == n0) = false) (beqF h4) <| P0) hn))
    (fun h1 H =>
      eN H <| gE func51 [rg [hF 0], r0] (by kernel_rfl) (P2 ((decide (t3 < t2)) = false) (decide_eq_false h1) <| P0))
theorem ws_l1Has : ∀ s r, loop Bs_l1Has s = some r → Wc X 51 0 (Ks_l1Has s) (Zs_l1Has s) (RB r) ((fun _ => []) r) := Nx.all ns_l1Has
theorem cs_l1Has {a0 : (List Int)} {a1 : Int} {r : Bool} (H : Ds_l1Has a0 a1 = some r) : Ct X.P X.gl 51 [sl 1 I a0, I a1] [] (RB r) [] :=
  Ct.of func51 (c := bdy f51) (by kernel_rfl) (by kernel_rfl) <|
  gO [r0, r0, .canon [] [1, 7, 8, 9]] (by kernel_rfl) P0 (ws_l1Has _ _ H)
/-! loop example/g00886/spec mRoad -/
theorem cs_mRoad {a0 : Gi_Map} {a1 : Int} {a2 : Int} {r : Bool} (H : Ds_mRoad a0 a1 a2 = some r) : Ct X.P X.gl 67 [.agg [I a0.Width, I a0.Height, sl 1 I a0.Terrain, sl 1 I a0.Rivers, sl 1 I a0.Roads], I a1, I a2] [] (RB r) [] :=
  Ct.of func67 (c := bdy f67) (by kernel_rfl) (by kernel_rfl) <|
  eBind H fun r1 hr1 H =>
  eBind H fun r2 hr2 H =>
  eW RB (fun _ => []) H <| gE func67 [r0, rg [hC 5 true [] (RI r1) [], hC 6 true [] (RB r2) []]] (by kernel_rfl) (P1 (cs_mEdge hr1) <| P1 (cs_l1Has hr2) <| P0)
/-! loop example/g00886/spec csWeather -/
theorem cs_csWeather {a0 : Int} {a1 : Bool} {r : Int} (H : Ds_csWeather a0 a1 = some r) : Ct X.P X.gl 68 [I a0, .bool a1] [] (RI r) [] := by
  cases a1 with
  | false =>
    exact Ct.of func68 (c := bdy f68) (by kernel_rfl) (by kernel_rfl) <|
      eW RI (fun _ => []) H <| gE func68 [r0, r0, r0] (by kernel_rfl) P0
  | true =>
    exact Ct.of func68 (c := bdy f68) (by kernel_rfl) (by kernel_rfl) <|
      eW RI (fun _ => []) H <| gE func68 [r0, r0, r0] (by kernel_rfl) (P2 (¬ (2 : Int) = 0) (by decide) <| P0)
/-! loop example/g00886/spec mRiver -/
theorem cs_mRiver {a0 : Gi_Map} {a1 : Int} {a2 : Int} {r : Bool} (H : Ds_mRiver a0 a1 a2 = some r) : Ct X.P X.gl 69 [.agg [I a0.Width, I a0.Height, sl 1 I a0.Terrain, sl 1 I a0.Rivers, sl 1 I a0.Roads], I a1, I a2] [] (RB r) [] :=
  Ct.of func69 (c := bdy f69) (by kernel_rfl) (by kernel_rfl) <|
  eBind H fun r1 hr1 H =>
  eBind H fun r2 hr2 H =>
  eW RB (fun _ => []) H <| gE func69 [r0, rg [hC 5 true [] (RI r1) [], hC 6 true [] (RB r2) []]] (by kernel_rfl) (P1 (cs_mEdge hr1) <| P1 (cs_l1Has hr2) <| P0)
/-! loop example/g00886/spec cStep -/
theorem cs_cStep {a0 : Gi_Board} {a1 : Int} {a2 : Int} {a3 : Int} {a4 : Int} {r : Int} (H : Ds_cStep a0 a1 a2 a3 a4 = some r) : Ct X.P X.gl 49 [.agg [sl 5 gi_Terrain a0.Rules.Terrains, sl 6 gi_Kind a0.Rules.Kinds, I a0.Rules.Stack, I a0.Rules.River, I a0.Rules.Road, I a0.Rules.Supply, I a0.Rules.Turns, I a0.Map.Width, I a0.Map.Height, sl 1 I a0.Map.Terrain, sl 1 I a0.Map.Rivers, sl 1 I a0.Map.Roads], I a1, I a2, I a3, I a4] [] (RI r) [] :=
  Ct.of func49 (c := bdy f49) (by kernel_rfl) (by kernel_rfl) <|
  eBind H fun r1 hr1 H =>
  gS [r0, rg [hC 4 true [] (RI r1) []]] (by kernel_rfl) (P1 (cs_mNext hr1) <| P0) <|
  eIf H (fun h2 H =>
    eW RI (fun _ => []) H <| gE func49 [rg [hT 1], r0] (by kernel_rfl) (P2 ((decide (r1 < 0)) = true) (decide_eq_true h2) <| P0))
  (fun h2 H =>
    eBind H fun r3 hr3 H =>
    eIf H (fun h4 H =>
      eW RI (fun _ => []) H <| gE func49 [rg [hF 1, hC 6 true [] (RI r3) [], hT 7], r0] (by kernel_rfl) (P2 ((decide (r1 < 0)) = false) (decide_eq_false h2) <| P1 (cs_bCost hr3) <| P2 (((r3 : Int) == 0) = true) (beqT h4) <| P0))
    (fun h4 H =>
      eBind H fun r5 hr5 H =>
      gS [rg [hF 1, hC 6 true [] (RI r3) [], hF 7]] (by kernel_rfl) (P2 ((decide (r1 < 0)) = false) (decide_eq_false h2) <| P1 (cs_bCost hr3) <| P2 (((r3 : Int) == 0) = false) (beqF h4) <| P0) <|
      eIf H (fun h6 H =>
        eBind H fun r7 hr7 H =>
        eW RI (fun _ => []) H <| gE func49 [rg [{ i := 4, call := some { cl := true, auto := true, ins := [], res := (RB r5), G' := [] }, dec := some true }], rg [hC 4 true [] (RI r7) []]] (by kernel_rfl) (P1 (cs_mRoad hr5) <| P2 (r5 = true) (h6) <| P1 (cs_csWeather hr7) <| P0))
      (fun h6 H =>
        eBind H fun r7 hr7 H =>
        eBind H fun r8 hr8 H =>
        eBind H fun r9 hr9 H =>
        gS [rg [{ i := 4, call := some { cl := true, auto := true, ins := [], res := (RB r5), G' := [] }, dec := some false }], rg [hC 3 true [] (RI r7) [], hC 5 true [] (RI r8) []]] (by kernel_rfl) (P1 (cs_mRoad hr5) <| P2 (r5 = false) (eqF h6) <| P1 (cs_bCost hr7) <| P1 (cs_csWeather hr8) <| P0) <|
        eIf H (fun h10 H =>
          eW RI (fun _ => []) H <| gE func49 [rg [{ i := 4, call := some { cl := true, auto := true, ins := [], res := (RB r9), G' := [] }, dec := some true }], r0, r0] (by kernel_rfl) (P1 (cs_mRiver hr9) <| P2 (r9 = true) (h10) <| P0))
        (fun h10 H =>
          eW RI (fun _ => []) H <| gE func49 [rg [{ i := 4, call := some { cl := true, auto := true, ins := [], res := (RB r9), G' := [] }, dec := some false }], r0] (by kernel_rfl) (P1 (cs_mRiver hr9) <| P2 (r9 = false) (eqF h10) <| P0)))))
/-! loop example/g00886/spec pFrom -/
def Rs_pFrom (r : (List Int)) : List D := [ow 1 I r]
noncomputable def Ks_pFrom : Ss_pFrom → List Item
  | .h1 .. => nav 300 4 [] [.code (bdy f26)]
  | .h2 .. => nav 300 6 [false] [.code (bdy f26)]
  | .h3 .. => nav 300 8 [false] [.code (bdy f26)]
  | .h4 .. => nav 300 12 [false, false, false] [.code (bdy f26)]
def Zs_pFrom : Ss_pFrom → St
  | .h1 kind0 weather1 i2 vavoid3 t4 t5 b6 l7 l8 => ⟨sts 122 [(1, I kind0), (2, I weather1), (3, I i2), (4, sl 1 I vavoid3), (5, .ptr 0 12 0 0), (11, .ref 1 1 none), (12, .ref 2 1 none), (29, I t4), (30, I t5)], [some ⟨false, true, 12, 1, [.agg [sl 5 gi_Terrain b6.Rules.Terrains, sl 6 gi_Kind b6.Rules.Kinds, I b6.Rules.Stack, I b6.Rules.River, I b6.Rules.Road, I b6.Rules.Supply, I b6.Rules.Turns, I b6.Map.Width, I b6.Map.Height, sl 1 I b6.Map.Terrain, sl 1 I b6.Map.Rivers, sl 1 I b6.Map.Roads]]⟩, some ⟨false, false, 1, l7.length, List.map I l7⟩, some ⟨false, false, 1, l8.length, List.map D.bool l8⟩]⟩
  | .h2 kind0 weather1 vavoid2 b3 l4 l5 => ⟨sts 122 [(1, I kind0), (2, I weather1), (4, sl 1 I vavoid2), (5, .ptr 0 12 0 0), (11, .ref 1 1 none), (12, .ref 2 1 none)], [some ⟨false, true, 12, 1, [.agg [sl 5 gi_Terrain b3.Rules.Terrains, sl 6 gi_Kind b3.Rules.Kinds, I b3.Rules.Stack, I b3.Rules.River, I b3.Rules.Road, I b3.Rules.Supply, I b3.Rules.Turns, I b3.Map.Width, I b3.Map.Height, sl 1 I b3.Map.Terrain, sl 1 I b3.Map.Rivers, sl 1 I b3.Map.Roads]]⟩, some ⟨false, false, 1, l4.length, List.map I l4⟩, some ⟨false, false, 1, l5.length, List.map D.bool l5⟩]⟩
  | .h3 kind0 weather1 vavoid2 best3 t4 t5 b6 l7 l8 => ⟨sts 122 [(1, I kind0), (2, I weather1), (4, sl 1 I vavoid2), (5, .ptr 0 12 0 0), (11, .ref 1 1 none), (12, .ref 2 1 none), (14, I best3), (40, .ref 1 1 none), (41, I t4), (42, I t5)], [some ⟨false, true, 12, 1, [.agg [sl 5 gi_Terrain b6.Rules.Terrains, sl 6 gi_Kind b6.Rules.Kinds, I b6.Rules.Stack, I b6.Rules.River, I b6.Rules.Road, I b6.Rules.Supply, I b6.Rules.Turns, I b6.Map.Width, I b6.Map.Height, sl 1 I b6.Map.Terrain, sl 1 I b6.Map.Rivers, sl 1 I b6.Map.Roads]]⟩, some ⟨false, false, 1, l7.length, List.map I l7⟩, some ⟨false, false, 1, l8.length, List.map D.bool l8⟩]⟩
  | .h4 kind0 weather1 vavoid2 best3 d4 b5 l6 l7 => ⟨sts 122 [(1, I kind0), (2, I weather1), (4, sl 1 I vavoid2), (5, .ptr 0 12 0 0), (11, .ref 1 1 none), (12, .ref 2 1 none), (14, I best3), (17, I d4)], [some ⟨false, true, 12, 1, [.agg [sl 5 gi_Terrain b5.Rules.Terrains, sl 6 gi_Kind b5.Rules.Kinds, I b5.Rules.Stack, I b5.Rules.River, I b5.Rules.Road, I b5.Rules.Supply, I b5.Rules.Turns, I b5.Map.Width, I b5.Map.Height, sl 1 I b5.Map.Terrain, sl 1 I b5.Map.Rivers, sl 1 I b5.Map.Roads]]⟩, some ⟨false, false, 1, l6.length, List.map I l6⟩, some ⟨false, false, 1, l7.length, List.map D.bool l7⟩]⟩
abbrev Qs_pFrom := Nx X 26 0 Ks_pFrom Zs_pFrom Rs_pFrom (fun _ => [])
theorem ns_pFrom : ∀ s o, Bs_pFrom s = some o → Qs_pFrom (Ks_pFrom s) (Zs_pFrom s) o
  | .h1 kind0 weather1 i2 vavoid3 t4 t5 b6 l7 l8, o, H =>
    eIf H (fun h1 H =>
      eCk H fun h2 H =>
      eBind H fun x3 hx3 H =>
      eN H fun r hn => gO [rg [hT 0], r0, rg [hA 3 ((List.set l7 (Int.toNat t5) (-1)).length) (List.map I (List.set l7 (Int.toNat t5) (-1)))], r0, .canon [0, 1, 2] [1, 2, 3, 4, 5, 11, 12, 29, 30]] (by kernel_rfl) (P2 ((decide (t5 < t4)) = true) (decide_eq_true h1) <| P1 h2 <| P1 (int_lt_of_at h2 hx3) <| P1 (lt_of_at hx3) <| P2 (setCells (List.map I l7) (Int.toNat t5) 0 [I (-1)] = List.map I (List.set l7 (Int.toNat t5) (-1))) (setCells_map hx3 rfl) <| P1 (setLen l7 (Int.toNat t5) (-1)) <| P0) hn)
    (fun h1 H =>
      eCk H fun h2 H =>
      eBind H fun x3 hx3 H =>
      eN H fun r hn => gO [rg [hF 0], rg [hA 3 ((List.set l7 (Int.toNat i2) 0).length) (List.map I (List.set l7 (Int.toNat i2) 0))], .canon [0, 1, 2] [1, 2, 4, 5, 11, 12]] (by kernel_rfl) (P2 ((decide (t5 < t4)) = false) (decide_eq_false h1) <| P1 h2 <| P1 (int_lt_of_at h2 hx3) <| P1 (lt_of_at hx3) <| P2 (setCells (List.map I l7) (Int.toNat i2) 0 [I 0] = List.map I (List.set l7 (Int.toNat i2) 0)) (setCells_map hx3 rfl) <| P1 (setLen l7 (Int.toNat i2) 0) <| P0) hn)
  | .h2 kind0 weather1 vavoid2 b3 l4 l5, o, H =>
    eN H fun r hn => gO [r0, r0, .canon [0, 1, 2] [1, 2, 4, 5, 11, 12, 14, 40, 41, 42]] (by kernel_rfl) P0 hn
  | .h3 kind0 weather1 vavoid2 best3 t4 t5 b6 l7 l8, o, H =>
    eIf H (fun h1 H =>
      eCk H fun h2 H =>
      eBind H fun x3 hx3 H =>
      gN [rg [hT 0], rg [hE 2 (I x3)]] (by kernel_rfl) (P2 ((decide (t5 < t4)) = true) (decide_eq_true h1) <| P1 h2 <| P1 (int_lt_of_at h2 hx3) <| P1 (at_map I hx3) <| P0) <|
      eIf H (fun h4 H =>
        eCk H fun h5 H =>
        eBind H fun x6 hx6 H =>
        eIf H (fun h7 H =>
          eN H fun r hn => gO [rg [hT 1, { i := 6, el := some (D.bool x6), dec := some true }], r0, .canon [0, 1, 2] [1, 2, 4, 5, 11, 12, 14, 40, 41, 42]] (by kernel_rfl) (P2 ((decide (x3 ≥ 0)) = true) (decide_eq_true h4) <| P1 h5 <| P1 (int_lt_of_at h5 hx6) <| P1 (at_map D.bool hx6) <| P2 (x6 = true) (h7) <| P0) hn)
        (fun h7 H =>
          eIf H (fun h8 H =>
            eN H fun r hn => gO [rg [hT 1, { i := 6, el := some (D.bool x6), dec := some false }, hT 11], r0, r0, .canon [0, 1, 2] [1, 2, 4, 5, 11, 12, 14, 40, 41, 42]] (by kernel_rfl) (P2 ((decide (x3 ≥ 0)) = true) (decide_eq_true h4) <| P1 h5 <| P1 (int_lt_of_at h5 hx6) <| P1 (at_map D.bool hx6) <| P2 (x6 = false) (eqF h7) <| P2 ((decide (best3 < 0)) = true) (decide_eq_true h8) <| P0) hn)
          (fun h8 H =>
            eCk H fun h9 H =>
            eBind H fun x10 hx10 H =>
            eIf H (fun h11 H =>
              eN H fun r hn => gO [rg [hT 1, { i := 6, el := some (D.bool x6), dec := some false }, hF 11, hE 17 (I x10), hT 18], r0, r0, .canon [0, 1, 2] [1, 2, 4, 5, 11, 12, 14, 40, 41, 42]] (by kernel_rfl) (P2 ((decide (x3 ≥ 0)) = true) (decide_eq_true h4) <| P1 h5 <| P1 (int_lt_of_at h5 hx6) <| P1 (at_map D.bool hx6) <| P2 (x6 = false) (eqF h7) <| P2 ((decide (best3 < 0)) = false) (decide_eq_false h8) <| P1 h9 <| P1 (int_lt_of_at h9 hx10) <| P1 (at_map I hx10) <| P2 ((decide (x3 < x10)) = true) (decide_eq_true h11) <| P0) hn)
            (fun h11 H =>
              eN H fun r hn => gO [rg [hT 1, { i := 6, el := some (D.bool x6), dec := some false }, hF 11, hE 17 (I x10), hF 18], r0, .canon [0, 1, 2] [1, 2, 4, 5, 11, 12, 14, 40, 41, 42]] (by kernel_rfl) (P2 ((decide (x3 ≥ 0)) = true) (decide_eq_true h4) <| P1 h5 <| P1 (int_lt_of_at h5 hx6) <| P1 (at_map D.bool hx6) <| P2 (x6 = false) (eqF h7) <| P2 ((decide (best3 < 0)) = false) (decide_eq_false h8) <| P1 h9 <| P1 (int_lt_of_at h9 hx10) <| P1 (at_map I hx10) <| P2 ((decide (x3 < x10)) = false) (decide_eq_false h11) <| P0) hn))))
      (fun h4 H =>
        eN H fun r hn => gO [rg [hF 1], r0, .canon [0, 1, 2] [1, 2, 4, 5, 11, 12, 14, 40, 41, 42]] (by kernel_rfl) (P2 ((decide (x3 ≥ 0)) = false) (decide_eq_false h4) <| P0) hn))
    (fun h1 H =>
      gN [rg [hF 0]] (by kernel_rfl) (P2 ((decide (t5 < t4)) = false) (decide_eq_false h1) <| P0) <|
      eIf H (fun h2 H =>
        eN H <| gE func26 [rg [hT 1], r0] (by kernel_rfl) (P2 ((decide (best3 < 0)) = true) (decide_eq_true h2) <| P0))
      (fun h2 H =>
        eCk H fun h3 H =>
        eBind H fun x4 hx4 H =>
        eN H fun r hn => gO [rg [hF 1], rg [hA 3 ((List.set l8 (Int.toNat best3) true).length) (List.map D.bool (List.set l8 (Int.toNat best3) true))], r0, .canon [0, 1, 2] [1, 2, 4, 5, 11, 12, 14, 17]] (by kernel_rfl) (P2 ((decide (best3 < 0)) = false) (decide_eq_false h2) <| P1 h3 <| P1 (int_lt_of_at h3 hx4) <| P1 (lt_of_at hx4) <| P2 (setCells (List.map D.bool l8) (Int.toNat best3) 0 [.bool true] = List.map D.bool (List.set l8 (Int.toNat best3) true)) (setCells_map hx4 rfl) <| P1 (setLen l8 (Int.toNat best3) true) <| P0) hn))
  | .h4 kind0 weather1 vavoid2 best3 d4 b5 l6 l7, o, H =>
    eIf H (fun h1 H =>
      eBind H fun r2 hr2 H =>
      gN [rg [hT 1], rg [hC 5 true [] (RI r2) []]] (by kernel_rfl) (P2 ((decide (d4 < 6)) = true) (decide_eq_true h1) <| P1 (cs_cStep hr2) <| P0) <|
      eIf H (fun h3 H =>
        eN H fun r hn => gO [rg [hT 1], r0, .canon [0, 1, 2] [1, 2, 4, 5, 11, 12, 14, 17]] (by kernel_rfl) (P2 (((r2 : Int) == 0) = true) (beqT h3) <| P0) hn)
      (fun h3 H =>
        eBind H fun r4 hr4 H =>
        eCk H fun h5 H =>
        eBind H fun x6 hx6 H =>
        eBind H fun r7 hr7 H =>
        gN [rg [hF 1], rg [hC 4 true [] (RI r4) []], rg [hE 3 (I x6)]] (by kernel_rfl) (P2 (((r2 : Int) == 0) = false) (beqF h3) <| P1 (cs_mNext hr4) <| P1 h5 <| P1 (int_lt_of_at h5 hx6) <| P1 (at_map I hx6) <| P0) <|
        eIf H (fun h8 H =>
          eN H fun r hn => gO [rg [{ i := 2, call := some { cl := true, auto := true, ins := [], res := (RB r7), G' := [] }, dec := some true }], r0, .canon [0, 1, 2] [1, 2, 4, 5, 11, 12, 14, 17]] (by kernel_rfl) (P1 (cs_l1Has hr7) <| P2 (r7 = true) (h8) <| P0) hn)
        (fun h8 H =>
          eCk H fun h9 H =>
          eBind H fun x10 hx10 H =>
          eIf H (fun h11 H =>
            eCk H fun h12 H =>
            eBind H fun x13 hx13 H =>
            eN H fun r hn => gO [rg [{ i := 2, call := some { cl := true, auto := true, ins := [], res := (RB r7), G' := [] }, dec := some false }, hE 8 (I x10), hT 9], rg [hA 4 ((List.set l6 (Int.toNat r4) (IntKind.wrap .i64 (x6 + r2))).length) (List.map I (List.set l6 (Int.toNat r4) (IntKind.wrap .i64 (x6 + r2))))], r0, .canon [0, 1, 2] [1, 2, 4, 5, 11, 12, 14, 17]] (by kernel_rfl) (P1 (cs_l1Has hr7) <| P2 (r7 = false) (eqF h8) <| P1 h9 <| P1 (int_lt_of_at h9 hx10) <| P1 (at_map I hx10) <| P2 ((decide (x10 < 0)) = true) (decide_eq_true h11) <| P1 h12 <| P1 (int_lt_of_at h12 hx13) <| P1 (lt_of_at hx13) <| P2 (setCells (List.map I l6) (Int.toNat r4) 0 [I (IntKind.wrap .i64 (x6 + r2))] = List.map I (List.set l6 (Int.toNat r4) (IntKind.wrap .i64 (x6 + r2)))) (setCells_map hx13 rfl) <| P1 (setLen l6 (Int.toNat r4) (IntKind.wrap .i64 (x6 + r2))) <| P0) hn)
          (fun h11 H =>
            eCk H fun h12 H =>
            eBind H fun x13 hx13 H =>
            eIf H (fun h14 H =>
              eCk H fun h15 H =>
              eBind H fun x16 hx16 H =>
              eN H fun r hn => gO [rg [{ i := 2, call := some { cl := true, auto := true, ins := [], res := (RB r7), G' := [] }, dec := some false }, hE 8 (I x10), hF 9, hE 15 (I x13), hT 16], rg [hA 4 ((List.set l6 (Int.toNat r4) (IntKind.wrap .i64 (x6 + r2))).length) (List.map I (List.set l6 (Int.toNat r4) (IntKind.wrap .i64 (x6 + r2))))], r0, .canon [0, 1, 2] [1, 2, 4, 5, 11, 12, 14, 17]] (by kernel_rfl) (P1 (cs_l1Has hr7) <| P2 (r7 = false) (eqF h8) <| P1 h9 <| P1 (int_lt_of_at h9 hx10) <| P1 (at_map I hx10) <| P2 ((decide (x10 < 0)) = false) (decide_eq_false h11) <| P1 h12 <| P1 (int_lt_of_at h12 hx13) <| P1 (at_map I hx13) <| P2 ((decide ((IntKind.wrap .i64 (x6 + r2)) < x13)) = true) (decide_eq_true h14) <| P1 h15 <| P1 (int_lt_of_at h15 hx16) <| P1 (lt_of_at hx16) <| P2 (setCells (List.map I l6) (Int.toNat r4) 0 [I (IntKind.wrap .i64 (x6 + r2))] = List.map I (List.set l6 (Int.toNat r4) (IntKind.wrap .i64 (x6 + r2)))) (setCells_map hx16 rfl) <| P1 (setLen l6 (Int.toNat r4) (IntKind.wrap .i64 (x6 + r2))) <| P0) hn)
            (fun h14 H =>
              eN H fun r hn => gO [rg [{ i := 2, call := some { cl := true, auto := true, ins := [], res := (RB r7), G' := [] }, dec := some false }, hE 8 (I x10), hF 9, hE 15 (I x13), hF 16], r0, .canon [0, 1, 2] [1, 2, 4, 5, 11, 12, 14, 17]] (by kernel_rfl) (P1 (cs_l1Has hr7) <| P2 (r7 = false) (eqF h8) <| P1 h9 <| P1 (int_lt_of_at h9 hx10) <| P1 (at_map I hx10) <| P2 ((decide (x10 < 0)) = false) (decide_eq_false h11) <| P1 h12 <| P1 (int_lt_of_at h12 hx13) <| P1 (at_map I hx13) <| P2 ((decide ((IntKind.wrap .i64 (x6 + r2)) < x13)) = false) (decide_eq_false h14) <| P0) hn)))))
    (fun h1 H =>
      eN H fun r hn => gO [rg [hF 1], .canon [0, 1, 2] [1, 2, 4, 5, 11, 12]] (by kernel_rfl) (P2 ((decide (d4 < 6)) = false) (decide_eq_false h1) <| P0) hn)
theorem ws_pFrom : ∀ s r, loop Bs_pFrom s = some r → Wc X 26 0 (Ks_pFrom s) (Zs_pFrom s) (Rs_pFrom r) ((fun _ => []) r) := Nx.all ns_pFrom
theorem cs_pFrom {a0 : Gi_Board} {a1 : Int} {a2 : Int} {a3 : Int} {a4 : (List Int)} {r : (List Int)} (H : Ds_pFrom a0 a1 a2 a3 a4 = some r) : Ct X.P X.gl 26 [.agg [sl 5 gi_Terrain a0.Rules.Terrains, sl 6 gi_Kind a0.Rules.Kinds, I a0.Rules.Stack, I a0.Rules.River, I a0.Rules.Road, I a0.Rules.Supply, I a0.Rules.Turns, I a0.Map.Width, I a0.Map.Height, sl 1 I a0.Map.Terrain, sl 1 I a0.Map.Rivers, sl 1 I a0.Map.Roads], I a1, I a2, I a3, sl 1 I a4] [] (Rs_pFrom r) [] :=
  have H := (Ds_pFrom.eq_1 ..).symm.trans H
  Ct.of func26 (c := bdy f26) (by kernel_rfl) (by kernel_rfl) <|
  eBind H fun r1 hr1 H =>
  eCk H fun h2 H =>
  eCk H fun h3 H =>
  eCk H fun h4 H =>
  gO [r0, rg [hC 2 true [] (RI r1) [], hA 3 ((List.replicate (Int.toNat r1) (0 : Int)).length) (List.map I (List.replicate (Int.toNat r1) (0 : Int)))], rg [hA 2 ((List.replicate (Int.toNat (((List.replicate (Int.toNat r1) (0 : Int)).length : Nat) : Int)) false).length) (List.map D.bool (List.replicate (Int.toNat (((List.replicate (Int.toNat r1) (0 : Int)).length : Nat) : Int)) false))], r0, .canon [0, 1, 2] [1, 2, 3, 4, 5, 11, 12, 29, 30]] (by kernel_rfl) (P1 (cs_mSize hr1) <| PI (r1 : Int) <| P2 ((0 : Int) ≤ r1) h2 <| P2 (Int.toNat r1 * 8 ≤ 140737488355328) h3 <| P1 (repLen (Int.toNat r1) (0 : Int)) <| P1 (repMap I (Int.toNat r1) (0 : Int)) <| PI ((((List.replicate (Int.toNat r1) (0 : Int)).length : Nat) : Int) : Int) <| P2 ((0 : Int) ≤ (((List.replicate (Int.toNat r1) (0 : Int)).length : Nat) : Int)) (by omega) <| P2 (Int.toNat (((List.replicate (Int.toNat r1) (0 : Int)).length : Nat) : Int) * 1 ≤ 140737488355328) h4 <| P1 (repLen (Int.toNat (((List.replicate (Int.toNat r1) (0 : Int)).length : Nat) : Int)) false) <| P1 (repMap D.bool (Int.toNat (((List.replicate (Int.toNat r1) (0 : Int)).length : Nat) : Int)) false) <| P0) (ws_pFrom _ _ H)
/-! loop example/g00886/spec ReachOf -/
def Rs_ReachOf (r : (List Int) × Bool) : List D := [ow 1 I r.1, .bool r.2]
noncomputable def Ks_ReachOf : Ss_ReachOf → List Item
  | .h1 .. => nav 300 4 [false] [.code (bdy f7)]
def Zs_ReachOf : Ss_ReachOf → St
  | .h1 moves0 t1 t2 l3 l4 => ⟨sts 46 [(4, I moves0), (12, .ref 0 1 none), (30, .ref 1 1 none), (31, I t1), (32, I t2)], [some ⟨false, false, 1, l3.length, List.map I l3⟩, some ⟨false, false, 1, l4.length, List.map I l4⟩]⟩
abbrev Qs_ReachOf := Nx X 7 0 Ks_ReachOf Zs_ReachOf Rs_ReachOf (fun _ => [])
theorem ns_ReachOf : ∀ s o, Bs_ReachOf s = some o → Qs_ReachOf (Ks_ReachOf s) (Zs_ReachOf s) o
  | .h1 moves0 t1 t2 l3 l4, o, H =>
    eIf H (fun h1 H =>
      eCk H fun h2 H =>
      eBind H fun x3 hx3 H =>
      eBind H fun r4 hr4 H =>
      gN [rg [hT 0], rg [hE 2 (I x3)]] (by kernel_rfl) (P2 ((decide (t2 < t1)) = true) (decide_eq_true h1) <| P1 h2 <| P1 (int_lt_of_at h2 hx3) <| P1 (at_map I hx3) <| P0) <|
      eIf H (fun h5 H =>
        eCk H fun h6 H =>
        eN H fun r hn => gO [rg [{ i := 2, call := some { cl := true, auto := true, ins := [], res := (RB r4), G' := [] }, dec := some true }], rg [hA 3 ((l3 ++ [t2]).length) (List.map I (l3 ++ [t2]))], r0, .canon [3, 1] [4, 12, 30, 31, 32]] (by kernel_rfl) (P1 (cs_l1In hr4) <| P2 (r4 = true) (h5) <| P1 (apL l3 [t2]) <| P1 (apB h6) <| P1 (apM I l3 [t2]) <| P0) hn)
      (fun h5 H =>
        eN H fun r hn => gO [rg [{ i := 2, call := some { cl := true, auto := true, ins := [], res := (RB r4), G' := [] }, dec := some false }], r0, .canon [0, 1] [4, 12, 30, 31, 32]] (by kernel_rfl) (P1 (cs_l1In hr4) <| P2 (r4 = false) (eqF h5) <| P0) hn))
    (fun h1 H =>
      eN H <| gE func7 [rg [hF 0], r0] (by kernel_rfl) (P2 ((decide (t2 < t1)) = false) (decide_eq_false h1) <| P0))
theorem ws_ReachOf : ∀ s r, loop Bs_ReachOf s = some r → Wc X 7 0 (Ks_ReachOf s) (Zs_ReachOf s) (Rs_ReachOf r) ((fun _ => []) r) := Nx.all ns_ReachOf
theorem cs_ReachOf {a0 : Gi_Board} {a1 : Int} {a2 : Int} {a3 : Int} {a4 : Int} {r : (List Int) × Bool} (H : Ds_ReachOf a0 a1 a2 a3 a4 = some r) : Ct X.P X.gl 7 [.agg [sl 5 gi_Terrain a0.Rules.Terrains, sl 6 gi_Kind a0.Rules.Kinds, I a0.Rules.Stack, I a0.Rules.River, I a0.Rules.Road, I a0.Rules.Supply, I a0.Rules.Turns, I a0.Map.Width, I a0.Map.Height, sl 1 I a0.Map.Terrain, sl 1 I a0.Map.Rivers, sl 1 I a0.Map.Roads], I a1, I a2, I a3, I a4] [] (Rs_ReachOf r) [] :=
  Ct.of func7 (c := bdy f7) (by kernel_rfl) (by kernel_rfl) <|
  eBind H fun r1 hr1 H =>
  gS [r0] (by kernel_rfl) P0 <|
  eIf H (fun h2 H =>
    eBind H fun r3 hr3 H =>
    eIf H (fun h4 H =>
      eBind H fun r5 hr5 H =>
      gO [rg [{ i := 4, call := some { cl := true, auto := true, ins := [], res := (RB r1), G' := [] }, dec := some true }, { i := 8, call := some { cl := true, auto := true, ins := [], res := (RB r3), G' := [] }, dec := some true }], r0, rg [{ i := 4, call := some { cl := true, ins := [], args := [.agg [sl 5 gi_Terrain a0.Rules.Terrains, sl 6 gi_Kind a0.Rules.Kinds, I a0.Rules.Stack, I a0.Rules.River, I a0.Rules.Road, I a0.Rules.Supply, I a0.Rules.Turns, I a0.Map.Width, I a0.Map.Height, sl 1 I a0.Map.Terrain, sl 1 I a0.Map.Rivers, sl 1 I a0.Map.Roads], I a1, I a2, I a3, sl 1 I []], res := Rs_pFrom r5, G' := [] } }], .own 12 1, .canon [2, 1] [4, 12, 30, 31, 32]] (by kernel_rfl) (P1 (cs_pAsked hr1) <| P2 (r1 = true) (h2) <| P1 (cs_l1In hr3) <| P2 (r3 = true) (h4) <| PL gi_Terrain a0.Rules.Terrains <| PL gi_Kind a0.Rules.Kinds <| PI (a0.Rules.Stack : Int) <| PI (a0.Rules.River : Int) <| PI (a0.Rules.Road : Int) <| PI (a0.Rules.Supply : Int) <| PI (a0.Rules.Turns : Int) <| PI (a0.Map.Width : Int) <| PI (a0.Map.Height : Int) <| PL I a0.Map.Terrain <| PL I a0.Map.Rivers <| PL I a0.Map.Roads <| PI (a1 : Int) <| PI (a2 : Int) <| PI (a3 : Int) <| PI (0 : Nat) <| PI ([] : List D) <| P1 (cs_pFrom hr5) <| P0) (ws_ReachOf _ _ H))
    (fun h4 H =>
      eW Rs_ReachOf (fun _ => []) H <| gE func7 [rg [{ i := 4, call := some { cl := true, auto := true, ins := [], res := (RB r1), G' := [] }, dec := some true }, { i := 8, call := some { cl := true, auto := true, ins := [], res := (RB r3), G' := [] }, dec := some false }], r0] (by kernel_rfl) (P1 (cs_pAsked hr1) <| P2 (r1 = true) (h2) <| P1 (cs_l1In hr3) <| P2 (r3 = false) (eqF h4) <| P0)))
  (fun h2 H =>
    eW Rs_ReachOf (fun _ => []) H <| gE func7 [rg [{ i := 4, call := some { cl := true, auto := true, ins := [], res := (RB r1), G' := [] }, dec := some false }], r0] (by kernel_rfl) (P1 (cs_pAsked hr1) <| P2 (r1 = false) (eqF h2) <| P0))
/-! loop example/g00886/laws sameInts -/
noncomputable def Kw_sameInts : Sw_sameInts → List Item
  | .h1 .. => nav 300 3 [false] [.code (bdy f8)]
def Zw_sameInts : Sw_sameInts → St
  | .h1 va0 b1 t2 t3 => ⟨sts 26 [(0, sl 1 I va0), (1, sl 1 I b1), (12, I t2), (13, I t3)], []⟩
abbrev Qw_sameInts := Nx X 8 0 Kw_sameInts Zw_sameInts RB (fun _ => [])
theorem nw_sameInts : ∀ s o, Bw_sameInts s = some o → Qw_sameInts (Kw_sameInts s) (Zw_sameInts s) o
  | .h1 va0 b1 t2 t3, o, H =>
    eIf H (fun h1 H =>
      eCk H fun h2 H =>
      eBind H fun x3 hx3 H =>
      eCk H fun h4 H =>
      eBind H fun x5 hx5 H =>
      gN [rg [hT 0], r0] (by kernel_rfl) (P2 ((decide (t3 < t2)) = true) (decide_eq_true h1) <| P0) <|
      eIf H (fun h6 H =>
        eN H fun r hn => gO [rg [hE 3 (I x3), hE 7 (I x5), hF 8], r0, .canon [] [0, 1, 12, 13]] (by kernel_rfl) (P1 h2 <| P1 (int_lt_of_at h2 hx3) <| P1 (at_map I hx3) <| P1 h4 <| P1 (int_lt_of_at h4 hx5) <| P1 (at_map I hx5) <| P2 (((x3 : Int) != x5) = false) (bneF h6) <| P0) hn)
      (fun h6 H =>
        eN H <| gE func8 [rg [hE 3 (I x3), hE 7 (I x5), hT 8], r0] (by kernel_rfl) (P1 h2 <| P1 (int_lt_of_at h2 hx3) <| P1 (at_map I hx3) <| P1 h4 <| P1 (int_lt_of_at h4 hx5) <| P1 (at_map I hx5) <| P2 (((x3 : Int) != x5) = true) (bneT h6) <| P0)))
    (fun h1 H =>
      eN H <| gE func8 [rg [hF 0], r0] (by kernel_rfl) (P2 ((decide (t3 < t2)) = false) (decide_eq_false h1) <| P0))
theorem ww_sameInts : ∀ s r, loop Bw_sameInts s = some r → Wc X 8 0 (Kw_sameInts s) (Zw_sameInts s) (RB r) ((fun _ => []) r) := Nx.all nw_sameInts
theorem cw_sameInts {a0 : (List Int)} {a1 : (List Int)} {r : Bool} (H : Dw_sameInts a0 a1 = some r) : Ct X.P X.gl 8 [sl 1 I a0, sl 1 I a1] [] (RB r) [] :=
  Ct.of func8 (c := bdy f8) (by kernel_rfl) (by kernel_rfl) <|
  gS [r0] (by kernel_rfl) P0 <|
  eIf H (fun h1 H =>
    gO [rg [hF 4], r0, .canon [] [0, 1, 12, 13]] (by kernel_rfl) (P2 (((((a0.length : Nat) : Int) : Int) != ((a1.length : Nat) : Int)) = false) (bneF h1) <| P0) (ww_sameInts _ _ H))
  (fun h1 H =>
    eW RB (fun _ => []) H <| gE func8 [rg [hT 4], r0] (by kernel_rfl) (P2 (((((a0.length : Nat) : Int) : Int) != ((a1.length : Nat) : Int)) = true) (bneT h1) <| P0))
/-! loop example/g00886/spec DrawDetourCost -/
def Rs_DrawDetourCost (r : Gi_Board × Int × Int × Int × Int × (List Int)) : List D := [.agg [sl 5 gi_Terrain r.1.Rules.Terrains, sl 6 gi_Kind r.1.Rules.Kinds, I r.1.Rules.Stack, I r.1.Rules.River, I r.1.Rules.Road, I r.1.Rules.Supply, I r.1.Rules.Turns, I r.1.Map.Width, I r.1.Map.Height, sl 1 I r.1.Map.Terrain, sl 1 I r.1.Map.Rivers, sl 1 I r.1.Map.Roads], I r.2.1, I r.2.2.1, I r.2.2.2.1, I r.2.2.2.2.1, ow 1 I r.2.2.2.2.2]
noncomputable def Ks_DrawDetourCost : Ss_DrawDetourCost → List Item
  | .h1 .. => nav 300 5 [] [.code (bdy f10)]
def Zs_DrawDetourCost : Ss_DrawDetourCost → St
  | .h1 kind0 weather1 i2 k3 vx4 b5 b6 b7 b8 b9 b10 b11 b12 b13 l14 => ⟨sts 54 [(2, .ptr 0 12 0 0), (8, .ptr 1 3 0 0), (9, .ptr 2 12 0 0), (10, I kind0), (11, I weather1), (12, I i2), (13, I k3), (14, .ref 3 1 none), (15, I vx4)], [some ⟨false, true, 12, 1, [.agg [.nil, .nil, I b5, I b6, I b7, I b8, I b9, I b10, I b11, .nil, .nil, .nil]]⟩, some ⟨false, true, 3, 1, [.agg [sl 1 (D.int .u8) b12.code, I b12.at_, .int .u64 b12.seed]]⟩, some ⟨false, true, 12, 1, [.agg [sl 5 gi_Terrain b13.Rules.Terrains, sl 6 gi_Kind b13.Rules.Kinds, I b13.Rules.Stack, I b13.Rules.River, I b13.Rules.Road, I b13.Rules.Supply, I b13.Rules.Turns, I b13.Map.Width, I b13.Map.Height, sl 1 I b13.Map.Terrain, sl 1 I b13.Map.Rivers, sl 1 I b13.Map.Roads]]⟩, some ⟨false, false, 1, l14.length, List.map I l14⟩]⟩
abbrev Qs_DrawDetourCost := Nx X 10 0 Ks_DrawDetourCost Zs_DrawDetourCost Rs_DrawDetourCost (fun _ => [])
theorem ns_DrawDetourCost : ∀ s o, Bs_DrawDetourCost s = some o → Qs_DrawDetourCost (Ks_DrawDetourCost s) (Zs_DrawDetourCost s) o
  | .h1 kind0 weather1 i2 k3 vx4 b5 b6 b7 b8 b9 b10 b11 b12 b13 l14, o, H =>
    have H := (Bs_DrawDetourCost.eq_1 ..).symm.trans H
    eBind H fun r1 hr1 H =>
    eIf H (fun h2 H =>
      eBind H fun r3 hr3 H =>
      gN [rg [hC 3 true [] (RI r1) [], hT 4]] (by kernel_rfl) (P1 (cs_mSize hr1) <| P2 ((decide (vx4 < r1)) = true) (decide_eq_true h2) <| P0) <|
      eIf H (fun h4 H =>
        eCk H fun h5 H =>
        eN H fun r hn => gO [rg [{ i := 1, call := some { cl := true, auto := true, ins := [1], res := (Rs_l1Cur_one r3), G' := (Ns_l1Cur_one r3) }, dec := some true }], rg [hA 3 ((l14 ++ [vx4]).length) (List.map I (l14 ++ [vx4]))], r0, .canon [0, 1, 2, 5] [2, 8, 9, 10, 11, 12, 13, 14, 15]] (by kernel_rfl) (PI (1 : Nat) <| P1 (cs_l1Cur_one hr3) <| P2 (r3.1 = true) (h4) <| P1 (apL l14 [vx4]) <| P1 (apB h5) <| P1 (apM I l14 [vx4]) <| P0) hn)
      (fun h4 H =>
        eN H fun r hn => gO [rg [{ i := 1, call := some { cl := true, auto := true, ins := [1], res := (Rs_l1Cur_one r3), G' := (Ns_l1Cur_one r3) }, dec := some false }], r0, .canon [0, 1, 2, 3] [2, 8, 9, 10, 11, 12, 13, 14, 15]] (by kernel_rfl) (PI (1 : Nat) <| P1 (cs_l1Cur_one hr3) <| P2 (r3.1 = false) (eqF h4) <| P0) hn))
    (fun h2 H =>
      eBind H fun r3 hr3 H =>
      gN [rg [hC 3 true [] (RI r1) [], hF 4]] (by kernel_rfl) (P1 (cs_mSize hr1) <| P2 ((decide (vx4 < r1)) = false) (decide_eq_false h2) <| P0) <|
      eIf H (fun h4 H =>
        eBind H fun r5 hr5 H =>
        eCk H fun h6 H =>
        eN H <| gE func10 [rg [{ i := 1, call := some { cl := true, auto := true, ins := [1], res := (Rs_l1Cur_one r3), G' := (Ns_l1Cur_one r3) }, dec := some true }], rg [hC 3 true [] (RI r5) [], hA 5 ((l14 ++ [r5]).length) (List.map I (l14 ++ [r5]))], r0] (by kernel_rfl) (PI (1 : Nat) <| P1 (cs_l1Cur_one hr3) <| P2 (r3.1 = true) (h4) <| P1 (cs_mSize hr5) <| P1 (apL l14 [r5]) <| P1 (apB h6) <| P1 (apM I l14 [r5]) <| P0))
      (fun h4 H =>
        eN H <| gE func10 [rg [{ i := 1, call := some { cl := true, auto := true, ins := [1], res := (Rs_l1Cur_one r3), G' := (Ns_l1Cur_one r3) }, dec := some false }], r0] (by kernel_rfl) (PI (1 : Nat) <| P1 (cs_l1Cur_one hr3) <| P2 (r3.1 = false) (eqF h4) <| P0)))
theorem ws_DrawDetourCost : ∀ s r, loop Bs_DrawDetourCost s = some r → Wc X 10 0 (Ks_DrawDetourCost s) (Zs_DrawDetourCost s) (Rs_DrawDetourCost r) ((fun _ => []) r) := Nx.all ns_DrawDetourCost
theorem cs_DrawDetourCost {a0 : (List Int)} {r : Gi_Board × Int × Int × Int × Int × (List Int)} (H : Ds_DrawDetourCost a0 = some r) : Ct X.P X.gl 10 [sl 1 (D.int .u8) a0] [] (Rs_DrawDetourCost r) [] :=
  Ct.of func10 (c := bdy f10) (by kernel_rfl) (by kernel_rfl) <|
  eBind H fun r1 hr1 H =>
  gO [r0, r0, rg [hC 1 true [1] (Rs_l1Cur_trek r1) (Ns_l1Cur_trek r1)], r0, r0, .own 14 1, .canon [0, 1, 2, 3] [2, 8, 9, 10, 11, 12, 13, 14, 15]] (by kernel_rfl) (PI (1 : Nat) <| P1 (cs_l1Cur_trek hr1) <| P0) (ws_DrawDetourCost _ _ H)
/-! loop example/g00886/impl isTrip -/
theorem ci_isTrip {a0 : Gi_Board} {a1 : Int} {a2 : Int} {a3 : Int} {a4 : Int} {r : Bool} (H : Di_isTrip a0 a1 a2 a3 a4 = some r) : Ct X.P X.gl 29 [.agg [sl 5 gi_Terrain a0.Rules.Terrains, sl 6 gi_Kind a0.Rules.Kinds, I a0.Rules.Stack, I a0.Rules.River, I a0.Rules.Road, I a0.Rules.Supply, I a0.Rules.Turns, I a0.Map.Width, I a0.Map.Height, sl 1 I a0.Map.Terrain, sl 1 I a0.Map.Rivers, sl 1 I a0.Map.Roads], I a1, I a2, I a3, I a4] [] (RB r) [] :=
  Ct.of func29 (c := bdy f29) (by kernel_rfl) (by kernel_rfl) <|
  eBind H fun r1 hr1 H =>
  gS [r0] (by kernel_rfl) P0 <|
  eIf H (fun h2 H =>
    eBind H fun r3 hr3 H =>
    eBind H fun r4 hr4 H =>
    eW RB (fun _ => []) H <| gE func29 [rg [{ i := 4, call := some { cl := true, auto := true, ins := [], res := (RB r1), G' := [] }, dec := some true }, hC 8 true [] (RI r3) [], hC 9 true [] (RB r4) []]] (by kernel_rfl) (P1 (ci_isMover hr1) <| P2 (r1 = true) (h2) <| P1 (ci_sizeOf hr3) <| P1 (ci_isIndex hr4) <| P0))
  (fun h2 H =>
    eW RB (fun _ => []) H <| gE func29 [rg [{ i := 4, call := some { cl := true, auto := true, ins := [], res := (RB r1), G' := [] }, dec := some false }]] (by kernel_rfl) (P1 (ci_isMover hr1) <| P2 (r1 = false) (eqF h2) <| P0))
/-! loop example/g00886/impl DetourCost 1 -/
theorem ci_DetourCost_1 {a0 : Int} {a1 : Gi_Board} {r : Bool} (H : Di_DetourCost_1 a0 a1 = some r) : Ct X.P X.gl 32 [I a0, .fptr 12 [.agg [sl 5 gi_Terrain a1.Rules.Terrains, sl 6 gi_Kind a1.Rules.Kinds, I a1.Rules.Stack, I a1.Rules.River, I a1.Rules.Road, I a1.Rules.Supply, I a1.Rules.Turns, I a1.Map.Width, I a1.Map.Height, sl 1 I a1.Map.Terrain, sl 1 I a1.Map.Rivers, sl 1 I a1.Map.Roads]] 0 0] [] (RB r) [] :=
  have H := (Di_DetourCost_1.eq_1 ..).symm.trans H
  Ct.of func32 (c := bdy f32) (by kernel_rfl) (by kernel_rfl) <|
  eBind H fun r1 hr1 H =>
  eBind H fun r2 hr2 H =>
  eW RB (fun _ => []) H <| gE func32 [r0, rg [hC 2 true [] (RI r1) [], hC 3 true [] (RB r2) []]] (by kernel_rfl) (P1 (ci_sizeOf hr1) <| P1 (ci_isIndex hr2) <| P0)
/-! slices IndexFunc   int int  -/
noncomputable def Kslices_IndexFunc_int_i_DetourCost_1 : Sslices_IndexFunc_int_i_DetourCost_1 → List Item
  | .h1 .. => nav 300 2 [] [.code (bdy f52)]
def Zslices_IndexFunc_int_i_DetourCost_1 : Sslices_IndexFunc_int_i_DetourCost_1 → St
  | .h1 s0 f1 t2 t3 => ⟨sts 19 [(0, sl 1 I s0), (1, .fn 32 [.fptr 12 [.agg [sl 5 gi_Terrain f1.Rules.Terrains, sl 6 gi_Kind f1.Rules.Kinds, I f1.Rules.Stack, I f1.Rules.River, I f1.Rules.Road, I f1.Rules.Supply, I f1.Rules.Turns, I f1.Map.Width, I f1.Map.Height, sl 1 I f1.Map.Terrain, sl 1 I f1.Map.Rivers, sl 1 I f1.Map.Roads]] 0 0]), (7, I t2), (8, I t3)], []⟩
abbrev Qslices_IndexFunc_int_i_DetourCost_1 := Nx X 52 0 Kslices_IndexFunc_int_i_DetourCost_1 Zslices_IndexFunc_int_i_DetourCost_1 RI (fun _ => [])
theorem nslices_IndexFunc_int_i_DetourCost_1 : ∀ s o, Bslices_IndexFunc_int_i_DetourCost_1 s = some o → Qslices_IndexFunc_int_i_DetourCost_1 (Kslices_IndexFunc_int_i_DetourCost_1 s) (Zslices_IndexFunc_int_i_DetourCost_1 s) o
  | .h1 s0 f1 t2 t3, o, H =>
    eIf H (fun h1 H =>
      eCk H fun h2 H =>
      eBind H fun x3 hx3 H =>
      eBind H fun r4 hr4 H =>
      gN [rg [hT 0], r0] (by kernel_rfl) (P2 ((decide (t3 < t2)) = true) (decide_eq_true h1) <| P0) <|
      eIf H (fun h5 H =>
        eN H <| gE func52 [rg [hE 4 (I x3), { i := 5, call := some { cl := true, auto := true, ins := [], res := (RB r4), G' := [] }, dec := some true }], r0] (by kernel_rfl) (P1 h2 <| P1 (int_lt_of_at h2 hx3) <| P1 (at_map I hx3) <| P1 (ci_DetourCost_1 hr4) <| P2 (r4 = true) (h5) <| P0))
      (fun h5 H =>
        eN H fun r hn => gO [rg [hE 4 (I x3), { i := 5, call := some { cl := true, auto := true, ins := [], res := (RB r4), G' := [] }, dec := some false }], r0, .canon [] [0, 1, 7, 8]] (by kernel_rfl) (P1 h2 <| P1 (int_lt_of_at h2 hx3) <| P1 (at_map I hx3) <| P1 (ci_DetourCost_1 hr4) <| P2 (r4 = false) (eqF h5) <| P0) hn))
    (fun h1 H =>
      eN H <| gE func52 [rg [hF 0], r0] (by kernel_rfl) (P2 ((decide (t3 < t2)) = false) (decide_eq_false h1) <| P0))
theorem wslices_IndexFunc_int_i_DetourCost_1 : ∀ s r, loop Bslices_IndexFunc_int_i_DetourCost_1 s = some r → Wc X 52 0 (Kslices_IndexFunc_int_i_DetourCost_1 s) (Zslices_IndexFunc_int_i_DetourCost_1 s) (RI r) ((fun _ => []) r) := Nx.all nslices_IndexFunc_int_i_DetourCost_1
theorem cslices_IndexFunc_int_i_DetourCost_1 {a0 : (List Int)} {a100 : Gi_Board} {r : Int} (H : Dslices_IndexFunc_int_i_DetourCost_1 a0 a100 = some r) : Ct X.P X.gl 52 [sl 1 I a0, .fn 32 [.fptr 12 [.agg [sl 5 gi_Terrain a100.Rules.Terrains, sl 6 gi_Kind a100.Rules.Kinds, I a100.Rules.Stack, I a100.Rules.River, I a100.Rules.Road, I a100.Rules.Supply, I a100.Rules.Turns, I a100.Map.Width, I a100.Map.Height, sl 1 I a100.Map.Terrain, sl 1 I a100.Map.Rivers, sl 1 I a100.Map.Roads]] 0 0]] [] (RI r) [] :=
  Ct.of func52 (c := bdy f52) (by kernel_rfl) (by kernel_rfl) <|
  gO [r0, r0, .canon [] [0, 1, 7, 8]] (by kernel_rfl) P0 (wslices_IndexFunc_int_i_DetourCost_1 _ _ H)
/-! slices ContainsFunc   int int  -/
theorem cslices_ContainsFunc_int_i_DetourCost_1 {a0 : (List Int)} {a100 : Gi_Board} {r : Bool} (H : Dslices_ContainsFunc_int_i_DetourCost_1 a0 a100 = some r) : Ct X.P X.gl 31 [sl 1 I a0, .fn 32 [.fptr 12 [.agg [sl 5 gi_Terrain a100.Rules.Terrains, sl 6 gi_Kind a100.Rules.Kinds, I a100.Rules.Stack, I a100.Rules.River, I a100.Rules.Road, I a100.Rules.Supply, I a100.Rules.Turns, I a100.Map.Width, I a100.Map.Height, sl 1 I a100.Map.Terrain, sl 1 I a100.Map.Rivers, sl 1 I a100.Map.Roads]] 0 0]] [] (RB r) [] :=
  Ct.of func31 (c := bdy f31) (by kernel_rfl) (by kernel_rfl) <|
  eBind H fun r1 hr1 H =>
  eW RB (fun _ => []) H <| gE func31 [r0, rg [hC 2 true [] (RI r1) []]] (by kernel_rfl) (P1 (cslices_IndexFunc_int_i_DetourCost_1 hr1) <| P0)
/-! loop example/g00886/impl DetourCost -/
def Ri_DetourCost (r : Int × Bool) : List D := [I r.1, .bool r.2]
theorem ci_DetourCost {a0 : Gi_Board} {a1 : Int} {a2 : Int} {a3 : Int} {a4 : Int} {a5 : (List Int)} {r : Int × Bool} (H : Di_DetourCost a0 a1 a2 a3 a4 a5 = some r) : Ct X.P X.gl 11 [.agg [sl 5 gi_Terrain a0.Rules.Terrains, sl 6 gi_Kind a0.Rules.Kinds, I a0.Rules.Stack, I a0.Rules.River, I a0.Rules.Road, I a0.Rules.Supply, I a0.Rules.Turns, I a0.Map.Width, I a0.Map.Height, sl 1 I a0.Map.Terrain, sl 1 I a0.Map.Rivers, sl 1 I a0.Map.Roads], I a1, I a2, I a3, I a4, sl 1 I a5] [] (Ri_DetourCost r) [] :=
  Ct.of func11 (c := bdy f11) (by kernel_rfl) (by kernel_rfl) <|
  eBind H fun r1 hr1 H =>
  gS [r0] (by kernel_rfl) P0 <|
  eIf H (fun h2 H =>
    eBind H fun r3 hr3 H =>
    eIf H (fun h4 H =>
      eBind H fun r5 hr5 H =>
      eIf H (fun h6 H =>
        eW Ri_DetourCost (fun _ => []) H <| gE func11 [rg [{ i := 5, call := some { cl := true, auto := true, ins := [], res := (RB r1), G' := [] }, dec := some true }, { i := 9, call := some { cl := true, auto := true, ins := [], res := (RB r3), G' := [] }, dec := some true }, { i := 15, call := some { cl := false, auto := true, ins := [], res := (RB r5), G' := [] }, dec := some true }], r0] (by kernel_rfl) (P1 (ci_isTrip hr1) <| P2 (r1 = true) (h2) <| P1 (ci_increasing hr3) <| P2 (r3 = true) (h4) <| P1 (cslices_ContainsFunc_int_i_DetourCost_1 hr5) <| P2 (r5 = true) (h6) <| P0))
      (fun h6 H =>
        eBind H fun r7 hr7 H =>
        eCk H fun h8 H =>
        eBind H fun x9 hx9 H =>
        gS [rg [{ i := 5, call := some { cl := true, auto := true, ins := [], res := (RB r1), G' := [] }, dec := some true }, { i := 9, call := some { cl := true, auto := true, ins := [], res := (RB r3), G' := [] }, dec := some true }, { i := 15, call := some { cl := false, auto := true, ins := [], res := (RB r5), G' := [] }, dec := some false }], rg [hC 5 true [] (Ri_relaxed r7) []]] (by kernel_rfl) (P1 (ci_isTrip hr1) <| P2 (r1 = true) (h2) <| P1 (ci_increasing hr3) <| P2 (r3 = true) (h4) <| P1 (cslices_ContainsFunc_int_i_DetourCost_1 hr5) <| P2 (r5 = false) (eqF h6) <| P1 (ci_relaxed hr7) <| P0) <|
        eIf H (fun h10 H =>
          eW Ri_DetourCost (fun _ => []) H <| gE func11 [rg [hE 3 (I x9), hT 4], r0] (by kernel_rfl) (P1 h8 <| P1 (int_lt_of_at h8 hx9) <| P1 (at_map I hx9) <| P2 ((decide (x9 < 0)) = true) (decide_eq_true h10) <| P0))
        (fun h10 H =>
          eCk H fun h11 H =>
          eBind H fun x12 hx12 H =>
          eW Ri_DetourCost (fun _ => []) H <| gE func11 [rg [hE 3 (I x9), hF 4], rg [hE 3 (I x12)]] (by kernel_rfl) (P1 h8 <| P1 (int_lt_of_at h8 hx9) <| P1 (at_map I hx9) <| P2 ((decide (x9 < 0)) = false) (decide_eq_false h10) <| P1 h11 <| P1 (int_lt_of_at h11 hx12) <| P1 (at_map I hx12) <| P0))))
    (fun h4 H =>
      eW Ri_DetourCost (fun _ => []) H <| gE func11 [rg [{ i := 5, call := some { cl := true, auto := true, ins := [], res := (RB r1), G' := [] }, dec := some true }, { i := 9, call := some { cl := true, auto := true, ins := [], res := (RB r3), G' := [] }, dec := some false }], r0] (by kernel_rfl) (P1 (ci_isTrip hr1) <| P2 (r1 = true) (h2) <| P1 (ci_increasing hr3) <| P2 (r3 = false) (eqF h4) <| P0)))
  (fun h2 H =>
    eW Ri_DetourCost (fun _ => []) H <| gE func11 [rg [{ i := 5, call := some { cl := true, auto := true, ins := [], res := (RB r1), G' := [] }, dec := some false }], r0] (by kernel_rfl) (P1 (ci_isTrip hr1) <| P2 (r1 = false) (eqF h2) <| P0))
/-! loop example/g00886/spec DetourCost -/
def Rs_DetourCost (r : Int × Bool) : List D := [I r.1, .bool r.2]
theorem cs_DetourCost {a0 : Gi_Board} {a1 : Int} {a2 : Int} {a3 : Int} {a4 : Int} {a5 : (List Int)} {r : Int × Bool} (H : Ds_DetourCost a0 a1 a2 a3 a4 a5 = some r) : Ct X.P X.gl 12 [.agg [sl 5 gi_Terrain a0.Rules.Terrains, sl 6 gi_Kind a0.Rules.Kinds, I a0.Rules.Stack, I a0.Rules.River, I a0.Rules.Road, I a0.Rules.Supply, I a0.Rules.Turns, I a0.Map.Width, I a0.Map.Height, sl 1 I a0.Map.Terrain, sl 1 I a0.Map.Rivers, sl 1 I a0.Map.Roads], I a1, I a2, I a3, I a4, sl 1 I a5] [] (Rs_DetourCost r) [] :=
  Ct.of func12 (c := bdy f12) (by kernel_rfl) (by kernel_rfl) <|
  eBind H fun r1 hr1 H =>
  gS [r0] (by kernel_rfl) P0 <|
  eIf H (fun h2 H =>
    eBind H fun r3 hr3 H =>
    eIf H (fun h4 H =>
      eBind H fun r5 hr5 H =>
      eBind H fun r6 hr6 H =>
      eIf H (fun h7 H =>
        eBind H fun r8 hr8 H =>
        eCk H fun h9 H =>
        eBind H fun x10 hx10 H =>
        gS [rg [{ i := 4, call := some { cl := true, auto := true, ins := [], res := (RB r1), G' := [] }, dec := some true }, { i := 11, call := some { cl := true, auto := true, ins := [], res := (RB r3), G' := [] }, dec := some true }, hC 18 true [] (RI r5) [], { i := 20, call := some { cl := true, auto := true, ins := [], res := (RB r6), G' := [] }, dec := some true }], rg [hC 5 true [] (Rs_pFrom r8) [], hE 8 (I x10)]] (by kernel_rfl) (P1 (cs_pAsked hr1) <| P2 (r1 = true) (h2) <| P1 (cs_pAsked hr3) <| P2 (r3 = true) (h4) <| P1 (cs_mSize hr5) <| P1 (cs_l1Rising hr6) <| P2 (r6 = true) (h7) <| P1 (cs_pFrom hr8) <| P1 h9 <| P1 (int_lt_of_at h9 hx10) <| P1 (at_map I hx10) <| P0) <|
        eIf H (fun h11 H =>
          eW Rs_DetourCost (fun _ => []) H <| gE func12 [rg [hT 1], r0] (by kernel_rfl) (P2 ((decide (x10 < 0)) = true) (decide_eq_true h11) <| P0))
        (fun h11 H =>
          eW Rs_DetourCost (fun _ => []) H <| gE func12 [rg [hF 1], r0] (by kernel_rfl) (P2 ((decide (x10 < 0)) = false) (decide_eq_false h11) <| P0)))
      (fun h7 H =>
        eW Rs_DetourCost (fun _ => []) H <| gE func12 [rg [{ i := 4, call := some { cl := true, auto := true, ins := [], res := (RB r1), G' := [] }, dec := some true }, { i := 11, call := some { cl := true, auto := true, ins := [], res := (RB r3), G' := [] }, dec := some true }, hC 18 true [] (RI r5) [], { i := 20, call := some { cl := true, auto := true, ins := [], res := (RB r6), G' := [] }, dec := some false }], r0] (by kernel_rfl) (P1 (cs_pAsked hr1) <| P2 (r1 = true) (h2) <| P1 (cs_pAsked hr3) <| P2 (r3 = true) (h4) <| P1 (cs_mSize hr5) <| P1 (cs_l1Rising hr6) <| P2 (r6 = false) (eqF h7) <| P0)))
    (fun h4 H =>
      eW Rs_DetourCost (fun _ => []) H <| gE func12 [rg [{ i := 4, call := some { cl := true, auto := true, ins := [], res := (RB r1), G' := [] }, dec := some true }, { i := 11, call := some { cl := true, auto := true, ins := [], res := (RB r3), G' := [] }, dec := some false }], r0] (by kernel_rfl) (P1 (cs_pAsked hr1) <| P2 (r1 = true) (h2) <| P1 (cs_pAsked hr3) <| P2 (r3 = false) (eqF h4) <| P0)))
  (fun h2 H =>
    eW Rs_DetourCost (fun _ => []) H <| gE func12 [rg [{ i := 4, call := some { cl := true, auto := true, ins := [], res := (RB r1), G' := [] }, dec := some false }], r0] (by kernel_rfl) (P1 (cs_pAsked hr1) <| P2 (r1 = false) (eqF h2) <| P0))
/-! loop example/g00886/impl MeetingHex -/
def Ri_MeetingHex (r : Int × Bool) : List D := [I r.1, .bool r.2]
noncomputable def Ki_MeetingHex : Si_MeetingHex → List Item
  | .h1 .. => nav 300 5 [false] [.code (bdy f13)]
def Zi_MeetingHex : Si_MeetingHex → St
  | .h1 best0 t1 t2 l3 l4 => ⟨sts 107 [(12, .ref 0 1 none), (13, .ref 1 1 none), (14, I best0), (36, I t1), (37, I t2)], [some ⟨false, false, 1, l3.length, List.map I l3⟩, some ⟨false, false, 1, l4.length, List.map I l4⟩]⟩
abbrev Qi_MeetingHex := Nx X 13 0 Ki_MeetingHex Zi_MeetingHex Ri_MeetingHex (fun _ => [])
theorem ni_MeetingHex : ∀ s o, Bi_MeetingHex s = some o → Qi_MeetingHex (Ki_MeetingHex s) (Zi_MeetingHex s) o
  | .h1 best0 t1 t2 l3 l4, o, H =>
    eIf H (fun h1 H =>
      eCk H fun h2 H =>
      eBind H fun x3 hx3 H =>
      gN [rg [hT 0], r0] (by kernel_rfl) (P2 ((decide (t2 < t1)) = true) (decide_eq_true h1) <| P0) <|
      eIf H (fun h4 H =>
        eN H fun r hn => gO [rg [hE 3 (I x3), hT 4], r0, .canon [0, 1] [12, 13, 14, 36, 37]] (by kernel_rfl) (P1 h2 <| P1 (int_lt_of_at h2 hx3) <| P1 (at_map I hx3) <| P2 ((decide (x3 < 0)) = true) (decide_eq_true h4) <| P0) hn)
      (fun h4 H =>
        eCk H fun h5 H =>
        eBind H fun x6 hx6 H =>
        eIf H (fun h7 H =>
          eN H fun r hn => gO [rg [hE 3 (I x3), hF 4, hE 9 (I x6), hT 10], r0, .canon [0, 1] [12, 13, 14, 36, 37]] (by kernel_rfl) (P1 h2 <| P1 (int_lt_of_at h2 hx3) <| P1 (at_map I hx3) <| P2 ((decide (x3 < 0)) = false) (decide_eq_false h4) <| P1 h5 <| P1 (int_lt_of_at h5 hx6) <| P1 (at_map I hx6) <| P2 ((decide (x6 < 0)) = true) (decide_eq_true h7) <| P0) hn)
        (fun h7 H =>
          gN [rg [hE 3 (I x3), hF 4, hE 9 (I x6), hF 10]] (by kernel_rfl) (P1 h2 <| P1 (int_lt_of_at h2 hx3) <| P1 (at_map I hx3) <| P2 ((decide (x3 < 0)) = false) (decide_eq_false h4) <| P1 h5 <| P1 (int_lt_of_at h5 hx6) <| P1 (at_map I hx6) <| P2 ((decide (x6 < 0)) = false) (decide_eq_false h7) <| P0) <|
          eIf H (fun h8 H =>
            eN H fun r hn => gO [rg [hT 1], r0, r0, .canon [0, 1] [12, 13, 14, 36, 37]] (by kernel_rfl) (P2 ((decide (best0 < 0)) = true) (decide_eq_true h8) <| P0) hn)
          (fun h8 H =>
            eCk H fun h9 H =>
            eBind H fun x10 hx10 H =>
            eCk H fun h11 H =>
            eBind H fun x12 hx12 H =>
            eCk H fun h13 H =>
            eBind H fun x14 hx14 H =>
            eCk H fun h15 H =>
            eBind H fun x16 hx16 H =>
            gN [rg [hF 1], rg [hE 3 (I x10), hE 7 (I x12), hE 12 (I x14), hE 16 (I x16)]] (by kernel_rfl) (P2 ((decide (best0 < 0)) = false) (decide_eq_false h8) <| P1 h9 <| P1 (int_lt_of_at h9 hx10) <| P1 (at_map I hx10) <| P1 h11 <| P1 (int_lt_of_at h11 hx12) <| P1 (at_map I hx12) <| P1 h13 <| P1 (int_lt_of_at h13 hx14) <| P1 (at_map I hx14) <| P1 h15 <| P1 (int_lt_of_at h15 hx16) <| P1 (at_map I hx16) <| P0) <|
            eIf H (fun h17 H =>
              eN H fun r hn => gO [rg [hT 2], r0, r0, .canon [0, 1] [12, 13, 14, 36, 37]] (by kernel_rfl) (P2 ((decide ((if x10 < x12 then x12 else x10) < (if x14 < x16 then x16 else x14))) = true) (decide_eq_true h17) <| P0) hn)
            (fun h17 H =>
              eIf H (fun h18 H =>
                eCk H fun h19 H =>
                eBind H fun x20 hx20 H =>
                eCk H fun h21 H =>
                eBind H fun x22 hx22 H =>
                eCk H fun h23 H =>
                eBind H fun x24 hx24 H =>
                eCk H fun h25 H =>
                eBind H fun x26 hx26 H =>
                eIf H (fun h27 H =>
                  eN H fun r hn => gO [rg [hF 2, hT 6, hE 11 (I x20), hE 15 (I x22), hE 20 (I x24), hE 24 (I x26), hT 26], r0, r0, .canon [0, 1] [12, 13, 14, 36, 37]] (by kernel_rfl) (P2 ((decide ((if x10 < x12 then x12 else x10) < (if x14 < x16 then x16 else x14))) = false) (decide_eq_false h17) <| P2 ((((if x10 < x12 then x12 else x10) : Int) == (if x14 < x16 then x16 else x14)) = true) (beqT h18) <| P1 h19 <| P1 (int_lt_of_at h19 hx20) <| P1 (at_map I hx20) <| P1 h21 <| P1 (int_lt_of_at h21 hx22) <| P1 (at_map I hx22) <| P1 h23 <| P1 (int_lt_of_at h23 hx24) <| P1 (at_map I hx24) <| P1 h25 <| P1 (int_lt_of_at h25 hx26) <| P1 (at_map I hx26) <| P2 ((decide ((IntKind.wrap .i64 (x20 + x22)) < (IntKind.wrap .i64 (x24 + x26)))) = true) (decide_eq_true h27) <| P0) hn)
                (fun h27 H =>
                  eN H fun r hn => gO [rg [hF 2, hT 6, hE 11 (I x20), hE 15 (I x22), hE 20 (I x24), hE 24 (I x26), hF 26], r0, .canon [0, 1] [12, 13, 14, 36, 37]] (by kernel_rfl) (P2 ((decide ((if x10 < x12 then x12 else x10) < (if x14 < x16 then x16 else x14))) = false) (decide_eq_false h17) <| P2 ((((if x10 < x12 then x12 else x10) : Int) == (if x14 < x16 then x16 else x14)) = true) (beqT h18) <| P1 h19 <| P1 (int_lt_of_at h19 hx20) <| P1 (at_map I hx20) <| P1 h21 <| P1 (int_lt_of_at h21 hx22) <| P1 (at_map I hx22) <| P1 h23 <| P1 (int_lt_of_at h23 hx24) <| P1 (at_map I hx24) <| P1 h25 <| P1 (int_lt_of_at h25 hx26) <| P1 (at_map I hx26) <| P2 ((decide ((IntKind.wrap .i64 (x20 + x22)) < (IntKind.wrap .i64 (x24 + x26)))) = false) (decide_eq_false h27) <| P0) hn))
              (fun h18 H =>
                eN H fun r hn => gO [rg [hF 2, hF 6], r0, .canon [0, 1] [12, 13, 14, 36, 37]] (by kernel_rfl) (P2 ((decide ((if x10 < x12 then x12 else x10) < (if x14 < x16 then x16 else x14))) = false) (decide_eq_false h17) <| P2 ((((if x10 < x12 then x12 else x10) : Int) == (if x14 < x16 then x16 else x14)) = false) (beqF h18) <| P0) hn))))))
    (fun h1 H =>
      gN [rg [hF 0]] (by kernel_rfl) (P2 ((decide (t2 < t1)) = false) (decide_eq_false h1) <| P0) <|
      eIf H (fun h2 H =>
        eN H <| gE func13 [rg [hT 1], r0] (by kernel_rfl) (P2 ((decide (best0 < 0)) = true) (decide_eq_true h2) <| P0))
      (fun h2 H =>
        eN H <| gE func13 [rg [hF 1], r0] (by kernel_rfl) (P2 ((decide (best0 < 0)) = false) (decide_eq_false h2) <| P0)))
theorem wi_MeetingHex : ∀ s r, loop Bi_MeetingHex s = some r → Wc X 13 0 (Ki_MeetingHex s) (Zi_MeetingHex s) (Ri_MeetingHex r) ((fun _ => []) r) := Nx.all ni_MeetingHex
theorem ci_MeetingHex {a0 : Gi_Board} {a1 : Int} {a2 : Int} {a3 : Int} {a4 : Int} {r : Int × Bool} (H : Di_MeetingHex a0 a1 a2 a3 a4 = some r) : Ct X.P X.gl 13 [.agg [sl 5 gi_Terrain a0.Rules.Terrains, sl 6 gi_Kind a0.Rules.Kinds, I a0.Rules.Stack, I a0.Rules.River, I a0.Rules.Road, I a0.Rules.Supply, I a0.Rules.Turns, I a0.Map.Width, I a0.Map.Height, sl 1 I a0.Map.Terrain, sl 1 I a0.Map.Rivers, sl 1 I a0.Map.Roads], I a1, I a2, I a3, I a4] [] (Ri_MeetingHex r) [] :=
  Ct.of func13 (c := bdy f13) (by kernel_rfl) (by kernel_rfl) <|
  eBind H fun r1 hr1 H =>
  gS [r0] (by kernel_rfl) P0 <|
  eIf H (fun h2 H =>
    eBind H fun r3 hr3 H =>
    eBind H fun r4 hr4 H =>
    gO [rg [{ i := 5, call := some { cl := true, auto := true, ins := [], res := (RB r1), G' := [] }, dec := some true }], rg [{ i := 4, call := some { cl := true, ins := [], args := [.agg [sl 5 gi_Terrain a0.Rules.Terrains, sl 6 gi_Kind a0.Rules.Kinds, I a0.Rules.Stack, I a0.Rules.River, I a0.Rules.Road, I a0.Rules.Supply, I a0.Rules.Turns, I a0.Map.Width, I a0.Map.Height, sl 1 I a0.Map.Terrain, sl 1 I a0.Map.Rivers, sl 1 I a0.Map.Roads], I a1, I a2, I a3, .bool false, sl 1 I []], res := Ri_relaxed r3, G' := [] } }, { i := 9, call := some { cl := true, ins := [], args := [.agg [sl 5 gi_Terrain a0.Rules.Terrains, sl 6 gi_Kind a0.Rules.Kinds, I a0.Rules.Stack, I a0.Rules.River, I a0.Rules.Road, I a0.Rules.Supply, I a0.Rules.Turns, I a0.Map.Width, I a0.Map.Height, sl 1 I a0.Map.Terrain, sl 1 I a0.Map.Rivers, sl 1 I a0.Map.Roads], I a1, I a2, I a4, .bool false, sl 1 I []], res := Ri_relaxed r4, G' := [] } }], r0, r0, .canon [1, 2] [12, 13, 14, 36, 37]] (by kernel_rfl) (P1 (ci_isTrip hr1) <| P2 (r1 = true) (h2) <| PL gi_Terrain a0.Rules.Terrains <| PL gi_Kind a0.Rules.Kinds <| PI (a0.Rules.Stack : Int) <| PI (a0.Rules.River : Int) <| PI (a0.Rules.Road : Int) <| PI (a0.Rules.Supply : Int) <| PI (a0.Rules.Turns : Int) <| PI (a0.Map.Width : Int) <| PI (a0.Map.Height : Int) <| PL I a0.Map.Terrain <| PL I a0.Map.Rivers <| PL I a0.Map.Roads <| PI (a1 : Int) <| PI (a2 : Int) <| PI (a3 : Int) <| PI false <| PI (0 : Nat) <| PI ([] : List D) <| P1 (ci_relaxed hr3) <| PL gi_Terrain a0.Rules.Terrains <| PL gi_Kind a0.Rules.Kinds <| PI (a0.Rules.Stack : Int) <| PI (a0.Rules.River : Int) <| PI (a0.Rules.Road : Int) <| PI (a0.Rules.Supply : Int) <| PI (a0.Rules.Turns : Int) <| PI (a0.Map.Width : Int) <| PI (a0.Map.Height : Int) <| PL I a0.Map.Terrain <| PL I a0.Map.Rivers <| PL I a0.Map.Roads <| PI (a1 : Int) <| PI (a2 : Int) <| PI (a4 : Int) <| PI false <| PI (0 : Nat) <| PI ([] : List D) <| P1 (ci_relaxed hr4) <| P0) (wi_MeetingHex _ _ H))
  (fun h2 H =>
    eW Ri_MeetingHex (fun _ => []) H <| gE func13 [rg [{ i := 5, call := some { cl := true, auto := true, ins := [], res := (RB r1), G' := [] }, dec := some false }], r0] (by kernel_rfl) (P1 (ci_isTrip hr1) <| P2 (r1 = false) (eqF h2) <| P0))
/-! loop example/g00886/spec MeetingHex -/
def Rs_MeetingHex (r : Int × Bool) : List D := [I r.1, .bool r.2]
noncomputable def Ks_MeetingHex : Ss_MeetingHex → List Item
  | .h1 .. => nav 300 5 [false] [.code (bdy f14)]
def Zs_MeetingHex : Ss_MeetingHex → St
  | .h1 best0 t1 t2 l3 l4 => ⟨sts 127 [(12, .ref 0 1 none), (13, .ref 1 1 none), (14, I best0), (41, I t1), (42, I t2)], [some ⟨false, false, 1, l3.length, List.map I l3⟩, some ⟨false, false, 1, l4.length, List.map I l4⟩]⟩
abbrev Qs_MeetingHex := Nx X 14 0 Ks_MeetingHex Zs_MeetingHex Rs_MeetingHex (fun _ => [])
theorem ns_MeetingHex : ∀ s o, Bs_MeetingHex s = some o → Qs_MeetingHex (Ks_MeetingHex s) (Zs_MeetingHex s) o
  | .h1 best0 t1 t2 l3 l4, o, H =>
    eIf H (fun h1 H =>
      eCk H fun h2 H =>
      eBind H fun x3 hx3 H =>
      gN [rg [hT 0], r0] (by kernel_rfl) (P2 ((decide (t2 < t1)) = true) (decide_eq_true h1) <| P0) <|
      eIf H (fun h4 H =>
        eN H fun r hn => gO [rg [hE 3 (I x3), hT 4], r0, .canon [0, 1] [12, 13, 14, 41, 42]] (by kernel_rfl) (P1 h2 <| P1 (int_lt_of_at h2 hx3) <| P1 (at_map I hx3) <| P2 ((decide (x3 < 0)) = true) (decide_eq_true h4) <| P0) hn)
      (fun h4 H =>
        eCk H fun h5 H =>
        eBind H fun x6 hx6 H =>
        eIf H (fun h7 H =>
          eN H fun r hn => gO [rg [hE 3 (I x3), hF 4, hE 9 (I x6), hT 10], r0, .canon [0, 1] [12, 13, 14, 41, 42]] (by kernel_rfl) (P1 h2 <| P1 (int_lt_of_at h2 hx3) <| P1 (at_map I hx3) <| P2 ((decide (x3 < 0)) = false) (decide_eq_false h4) <| P1 h5 <| P1 (int_lt_of_at h5 hx6) <| P1 (at_map I hx6) <| P2 ((decide (x6 < 0)) = true) (decide_eq_true h7) <| P0) hn)
        (fun h7 H =>
          gN [rg [hE 3 (I x3), hF 4, hE 9 (I x6), hF 10]] (by kernel_rfl) (P1 h2 <| P1 (int_lt_of_at h2 hx3) <| P1 (at_map I hx3) <| P2 ((decide (x3 < 0)) = false) (decide_eq_false h4) <| P1 h5 <| P1 (int_lt_of_at h5 hx6) <| P1 (at_map I hx6) <| P2 ((decide (x6 < 0)) = false) (decide_eq_false h7) <| P0) <|
          eIf H (fun h8 H =>
            eN H fun r hn => gO [rg [hT 1], r0, r0, .canon [0, 1] [12, 13, 14, 41, 42]] (by kernel_rfl) (P2 ((decide (best0 < 0)) = true) (decide_eq_true h8) <| P0) hn)
          (fun h8 H =>
            eCk H fun h9 H =>
            eBind H fun x10 hx10 H =>
            eCk H fun h11 H =>
            eBind H fun x12 hx12 H =>
            eBind H fun r13 hr13 H =>
            eCk H fun h14 H =>
            eBind H fun x15 hx15 H =>
            eCk H fun h16 H =>
            eBind H fun x17 hx17 H =>
            eBind H fun r18 hr18 H =>
            eIf H (fun h19 H =>
              eN H fun r hn => gO [rg [hF 1, hE 6 (I x10), hE 10 (I x12), hC 11 true [] (RI r13) [], hE 15 (I x15), hE 19 (I x17), hC 20 true [] (RI r18) [], hT 21], r0, r0, .canon [0, 1] [12, 13, 14, 41, 42]] (by kernel_rfl) (P2 ((decide (best0 < 0)) = false) (decide_eq_false h8) <| P1 h9 <| P1 (int_lt_of_at h9 hx10) <| P1 (at_map I hx10) <| P1 h11 <| P1 (int_lt_of_at h11 hx12) <| P1 (at_map I hx12) <| P1 (cs_l1Most hr13) <| P1 h14 <| P1 (int_lt_of_at h14 hx15) <| P1 (at_map I hx15) <| P1 h16 <| P1 (int_lt_of_at h16 hx17) <| P1 (at_map I hx17) <| P1 (cs_l1Most hr18) <| P2 ((decide (r13 < r18)) = true) (decide_eq_true h19) <| P0) hn)
            (fun h19 H =>
              eCk H fun h20 H =>
              eBind H fun x21 hx21 H =>
              eCk H fun h22 H =>
              eBind H fun x23 hx23 H =>
              eBind H fun r24 hr24 H =>
              eCk H fun h25 H =>
              eBind H fun x26 hx26 H =>
              eCk H fun h27 H =>
              eBind H fun x28 hx28 H =>
              eBind H fun r29 hr29 H =>
              eIf H (fun h30 H =>
                eCk H fun h31 H =>
                eBind H fun x32 hx32 H =>
                eCk H fun h33 H =>
                eBind H fun x34 hx34 H =>
                eCk H fun h35 H =>
                eBind H fun x36 hx36 H =>
                eCk H fun h37 H =>
                eBind H fun x38 hx38 H =>
                eIf H (fun h39 H =>
                  eN H fun r hn => gO [rg [hF 1, hE 6 (I x10), hE 10 (I x12), hC 11 true [] (RI r13) [], hE 15 (I x15), hE 19 (I x17), hC 20 true [] (RI r18) [], hF 21, hE 27 (I x21), hE 31 (I x23), hC 32 true [] (RI r24) [], hE 36 (I x26), hE 40 (I x28), hC 41 true [] (RI r29) [], hT 42, hE 47 (I x32), hE 51 (I x34), hE 56 (I x36), hE 60 (I x38), hT 62], r0, r0, .canon [0, 1] [12, 13, 14, 41, 42]] (by kernel_rfl) (P2 ((decide (best0 < 0)) = false) (decide_eq_false h8) <| P1 h9 <| P1 (int_lt_of_at h9 hx10) <| P1 (at_map I hx10) <| P1 h11 <| P1 (int_lt_of_at h11 hx12) <| P1 (at_map I hx12) <| P1 (cs_l1Most hr13) <| P1 h14 <| P1 (int_lt_of_at h14 hx15) <| P1 (at_map I hx15) <| P1 h16 <| P1 (int_lt_of_at h16 hx17) <| P1 (at_map I hx17) <| P1 (cs_l1Most hr18) <| P2 ((decide (r13 < r18)) = false) (decide_eq_false h19) <| P1 h20 <| P1 (int_lt_of_at h20 hx21) <| P1 (at_map I hx21) <| P1 h22 <| P1 (int_lt_of_at h22 hx23) <| P1 (at_map I hx23) <| P1 (cs_l1Most hr24) <| P1 h25 <| P1 (int_lt_of_at h25 hx26) <| P1 (at_map I hx26) <| P1 h27 <| P1 (int_lt_of_at h27 hx28) <| P1 (at_map I hx28) <| P1 (cs_l1Most hr29) <| P2 (((r24 : Int) == r29) = true) (beqT h30) <| P1 h31 <| P1 (int_lt_of_at h31 hx32) <| P1 (at_map I hx32) <| P1 h33 <| P1 (int_lt_of_at h33 hx34) <| P1 (at_map I hx34) <| P1 h35 <| P1 (int_lt_of_at h35 hx36) <| P1 (at_map I hx36) <| P1 h37 <| P1 (int_lt_of_at h37 hx38) <| P1 (at_map I hx38) <| P2 ((decide ((IntKind.wrap .i64 (x32 + x34)) < (IntKind.wrap .i64 (x36 + x38)))) = true) (decide_eq_true h39) <| P0) hn)
                (fun h39 H =>
                  eN H fun r hn => gO [rg [hF 1, hE 6 (I x10), hE 10 (I x12), hC 11 true [] (RI r13) [], hE 15 (I x15), hE 19 (I x17), hC 20 true [] (RI r18) [], hF 21, hE 27 (I x21), hE 31 (I x23), hC 32 true [] (RI r24) [], hE 36 (I x26), hE 40 (I x28), hC 41 true [] (RI r29) [], hT 42, hE 47 (I x32), hE 51 (I x34), hE 56 (I x36), hE 60 (I x38), hF 62], r0, .canon [0, 1] [12, 13, 14, 41, 42]] (by kernel_rfl) (P2 ((decide (best0 < 0)) = false) (decide_eq_false h8) <| P1 h9 <| P1 (int_lt_of_at h9 hx10) <| P1 (at_map I hx10) <| P1 h11 <| P1 (int_lt_of_at h11 hx12) <| P1 (at_map I hx12) <| P1 (cs_l1Most hr13) <| P1 h14 <| P1 (int_lt_of_at h14 hx15) <| P1 (at_map I hx15) <| P1 h16 <| P1 (int_lt_of_at h16 hx17) <| P1 (at_map I hx17) <| P1 (cs_l1Most hr18) <| P2 ((decide (r13 < r18)) = false) (decide_eq_false h19) <| P1 h20 <| P1 (int_lt_of_at h20 hx21) <| P1 (at_map I hx21) <| P1 h22 <| P1 (int_lt_of_at h22 hx23) <| P1 (at_map I hx23) <| P1 (cs_l1Most hr24) <| P1 h25 <| P1 (int_lt_of_at h25 hx26) <| P1 (at_map I hx26) <| P1 h27 <| P1 (int_lt_of_at h27 hx28) <| P1 (at_map I hx28) <| P1 (cs_l1Most hr29) <| P2 (((r24 : Int) == r29) = true) (beqT h30) <| P1 h31 <| P1 (int_lt_of_at h31 hx32) <| P1 (at_map I hx32) <| P1 h33 <| P1 (int_lt_of_at h33 hx34) <| P1 (at_map I hx34) <| P1 h35 <| P1 (int_lt_of_at h35 hx36) <| P1 (at_map I hx36) <| P1 h37 <| P1 (int_lt_of_at h37 hx38) <| P1 (at_map I hx38) <| P2 ((decide ((IntKind.wrap .i64 (x32 + x34)) < (IntKind.wrap .i64 (x36 + x38)))) = false) (decide_eq_false h39) <| P0) hn))
              (fun h30 H =>
                eN H fun r hn => gO [rg [hF 1, hE 6 (I x10), hE 10 (I x12), hC 11 true [] (RI r13) [], hE 15 (I x15), hE 19 (I x17), hC 20 true [] (RI r18) [], hF 21, hE 27 (I x21), hE 31 (I x23), hC 32 true [] (RI r24) [], hE 36 (I x26), hE 40 (I x28), hC 41 true [] (RI r29) [], hF 42], r0, .canon [0, 1] [12, 13, 14, 41, 42]] (by kernel_rfl) (P2 ((decide (best0 < 0)) = false) (decide_eq_false h8) <| P1 h9 <| P1 (int_lt_of_at h9 hx10) <| P1 (at_map I hx10) <| P1 h11 <| P1 (int_lt_of_at h11 hx12) <| P1 (at_map I hx12) <| P1 (cs_l1Most hr13) <| P1 h14 <| P1 (int_lt_of_at h14 hx15) <| P1 (at_map I hx15) <| P1 h16 <| P1 (int_lt_of_at h16 hx17) <| P1 (at_map I hx17) <| P1 (cs_l1Most hr18) <| P2 ((decide (r13 < r18)) = false) (decide_eq_false h19) <| P1 h20 <| P1 (int_lt_of_at h20 hx21) <| P1 (at_map I hx21) <| P1 h22 <| P1 (int_lt_of_at h22 hx23) <| P1 (at_map I hx23) <| P1 (cs_l1Most hr24) <| P1 h25 <| P1 (int_lt_of_at h25 hx26) <| P1 (at_map I hx26) <| P1 h27 <| P1 (int_lt_of_at h27 hx28) <| P1 (at_map I hx28) <| P1 (cs_l1Most hr29) <| P2 (((r24 : Int) == r29) = false) (beqF h30) <| P0) hn))))))
    (fun h1 H =>
      gN [rg [hF 0]] (by kernel_rfl) (P2 ((decide (t2 < t1)) = false) (decide_eq_false h1) <| P0) <|
      eIf H (fun h2 H =>
        eN H <| gE func14 [rg [hT 1], r0] (by kernel_rfl) (P2 ((decide (best0 < 0)) = true) (decide_eq_true h2) <| P0))
      (fun h2 H =>
        eN H <| gE func14 [rg [hF 1], r0] (by kernel_rfl) (P2 ((decide (best0 < 0)) = false) (decide_eq_false h2) <| P0)))
theorem ws_MeetingHex : ∀ s r, loop Bs_MeetingHex s = some r → Wc X 14 0 (Ks_MeetingHex s) (Zs_MeetingHex s) (Rs_MeetingHex r) ((fun _ => []) r) := Nx.all ns_MeetingHex
theorem cs_MeetingHex {a0 : Gi_Board} {a1 : Int} {a2 : Int} {a3 : Int} {a4 : Int} {r : Int × Bool} (H : Ds_MeetingHex a0 a1 a2 a3 a4 = some r) : Ct X.P X.gl 14 [.agg [sl 5 gi_Terrain a0.Rules.Terrains, sl 6 gi_Kind a0.Rules.Kinds, I a0.Rules.Stack, I a0.Rules.River, I a0.Rules.Road, I a0.Rules.Supply, I a0.Rules.Turns, I a0.Map.Width, I a0.Map.Height, sl 1 I a0.Map.Terrain, sl 1 I a0.Map.Rivers, sl 1 I a0.Map.Roads], I a1, I a2, I a3, I a4] [] (Rs_MeetingHex r) [] :=
  Ct.of func14 (c := bdy f14) (by kernel_rfl) (by kernel_rfl) <|
  eBind H fun r1 hr1 H =>
  gS [r0] (by kernel_rfl) P0 <|
  eIf H (fun h2 H =>
    eBind H fun r3 hr3 H =>
    eIf H (fun h4 H =>
      eBind H fun r5 hr5 H =>
      eBind H fun r6 hr6 H =>
      gO [rg [{ i := 4, call := some { cl := true, auto := true, ins := [], res := (RB r1), G' := [] }, dec := some true }, { i := 11, call := some { cl := true, auto := true, ins := [], res := (RB r3), G' := [] }, dec := some true }], rg [{ i := 4, call := some { cl := true, ins := [], args := [.agg [sl 5 gi_Terrain a0.Rules.Terrains, sl 6 gi_Kind a0.Rules.Kinds, I a0.Rules.Stack, I a0.Rules.River, I a0.Rules.Road, I a0.Rules.Supply, I a0.Rules.Turns, I a0.Map.Width, I a0.Map.Height, sl 1 I a0.Map.Terrain, sl 1 I a0.Map.Rivers, sl 1 I a0.Map.Roads], I a1, I a2, I a3, sl 1 I []], res := Rs_pFrom r5, G' := [] } }, { i := 9, call := some { cl := true, ins := [], args := [.agg [sl 5 gi_Terrain a0.Rules.Terrains, sl 6 gi_Kind a0.Rules.Kinds, I a0.Rules.Stack, I a0.Rules.River, I a0.Rules.Road, I a0.Rules.Supply, I a0.Rules.Turns, I a0.Map.Width, I a0.Map.Height, sl 1 I a0.Map.Terrain, sl 1 I a0.Map.Rivers, sl 1 I a0.Map.Roads], I a1, I a2, I a4, sl 1 I []], res := Rs_pFrom r6, G' := [] } }], r0, r0, .canon [1, 2] [12, 13, 14, 41, 42]] (by kernel_rfl) (P1 (cs_pAsked hr1) <| P2 (r1 = true) (h2) <| P1 (cs_pAsked hr3) <| P2 (r3 = true) (h4) <| PL gi_Terrain a0.Rules.Terrains <| PL gi_Kind a0.Rules.Kinds <| PI (a0.Rules.Stack : Int) <| PI (a0.Rules.River : Int) <| PI (a0.Rules.Road : Int) <| PI (a0.Rules.Supply : Int) <| PI (a0.Rules.Turns : Int) <| PI (a0.Map.Width : Int) <| PI (a0.Map.Height : Int) <| PL I a0.Map.Terrain <| PL I a0.Map.Rivers <| PL I a0.Map.Roads <| PI (a1 : Int) <| PI (a2 : Int) <| PI (a3 : Int) <| PI (0 : Nat) <| PI ([] : List D) <| P1 (cs_pFrom hr5) <| PL gi_Terrain a0.Rules.Terrains <| PL gi_Kind a0.Rules.Kinds <| PI (a0.Rules.Stack : Int) <| PI (a0.Rules.River : Int) <| PI (a0.Rules.Road : Int) <| PI (a0.Rules.Supply : Int) <| PI (a0.Rules.Turns : Int) <| PI (a0.Map.Width : Int) <| PI (a0.Map.Height : Int) <| PL I a0.Map.Terrain <| PL I a0.Map.Rivers <| PL I a0.Map.Roads <| PI (a1 : Int) <| PI (a2 : Int) <| PI (a4 : Int) <| PI (0 : Nat) <| PI ([] : List D) <| P1 (cs_pFrom hr6) <| P0) (ws_MeetingHex _ _ H))
    (fun h4 H =>
      eW Rs_MeetingHex (fun _ => []) H <| gE func14 [rg [{ i := 4, call := some { cl := true, auto := true, ins := [], res := (RB r1), G' := [] }, dec := some true }, { i := 11, call := some { cl := true, auto := true, ins := [], res := (RB r3), G' := [] }, dec := some false }], r0] (by kernel_rfl) (P1 (cs_pAsked hr1) <| P2 (r1 = true) (h2) <| P1 (cs_pAsked hr3) <| P2 (r3 = false) (eqF h4) <| P0)))
  (fun h2 H =>
    eW Rs_MeetingHex (fun _ => []) H <| gE func14 [rg [{ i := 4, call := some { cl := true, auto := true, ins := [], res := (RB r1), G' := [] }, dec := some false }], r0] (by kernel_rfl) (P1 (cs_pAsked hr1) <| P2 (r1 = false) (eqF h2) <| P0))
/-! loop example/g00886/impl turnsTo -/
def Ri_turnsTo (r : (List Int)) : List D := [ow 1 I r]
noncomputable def Ki_turnsTo : Si_turnsTo → List Item
  | .h1 .. => nav 300 4 [] [.code (bdy f37)]
  | .h2 .. => nav 300 7 [false] [.code (bdy f37)]
  | .h3 .. => nav 300 10 [false, true] [.code (bdy f37)]
  | .h4 .. => nav 300 13 [false, true, true] [.code (bdy f37)]
def Zi_turnsTo : Si_turnsTo → St
  | .h1 kind0 weather1 i2 moves3 t4 t5 b6 l7 => ⟨sts 110 [(1, I kind0), (2, I weather1), (3, I i2), (4, .ptr 0 12 0 0), (9, I moves3), (10, .ref 1 1 none), (30, I t4), (31, I t5)], [some ⟨false, true, 12, 1, [.agg [sl 5 gi_Terrain b6.Rules.Terrains, sl 6 gi_Kind b6.Rules.Kinds, I b6.Rules.Stack, I b6.Rules.River, I b6.Rules.Road, I b6.Rules.Supply, I b6.Rules.Turns, I b6.Map.Width, I b6.Map.Height, sl 1 I b6.Map.Terrain, sl 1 I b6.Map.Rivers, sl 1 I b6.Map.Roads]]⟩, some ⟨false, false, 1, l7.length, List.map I l7⟩]⟩
  | .h2 kind0 weather1 moves2 changed3 b4 l5 => ⟨sts 110 [(1, I kind0), (2, I weather1), (4, .ptr 0 12 0 0), (9, I moves2), (10, .ref 1 1 none), (12, .bool changed3)], [some ⟨false, true, 12, 1, [.agg [sl 5 gi_Terrain b4.Rules.Terrains, sl 6 gi_Kind b4.Rules.Kinds, I b4.Rules.Stack, I b4.Rules.River, I b4.Rules.Road, I b4.Rules.Supply, I b4.Rules.Turns, I b4.Map.Width, I b4.Map.Height, sl 1 I b4.Map.Terrain, sl 1 I b4.Map.Rivers, sl 1 I b4.Map.Roads]]⟩, some ⟨false, false, 1, l5.length, List.map I l5⟩]⟩
  | .h3 kind0 weather1 moves2 changed3 t4 t5 b6 l7 => ⟨sts 110 [(1, I kind0), (2, I weather1), (4, .ptr 0 12 0 0), (9, I moves2), (10, .ref 1 1 none), (12, .bool changed3), (43, .ref 1 1 none), (44, I t4), (45, I t5)], [some ⟨false, true, 12, 1, [.agg [sl 5 gi_Terrain b6.Rules.Terrains, sl 6 gi_Kind b6.Rules.Kinds, I b6.Rules.Stack, I b6.Rules.River, I b6.Rules.Road, I b6.Rules.Supply, I b6.Rules.Turns, I b6.Map.Width, I b6.Map.Height, sl 1 I b6.Map.Terrain, sl 1 I b6.Map.Rivers, sl 1 I b6.Map.Roads]]⟩, some ⟨false, false, 1, l7.length, List.map I l7⟩]⟩
  | .h4 kind0 weather1 moves2 changed3 k4 vat5 t6 t7 t8 b9 l10 => ⟨sts 110 [(1, I kind0), (2, I weather1), (4, .ptr 0 12 0 0), (9, I moves2), (10, .ref 1 1 none), (12, .bool changed3), (13, I k4), (14, I vat5), (43, .ref 1 1 none), (44, I t6), (45, I t7), (50, I t8)], [some ⟨false, true, 12, 1, [.agg [sl 5 gi_Terrain b9.Rules.Terrains, sl 6 gi_Kind b9.Rules.Kinds, I b9.Rules.Stack, I b9.Rules.River, I b9.Rules.Road, I b9.Rules.Supply, I b9.Rules.Turns, I b9.Map.Width, I b9.Map.Height, sl 1 I b9.Map.Terrain, sl 1 I b9.Map.Rivers, sl 1 I b9.Map.Roads]]⟩, some ⟨false, false, 1, l10.length, List.map I l10⟩]⟩
abbrev Qi_turnsTo := Nx X 37 0 Ki_turnsTo Zi_turnsTo Ri_turnsTo (fun _ => [])
theorem ni_turnsTo : ∀ s o, Bi_turnsTo s = some o → Qi_turnsTo (Ki_turnsTo s) (Zi_turnsTo s) o
  | .h1 kind0 weather1 i2 moves3 t4 t5 b6 l7, o, H =>
    eIf H (fun h1 H =>
      eCk H fun h2 H =>
      eBind H fun x3 hx3 H =>
      eN H fun r hn => gO [rg [hT 0], r0, rg [hA 3 ((List.set l7 (Int.toNat t5) (-1)).length) (List.map I (List.set l7 (Int.toNat t5) (-1)))], r0, .canon [0, 1] [1, 2, 3, 4, 9, 10, 30, 31]] (by kernel_rfl) (P2 ((decide (t5 < t4)) = true) (decide_eq_true h1) <| P1 h2 <| P1 (int_lt_of_at h2 hx3) <| P1 (lt_of_at hx3) <| P2 (setCells (List.map I l7) (Int.toNat t5) 0 [I (-1)] = List.map I (List.set l7 (Int.toNat t5) (-1))) (setCells_map hx3 rfl) <| P1 (setLen l7 (Int.toNat t5) (-1)) <| P0) hn)
    (fun h1 H =>
      eCk H fun h2 H =>
      eBind H fun x3 hx3 H =>
      eN H fun r hn => gO [rg [hF 0], rg [hA 4 ((List.set l7 (Int.toNat i2) moves3).length) (List.map I (List.set l7 (Int.toNat i2) moves3))], r0, .canon [0, 1] [1, 2, 4, 9, 10, 12]] (by kernel_rfl) (P2 ((decide (t5 < t4)) = false) (decide_eq_false h1) <| P1 h2 <| P1 (int_lt_of_at h2 hx3) <| P1 (lt_of_at hx3) <| P2 (setCells (List.map I l7) (Int.toNat i2) 0 [I moves3] = List.map I (List.set l7 (Int.toNat i2) moves3)) (setCells_map hx3 rfl) <| P1 (setLen l7 (Int.toNat i2) moves3) <| P0) hn)
  | .h2 kind0 weather1 moves2 true b4 l5, o, H =>
    eN H fun r hn => gO [r0, r0, r0, .canon [0, 1] [1, 2, 4, 9, 10, 12, 43, 44, 45]] (by kernel_rfl) P0 hn
  | .h2 kind0 weather1 moves2 false b4 l5, o, H =>
    eN H <| gE func37 [r0, r0] (by kernel_rfl) P0
  | .h3 kind0 weather1 moves2 changed3 t4 t5 b6 l7, o, H =>
    eIf H (fun h1 H =>
      eCk H fun h2 H =>
      eBind H fun x3 hx3 H =>
      eN H fun r hn => gO [rg [hT 0], rg [hE 2 (I x3)], r0, .canon [0, 1] [1, 2, 4, 9, 10, 12, 13, 14, 43, 44, 45, 50]] (by kernel_rfl) (P2 ((decide (t5 < t4)) = true) (decide_eq_true h1) <| P1 h2 <| P1 (int_lt_of_at h2 hx3) <| P1 (at_map I hx3) <| P0) hn)
    (fun h1 H =>
      eN H fun r hn => gO [rg [hF 0], .canon [0, 1] [1, 2, 4, 9, 10, 12]] (by kernel_rfl) (P2 ((decide (t5 < t4)) = false) (decide_eq_false h1) <| P0) hn)
  | .h4 kind0 weather1 moves2 changed3 k4 vat5 t6 t7 t8 b9 l10, o, H =>
    eIf H (fun h1 H =>
      eBind H fun r2 hr2 H =>
      gN [rg [hT 0], r0, rg [hC 5 true [] (RI r2) []]] (by kernel_rfl) (P2 ((decide (t8 < 6)) = true) (decide_eq_true h1) <| P1 (ci_stepCost hr2) <| P0) <|
      eIf H (fun h3 H =>
        eN H fun r hn => gO [rg [hT 1], r0, .canon [0, 1] [1, 2, 4, 9, 10, 12, 13, 14, 43, 44, 45, 50]] (by kernel_rfl) (P2 ((decide (vat5 < 0)) = true) (decide_eq_true h3) <| P0) hn)
      (fun h3 H =>
        eIf H (fun h4 H =>
          eN H fun r hn => gO [rg [hF 1, hT 4], r0, .canon [0, 1] [1, 2, 4, 9, 10, 12, 13, 14, 43, 44, 45, 50]] (by kernel_rfl) (P2 ((decide (vat5 < 0)) = false) (decide_eq_false h3) <| P2 (((r2 : Int) == 0) = true) (beqT h4) <| P0) hn)
        (fun h4 H =>
          eIf H (fun h5 H =>
            eN H fun r hn => gO [rg [hF 1, hF 4, hT 9], r0, .canon [0, 1] [1, 2, 4, 9, 10, 12, 13, 14, 43, 44, 45, 50]] (by kernel_rfl) (P2 ((decide (vat5 < 0)) = false) (decide_eq_false h3) <| P2 (((r2 : Int) == 0) = false) (beqF h4) <| P2 ((decide (r2 > moves2)) = true) (decide_eq_true h5) <| P0) hn)
          (fun h5 H =>
            gN [rg [hF 1, hF 4, hF 9], r0] (by kernel_rfl) (P2 ((decide (vat5 < 0)) = false) (decide_eq_false h3) <| P2 (((r2 : Int) == 0) = false) (beqF h4) <| P2 ((decide (r2 > moves2)) = false) (decide_eq_false h5) <| P0) <|
            eIf H (fun h6 H =>
              eBind H fun r7 hr7 H =>
              eCk H fun h8 H =>
              eBind H fun x9 hx9 H =>
              gN [rg [hT 5], r0, rg [hC 4 true [] (RI r7) []]] (by kernel_rfl) (P2 (¬ (100 : Int) = 0) (by decide) <| P2 ((decide ((IntKind.wrap .i64 ((Int.tmod vat5 100) + r2)) > moves2)) = true) (decide_eq_true h6) <| P2 (¬ (100 : Int) = 0) (by decide) <| P1 (ci_nextTo hr7) <| P0) <|
              eIf H (fun h10 H =>
                eCk H fun h11 H =>
                eBind H fun x12 hx12 H =>
                eN H fun r hn => gO [rg [hE 3 (I x9), hT 4], rg [hA 4 ((List.set l10 (Int.toNat r7) (IntKind.wrap .i64 ((IntKind.wrap .i64 ((IntKind.wrap .i64 ((IntKind.wrap .i64 (Int.tdiv vat5 100)) + 1)) * 100)) + r2))).length) (List.map I (List.set l10 (Int.toNat r7) (IntKind.wrap .i64 ((IntKind.wrap .i64 ((IntKind.wrap .i64 ((IntKind.wrap .i64 (Int.tdiv vat5 100)) + 1)) * 100)) + r2))))], r0, r0, .canon [0, 1] [1, 2, 4, 9, 10, 12, 13, 14, 43, 44, 45, 50]] (by kernel_rfl) (P1 h8 <| P1 (int_lt_of_at h8 hx9) <| P1 (at_map I hx9) <| P2 ((decide (x9 < 0)) = true) (decide_eq_true h10) <| P1 h11 <| P1 (int_lt_of_at h11 hx12) <| P1 (lt_of_at hx12) <| P2 (setCells (List.map I l10) (Int.toNat r7) 0 [I (IntKind.wrap .i64 ((IntKind.wrap .i64 ((IntKind.wrap .i64 ((IntKind.wrap .i64 (Int.tdiv vat5 100)) + 1)) * 100)) + r2))] = List.map I (List.set l10 (Int.toNat r7) (IntKind.wrap .i64 ((IntKind.wrap .i64 ((IntKind.wrap .i64 ((IntKind.wrap .i64 (Int.tdiv vat5 100)) + 1)) * 100)) + r2)))) (setCells_map hx12 rfl) <| P1 (setLen l10 (Int.toNat r7) (IntKind.wrap .i64 ((IntKind.wrap .i64 ((IntKind.wrap .i64 ((IntKind.wrap .i64 (Int.tdiv vat5 100)) + 1)) * 100)) + r2))) <| P0) hn)
              (fun h10 H =>
                eCk H fun h11 H =>
                eBind H fun x12 hx12 H =>
                eIf H (fun h13 H =>
                  eCk H fun h14 H =>
                  eBind H fun x15 hx15 H =>
                  eN H fun r hn => gO [rg [hE 3 (I x9), hF 4, hE 10 (I x12), hT 11], rg [hA 4 ((List.set l10 (Int.toNat r7) (IntKind.wrap .i64 ((IntKind.wrap .i64 ((IntKind.wrap .i64 ((IntKind.wrap .i64 (Int.tdiv vat5 100)) + 1)) * 100)) + r2))).length) (List.map I (List.set l10 (Int.toNat r7) (IntKind.wrap .i64 ((IntKind.wrap .i64 ((IntKind.wrap .i64 ((IntKind.wrap .i64 (Int.tdiv vat5 100)) + 1)) * 100)) + r2))))], r0, r0, .canon [0, 1] [1, 2, 4, 9, 10, 12, 13, 14, 43, 44, 45, 50]] (by kernel_rfl) (P1 h8 <| P1 (int_lt_of_at h8 hx9) <| P1 (at_map I hx9) <| P2 ((decide (x9 < 0)) = false) (decide_eq_false h10) <| P1 h11 <| P1 (int_lt_of_at h11 hx12) <| P1 (at_map I hx12) <| P2 ((decide ((IntKind.wrap .i64 ((IntKind.wrap .i64 ((IntKind.wrap .i64 ((IntKind.wrap .i64 (Int.tdiv vat5 100)) + 1)) * 100)) + r2)) < x12)) = true) (decide_eq_true h13) <| P1 h14 <| P1 (int_lt_of_at h14 hx15) <| P1 (lt_of_at hx15) <| P2 (setCells (List.map I l10) (Int.toNat r7) 0 [I (IntKind.wrap .i64 ((IntKind.wrap .i64 ((IntKind.wrap .i64 ((IntKind.wrap .i64 (Int.tdiv vat5 100)) + 1)) * 100)) + r2))] = List.map I (List.set l10 (Int.toNat r7) (IntKind.wrap .i64 ((IntKind.wrap .i64 ((IntKind.wrap .i64 ((IntKind.wrap .i64 (Int.tdiv vat5 100)) + 1)) * 100)) + r2)))) (setCells_map hx15 rfl) <| P1 (setLen l10 (Int.toNat r7) (IntKind.wrap .i64 ((IntKind.wrap .i64 ((IntKind.wrap .i64 ((IntKind.wrap .i64 (Int.tdiv vat5 100)) + 1)) * 100)) + r2))) <| P0) hn)
                (fun h13 H =>
                  eN H fun r hn => gO [rg [hE 3 (I x9), hF 4, hE 10 (I x12), hF 11], r0, .canon [0, 1] [1, 2, 4, 9, 10, 12, 13, 14, 43, 44, 45, 50]] (by kernel_rfl) (P1 h8 <| P1 (int_lt_of_at h8 hx9) <| P1 (at_map I hx9) <| P2 ((decide (x9 < 0)) = false) (decide_eq_false h10) <| P1 h11 <| P1 (int_lt_of_at h11 hx12) <| P1 (at_map I hx12) <| P2 ((decide ((IntKind.wrap .i64 ((IntKind.wrap .i64 ((IntKind.wrap .i64 ((IntKind.wrap .i64 (Int.tdiv vat5 100)) + 1)) * 100)) + r2)) < x12)) = false) (decide_eq_false h13) <| P0) hn)))
            (fun h6 H =>
              eBind H fun r7 hr7 H =>
              eCk H fun h8 H =>
              eBind H fun x9 hx9 H =>
              gN [rg [hF 5], rg [hC 4 true [] (RI r7) []]] (by kernel_rfl) (P2 (¬ (100 : Int) = 0) (by decide) <| P2 ((decide ((IntKind.wrap .i64 ((Int.tmod vat5 100) + r2)) > moves2)) = false) (decide_eq_false h6) <| P1 (ci_nextTo hr7) <| P0) <|
              eIf H (fun h10 H =>
                eCk H fun h11 H =>
                eBind H fun x12 hx12 H =>
                eN H fun r hn => gO [rg [hE 3 (I x9), hT 4], rg [hA 4 ((List.set l10 (Int.toNat r7) (IntKind.wrap .i64 (vat5 + r2))).length) (List.map I (List.set l10 (Int.toNat r7) (IntKind.wrap .i64 (vat5 + r2))))], r0, r0, .canon [0, 1] [1, 2, 4, 9, 10, 12, 13, 14, 43, 44, 45, 50]] (by kernel_rfl) (P1 h8 <| P1 (int_lt_of_at h8 hx9) <| P1 (at_map I hx9) <| P2 ((decide (x9 < 0)) = true) (decide_eq_true h10) <| P1 h11 <| P1 (int_lt_of_at h11 hx12) <| P1 (lt_of_at hx12) <| P2 (setCells (List.map I l10) (Int.toNat r7) 0 [I (IntKind.wrap .i64 (vat5 + r2))] = List.map I (List.set l10 (Int.toNat r7) (IntKind.wrap .i64 (vat5 + r2)))) (setCells_map hx12 rfl) <| P1 (setLen l10 (Int.toNat r7) (IntKind.wrap .i64 (vat5 + r2))) <| P0) hn)
              (fun h10 H =>
                eCk H fun h11 H =>
                eBind H fun x12 hx12 H =>
                eIf H (fun h13 H =>
                  eCk H fun h14 H =>
                  eBind H fun x15 hx15 H =>
                  eN H fun r hn => gO [rg [hE 3 (I x9), hF 4, hE 10 (I x12), hT 11], rg [hA 4 ((List.set l10 (Int.toNat r7) (IntKind.wrap .i64 (vat5 + r2))).length) (List.map I (List.set l10 (Int.toNat r7) (IntKind.wrap .i64 (vat5 + r2))))], r0, r0, .canon [0, 1] [1, 2, 4, 9, 10, 12, 13, 14, 43, 44, 45, 50]] (by kernel_rfl) (P1 h8 <| P1 (int_lt_of_at h8 hx9) <| P1 (at_map I hx9) <| P2 ((decide (x9 < 0)) = false) (decide_eq_false h10) <| P1 h11 <| P1 (int_lt_of_at h11 hx12) <| P1 (at_map I hx12) <| P2 ((decide ((IntKind.wrap .i64 (vat5 + r2)) < x12)) = true) (decide_eq_true h13) <| P1 h14 <| P1 (int_lt_of_at h14 hx15) <| P1 (lt_of_at hx15) <| P2 (setCells (List.map I l10) (Int.toNat r7) 0 [I (IntKind.wrap .i64 (vat5 + r2))] = List.map I (List.set l10 (Int.toNat r7) (IntKind.wrap .i64 (vat5 + r2)))) (setCells_map hx15 rfl) <| P1 (setLen l10 (Int.toNat r7) (IntKind.wrap .i64 (vat5 + r2))) <| P0) hn)
                (fun h13 H =>
                  eN H fun r hn => gO [rg [hE 3 (I x9), hF 4, hE 10 (I x12), hF 11], r0, .canon [0, 1] [1, 2, 4, 9, 10, 12, 13, 14, 43, 44, 45, 50]] (by kernel_rfl) (P1 h8 <| P1 (int_lt_of_at h8 hx9) <| P1 (at_map I hx9) <| P2 ((decide (x9 < 0)) = false) (decide_eq_false h10) <| P1 h11 <| P1 (int_lt_of_at h11 hx12) <| P1 (at_map I hx12) <| P2 ((decide ((IntKind.wrap .i64 (vat5 + r2)) < x12)) = false) (decide_eq_false h13) <| P0) hn)))))))
    (fun h1 H =>
      eN H fun r hn => gO [rg [hF 0], r0, .canon [0, 1] [1, 2, 4, 9, 10, 12, 43, 44, 45]] (by kernel_rfl) (P2 ((decide (t8 < 6)) = false) (decide_eq_false h1) <| P0) hn)
theorem wi_turnsTo : ∀ s r, loop Bi_turnsTo s = some r → Wc X 37 0 (Ki_turnsTo s) (Zi_turnsTo s) (Ri_turnsTo r) ((fun _ => []) r) := Nx.all ni_turnsTo
theorem ci_turnsTo {a0 : Gi_Board} {a1 : Int} {a2 : Int} {a3 : Int} {r : (List Int)} (H : Di_turnsTo a0 a1 a2 a3 = some r) : Ct X.P X.gl 37 [.agg [sl 5 gi_Terrain a0.Rules.Terrains, sl 6 gi_Kind a0.Rules.Kinds, I a0.Rules.Stack, I a0.Rules.River, I a0.Rules.Road, I a0.Rules.Supply, I a0.Rules.Turns, I a0.Map.Width, I a0.Map.Height, sl 1 I a0.Map.Terrain, sl 1 I a0.Map.Rivers, sl 1 I a0.Map.Roads], I a1, I a2, I a3] [] (Ri_turnsTo r) [] :=
  Ct.of func37 (c := bdy f37) (by kernel_rfl) (by kernel_rfl) <|
  eCk H fun h1 H =>
  eBind H fun x2 hx2 H =>
  eBind H fun r3 hr3 H =>
  eCk H fun h4 H =>
  eCk H fun h5 H =>
  gO [r0, rg [hE 6 (gi_Kind x2)], rg [hC 1 true [] (RI r3) [], hA 2 ((List.replicate (Int.toNat r3) (0 : Int)).length) (List.map I (List.replicate (Int.toNat r3) (0 : Int)))], r0, .canon [0, 1] [1, 2, 3, 4, 9, 10, 30, 31]] (by kernel_rfl) (P1 h1 <| P1 (int_lt_of_at h1 hx2) <| P1 (at_map gi_Kind hx2) <| P1 (ci_sizeOf hr3) <| PI (r3 : Int) <| P2 ((0 : Int) ≤ r3) h4 <| P2 (Int.toNat r3 * 8 ≤ 140737488355328) h5 <| P1 (repLen (Int.toNat r3) (0 : Int)) <| P1 (repMap I (Int.toNat r3) (0 : Int)) <| P0) (wi_turnsTo _ _ H)
/-! loop example/g00886/impl TurnsNeeded -/
def Ri_TurnsNeeded (r : Int × Bool) : List D := [I r.1, .bool r.2]
theorem ci_TurnsNeeded {a0 : Gi_Board} {a1 : Int} {a2 : Int} {a3 : Int} {a4 : Int} {r : Int × Bool} (H : Di_TurnsNeeded a0 a1 a2 a3 a4 = some r) : Ct X.P X.gl 15 [.agg [sl 5 gi_Terrain a0.Rules.Terrains, sl 6 gi_Kind a0.Rules.Kinds, I a0.Rules.Stack, I a0.Rules.River, I a0.Rules.Road, I a0.Rules.Supply, I a0.Rules.Turns, I a0.Map.Width, I a0.Map.Height, sl 1 I a0.Map.Terrain, sl 1 I a0.Map.Rivers, sl 1 I a0.Map.Roads], I a1, I a2, I a3, I a4] [] (Ri_TurnsNeeded r) [] :=
  Ct.of func15 (c := bdy f15) (by kernel_rfl) (by kernel_rfl) <|
  eBind H fun r1 hr1 H =>
  gS [r0] (by kernel_rfl) P0 <|
  eIf H (fun h2 H =>
    eBind H fun r3 hr3 H =>
    eCk H fun h4 H =>
    eBind H fun x5 hx5 H =>
    gS [rg [{ i := 5, call := some { cl := true, auto := true, ins := [], res := (RB r1), G' := [] }, dec := some true }], rg [hC 4 true [] (Ri_turnsTo r3) [], hE 7 (I x5)]] (by kernel_rfl) (P1 (ci_isTrip hr1) <| P2 (r1 = true) (h2) <| P1 (ci_turnsTo hr3) <| P1 h4 <| P1 (int_lt_of_at h4 hx5) <| P1 (at_map I hx5) <| P0) <|
    eIf H (fun h6 H =>
      eW Ri_TurnsNeeded (fun _ => []) H <| gE func15 [rg [hT 1], r0] (by kernel_rfl) (P2 ((decide (x5 < 0)) = true) (decide_eq_true h6) <| P0))
    (fun h6 H =>
      eW Ri_TurnsNeeded (fun _ => []) H <| gE func15 [rg [hF 1], r0] (by kernel_rfl) (P2 ((decide (x5 < 0)) = false) (decide_eq_false h6) <| P2 (¬ (100 : Int) = 0) (by decide) <| P0)))
  (fun h2 H =>
    eW Ri_TurnsNeeded (fun _ => []) H <| gE func15 [rg [{ i := 5, call := some { cl := true, auto := true, ins := [], res := (RB r1), G' := [] }, dec := some false }], r0] (by kernel_rfl) (P1 (ci_isTrip hr1) <| P2 (r1 = false) (eqF h2) <| P0))
/-! loop example/g00886/spec pTurns -/
def Rs_pTurns (r : (List Int)) : List D := [ow 1 I r]
noncomputable def Ks_pTurns : Ss_pTurns → List Item
  | .h1 .. => nav 300 4 [] [.code (bdy f38)]
  | .h2 .. => nav 300 7 [false] [.code (bdy f38)]
  | .h3 .. => nav 300 10 [false, true] [.code (bdy f38)]
  | .h4 .. => nav 300 13 [false, true, true] [.code (bdy f38)]
def Zs_pTurns : Ss_pTurns → St
  | .h1 kind0 weather1 i2 moves3 t4 t5 b6 l7 => ⟨sts 116 [(1, I kind0), (2, I weather1), (3, I i2), (4, .ptr 0 12 0 0), (9, I moves3), (10, .ref 1 1 none), (31, I t4), (32, I t5)], [some ⟨false, true, 12, 1, [.agg [sl 5 gi_Terrain b6.Rules.Terrains, sl 6 gi_Kind b6.Rules.Kinds, I b6.Rules.Stack, I b6.Rules.River, I b6.Rules.Road, I b6.Rules.Supply, I b6.Rules.Turns, I b6.Map.Width, I b6.Map.Height, sl 1 I b6.Map.Terrain, sl 1 I b6.Map.Rivers, sl 1 I b6.Map.Roads]]⟩, some ⟨false, false, 1, l7.length, List.map I l7⟩]⟩
  | .h2 kind0 weather1 moves2 more3 b4 l5 => ⟨sts 116 [(1, I kind0), (2, I weather1), (4, .ptr 0 12 0 0), (9, I moves2), (10, .ref 1 1 none), (12, .bool more3)], [some ⟨false, true, 12, 1, [.agg [sl 5 gi_Terrain b4.Rules.Terrains, sl 6 gi_Kind b4.Rules.Kinds, I b4.Rules.Stack, I b4.Rules.River, I b4.Rules.Road, I b4.Rules.Supply, I b4.Rules.Turns, I b4.Map.Width, I b4.Map.Height, sl 1 I b4.Map.Terrain, sl 1 I b4.Map.Rivers, sl 1 I b4.Map.Roads]]⟩, some ⟨false, false, 1, l5.length, List.map I l5⟩]⟩
  | .h3 kind0 weather1 moves2 more3 t4 t5 b6 l7 => ⟨sts 116 [(1, I kind0), (2, I weather1), (4, .ptr 0 12 0 0), (9, I moves2), (10, .ref 1 1 none), (12, .bool more3), (44, I t4), (45, I t5)], [some ⟨false, true, 12, 1, [.agg [sl 5 gi_Terrain b6.Rules.Terrains, sl 6 gi_Kind b6.Rules.Kinds, I b6.Rules.Stack, I b6.Rules.River, I b6.Rules.Road, I b6.Rules.Supply, I b6.Rules.Turns, I b6.Map.Width, I b6.Map.Height, sl 1 I b6.Map.Terrain, sl 1 I b6.Map.Rivers, sl 1 I b6.Map.Roads]]⟩, some ⟨false, false, 1, l7.length, List.map I l7⟩]⟩
  | .h4 kind0 weather1 moves2 more3 vx4 d5 t6 t7 b8 l9 => ⟨sts 116 [(1, I kind0), (2, I weather1), (4, .ptr 0 12 0 0), (9, I moves2), (10, .ref 1 1 none), (12, .bool more3), (13, I vx4), (14, I d5), (44, I t6), (45, I t7)], [some ⟨false, true, 12, 1, [.agg [sl 5 gi_Terrain b8.Rules.Terrains, sl 6 gi_Kind b8.Rules.Kinds, I b8.Rules.Stack, I b8.Rules.River, I b8.Rules.Road, I b8.Rules.Supply, I b8.Rules.Turns, I b8.Map.Width, I b8.Map.Height, sl 1 I b8.Map.Terrain, sl 1 I b8.Map.Rivers, sl 1 I b8.Map.Roads]]⟩, some ⟨false, false, 1, l9.length, List.map I l9⟩]⟩
abbrev Qs_pTurns := Nx X 38 0 Ks_pTurns Zs_pTurns Rs_pTurns (fun _ => [])
theorem ns_pTurns : ∀ s o, Bs_pTurns s = some o → Qs_pTurns (Ks_pTurns s) (Zs_pTurns s) o
  | .h1 kind0 weather1 i2 moves3 t4 t5 b6 l7, o, H =>
    eIf H (fun h1 H =>
      eCk H fun h2 H =>
      eBind H fun x3 hx3 H =>
      eN H fun r hn => gO [rg [hT 0], r0, rg [hA 3 ((List.set l7 (Int.toNat t5) (-1)).length) (List.map I (List.set l7 (Int.toNat t5) (-1)))], r0, .canon [0, 1] [1, 2, 3, 4, 9, 10, 31, 32]] (by kernel_rfl) (P2 ((decide (t5 < t4)) = true) (decide_eq_true h1) <| P1 h2 <| P1 (int_lt_of_at h2 hx3) <| P1 (lt_of_at hx3) <| P2 (setCells (List.map I l7) (Int.toNat t5) 0 [I (-1)] = List.map I (List.set l7 (Int.toNat t5) (-1))) (setCells_map hx3 rfl) <| P1 (setLen l7 (Int.toNat t5) (-1)) <| P0) hn)
    (fun h1 H =>
      eCk H fun h2 H =>
      eBind H fun x3 hx3 H =>
      eN H fun r hn => gO [rg [hF 0], rg [hA 3 ((List.set l7 (Int.toNat i2) 0).length) (List.map I (List.set l7 (Int.toNat i2) 0))], r0, .canon [0, 1] [1, 2, 4, 9, 10, 12]] (by kernel_rfl) (P2 ((decide (t5 < t4)) = false) (decide_eq_false h1) <| P1 h2 <| P1 (int_lt_of_at h2 hx3) <| P1 (lt_of_at hx3) <| P2 (setCells (List.map I l7) (Int.toNat i2) 0 [I 0] = List.map I (List.set l7 (Int.toNat i2) 0)) (setCells_map hx3 rfl) <| P1 (setLen l7 (Int.toNat i2) 0) <| P0) hn)
  | .h2 kind0 weather1 moves2 true b4 l5, o, H =>
    eN H fun r hn => gO [r0, r0, r0, .canon [0, 1] [1, 2, 4, 9, 10, 12, 44, 45]] (by kernel_rfl) P0 hn
  | .h2 kind0 weather1 moves2 false b4 l5, o, H =>
    eN H <| gE func38 [r0, r0] (by kernel_rfl) P0
  | .h3 kind0 weather1 moves2 more3 t4 t5 b6 l7, o, H =>
    eIf H (fun h1 H =>
      eN H fun r hn => gO [rg [hT 0], r0, r0, .canon [0, 1] [1, 2, 4, 9, 10, 12, 13, 14, 44, 45]] (by kernel_rfl) (P2 ((decide (t5 < t4)) = true) (decide_eq_true h1) <| P0) hn)
    (fun h1 H =>
      eN H fun r hn => gO [rg [hF 0], .canon [0, 1] [1, 2, 4, 9, 10, 12]] (by kernel_rfl) (P2 ((decide (t5 < t4)) = false) (decide_eq_false h1) <| P0) hn)
  | .h4 kind0 weather1 moves2 more3 vx4 d5 t6 t7 b8 l9, o, H =>
    eCk H fun h1 H =>
    eBind H fun x2 hx2 H =>
    eIf H (fun h3 H =>
      eIf H (fun h4 H =>
        eBind H fun r5 hr5 H =>
        gN [rg [hE 3 (I x2), hT 4, hT 7], rg [hC 5 true [] (RI r5) []]] (by kernel_rfl) (P1 h1 <| P1 (int_lt_of_at h1 hx2) <| P1 (at_map I hx2) <| P2 ((decide (x2 ≥ 0)) = true) (decide_eq_true h3) <| P2 ((decide (d5 < 6)) = true) (decide_eq_true h4) <| P1 (cs_cStep hr5) <| P0) <|
        eIf H (fun h6 H =>
          eN H fun r hn => gO [rg [hT 1], r0, .canon [0, 1] [1, 2, 4, 9, 10, 12, 13, 14, 44, 45]] (by kernel_rfl) (P2 (((r5 : Int) == 0) = true) (beqT h6) <| P0) hn)
        (fun h6 H =>
          eIf H (fun h7 H =>
            eN H fun r hn => gO [rg [hF 1, hT 5], r0, .canon [0, 1] [1, 2, 4, 9, 10, 12, 13, 14, 44, 45]] (by kernel_rfl) (P2 (((r5 : Int) == 0) = false) (beqF h6) <| P2 ((decide (r5 > moves2)) = true) (decide_eq_true h7) <| P0) hn)
          (fun h7 H =>
            eCk H fun h8 H =>
            eBind H fun x9 hx9 H =>
            gN [rg [hF 1, hF 5], rg [hE 3 (I x9)], r0] (by kernel_rfl) (P2 (((r5 : Int) == 0) = false) (beqF h6) <| P2 ((decide (r5 > moves2)) = false) (decide_eq_false h7) <| P1 h8 <| P1 (int_lt_of_at h8 hx9) <| P1 (at_map I hx9) <| P0) <|
            eIf H (fun h10 H =>
              eBind H fun r11 hr11 H =>
              eCk H fun h12 H =>
              eBind H fun x13 hx13 H =>
              gN [rg [hT 5], r0, rg [hC 4 true [] (RI r11) []]] (by kernel_rfl) (P2 (¬ (1000 : Int) = 0) (by decide) <| P2 ((decide ((IntKind.wrap .i64 ((Int.tmod x9 1000) + r5)) > moves2)) = true) (decide_eq_true h10) <| P2 (¬ (1000 : Int) = 0) (by decide) <| P1 (cs_mNext hr11) <| P0) <|
              eIf H (fun h14 H =>
                eCk H fun h15 H =>
                eBind H fun x16 hx16 H =>
                eN H fun r hn => gO [rg [hE 3 (I x13), hT 4], rg [hA 4 ((List.set l9 (Int.toNat r11) (IntKind.wrap .i64 ((IntKind.wrap .i64 ((IntKind.wrap .i64 (x9 - (Int.tmod x9 1000))) + 1000)) + r5))).length) (List.map I (List.set l9 (Int.toNat r11) (IntKind.wrap .i64 ((IntKind.wrap .i64 ((IntKind.wrap .i64 (x9 - (Int.tmod x9 1000))) + 1000)) + r5))))], r0, r0, .canon [0, 1] [1, 2, 4, 9, 10, 12, 13, 14, 44, 45]] (by kernel_rfl) (P1 h12 <| P1 (int_lt_of_at h12 hx13) <| P1 (at_map I hx13) <| P2 ((decide (x13 < 0)) = true) (decide_eq_true h14) <| P1 h15 <| P1 (int_lt_of_at h15 hx16) <| P1 (lt_of_at hx16) <| P2 (setCells (List.map I l9) (Int.toNat r11) 0 [I (IntKind.wrap .i64 ((IntKind.wrap .i64 ((IntKind.wrap .i64 (x9 - (Int.tmod x9 1000))) + 1000)) + r5))] = List.map I (List.set l9 (Int.toNat r11) (IntKind.wrap .i64 ((IntKind.wrap .i64 ((IntKind.wrap .i64 (x9 - (Int.tmod x9 1000))) + 1000)) + r5)))) (setCells_map hx16 rfl) <| P1 (setLen l9 (Int.toNat r11) (IntKind.wrap .i64 ((IntKind.wrap .i64 ((IntKind.wrap .i64 (x9 - (Int.tmod x9 1000))) + 1000)) + r5))) <| P0) hn)
              (fun h14 H =>
                eCk H fun h15 H =>
                eBind H fun x16 hx16 H =>
                eIf H (fun h17 H =>
                  eCk H fun h18 H =>
                  eBind H fun x19 hx19 H =>
                  eN H fun r hn => gO [rg [hE 3 (I x13), hF 4, hE 10 (I x16), hT 11], rg [hA 4 ((List.set l9 (Int.toNat r11) (IntKind.wrap .i64 ((IntKind.wrap .i64 ((IntKind.wrap .i64 (x9 - (Int.tmod x9 1000))) + 1000)) + r5))).length) (List.map I (List.set l9 (Int.toNat r11) (IntKind.wrap .i64 ((IntKind.wrap .i64 ((IntKind.wrap .i64 (x9 - (Int.tmod x9 1000))) + 1000)) + r5))))], r0, r0, .canon [0, 1] [1, 2, 4, 9, 10, 12, 13, 14, 44, 45]] (by kernel_rfl) (P1 h12 <| P1 (int_lt_of_at h12 hx13) <| P1 (at_map I hx13) <| P2 ((decide (x13 < 0)) = false) (decide_eq_false h14) <| P1 h15 <| P1 (int_lt_of_at h15 hx16) <| P1 (at_map I hx16) <| P2 ((decide ((IntKind.wrap .i64 ((IntKind.wrap .i64 ((IntKind.wrap .i64 (x9 - (Int.tmod x9 1000))) + 1000)) + r5)) < x16)) = true) (decide_eq_true h17) <| P1 h18 <| P1 (int_lt_of_at h18 hx19) <| P1 (lt_of_at hx19) <| P2 (setCells (List.map I l9) (Int.toNat r11) 0 [I (IntKind.wrap .i64 ((IntKind.wrap .i64 ((IntKind.wrap .i64 (x9 - (Int.tmod x9 1000))) + 1000)) + r5))] = List.map I (List.set l9 (Int.toNat r11) (IntKind.wrap .i64 ((IntKind.wrap .i64 ((IntKind.wrap .i64 (x9 - (Int.tmod x9 1000))) + 1000)) + r5)))) (setCells_map hx19 rfl) <| P1 (setLen l9 (Int.toNat r11) (IntKind.wrap .i64 ((IntKind.wrap .i64 ((IntKind.wrap .i64 (x9 - (Int.tmod x9 1000))) + 1000)) + r5))) <| P0) hn)
                (fun h17 H =>
                  eN H fun r hn => gO [rg [hE 3 (I x13), hF 4, hE 10 (I x16), hF 11], r0, .canon [0, 1] [1, 2, 4, 9, 10, 12, 13, 14, 44, 45]] (by kernel_rfl) (P1 h12 <| P1 (int_lt_of_at h12 hx13) <| P1 (at_map I hx13) <| P2 ((decide (x13 < 0)) = false) (decide_eq_false h14) <| P1 h15 <| P1 (int_lt_of_at h15 hx16) <| P1 (at_map I hx16) <| P2 ((decide ((IntKind.wrap .i64 ((IntKind.wrap .i64 ((IntKind.wrap .i64 (x9 - (Int.tmod x9 1000))) + 1000)) + r5)) < x16)) = false) (decide_eq_false h17) <| P0) hn)))
            (fun h10 H =>
              eBind H fun r11 hr11 H =>
              eCk H fun h12 H =>
              eBind H fun x13 hx13 H =>
              gN [rg [hF 5], rg [hC 4 true [] (RI r11) []]] (by kernel_rfl) (P2 (¬ (1000 : Int) = 0) (by decide) <| P2 ((decide ((IntKind.wrap .i64 ((Int.tmod x9 1000) + r5)) > moves2)) = false) (decide_eq_false h10) <| P1 (cs_mNext hr11) <| P0) <|
              eIf H (fun h14 H =>
                eCk H fun h15 H =>
                eBind H fun x16 hx16 H =>
                eN H fun r hn => gO [rg [hE 3 (I x13), hT 4], rg [hA 4 ((List.set l9 (Int.toNat r11) (IntKind.wrap .i64 (x9 + r5))).length) (List.map I (List.set l9 (Int.toNat r11) (IntKind.wrap .i64 (x9 + r5))))], r0, r0, .canon [0, 1] [1, 2, 4, 9, 10, 12, 13, 14, 44, 45]] (by kernel_rfl) (P1 h12 <| P1 (int_lt_of_at h12 hx13) <| P1 (at_map I hx13) <| P2 ((decide (x13 < 0)) = true) (decide_eq_true h14) <| P1 h15 <| P1 (int_lt_of_at h15 hx16) <| P1 (lt_of_at hx16) <| P2 (setCells (List.map I l9) (Int.toNat r11) 0 [I (IntKind.wrap .i64 (x9 + r5))] = List.map I (List.set l9 (Int.toNat r11) (IntKind.wrap .i64 (x9 + r5)))) (setCells_map hx16 rfl) <| P1 (setLen l9 (Int.toNat r11) (IntKind.wrap .i64 (x9 + r5))) <| P0) hn)
              (fun h14 H =>
                eCk H fun h15 H =>
                eBind H fun x16 hx16 H =>
                eIf H (fun h17 H =>
                  eCk H fun h18 H =>
                  eBind H fun x19 hx19 H =>
                  eN H fun r hn => gO [rg [hE 3 (I x13), hF 4, hE 10 (I x16), hT 11], rg [hA 4 ((List.set l9 (Int.toNat r11) (IntKind.wrap .i64 (x9 + r5))).length) (List.map I (List.set l9 (Int.toNat r11) (IntKind.wrap .i64 (x9 + r5))))], r0, r0, .canon [0, 1] [1, 2, 4, 9, 10, 12, 13, 14, 44, 45]] (by kernel_rfl) (P1 h12 <| P1 (int_lt_of_at h12 hx13) <| P1 (at_map I hx13) <| P2 ((decide (x13 < 0)) = false) (decide_eq_false h14) <| P1 h15 <| P1 (int_lt_of_at h15 hx16) <| P1 (at_map I hx16) <| P2 ((decide ((IntKind.wrap .i64 (x9 + r5)) < x16)) = true) (decide_eq_true h17) <| P1 h18 <| P1 (int_lt_of_at h18 hx19) <| P1 (lt_of_at hx19) <| P2 (setCells (List.map I l9) (Int.toNat r11) 0 [I (IntKind.wrap .i64 (x9 + r5))] = List.map I (List.set l9 (Int.toNat r11) (IntKind.wrap .i64 (x9 + r5)))) (setCells_map hx19 rfl) <| P1 (setLen l9 (Int.toNat r11) (IntKind.wrap .i64 (x9 + r5))) <| P0) hn)
                (fun h17 H =>
                  eN H fun r hn => gO [rg [hE 3 (I x13), hF 4, hE 10 (I x16), hF 11], r0, .canon [0, 1] [1, 2, 4, 9, 10, 12, 13, 14, 44, 45]] (by kernel_rfl) (P1 h12 <| P1 (int_lt_of_at h12 hx13) <| P1 (at_map I hx13) <| P2 ((decide (x13 < 0)) = false) (decide_eq_false h14) <| P1 h15 <| P1 (int_lt_of_at h15 hx16) <| P1 (at_map I hx16) <| P2 ((decide ((IntKind.wrap .i64 (x9 + r5)) < x16)) = false) (decide_eq_false h17) <| P0) hn))))))
      (fun h4 H =>
        eN H fun r hn => gO [rg [hE 3 (I x2), hT 4, hF 7], r0, .canon [0, 1] [1, 2, 4, 9, 10, 12, 44, 45]] (by kernel_rfl) (P1 h1 <| P1 (int_lt_of_at h1 hx2) <| P1 (at_map I hx2) <| P2 ((decide (x2 ≥ 0)) = true) (decide_eq_true h3) <| P2 ((decide (d5 < 6)) = false) (decide_eq_false h4) <| P0) hn))
    (fun h3 H =>
      eN H fun r hn => gO [rg [hE 3 (I x2), hF 4], r0, .canon [0, 1] [1, 2, 4, 9, 10, 12, 44, 45]] (by kernel_rfl) (P1 h1 <| P1 (int_lt_of_at h1 hx2) <| P1 (at_map I hx2) <| P2 ((decide (x2 ≥ 0)) = false) (decide_eq_false h3) <| P0) hn)
theorem ws_pTurns : ∀ s r, loop Bs_pTurns s = some r → Wc X 38 0 (Ks_pTurns s) (Zs_pTurns s) (Rs_pTurns r) ((fun _ => []) r) := Nx.all ns_pTurns
theorem cs_pTurns {a0 : Gi_Board} {a1 : Int} {a2 : Int} {a3 : Int} {r : (List Int)} (H : Ds_pTurns a0 a1 a2 a3 = some r) : Ct X.P X.gl 38 [.agg [sl 5 gi_Terrain a0.Rules.Terrains, sl 6 gi_Kind a0.Rules.Kinds, I a0.Rules.Stack, I a0.Rules.River, I a0.Rules.Road, I a0.Rules.Supply, I a0.Rules.Turns, I a0.Map.Width, I a0.Map.Height, sl 1 I a0.Map.Terrain, sl 1 I a0.Map.Rivers, sl 1 I a0.Map.Roads], I a1, I a2, I a3] [] (Rs_pTurns r) [] :=
  Ct.of func38 (c := bdy f38) (by kernel_rfl) (by kernel_rfl) <|
  eCk H fun h1 H =>
  eBind H fun x2 hx2 H =>
  eBind H fun r3 hr3 H =>
  eCk H fun h4 H =>
  eCk H fun h5 H =>
  gO [r0, rg [hE 6 (gi_Kind x2)], rg [hC 2 true [] (RI r3) [], hA 3 ((List.replicate (Int.toNat r3) (0 : Int)).length) (List.map I (List.replicate (Int.toNat r3) (0 : Int)))], r0, .canon [0, 1] [1, 2, 3, 4, 9, 10, 31, 32]] (by kernel_rfl) (P1 h1 <| P1 (int_lt_of_at h1 hx2) <| P1 (at_map gi_Kind hx2) <| P1 (cs_mSize hr3) <| PI (r3 : Int) <| P2 ((0 : Int) ≤ r3) h4 <| P2 (Int.toNat r3 * 8 ≤ 140737488355328) h5 <| P1 (repLen (Int.toNat r3) (0 : Int)) <| P1 (repMap I (Int.toNat r3) (0 : Int)) <| P0) (ws_pTurns _ _ H)
/-! loop example/g00886/spec TurnsNeeded -/
def Rs_TurnsNeeded (r : Int × Bool) : List D := [I r.1, .bool r.2]
theorem cs_TurnsNeeded {a0 : Gi_Board} {a1 : Int} {a2 : Int} {a3 : Int} {a4 : Int} {r : Int × Bool} (H : Ds_TurnsNeeded a0 a1 a2 a3 a4 = some r) : Ct X.P X.gl 16 [.agg [sl 5 gi_Terrain a0.Rules.Terrains, sl 6 gi_Kind a0.Rules.Kinds, I a0.Rules.Stack, I a0.Rules.River, I a0.Rules.Road, I a0.Rules.Supply, I a0.Rules.Turns, I a0.Map.Width, I a0.Map.Height, sl 1 I a0.Map.Terrain, sl 1 I a0.Map.Rivers, sl 1 I a0.Map.Roads], I a1, I a2, I a3, I a4] [] (Rs_TurnsNeeded r) [] :=
  Ct.of func16 (c := bdy f16) (by kernel_rfl) (by kernel_rfl) <|
  eBind H fun r1 hr1 H =>
  gS [r0] (by kernel_rfl) P0 <|
  eIf H (fun h2 H =>
    eBind H fun r3 hr3 H =>
    eIf H (fun h4 H =>
      eBind H fun r5 hr5 H =>
      eCk H fun h6 H =>
      eBind H fun x7 hx7 H =>
      gS [rg [{ i := 4, call := some { cl := true, auto := true, ins := [], res := (RB r1), G' := [] }, dec := some true }, { i := 11, call := some { cl := true, auto := true, ins := [], res := (RB r3), G' := [] }, dec := some true }], rg [hC 4 true [] (Rs_pTurns r5) [], hE 7 (I x7)]] (by kernel_rfl) (P1 (cs_pAsked hr1) <| P2 (r1 = true) (h2) <| P1 (cs_pAsked hr3) <| P2 (r3 = true) (h4) <| P1 (cs_pTurns hr5) <| P1 h6 <| P1 (int_lt_of_at h6 hx7) <| P1 (at_map I hx7) <| P0) <|
      eIf H (fun h8 H =>
        eW Rs_TurnsNeeded (fun _ => []) H <| gE func16 [rg [hT 1], r0] (by kernel_rfl) (P2 ((decide (x7 < 0)) = true) (decide_eq_true h8) <| P0))
      (fun h8 H =>
        gS [rg [hF 1]] (by kernel_rfl) (P2 ((decide (x7 < 0)) = false) (decide_eq_false h8) <| P0) <|
        eIf H (fun h9 H =>
          eW Rs_TurnsNeeded (fun _ => []) H <| gE func16 [rg [hT 2], r0] (by kernel_rfl) (P2 (((a3 : Int) == a4) = true) (beqT h9) <| P0))
        (fun h9 H =>
          eW Rs_TurnsNeeded (fun _ => []) H <| gE func16 [rg [hF 2], r0] (by kernel_rfl) (P2 (((a3 : Int) == a4) = false) (beqF h9) <| P2 (¬ (1000 : Int) = 0) (by decide) <| P0))))
    (fun h4 H =>
      eW Rs_TurnsNeeded (fun _ => []) H <| gE func16 [rg [{ i := 4, call := some { cl := true, auto := true, ins := [], res := (RB r1), G' := [] }, dec := some true }, { i := 11, call := some { cl := true, auto := true, ins := [], res := (RB r3), G' := [] }, dec := some false }], r0] (by kernel_rfl) (P1 (cs_pAsked hr1) <| P2 (r1 = true) (h2) <| P1 (cs_pAsked hr3) <| P2 (r3 = false) (eqF h4) <| P0)))
  (fun h2 H =>
    eW Rs_TurnsNeeded (fun _ => []) H <| gE func16 [rg [{ i := 4, call := some { cl := true, auto := true, ins := [], res := (RB r1), G' := [] }, dec := some false }], r0] (by kernel_rfl) (P1 (cs_pAsked hr1) <| P2 (r1 = false) (eqF h2) <| P0))
/-! loop example/g00886/laws qHas -/
noncomputable def Kw_qHas : Sw_qHas → List Item
  | .h1 .. => nav 300 2 [] [.code (bdy f9)]
def Zw_qHas : Sw_qHas → St
  | .h1 n0 t1 t2 t3 => ⟨sts 17 [(1, I n0), (7, sl 1 I t1), (8, I t2), (9, I t3)], []⟩
abbrev Qw_qHas := Nx X 9 0 Kw_qHas Zw_qHas RB (fun _ => [])
theorem nw_qHas : ∀ s o, Bw_qHas s = some o → Qw_qHas (Kw_qHas s) (Zw_qHas s) o
  | .h1 n0 t1 t2 t3, o, H =>
    eIf H (fun h1 H =>
      eCk H fun h2 H =>
      eBind H fun x3 hx3 H =>
      gN [rg [hT 0], rg [hE 1 (I x3)]] (by kernel_rfl) (P2 ((decide (t3 < t2)) = true) (decide_eq_true h1) <| P1 h2 <| P1 (int_lt_of_at h2 hx3) <| P1 (at_map I hx3) <| P0) <|
      eIf H (fun h4 H =>
        eN H <| gE func9 [rg [hT 2], r0] (by kernel_rfl) (P2 (((x3 : Int) == n0) = true) (beqT h4) <| P0))
      (fun h4 H =>
        eN H fun r hn => gO [rg [hF 2], r0, .canon [] [1, 7, 8, 9]] (by kernel_rfl) (P2 (((x3 : Int) == n0) = false) (beqF h4) <| P0) hn))
    (fun h1 H =>
      eN H <| gE func9 [rg [hF 0], r0] (by kernel_rfl) (P2 ((decide (t3 < t2)) = false) (decide_eq_false h1) <| P0))
theorem ww_qHas : ∀ s r, loop Bw_qHas s = some r → Wc X 9 0 (Kw_qHas s) (Zw_qHas s) (RB r) ((fun _ => []) r) := Nx.all nw_qHas
theorem cw_qHas {a0 : (List Int)} {a1 : Int} {r : Bool} (H : Dw_qHas a0 a1 = some r) : Ct X.P X.gl 9 [sl 1 I a0, I a1] [] (RB r) [] :=
  Ct.of func9 (c := bdy f9) (by kernel_rfl) (by kernel_rfl) <|
  gO [r0, r0, .canon [] [1, 7, 8, 9]] (by kernel_rfl) P0 (ww_qHas _ _ H)
/-! loop example/g00886/laws FnTreks -/
noncomputable def Kw_FnTreks : Sw_FnTreks → List Item
  | .h1 .. => nav 300 10 [false, false, true, false] [.code (bdy f3)]
  | .h2 .. => nav 300 7 [false, false, false] [.code (bdy f3)]
  | .h3 .. => nav 300 14 [false, false, false, false, true, false] [.code (bdy f3)]
def Zw_FnTreks : Sw_FnTreks → St
  | .h1 more0 t1 t2 l3 l4 => ⟨sts 212 [(1, sl 1 (D.int .u8) more0), (14, .ref 0 1 none), (93, .ref 1 1 none), (94, I t1), (95, I t2)], [some ⟨false, false, 1, l3.length, List.map I l3⟩, some ⟨false, false, 1, l4.length, List.map I l4⟩]⟩
  | .h2 more0 => ⟨sts 212 [(1, sl 1 (D.int .u8) more0)], []⟩
  | .h3 k0 w1 vx2 y3 b4 => ⟨sts 212 [(18, .ptr 0 12 0 0), (19, I k0), (20, I w1), (21, I vx2), (22, I y3)], [some ⟨false, true, 12, 1, [.agg [sl 5 gi_Terrain b4.Rules.Terrains, sl 6 gi_Kind b4.Rules.Kinds, I b4.Rules.Stack, I b4.Rules.River, I b4.Rules.Road, I b4.Rules.Supply, I b4.Rules.Turns, I b4.Map.Width, I b4.Map.Height, sl 1 I b4.Map.Terrain, sl 1 I b4.Map.Rivers, sl 1 I b4.Map.Roads]]⟩]⟩
abbrev Qw_FnTreks := Nx X 3 0 Kw_FnTreks Zw_FnTreks RB (fun _ => [])
theorem nw_FnTreks : ∀ s o, Bw_FnTreks s = some o → Qw_FnTreks (Kw_FnTreks s) (Zw_FnTreks s) o
  | .h1 more0 t1 t2 l3 l4, o, H =>
    eIf H (fun h1 H =>
      eCk H fun h2 H =>
      eBind H fun x3 hx3 H =>
      eBind H fun r4 hr4 H =>
      gN [rg [hT 0], rg [hE 1 (I x3)]] (by kernel_rfl) (P2 ((decide (t2 < t1)) = true) (decide_eq_true h1) <| P1 h2 <| P1 (int_lt_of_at h2 hx3) <| P1 (at_map I hx3) <| P0) <|
      eIf H (fun h5 H =>
        eN H fun r hn => gO [rg [{ i := 2, call := some { cl := false, auto := true, ins := [], res := (RB r4), G' := [] }, dec := some true }], r0, .canon [0, 1] [1, 14, 93, 94, 95]] (by kernel_rfl) (P1 (cw_qHas hr4) <| P2 (r4 = true) (h5) <| P0) hn)
      (fun h5 H =>
        eN H <| gE func3 [rg [{ i := 2, call := some { cl := false, auto := true, ins := [], res := (RB r4), G' := [] }, dec := some false }], r0] (by kernel_rfl) (P1 (cw_qHas hr4) <| P2 (r4 = false) (eqF h5) <| P0)))
    (fun h1 H =>
      eN H fun r hn => gO [rg [hF 0], .canon [] [1]] (by kernel_rfl) (P2 ((decide (t2 < t1)) = false) (decide_eq_false h1) <| P0) hn)
  | .h2 more0, o, H =>
    eBind H fun r1 hr1 H =>
    eBind H fun r2 hr2 H =>
    gN [rg [hC 1 true [] (Rs_DrawDetourCost r1) []]] (by kernel_rfl) (P1 (cs_DrawDetourCost hr1) <| P0) <|
    eIf H (fun h3 H =>
      eBind H fun r4 hr4 H =>
      gN [rg [hC 6 false [] (Ri_DetourCost r2) [], hT 9], rg [hC 6 false [] (Rs_DetourCost r4) []]] (by kernel_rfl) (P1 (ci_DetourCost hr2) <| P2 (r2.2 = true) (h3) <| P1 (cs_DetourCost hr4) <| P0) <|
      eIf H (fun h5 H =>
        eN H <| gE func3 [rg [hT 2], r0] (by kernel_rfl) (P2 ((!(true == r4.2)) = true) (h5) <| P0))
      (fun h5 H =>
        eIf H (fun h6 H =>
          eBind H fun r7 hr7 H =>
          gN [rg [hF 2, hF 6], r0] (by kernel_rfl) (P2 ((!(true == r4.2)) = false) (eqF h5) <| P2 (((r2.1 : Int) != r4.1) = false) (bneF h6) <| P0) <|
          eIf H (fun h8 H =>
            gN [rg [{ i := 5, call := some { cl := true, ins := [], args := [.agg [sl 5 gi_Terrain r1.1.Rules.Terrains, sl 6 gi_Kind r1.1.Rules.Kinds, I r1.1.Rules.Stack, I r1.1.Rules.River, I r1.1.Rules.Road, I r1.1.Rules.Supply, I r1.1.Rules.Turns, I r1.1.Map.Width, I r1.1.Map.Height, sl 1 I r1.1.Map.Terrain, sl 1 I r1.1.Map.Rivers, sl 1 I r1.1.Map.Roads], I r1.2.1, I r1.2.2.1, I r1.2.2.2.1, I r1.2.2.2.2.1, sl 1 I []], res := Ri_DetourCost r7, G' := [] } }, hT 8]] (by kernel_rfl) (PL gi_Terrain r1.1.Rules.Terrains <| PL gi_Kind r1.1.Rules.Kinds <| PI (r1.1.Rules.Stack : Int) <| PI (r1.1.Rules.River : Int) <| PI (r1.1.Rules.Road : Int) <| PI (r1.1.Rules.Supply : Int) <| PI (r1.1.Rules.Turns : Int) <| PI (r1.1.Map.Width : Int) <| PI (r1.1.Map.Height : Int) <| PL I r1.1.Map.Terrain <| PL I r1.1.Map.Rivers <| PL I r1.1.Map.Roads <| PI (r1.2.1 : Int) <| PI (r1.2.2.1 : Int) <| PI (r1.2.2.2.1 : Int) <| PI (r1.2.2.2.2.1 : Int) <| PI (0 : Nat) <| PI ([] : List D) <| P1 (ci_DetourCost hr7) <| P2 (r7.2 = true) (h8) <| P0) <|
            eIf H (fun h9 H =>
              eN H <| gE func3 [rg [hT 5], r0] (by kernel_rfl) (P2 ((decide (r7.1 > r2.1)) = true) (decide_eq_true h9) <| P0))
            (fun h9 H =>
              eN H fun r hn => gO [rg [hF 5], .canon [17] [18, 19, 20, 21, 22]] (by kernel_rfl) (P2 ((decide (r7.1 > r2.1)) = false) (decide_eq_false h9) <| P0) hn))
          (fun h8 H =>
            eN H <| gE func3 [rg [{ i := 5, call := some { cl := true, ins := [], args := [.agg [sl 5 gi_Terrain r1.1.Rules.Terrains, sl 6 gi_Kind r1.1.Rules.Kinds, I r1.1.Rules.Stack, I r1.1.Rules.River, I r1.1.Rules.Road, I r1.1.Rules.Supply, I r1.1.Rules.Turns, I r1.1.Map.Width, I r1.1.Map.Height, sl 1 I r1.1.Map.Terrain, sl 1 I r1.1.Map.Rivers, sl 1 I r1.1.Map.Roads], I r1.2.1, I r1.2.2.1, I r1.2.2.2.1, I r1.2.2.2.2.1, sl 1 I []], res := Ri_DetourCost r7, G' := [] } }, hF 8], r0, r0] (by kernel_rfl) (PL gi_Terrain r1.1.Rules.Terrains <| PL gi_Kind r1.1.Rules.Kinds <| PI (r1.1.Rules.Stack : Int) <| PI (r1.1.Rules.River : Int) <| PI (r1.1.Rules.Road : Int) <| PI (r1.1.Rules.Supply : Int) <| PI (r1.1.Rules.Turns : Int) <| PI (r1.1.Map.Width : Int) <| PI (r1.1.Map.Height : Int) <| PL I r1.1.Map.Terrain <| PL I r1.1.Map.Rivers <| PL I r1.1.Map.Roads <| PI (r1.2.1 : Int) <| PI (r1.2.2.1 : Int) <| PI (r1.2.2.2.1 : Int) <| PI (r1.2.2.2.2.1 : Int) <| PI (0 : Nat) <| PI ([] : List D) <| P1 (ci_DetourCost hr7) <| P2 (r7.2 = false) (eqF h8) <| P0)))
        (fun h6 H =>
          eN H <| gE func3 [rg [hF 2, hT 6], r0] (by kernel_rfl) (P2 ((!(true == r4.2)) = false) (eqF h5) <| P2 (((r2.1 : Int) != r4.1) = true) (bneT h6) <| P0))))
    (fun h3 H =>
      eBind H fun r4 hr4 H =>
      gN [rg [hC 6 false [] (Ri_DetourCost r2) [], hF 9], rg [hC 6 false [] (Rs_DetourCost r4) []]] (by kernel_rfl) (P1 (ci_DetourCost hr2) <| P2 (r2.2 = false) (eqF h3) <| P1 (cs_DetourCost hr4) <| P0) <|
      eIf H (fun h5 H =>
        eN H <| gE func3 [rg [hT 2], r0] (by kernel_rfl) (P2 ((!(false == r4.2)) = true) (h5) <| P0))
      (fun h5 H =>
        eIf H (fun h6 H =>
          eN H fun r hn => gO [rg [hF 2, hF 6], r0, .canon [17] [18, 19, 20, 21, 22]] (by kernel_rfl) (P2 ((!(false == r4.2)) = false) (eqF h5) <| P2 (((r2.1 : Int) != r4.1) = false) (bneF h6) <| P0) hn)
        (fun h6 H =>
          eN H <| gE func3 [rg [hF 2, hT 6], r0] (by kernel_rfl) (P2 ((!(false == r4.2)) = false) (eqF h5) <| P2 (((r2.1 : Int) != r4.1) = true) (bneT h6) <| P0))))
  | .h3 k0 w1 vx2 y3 b4, o, H =>
    eBind H fun r1 hr1 H =>
    eBind H fun r2 hr2 H =>
    eBind H fun r3 hr3 H =>
    eBind H fun r4 hr4 H =>
    gN [rg [hC 5 true [] (Ri_MeetingHex r1) []], rg [hC 5 true [] (Rs_MeetingHex r2) []], rg [hC 5 true [] (Ri_TurnsNeeded r3) []], rg [hC 5 true [] (Rs_TurnsNeeded r4) []]] (by kernel_rfl) (P1 (ci_MeetingHex hr1) <| P1 (cs_MeetingHex hr2) <| P1 (ci_TurnsNeeded hr3) <| P1 (cs_TurnsNeeded hr4) <| P0) <|
    eIf H (fun h5 H =>
      eIf H (fun h6 H =>
        eIf H (fun h7 H =>
          eN H <| gE func3 [rg [hT 2, hT 6, hT 11]] (by kernel_rfl) (P2 ((r1.2 == r2.2) = true) (h5) <| P2 (((r1.1 : Int) == r2.1) = true) (beqT h6) <| P2 ((r3.2 == r4.2) = true) (h7) <| P0))
        (fun h7 H =>
          eN H <| gE func3 [rg [hT 2, hT 6, hF 11]] (by kernel_rfl) (P2 ((r1.2 == r2.2) = true) (h5) <| P2 (((r1.1 : Int) == r2.1) = true) (beqT h6) <| P2 ((r3.2 == r4.2) = false) (eqF h7) <| P0)))
      (fun h6 H =>
        eN H <| gE func3 [rg [hT 2, hF 6]] (by kernel_rfl) (P2 ((r1.2 == r2.2) = true) (h5) <| P2 (((r1.1 : Int) == r2.1) = false) (beqF h6) <| P0)))
    (fun h5 H =>
      eN H <| gE func3 [rg [hF 2]] (by kernel_rfl) (P2 ((r1.2 == r2.2) = false) (eqF h5) <| P0))
theorem ww_FnTreks : ∀ s r, loop Bw_FnTreks s = some r → Wc X 3 0 (Kw_FnTreks s) (Zw_FnTreks s) (RB r) ((fun _ => []) r) := Nx.all nw_FnTreks
theorem cw_FnTreks {a0 : (List Int)} {a1 : (List Int)} {r : Bool} (H : Dw_FnTreks a0 a1 = some r) : Ct X.P X.gl 3 [sl 1 (D.int .u8) a0, sl 1 (D.int .u8) a1] [] (RB r) [] :=
  Ct.of func3 (c := bdy f3) (by kernel_rfl) (by kernel_rfl) <|
  eBind H fun r1 hr1 H =>
  gS [r0] (by kernel_rfl) P0 <|
  eIf H (fun h2 H =>
    eW RB (fun _ => []) H <| gE func3 [rg [{ i := 2, call := some { cl := true, auto := true, ins := [], res := (RB r1), G' := [] }, dec := some true }], r0] (by kernel_rfl) (P1 (cw_big hr1) <| P2 (r1 = true) (h2) <| P0))
  (fun h2 H =>
    eBind H fun r3 hr3 H =>
    eBind H fun r4 hr4 H =>
    gS [rg [{ i := 2, call := some { cl := true, auto := true, ins := [], res := (RB r1), G' := [] }, dec := some false }], rg [hC 1 true [] (Rs_DrawReachOf r3) []]] (by kernel_rfl) (P1 (cw_big hr1) <| P2 (r1 = false) (eqF h2) <| P1 (cs_DrawReachOf hr3) <| P0) <|
    eIf H (fun h5 H =>
      eBind H fun r6 hr6 H =>
      gS [rg [hC 5 true [] (Ri_ReachOf r4) [], hT 8], rg [hC 5 true [] (Rs_ReachOf r6) []]] (by kernel_rfl) (P1 (ci_ReachOf hr4) <| P2 (r4.2 = true) (h5) <| P1 (cs_ReachOf hr6) <| P0) <|
      eIf H (fun h7 H =>
        eW RB (fun _ => []) H <| gE func3 [rg [hT 2], r0] (by kernel_rfl) (P2 ((!(true == r6.2)) = true) (h7) <| P0))
      (fun h7 H =>
        eBind H fun r8 hr8 H =>
        eIf H (fun h9 H =>
          gS [rg [hF 2, { i := 6, call := some { cl := false, auto := true, ins := [], res := (RB r8), G' := [] }, dec := some true }]] (by kernel_rfl) (P2 ((!(true == r6.2)) = false) (eqF h7) <| P1 (cw_sameInts hr8) <| P2 (r8 = true) (h9) <| P0) <|
          eIf H (fun h10 H =>
            eBind H fun r11 hr11 H =>
            gS [rg [hT 3]] (by kernel_rfl) (P2 ((decide (r3.2.2.2.2 < 1000)) = true) (decide_eq_true h10) <| P0) <|
            eIf H (fun h12 H =>
              gO [rg [hC 6 true [] (Ri_ReachOf r11) [], hT 9], r0, r0, .canon [3, 2] [1, 14, 93, 94, 95]] (by kernel_rfl) (P1 (ci_ReachOf hr11) <| P2 (r11.2 = true) (h12) <| P0) (ww_FnTreks _ _ H))
            (fun h12 H =>
              eW RB (fun _ => []) H <| gE func3 [rg [hC 6 true [] (Ri_ReachOf r11) [], hF 9], r0, r0] (by kernel_rfl) (P1 (ci_ReachOf hr11) <| P2 (r11.2 = false) (eqF h12) <| P0)))
          (fun h10 H =>
            gO [rg [hF 3], .canon [] [1]] (by kernel_rfl) (P2 ((decide (r3.2.2.2.2 < 1000)) = false) (decide_eq_false h10) <| P0) (ww_FnTreks _ _ H)))
        (fun h9 H =>
          eW RB (fun _ => []) H <| gE func3 [rg [hF 2, { i := 6, call := some { cl := false, auto := true, ins := [], res := (RB r8), G' := [] }, dec := some false }], r0] (by kernel_rfl) (P2 ((!(true == r6.2)) = false) (eqF h7) <| P1 (cw_sameInts hr8) <| P2 (r8 = false) (eqF h9) <| P0))))
    (fun h5 H =>
      eBind H fun r6 hr6 H =>
      gS [rg [hC 5 true [] (Ri_ReachOf r4) [], hF 8], rg [hC 5 true [] (Rs_ReachOf r6) []]] (by kernel_rfl) (P1 (ci_ReachOf hr4) <| P2 (r4.2 = false) (eqF h5) <| P1 (cs_ReachOf hr6) <| P0) <|
      eIf H (fun h7 H =>
        eW RB (fun _ => []) H <| gE func3 [rg [hT 2], r0] (by kernel_rfl) (P2 ((!(false == r6.2)) = true) (h7) <| P0))
      (fun h7 H =>
        eBind H fun r8 hr8 H =>
        eIf H (fun h9 H =>
          gO [rg [hF 2, { i := 6, call := some { cl := false, auto := true, ins := [], res := (RB r8), G' := [] }, dec := some true }], r0, .canon [] [1]] (by kernel_rfl) (P2 ((!(false == r6.2)) = false) (eqF h7) <| P1 (cw_sameInts hr8) <| P2 (r8 = true) (h9) <| P0) (ww_FnTreks _ _ H))
        (fun h9 H =>
          eW RB (fun _ => []) H <| gE func3 [rg [hF 2, { i := 6, call := some { cl := false, auto := true, ins := [], res := (RB r8), G' := [] }, dec := some false }], r0] (by kernel_rfl) (P2 ((!(false == r6.2)) = false) (eqF h7) <| P1 (cw_sameInts hr8) <| P2 (r8 = false) (eqF h9) <| P0)))))
end Go.Proofs.YtakcjcjfcignjaaDoor.Ab
