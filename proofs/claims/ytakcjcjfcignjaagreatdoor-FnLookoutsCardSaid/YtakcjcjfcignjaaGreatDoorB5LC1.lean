/- Part of the proof of FnLookoutsCard: no condition of its own. -/
import Derived.Test.YtakcjcjfcignjaaGreatDoorB5LC
set_option linter.unusedVariables false
set_option linter.unusedSimpArgs false
open Go Go.Proofs Go.Proofs.Tryz
namespace Go.Proofs.YtakcjcjfcignjaaGreatDoor.Ab
/-! loop example/g00886/spec mGood -/
theorem cs_mGood {a0 : Gi_Map} {r : Bool} (H : Ds_mGood a0 = some r) : Ct X.P X.gl 148 [.agg [I a0.Width, I a0.Height, sl 1 I a0.Terrain, sl 1 I a0.Rivers, sl 1 I a0.Roads]] [] (RB r) [] :=
  Ct.of func148 (c := bdy f148) (by kernel_rfl) (by kernel_rfl) <|
  eBind H fun r1 hr1 H =>
  gS [r0] (by kernel_rfl) P0 <|
  eIf H (fun h2 H =>
    eBind H fun r3 hr3 H =>
    eIf H (fun h4 H =>
      eBind H fun r5 hr5 H =>
      eIf H (fun h6 H =>
        eBind H fun r7 hr7 H =>
        eIf H (fun h8 H =>
          eBind H fun r9 hr9 H =>
          eIf H (fun h10 H =>
            eBind H fun r11 hr11 H =>
            eW RB (fun _ => []) H <| gE func148 [rg [{ i := 2, call := some { cl := true, auto := true, ins := [], res := (RB r1), G' := [] }, dec := some true }, { i := 6, call := some { cl := true, auto := true, ins := [], res := (RB r3), G' := [] }, dec := some true }, hC 13 true [] (RI r5) [], hT 14, { i := 19, call := some { cl := true, auto := true, ins := [], res := (RB r7), G' := [] }, dec := some true }, { i := 25, call := some { cl := true, auto := true, ins := [], res := (RB r9), G' := [] }, dec := some true }, hC 31 true [] (RB r11) []]] (by kernel_rfl) (P1 (cs_l1In hr1) <| P2 (r1 = true) (h2) <| P1 (cs_l1In hr3) <| P2 (r3 = true) (h4) <| P1 (cs_mSize hr5) <| P2 (((((a0.Terrain.length : Nat) : Int) : Int) == r5) = true) (beqT h6) <| P1 (cs_l1All hr7) <| P2 (r7 = true) (h8) <| P1 (cs_mEdges hr9) <| P2 (r9 = true) (h10) <| P1 (cs_mEdges hr11) <| P0))
          (fun h10 H =>
            eW RB (fun _ => []) H <| gE func148 [rg [{ i := 2, call := some { cl := true, auto := true, ins := [], res := (RB r1), G' := [] }, dec := some true }, { i := 6, call := some { cl := true, auto := true, ins := [], res := (RB r3), G' := [] }, dec := some true }, hC 13 true [] (RI r5) [], hT 14, { i := 19, call := some { cl := true, auto := true, ins := [], res := (RB r7), G' := [] }, dec := some true }, { i := 25, call := some { cl := true, auto := true, ins := [], res := (RB r9), G' := [] }, dec := some false }]] (by kernel_rfl) (P1 (cs_l1In hr1) <| P2 (r1 = true) (h2) <| P1 (cs_l1In hr3) <| P2 (r3 = true) (h4) <| P1 (cs_mSize hr5) <| P2 (((((a0.Terrain.length : Nat) : Int) : Int) == r5) = true) (beqT h6) <| P1 (cs_l1All hr7) <| P2 (r7 = true) (h8) <| P1 (cs_mEdges hr9) <| P2 (r9 = false) (eqF h10) <| P0)))
        (fun h8 H =>
          eW RB (fun _ => []) H <| gE func148 [rg [{ i := 2, call := some { cl := true, auto := true, ins := [], res := (RB r1), G' := [] }, dec := some true }, { i := 6, call := some { cl := true, auto := true, ins := [], res := (RB r3), G' := [] }, dec := some true }, hC 13 true [] (RI r5) [], hT 14, { i := 19, call := some { cl := true, auto := true, ins := [], res := (RB r7), G' := [] }, dec := some false }]] (by kernel_rfl) (P1 (cs_l1In hr1) <| P2 (r1 = true) (h2) <| P1 (cs_l1In hr3) <| P2 (r3 = true) (h4) <| P1 (cs_mSize hr5) <| P2 (((((a0.Terrain.length : Nat) : Int) : Int) == r5) = true) (beqT h6) <| P1 (cs_l1All hr7) <| P2 (r7 = false) (eqF h8) <| P0)))
      (fun h6 H =>
        eW RB (fun _ => []) H <| gE func148 [rg [{ i := 2, call := some { cl := true, auto := true, ins := [], res := (RB r1), G' := [] }, dec := some true }, { i := 6, call := some { cl := true, auto := true, ins := [], res := (RB r3), G' := [] }, dec := some true }, hC 13 true [] (RI r5) [], hF 14]] (by kernel_rfl) (P1 (cs_l1In hr1) <| P2 (r1 = true) (h2) <| P1 (cs_l1In hr3) <| P2 (r3 = true) (h4) <| P1 (cs_mSize hr5) <| P2 (((((a0.Terrain.length : Nat) : Int) : Int) == r5) = false) (beqF h6) <| P0)))
    (fun h4 H =>
      eW RB (fun _ => []) H <| gE func148 [rg [{ i := 2, call := some { cl := true, auto := true, ins := [], res := (RB r1), G' := [] }, dec := some true }, { i := 6, call := some { cl := true, auto := true, ins := [], res := (RB r3), G' := [] }, dec := some false }]] (by kernel_rfl) (P1 (cs_l1In hr1) <| P2 (r1 = true) (h2) <| P1 (cs_l1In hr3) <| P2 (r3 = false) (eqF h4) <| P0)))
  (fun h2 H =>
    eW RB (fun _ => []) H <| gE func148 [rg [{ i := 2, call := some { cl := true, auto := true, ins := [], res := (RB r1), G' := [] }, dec := some false }]] (by kernel_rfl) (P1 (cs_l1In hr1) <| P2 (r1 = false) (eqF h2) <| P0))
/-! loop example/g00886/spec bGood -/
theorem cs_bGood {a0 : Gi_Board} {r : Bool} (H : Ds_bGood a0 = some r) : Ct X.P X.gl 97 [.agg [sl 5 gi_Terrain a0.Rules.Terrains, sl 6 gi_Kind a0.Rules.Kinds, I a0.Rules.Stack, I a0.Rules.River, I a0.Rules.Road, I a0.Rules.Supply, I a0.Rules.Turns, I a0.Map.Width, I a0.Map.Height, sl 1 I a0.Map.Terrain, sl 1 I a0.Map.Rivers, sl 1 I a0.Map.Roads]] [] (RB r) [] :=
  Ct.of func97 (c := bdy f97) (by kernel_rfl) (by kernel_rfl) <|
  eBind H fun r1 hr1 H =>
  gS [r0] (by kernel_rfl) P0 <|
  eIf H (fun h2 H =>
    eBind H fun r3 hr3 H =>
    eIf H (fun h4 H =>
      eBind H fun r5 hr5 H =>
      eW RB (fun _ => []) H <| gE func97 [rg [{ i := 2, call := some { cl := true, auto := true, ins := [], res := (RB r1), G' := [] }, dec := some true }, { i := 6, call := some { cl := true, auto := true, ins := [], res := (RB r3), G' := [] }, dec := some true }, hC 17 true [] (RB r5) []]] (by kernel_rfl) (P1 (cs_rGood hr1) <| P2 (r1 = true) (h2) <| P1 (cs_mGood hr3) <| P2 (r3 = true) (h4) <| P1 (cs_l1All hr5) <| P0))
    (fun h4 H =>
      eW RB (fun _ => []) H <| gE func97 [rg [{ i := 2, call := some { cl := true, auto := true, ins := [], res := (RB r1), G' := [] }, dec := some true }, { i := 6, call := some { cl := true, auto := true, ins := [], res := (RB r3), G' := [] }, dec := some false }]] (by kernel_rfl) (P1 (cs_rGood hr1) <| P2 (r1 = true) (h2) <| P1 (cs_mGood hr3) <| P2 (r3 = false) (eqF h4) <| P0)))
  (fun h2 H =>
    eW RB (fun _ => []) H <| gE func97 [rg [{ i := 2, call := some { cl := true, auto := true, ins := [], res := (RB r1), G' := [] }, dec := some false }]] (by kernel_rfl) (P1 (cs_rGood hr1) <| P2 (r1 = false) (eqF h2) <| P0))
/-! loop example/g00886/spec bAt -/
theorem cs_bAt {a0 : Gi_Board} {a1 : Int} {a2 : Int} {r : Bool} (H : Ds_bAt a0 a1 a2 = some r) : Ct X.P X.gl 48 [.agg [sl 5 gi_Terrain a0.Rules.Terrains, sl 6 gi_Kind a0.Rules.Kinds, I a0.Rules.Stack, I a0.Rules.River, I a0.Rules.Road, I a0.Rules.Supply, I a0.Rules.Turns, I a0.Map.Width, I a0.Map.Height, sl 1 I a0.Map.Terrain, sl 1 I a0.Map.Rivers, sl 1 I a0.Map.Roads], I a1, I a2] [] (RB r) [] :=
  Ct.of func48 (c := bdy f48) (by kernel_rfl) (by kernel_rfl) <|
  eBind H fun r1 hr1 H =>
  gS [r0] (by kernel_rfl) P0 <|
  eIf H (fun h2 H =>
    eBind H fun r3 hr3 H =>
    eIf H (fun h4 H =>
      eBind H fun r5 hr5 H =>
      eBind H fun r6 hr6 H =>
      eW RB (fun _ => []) H <| gE func48 [rg [{ i := 1, call := some { cl := true, auto := true, ins := [], res := (RB r1), G' := [] }, dec := some true }, { i := 9, call := some { cl := true, auto := true, ins := [], res := (RB r3), G' := [] }, dec := some true }, hC 15 true [] (RI r5) [], hC 17 true [] (RB r6) []]] (by kernel_rfl) (P1 (cs_bGood hr1) <| P2 (r1 = true) (h2) <| P1 (cs_l1In hr3) <| P2 (r3 = true) (h4) <| P1 (cs_mSize hr5) <| P1 (cs_l1In hr6) <| P0))
    (fun h4 H =>
      eW RB (fun _ => []) H <| gE func48 [rg [{ i := 1, call := some { cl := true, auto := true, ins := [], res := (RB r1), G' := [] }, dec := some true }, { i := 9, call := some { cl := true, auto := true, ins := [], res := (RB r3), G' := [] }, dec := some false }]] (by kernel_rfl) (P1 (cs_bGood hr1) <| P2 (r1 = true) (h2) <| P1 (cs_l1In hr3) <| P2 (r3 = false) (eqF h4) <| P0)))
  (fun h2 H =>
    eW RB (fun _ => []) H <| gE func48 [rg [{ i := 1, call := some { cl := true, auto := true, ins := [], res := (RB r1), G' := [] }, dec := some false }]] (by kernel_rfl) (P1 (cs_bGood hr1) <| P2 (r1 = false) (eqF h2) <| P0))
/-! loop example/g00886/spec bTerrain -/
def Rs_bTerrain (r : Gi_Terrain) : List D := [.agg [.str r.Name, sl 1 I r.Cost, I r.Shift, I r.Height, .bool r.Blocks]]
theorem cs_bTerrain {a0 : Gi_Board} {a1 : Int} {r : Gi_Terrain} (H : Ds_bTerrain a0 a1 = some r) : Ct X.P X.gl 119 [.agg [sl 5 gi_Terrain a0.Rules.Terrains, sl 6 gi_Kind a0.Rules.Kinds, I a0.Rules.Stack, I a0.Rules.River, I a0.Rules.Road, I a0.Rules.Supply, I a0.Rules.Turns, I a0.Map.Width, I a0.Map.Height, sl 1 I a0.Map.Terrain, sl 1 I a0.Map.Rivers, sl 1 I a0.Map.Roads], I a1] [] (Rs_bTerrain r) [] :=
  Ct.of func119 (c := bdy f119) (by kernel_rfl) (by kernel_rfl) <|
  eCk H fun h1 H =>
  eBind H fun x2 hx2 H =>
  eCk H fun h3 H =>
  eBind H fun x4 hx4 H =>
  eW Rs_bTerrain (fun _ => []) H <| gE func119 [r0, rg [hE 8 (I x2), hE 10 (gi_Terrain x4)]] (by kernel_rfl) (P1 h1 <| P1 (int_lt_of_at h1 hx2) <| P1 (at_map I hx2) <| P1 h3 <| P1 (int_lt_of_at h3 hx4) <| P1 (at_map gi_Terrain hx4) <| P0)
/-! loop example/g00886/spec bCost -/
theorem cs_bCost {a0 : Gi_Board} {a1 : Int} {a2 : Int} {r : Int} (H : Ds_bCost a0 a1 a2 = some r) : Ct X.P X.gl 81 [.agg [sl 5 gi_Terrain a0.Rules.Terrains, sl 6 gi_Kind a0.Rules.Kinds, I a0.Rules.Stack, I a0.Rules.River, I a0.Rules.Road, I a0.Rules.Supply, I a0.Rules.Turns, I a0.Map.Width, I a0.Map.Height, sl 1 I a0.Map.Terrain, sl 1 I a0.Map.Rivers, sl 1 I a0.Map.Roads], I a1, I a2] [] (RI r) [] :=
  Ct.of func81 (c := bdy f81) (by kernel_rfl) (by kernel_rfl) <|
  eBind H fun r1 hr1 H =>
  eCk H fun h2 H =>
  eBind H fun x3 hx3 H =>
  eW RI (fun _ => []) H <| gE func81 [r0, rg [hC 2 true [] (Rs_bTerrain r1) [], hE 6 (I x3)]] (by kernel_rfl) (P1 (cs_bTerrain hr1) <| P1 h2 <| P1 (int_lt_of_at h2 hx3) <| P1 (at_map I hx3) <| P0)
/-! loop example/g00886/spec bOpen -/
def Rs_bOpen (r : (List Int)) : List D := [ow 1 I r]
noncomputable def Ks_bOpen : Ss_bOpen → List Item
  | .h1 .. => nav 300 3 [] [.code (bdy f49)]
def Zs_bOpen : Ss_bOpen → St
  | .h1 kind0 t1 t2 b3 l4 => ⟨sts 25 [(1, I kind0), (2, .ptr 0 12 0 0), (5, .ref 1 1 none), (10, I t1), (11, I t2)], [some ⟨false, true, 12, 1, [.agg [sl 5 gi_Terrain b3.Rules.Terrains, sl 6 gi_Kind b3.Rules.Kinds, I b3.Rules.Stack, I b3.Rules.River, I b3.Rules.Road, I b3.Rules.Supply, I b3.Rules.Turns, I b3.Map.Width, I b3.Map.Height, sl 1 I b3.Map.Terrain, sl 1 I b3.Map.Rivers, sl 1 I b3.Map.Roads]]⟩, some ⟨false, false, 1, l4.length, List.map I l4⟩]⟩
abbrev Qs_bOpen := Nx X 49 0 Ks_bOpen Zs_bOpen Rs_bOpen (fun _ => [])
theorem ns_bOpen : ∀ s o, Bs_bOpen s = some o → Qs_bOpen (Ks_bOpen s) (Zs_bOpen s) o
  | .h1 kind0 t1 t2 b3 l4, o, H =>
    eIf H (fun h1 H =>
      eBind H fun r2 hr2 H =>
      gN [rg [hT 0], r0] (by kernel_rfl) (P2 ((decide (t2 < t1)) = true) (decide_eq_true h1) <| P0) <|
      eIf H (fun h3 H =>
        eCk H fun h4 H =>
        eN H fun r hn => gO [rg [hC 3 true [] (RI r2) [], hT 4], rg [hA 3 ((l4 ++ [t2]).length) (List.map I (l4 ++ [t2]))], r0, .canon [0, 3] [1, 2, 5, 10, 11]] (by kernel_rfl) (P1 (cs_bCost hr2) <| P2 ((decide (r2 > 0)) = true) (decide_eq_true h3) <| P1 (apL l4 [t2]) <| P1 (apB h4) <| P1 (apM I l4 [t2]) <| P0) hn)
      (fun h3 H =>
        eN H fun r hn => gO [rg [hC 3 true [] (RI r2) [], hF 4], r0, .canon [0, 1] [1, 2, 5, 10, 11]] (by kernel_rfl) (P1 (cs_bCost hr2) <| P2 ((decide (r2 > 0)) = false) (decide_eq_false h3) <| P0) hn))
    (fun h1 H =>
      eN H <| gE func49 [rg [hF 0], r0] (by kernel_rfl) (P2 ((decide (t2 < t1)) = false) (decide_eq_false h1) <| P0))
theorem ws_bOpen : ∀ s r, loop Bs_bOpen s = some r → Wc X 49 0 (Ks_bOpen s) (Zs_bOpen s) (Rs_bOpen r) ((fun _ => []) r) := Nx.all ns_bOpen
theorem cs_bOpen {a0 : Gi_Board} {a1 : Int} {r : (List Int)} (H : Ds_bOpen a0 a1 = some r) : Ct X.P X.gl 49 [.agg [sl 5 gi_Terrain a0.Rules.Terrains, sl 6 gi_Kind a0.Rules.Kinds, I a0.Rules.Stack, I a0.Rules.River, I a0.Rules.Road, I a0.Rules.Supply, I a0.Rules.Turns, I a0.Map.Width, I a0.Map.Height, sl 1 I a0.Map.Terrain, sl 1 I a0.Map.Rivers, sl 1 I a0.Map.Roads], I a1] [] (Rs_bOpen r) [] :=
  Ct.of func49 (c := bdy f49) (by kernel_rfl) (by kernel_rfl) <|
  gO [r0, r0, r0, .own 5 1, .canon [0, 1] [1, 2, 5, 10, 11]] (by kernel_rfl) P0 (ws_bOpen _ _ H)
/-! loop example/g00886/spec l1Most -/
theorem cs_l1Most {a0 : Int} {a1 : Int} {r : Int} (H : Ds_l1Most a0 a1 = some r) : Ct X.P X.gl 152 [I a0, I a1] [] (RI r) [] :=
  Ct.of func152 (c := bdy f152) (by kernel_rfl) (by kernel_rfl) <|
  gS [r0] (by kernel_rfl) P0 <|
  eIf H (fun h1 H =>
    eW RI (fun _ => []) H <| gE func152 [rg [hT 2], r0] (by kernel_rfl) (P2 ((decide (a0 > a1)) = true) (decide_eq_true h1) <| P0))
  (fun h1 H =>
    eW RI (fun _ => []) H <| gE func152 [rg [hF 2], r0] (by kernel_rfl) (P2 ((decide (a0 > a1)) = false) (decide_eq_false h1) <| P0))
/-! loop example/g00886/spec l1Abs -/
theorem cs_l1Abs {a0 : Int} {r : Int} (H : Ds_l1Abs a0 = some r) : Ct X.P X.gl 187 [I a0] [] (RI r) [] :=
  Ct.of func187 (c := bdy f187) (by kernel_rfl) (by kernel_rfl) <|
  eBind H fun r1 hr1 H =>
  eW RI (fun _ => []) H <| gE func187 [r0, rg [hC 3 true [] (RI r1) []]] (by kernel_rfl) (P1 (cs_l1Most hr1) <| P0)
/-! loop example/g00886/spec hDistance -/
theorem cs_hDistance {a0 : Gi_Hex} {a1 : Gi_Hex} {r : Int} (H : Ds_hDistance a0 a1 = some r) : Ct X.P X.gl 174 [.agg [I a0.Q, I a0.R], .agg [I a1.Q, I a1.R]] [] (RI r) [] :=
  Ct.of func174 (c := bdy f174) (by kernel_rfl) (by kernel_rfl) <|
  eBind H fun r1 hr1 H =>
  eBind H fun r2 hr2 H =>
  eBind H fun r3 hr3 H =>
  eW RI (fun _ => []) H <| gE func174 [r0, r0, rg [hC 1 true [] (RI r1) [], hC 3 true [] (RI r2) [], hC 8 true [] (RI r3) []]] (by kernel_rfl) (P1 (cs_l1Abs hr1) <| P1 (cs_l1Abs hr2) <| P1 (cs_l1Abs hr3) <| P2 (¬ (2 : Int) = 0) (by decide) <| P0)
/-! loop example/g00886/spec mNear -/
def Rs_mNear (r : (List Int)) : List D := [ow 1 I r]
noncomputable def Ks_mNear : Ss_mNear → List Item
  | .h1 .. => nav 300 3 [] [.code (bdy f150)]
def Zs_mNear : Ss_mNear → St
  | .h1 i0 vradius1 k2 b3 l4 => ⟨sts 29 [(1, I i0), (2, I vradius1), (3, .ptr 0 5 0 0), (7, .ref 1 1 none), (8, I k2)], [some ⟨false, true, 5, 1, [.agg [I b3.Width, I b3.Height, sl 1 I b3.Terrain, sl 1 I b3.Rivers, sl 1 I b3.Roads]]⟩, some ⟨false, false, 1, l4.length, List.map I l4⟩]⟩
abbrev Qs_mNear := Nx X 150 0 Ks_mNear Zs_mNear Rs_mNear (fun _ => [])
theorem ns_mNear : ∀ s o, Bs_mNear s = some o → Qs_mNear (Ks_mNear s) (Zs_mNear s) o
  | .h1 i0 vradius1 k2 b3 l4, o, H =>
    have H := (Bs_mNear.eq_1 ..).symm.trans H
    eBind H fun r1 hr1 H =>
    eIf H (fun h2 H =>
      eBind H fun r3 hr3 H =>
      eBind H fun r4 hr4 H =>
      eBind H fun r5 hr5 H =>
      gN [rg [hC 2 true [] (RI r1) [], hT 3]] (by kernel_rfl) (P1 (cs_mSize hr1) <| P2 ((decide (k2 < r1)) = true) (decide_eq_true h2) <| P0) <|
      eIf H (fun h6 H =>
        eCk H fun h7 H =>
        eN H fun r hn => gO [rg [hC 2 true [] (Rs_mHex r3) [], hC 5 true [] (Rs_mHex r4) [], hC 6 true [] (RI r5) [], hT 8], rg [hA 3 ((l4 ++ [k2]).length) (List.map I (l4 ++ [k2]))], r0, .canon [0, 3] [1, 2, 3, 7, 8]] (by kernel_rfl) (P1 (cs_mHex hr3) <| P1 (cs_mHex hr4) <| P1 (cs_hDistance hr5) <| P2 ((decide (r5 ≤ vradius1)) = true) (decide_eq_true h6) <| P1 (apL l4 [k2]) <| P1 (apB h7) <| P1 (apM I l4 [k2]) <| P0) hn)
      (fun h6 H =>
        eN H fun r hn => gO [rg [hC 2 true [] (Rs_mHex r3) [], hC 5 true [] (Rs_mHex r4) [], hC 6 true [] (RI r5) [], hF 8], r0, .canon [0, 1] [1, 2, 3, 7, 8]] (by kernel_rfl) (P1 (cs_mHex hr3) <| P1 (cs_mHex hr4) <| P1 (cs_hDistance hr5) <| P2 ((decide (r5 ≤ vradius1)) = false) (decide_eq_false h6) <| P0) hn))
    (fun h2 H =>
      eN H <| gE func150 [rg [hC 2 true [] (RI r1) [], hF 3], r0] (by kernel_rfl) (P1 (cs_mSize hr1) <| P2 ((decide (k2 < r1)) = false) (decide_eq_false h2) <| P0))
theorem ws_mNear : ∀ s r, loop Bs_mNear s = some r → Wc X 150 0 (Ks_mNear s) (Zs_mNear s) (Rs_mNear r) ((fun _ => []) r) := Nx.all ns_mNear
theorem cs_mNear {a0 : Gi_Map} {a1 : Int} {a2 : Int} {r : (List Int)} (H : Ds_mNear a0 a1 a2 = some r) : Ct X.P X.gl 150 [.agg [I a0.Width, I a0.Height, sl 1 I a0.Terrain, sl 1 I a0.Rivers, sl 1 I a0.Roads], I a1, I a2] [] (Rs_mNear r) [] :=
  Ct.of func150 (c := bdy f150) (by kernel_rfl) (by kernel_rfl) <|
  gO [r0, r0, r0, .own 7 1, .canon [0, 1] [1, 2, 3, 7, 8]] (by kernel_rfl) P0 (ws_mNear _ _ H)
/-! loop example/g00886/spec hNear -/
def Rs_hNear (r : (List Int)) : List D := [ow 1 I r]
theorem cs_hNear {a0 : Int} {a1 : Int} {r : (List Int)} (H : Ds_hNear a0 a1 = some r) : Ct X.P X.gl 194 [I a0, I a1] [] (Rs_hNear r) [] :=
  Ct.of func194 (c := bdy f194) (by kernel_rfl) (by kernel_rfl) <|
  eCk H fun h1 H =>
  eCk H fun h2 H =>
  gS [r0, r0] (by kernel_rfl) (P2 (¬ (a1 : Int) = 0) h1 <| P0) <|
  eIf H (fun h3 H =>
    gS [rg [hT 3], r0, r0] (by kernel_rfl) (P2 (¬ (a1 : Int) = 0) h2 <| P2 ((decide ((Int.tmod a0 a1) < 0)) = true) (decide_eq_true h3) <| P0) <|
    eIf H (fun h4 H =>
      eW Rs_hNear (fun _ => []) H <| gE func194 [rg [hT 2], r0] (by kernel_rfl) (P2 ((decide ((IntKind.wrap .i64 (2 * (IntKind.wrap .i64 (a0 - (IntKind.wrap .i64 ((IntKind.wrap .i64 ((IntKind.wrap .i64 (Int.tdiv a0 a1)) - 1)) * a1)))))) < a1)) = true) (decide_eq_true h4) <| P0))
    (fun h4 H =>
      gS [rg [hF 2]] (by kernel_rfl) (P2 ((decide ((IntKind.wrap .i64 (2 * (IntKind.wrap .i64 (a0 - (IntKind.wrap .i64 ((IntKind.wrap .i64 ((IntKind.wrap .i64 (Int.tdiv a0 a1)) - 1)) * a1)))))) < a1)) = false) (decide_eq_false h4) <| P0) <|
      eIf H (fun h5 H =>
        eW Rs_hNear (fun _ => []) H <| gE func194 [rg [hT 2], r0] (by kernel_rfl) (P2 ((decide ((IntKind.wrap .i64 (2 * (IntKind.wrap .i64 (a0 - (IntKind.wrap .i64 ((IntKind.wrap .i64 ((IntKind.wrap .i64 (Int.tdiv a0 a1)) - 1)) * a1)))))) > a1)) = true) (decide_eq_true h5) <| P0))
      (fun h5 H =>
        eW Rs_hNear (fun _ => []) H <| gE func194 [rg [hF 2], r0] (by kernel_rfl) (P2 ((decide ((IntKind.wrap .i64 (2 * (IntKind.wrap .i64 (a0 - (IntKind.wrap .i64 ((IntKind.wrap .i64 ((IntKind.wrap .i64 (Int.tdiv a0 a1)) - 1)) * a1)))))) > a1)) = false) (decide_eq_false h5) <| P0))))
  (fun h3 H =>
    gS [rg [hF 3], r0] (by kernel_rfl) (P2 (¬ (a1 : Int) = 0) h2 <| P2 ((decide ((Int.tmod a0 a1) < 0)) = false) (decide_eq_false h3) <| P0) <|
    eIf H (fun h4 H =>
      eW Rs_hNear (fun _ => []) H <| gE func194 [rg [hT 2], r0] (by kernel_rfl) (P2 ((decide ((IntKind.wrap .i64 (2 * (IntKind.wrap .i64 (a0 - (IntKind.wrap .i64 ((IntKind.wrap .i64 (Int.tdiv a0 a1)) * a1)))))) < a1)) = true) (decide_eq_true h4) <| P0))
    (fun h4 H =>
      gS [rg [hF 2]] (by kernel_rfl) (P2 ((decide ((IntKind.wrap .i64 (2 * (IntKind.wrap .i64 (a0 - (IntKind.wrap .i64 ((IntKind.wrap .i64 (Int.tdiv a0 a1)) * a1)))))) < a1)) = false) (decide_eq_false h4) <| P0) <|
      eIf H (fun h5 H =>
        eW Rs_hNear (fun _ => []) H <| gE func194 [rg [hT 2], r0] (by kernel_rfl) (P2 ((decide ((IntKind.wrap .i64 (2 * (IntKind.wrap .i64 (a0 - (IntKind.wrap .i64 ((IntKind.wrap .i64 (Int.tdiv a0 a1)) * a1)))))) > a1)) = true) (decide_eq_true h5) <| P0))
      (fun h5 H =>
        eW Rs_hNear (fun _ => []) H <| gE func194 [rg [hF 2], r0] (by kernel_rfl) (P2 ((decide ((IntKind.wrap .i64 (2 * (IntKind.wrap .i64 (a0 - (IntKind.wrap .i64 ((IntKind.wrap .i64 (Int.tdiv a0 a1)) * a1)))))) > a1)) = false) (decide_eq_false h5) <| P0))))
/-! loop example/g00886/spec hCells -/
def Rs_hCells (r : (List Gi_Hex)) : List D := [ow 2 gi_Hex r]
noncomputable def Ks_hCells : Ss_hCells → List Item
  | .h1 .. => nav 300 5 [true] [.code (bdy f191)]
  | .h2 .. => nav 300 5 [false] [.code (bdy f191)]
def Zs_hCells : Ss_hCells → St
  | .h1 t0 t1 t2 t3 l4 l5 => ⟨sts 96 [(3, I t0), (9, I t1), (11, .ref 0 2 none), (46, .ref 1 1 none), (47, I t2), (48, I t3)], [some ⟨false, false, 2, l4.length, List.map gi_Hex l4⟩, some ⟨false, false, 1, l5.length, List.map I l5⟩]⟩
  | .h2 t0 t1 t2 t3 t4 l5 l6 => ⟨sts 96 [(3, I t0), (9, I t1), (10, I t2), (11, .ref 0 2 none), (64, .ref 1 1 none), (65, I t3), (66, I t4)], [some ⟨false, false, 2, l5.length, List.map gi_Hex l5⟩, some ⟨false, false, 1, l6.length, List.map I l6⟩]⟩
abbrev Qs_hCells := Nx X 191 0 Ks_hCells Zs_hCells Rs_hCells (fun _ => [])
theorem ns_hCells : ∀ s o, Bs_hCells s = some o → Qs_hCells (Ks_hCells s) (Zs_hCells s) o
  | .h1 t0 t1 t2 t3 l4 l5, o, H =>
    eIf H (fun h1 H =>
      eCk H fun h2 H =>
      eBind H fun x3 hx3 H =>
      eCk H fun h4 H =>
      eCk H fun h5 H =>
      eN H fun r hn => gO [rg [hT 0], rg [hE 1 (I x3)], rg [hA 7 ((l4 ++ [(Gi_Hex.mk (IntKind.wrap .i64 (Int.tdiv t1 t0)) x3)]).length) (List.map gi_Hex (l4 ++ [(Gi_Hex.mk (IntKind.wrap .i64 (Int.tdiv t1 t0)) x3)]))], r0, .canon [3, 1] [3, 9, 11, 46, 47, 48]] (by kernel_rfl) (P2 ((decide (t3 < t2)) = true) (decide_eq_true h1) <| P1 h2 <| P1 (int_lt_of_at h2 hx3) <| P1 (at_map I hx3) <| P2 (¬ (t0 : Int) = 0) h4 <| P1 (apL l4 [(Gi_Hex.mk (IntKind.wrap .i64 (Int.tdiv t1 t0)) x3)]) <| P1 (apB h5) <| P1 (apM gi_Hex l4 [(Gi_Hex.mk (IntKind.wrap .i64 (Int.tdiv t1 t0)) x3)]) <| P0) hn)
    (fun h1 H =>
      eN H <| gE func191 [rg [hF 0], r0] (by kernel_rfl) (P2 ((decide (t3 < t2)) = false) (decide_eq_false h1) <| P0))
  | .h2 t0 t1 t2 t3 t4 l5 l6, o, H =>
    eIf H (fun h1 H =>
      eCk H fun h2 H =>
      eBind H fun x3 hx3 H =>
      eCk H fun h4 H =>
      gN [rg [hT 0], rg [hE 1 (I x3)]] (by kernel_rfl) (P2 ((decide (t4 < t3)) = true) (decide_eq_true h1) <| P1 h2 <| P1 (int_lt_of_at h2 hx3) <| P1 (at_map I hx3) <| P0) <|
      eIf H (fun h5 H =>
        eCk H fun h6 H =>
        eCk H fun h7 H =>
        eN H fun r hn => gO [rg [hT 3], rg [hA 7 ((l5 ++ [(Gi_Hex.mk x3 (IntKind.wrap .i64 (Int.tdiv t2 t0)))]).length) (List.map gi_Hex (l5 ++ [(Gi_Hex.mk x3 (IntKind.wrap .i64 (Int.tdiv t2 t0)))]))], r0, .canon [3, 1] [3, 9, 10, 11, 64, 65, 66]] (by kernel_rfl) (P2 (¬ (t0 : Int) = 0) h4 <| P2 ((((Int.tmod t2 t0) : Int) == 0) = true) (beqT h5) <| P2 (¬ (t0 : Int) = 0) h6 <| P1 (apL l5 [(Gi_Hex.mk x3 (IntKind.wrap .i64 (Int.tdiv t2 t0)))]) <| P1 (apB h7) <| P1 (apM gi_Hex l5 [(Gi_Hex.mk x3 (IntKind.wrap .i64 (Int.tdiv t2 t0)))]) <| P0) hn)
      (fun h5 H =>
        eCk H fun h6 H =>
        eCk H fun h7 H =>
        eN H fun r hn => gO [rg [hF 3], rg [hA 11 ((l5 ++ [(Gi_Hex.mk x3 (IntKind.wrap .i64 ((IntKind.wrap .i64 (Int.tdiv (IntKind.wrap .i64 (t1 + t2)) t0)) - x3)))]).length) (List.map gi_Hex (l5 ++ [(Gi_Hex.mk x3 (IntKind.wrap .i64 ((IntKind.wrap .i64 (Int.tdiv (IntKind.wrap .i64 (t1 + t2)) t0)) - x3)))]))], r0, .canon [3, 1] [3, 9, 10, 11, 64, 65, 66]] (by kernel_rfl) (P2 (¬ (t0 : Int) = 0) h4 <| P2 ((((Int.tmod t2 t0) : Int) == 0) = false) (beqF h5) <| P2 (¬ (t0 : Int) = 0) h6 <| P1 (apL l5 [(Gi_Hex.mk x3 (IntKind.wrap .i64 ((IntKind.wrap .i64 (Int.tdiv (IntKind.wrap .i64 (t1 + t2)) t0)) - x3)))]) <| P1 (apB h7) <| P1 (apM gi_Hex l5 [(Gi_Hex.mk x3 (IntKind.wrap .i64 ((IntKind.wrap .i64 (Int.tdiv (IntKind.wrap .i64 (t1 + t2)) t0)) - x3)))]) <| P0) hn))
    (fun h1 H =>
      eN H <| gE func191 [rg [hF 0], r0] (by kernel_rfl) (P2 ((decide (t4 < t3)) = false) (decide_eq_false h1) <| P0))
theorem ws_hCells : ∀ s r, loop Bs_hCells s = some r → Wc X 191 0 (Ks_hCells s) (Zs_hCells s) (Rs_hCells r) ((fun _ => []) r) := Nx.all ns_hCells
theorem cs_hCells {a0 : Gi_Hex} {a1 : Gi_Hex} {a2 : Int} {a3 : Int} {r : (List Gi_Hex)} (H : Ds_hCells a0 a1 a2 a3 = some r) : Ct X.P X.gl 191 [.agg [I a0.Q, I a0.R], .agg [I a1.Q, I a1.R], I a2, I a3] [] (Rs_hCells r) [] :=
  Ct.of func191 (c := bdy f191) (by kernel_rfl) (by kernel_rfl) <|
  eCk H fun h1 H =>
  gS [r0, r0, r0] (by kernel_rfl) P0 <|
  eIf H (fun h2 H =>
    eBind H fun r3 hr3 H =>
    gO [rg [hT 3], rg [hC 2 true [] (Rs_hNear r3) []], .own 11 2, .canon [3, 2] [3, 9, 11, 46, 47, 48]] (by kernel_rfl) (P2 (¬ (a3 : Int) = 0) h1 <| P2 ((((Int.tmod (IntKind.wrap .i64 ((IntKind.wrap .i64 (a0.Q * a3)) + (IntKind.wrap .i64 ((IntKind.wrap .i64 (a1.Q - a0.Q)) * a2)))) a3) : Int) == 0) = true) (beqT h2) <| P1 (cs_hNear hr3) <| P0) (ws_hCells _ _ H))
  (fun h2 H =>
    eBind H fun r3 hr3 H =>
    gO [rg [hF 3], rg [hC 2 true [] (Rs_hNear r3) []], .own 11 2, .canon [3, 2] [3, 9, 10, 11, 64, 65, 66]] (by kernel_rfl) (P2 (¬ (a3 : Int) = 0) h1 <| P2 ((((Int.tmod (IntKind.wrap .i64 ((IntKind.wrap .i64 (a0.Q * a3)) + (IntKind.wrap .i64 ((IntKind.wrap .i64 (a1.Q - a0.Q)) * a2)))) a3) : Int) == 0) = false) (beqF h2) <| P1 (cs_hNear hr3) <| P0) (ws_hCells _ _ H))
/-! loop example/g00886/spec hLine -/
def Rs_hLine (r : (List (List Gi_Hex))) : List D := [ow 1 (ow 2 gi_Hex) r]
noncomputable def Ks_hLine : Ss_hLine → List Item
  | .h1 .. => nav 300 5 [false] [.code (bdy f188)]
def Zs_hLine : Ss_hLine → St
  | .h1 n0 i1 b2 b3 l4 => ⟨sts 30 [(2, .ptr 0 2 0 0), (3, .ptr 1 2 0 0), (5, I n0), (6, .ref 2 1 none), (7, I i1)], [some ⟨false, true, 2, 1, [.agg [I b2.Q, I b2.R]]⟩, some ⟨false, true, 2, 1, [.agg [I b3.Q, I b3.R]]⟩, some ⟨false, false, 1, l4.length, List.map (ow 2 gi_Hex) l4⟩]⟩
abbrev Qs_hLine := Nx X 188 0 Ks_hLine Zs_hLine Rs_hLine (fun _ => [])
theorem ns_hLine : ∀ s o, Bs_hLine s = some o → Qs_hLine (Ks_hLine s) (Zs_hLine s) o
  | .h1 n0 i1 b2 b3 l4, o, H =>
    eIf H (fun h1 H =>
      eBind H fun r2 hr2 H =>
      eCk H fun h3 H =>
      eN H fun r hn => gO [rg [hT 2], rg [hC 5 true [] (Rs_hCells r2) [], { i := 6, post := [.put 4 0 0 3 (List.map (ow 2 gi_Hex) [r2]), .own 4 1] }, hA 7 ((l4 ++ [r2]).length) (List.map (ow 2 gi_Hex) (l4 ++ [r2]))], r0, .canon [0, 1, 5] [2, 3, 5, 6, 7]] (by kernel_rfl) (P2 ((decide (i1 ≤ n0)) = true) (decide_eq_true h1) <| P1 (cs_hCells hr2) <| P2 (getCells [.ref 3 2 none] 0 0 1 = some [.ref 3 2 none]) rfl <| P2 (setCells [.ref 3 2 none] 0 0 [ow 2 gi_Hex r2] = List.map (ow 2 gi_Hex) [r2]) rfl <| P1 (allOw_177 [r2]) <| P2 ((1 : Nat) = 1) rfl <| P1 (apL l4 [r2]) <| P1 (apB h3) <| P1 (apM (ow 2 gi_Hex) l4 [r2]) <| P0) hn)
    (fun h1 H =>
      eN H <| gE func188 [rg [hF 2], r0] (by kernel_rfl) (P2 ((decide (i1 ≤ n0)) = false) (decide_eq_false h1) <| P0))
theorem ws_hLine : ∀ s r, loop Bs_hLine s = some r → Wc X 188 0 (Ks_hLine s) (Zs_hLine s) (Rs_hLine r) ((fun _ => []) r) := Nx.all ns_hLine
theorem cs_hLine {a0 : Gi_Hex} {a1 : Gi_Hex} {r : (List (List Gi_Hex))} (H : Ds_hLine a0 a1 = some r) : Ct X.P X.gl 188 [.agg [I a0.Q, I a0.R], .agg [I a1.Q, I a1.R]] [] (Rs_hLine r) [] :=
  Ct.of func188 (c := bdy f188) (by kernel_rfl) (by kernel_rfl) <|
  eBind H fun r1 hr1 H =>
  gS [r0, rg [hC 2 true [] (RI r1) []]] (by kernel_rfl) (P1 (cs_hDistance hr1) <| P0) <|
  eIf H (fun h2 H =>
    eW Rs_hLine (fun _ => []) H <| gE func188 [rg [hT 1], rg [{ i := 2, post := [.put 3 0 0 2 (List.map (ow 2 gi_Hex) [[a0]]), .own 3 1] }]] (by kernel_rfl) (P2 (((r1 : Int) == 0) = true) (beqT h2) <| P2 (getCells [.ref 2 2 none] 0 0 1 = some [.ref 2 2 none]) rfl <| P2 (setCells [.ref 2 2 none] 0 0 [ow 2 gi_Hex [a0]] = List.map (ow 2 gi_Hex) [[a0]]) rfl <| P1 (allOw_177 [[a0]]) <| P2 ((1 : Nat) = 1) rfl <| P0))
  (fun h2 H =>
    gO [rg [hF 1], r0, r0, .own 6 1, .canon [0, 1, 2] [2, 3, 5, 6, 7]] (by kernel_rfl) (P2 (((r1 : Int) == 0) = false) (beqF h2) <| P0) (ws_hLine _ _ H))
/-! loop example/g00886/spec vCells -/
def Rs_vCells (r : (List (List Int))) : List D := [ow 1 (ow 1 I) r]
noncomputable def Ks_vCells : Ss_vCells → List Item
  | .h1 .. => nav 300 4 [] [.code (bdy f176)]
  | .h2 .. => nav 300 7 [true] [.code (bdy f176)]
  | .h3 .. => nav 300 10 [true, false] [.code (bdy f176)]
def Zs_vCells : Ss_vCells → St
  | .h1 n0 b1 l2 l3 => ⟨sts 51 [(3, .ptr 0 12 0 0), (7, .ref 1 1 none), (8, .ref 2 1 none), (9, I n0)], [some ⟨false, true, 12, 1, [.agg [sl 5 gi_Terrain b1.Rules.Terrains, sl 6 gi_Kind b1.Rules.Kinds, I b1.Rules.Stack, I b1.Rules.River, I b1.Rules.Road, I b1.Rules.Supply, I b1.Rules.Turns, I b1.Map.Width, I b1.Map.Height, sl 1 I b1.Map.Terrain, sl 1 I b1.Map.Rivers, sl 1 I b1.Map.Roads]]⟩, some ⟨false, false, 1, l2.length, List.map (ow 2 gi_Hex) l2⟩, some ⟨false, false, 1, l3.length, List.map (ow 1 I) l3⟩]⟩
  | .h2 n0 t1 t2 t3 b4 l5 l6 l7 => ⟨sts 51 [(3, .ptr 0 12 0 0), (7, .ref 1 1 none), (8, .ref 2 1 none), (9, I n0), (10, .ref 3 1 none), (32, sl 2 gi_Hex t1), (33, I t2), (34, I t3)], [some ⟨false, true, 12, 1, [.agg [sl 5 gi_Terrain b4.Rules.Terrains, sl 6 gi_Kind b4.Rules.Kinds, I b4.Rules.Stack, I b4.Rules.River, I b4.Rules.Road, I b4.Rules.Supply, I b4.Rules.Turns, I b4.Map.Width, I b4.Map.Height, sl 1 I b4.Map.Terrain, sl 1 I b4.Map.Rivers, sl 1 I b4.Map.Roads]]⟩, some ⟨true, false, 1, l5.length, List.map (sl 2 gi_Hex) l5⟩, some ⟨false, false, 1, l6.length, List.map (ow 1 I) l6⟩, some ⟨false, false, 1, l7.length, List.map I l7⟩]⟩
  | .h3 n0 b1 l2 l3 => ⟨sts 51 [(3, .ptr 0 12 0 0), (7, .ref 1 1 none), (8, .ref 2 1 none), (9, I n0)], [some ⟨false, true, 12, 1, [.agg [sl 5 gi_Terrain b1.Rules.Terrains, sl 6 gi_Kind b1.Rules.Kinds, I b1.Rules.Stack, I b1.Rules.River, I b1.Rules.Road, I b1.Rules.Supply, I b1.Rules.Turns, I b1.Map.Width, I b1.Map.Height, sl 1 I b1.Map.Terrain, sl 1 I b1.Map.Rivers, sl 1 I b1.Map.Roads]]⟩, some ⟨true, false, 1, l2.length, List.map (sl 2 gi_Hex) l2⟩, some ⟨false, false, 1, l3.length, List.map (ow 1 I) l3⟩]⟩
abbrev Qs_vCells := Nx X 176 0 Ks_vCells Zs_vCells Rs_vCells (fun _ => [])
theorem ns_vCells : ∀ s o, Bs_vCells s = some o → Qs_vCells (Ks_vCells s) (Zs_vCells s) o
  | .h1 n0 b1 l2 l3, o, H =>
    eIf H (fun h1 H =>
      eCk H fun h2 H =>
      eBind H fun x3 hx3 H =>
      eN H fun r hn => gO [rg [hT 4], r0, .frz 1, .er 1 (List.map (sl 2 gi_Hex) l2), rg [hE 3 ((sl 2 gi_Hex) x3)], .own 10 1, .canon [0, 1, 2, 3] [3, 7, 8, 9, 10, 32, 33, 34]] (by kernel_rfl) (P2 ((decide (n0 < (IntKind.wrap .i64 (((l2.length : Nat) : Int) - 1)))) = true) (decide_eq_true h1) <| P2 (erL (List.map (ow 2 gi_Hex) l2) = erL (List.map (sl 2 gi_Hex) l2)) (erL_map2 ero_177 l2) <| P1 h2 <| P1 (int_lt_of_at h2 hx3) <| P1 (at_map (sl 2 gi_Hex) hx3) <| P0) hn)
    (fun h1 H =>
      eN H <| gE func176 [rg [hF 4], r0] (by kernel_rfl) (P2 ((decide (n0 < (IntKind.wrap .i64 (((l2.length : Nat) : Int) - 1)))) = false) (decide_eq_false h1) <| P0))
  | .h2 n0 t1 t2 t3 b4 l5 l6 l7, o, H =>
    eIf H (fun h1 H =>
      eCk H fun h2 H =>
      eBind H fun x3 hx3 H =>
      eBind H fun r4 hr4 H =>
      eCk H fun h5 H =>
      eN H fun r hn => gO [rg [hT 0], rg [hE 1 (gi_Hex x3)], rg [hC 4 true [] (RI r4) [], hA 6 ((l7 ++ [r4]).length) (List.map I (l7 ++ [r4]))], r0, .canon [0, 1, 2, 6] [3, 7, 8, 9, 10, 32, 33, 34]] (by kernel_rfl) (P2 ((decide (t3 < t2)) = true) (decide_eq_true h1) <| P1 h2 <| P1 (int_lt_of_at h2 hx3) <| P1 (at_map gi_Hex hx3) <| P1 (cs_mIndex hr4) <| P1 (apL l7 [r4]) <| P1 (apB h5) <| P1 (apM I l7 [r4]) <| P0) hn)
    (fun h1 H =>
      eCk H fun h2 H =>
      eN H fun r hn => gO [rg [hF 0], rg [{ i := 2, post := [.put 4 0 0 3 (List.map (ow 1 I) [l7]), .own 4 1] }, hA 3 ((l6 ++ [l7]).length) (List.map (ow 1 I) (l6 ++ [l7]))], r0, .canon [0, 1, 5] [3, 7, 8, 9]] (by kernel_rfl) (P2 ((decide (t3 < t2)) = false) (decide_eq_false h1) <| P2 (getCells [.ref 3 1 none] 0 0 1 = some [.ref 3 1 none]) rfl <| P2 (setCells [.ref 3 1 none] 0 0 [ow 1 I l7] = List.map (ow 1 I) [l7]) rfl <| P1 (allOw_28 [l7]) <| P2 ((1 : Nat) = 1) rfl <| P1 (apL l6 [l7]) <| P1 (apB h2) <| P1 (apM (ow 1 I) l6 [l7]) <| P0) hn)
  | .h3 n0 b1 l2 l3, o, H =>
    eIf H (fun h1 H =>
      eCk H fun h2 H =>
      eBind H fun x3 hx3 H =>
      eN H fun r hn => gO [rg [hT 4], r0, rg [hE 3 ((sl 2 gi_Hex) x3)], .own 10 1, .canon [0, 1, 2, 3] [3, 7, 8, 9, 10, 32, 33, 34]] (by kernel_rfl) (P2 ((decide (n0 < (IntKind.wrap .i64 (((l2.length : Nat) : Int) - 1)))) = true) (decide_eq_true h1) <| P1 h2 <| P1 (int_lt_of_at h2 hx3) <| P1 (at_map (sl 2 gi_Hex) hx3) <| P0) hn)
    (fun h1 H =>
      eN H <| gE func176 [rg [hF 4], r0] (by kernel_rfl) (P2 ((decide (n0 < (IntKind.wrap .i64 (((l2.length : Nat) : Int) - 1)))) = false) (decide_eq_false h1) <| P0))
theorem ws_vCells : ∀ s r, loop Bs_vCells s = some r → Wc X 176 0 (Ks_vCells s) (Zs_vCells s) (Rs_vCells r) ((fun _ => []) r) := Nx.all ns_vCells
theorem cs_vCells {a0 : Gi_Board} {a1 : Int} {a2 : Int} {r : (List (List Int))} (H : Ds_vCells a0 a1 a2 = some r) : Ct X.P X.gl 176 [.agg [sl 5 gi_Terrain a0.Rules.Terrains, sl 6 gi_Kind a0.Rules.Kinds, I a0.Rules.Stack, I a0.Rules.River, I a0.Rules.Road, I a0.Rules.Supply, I a0.Rules.Turns, I a0.Map.Width, I a0.Map.Height, sl 1 I a0.Map.Terrain, sl 1 I a0.Map.Rivers, sl 1 I a0.Map.Roads], I a1, I a2] [] (Rs_vCells r) [] :=
  Ct.of func176 (c := bdy f176) (by kernel_rfl) (by kernel_rfl) <|
  eBind H fun r1 hr1 H =>
  eBind H fun r2 hr2 H =>
  eBind H fun r3 hr3 H =>
  gO [r0, rg [hC 3 true [] (Rs_mHex r1) [], hC 7 true [] (Rs_mHex r2) [], hC 8 true [] (Rs_hLine r3) []], r0, r0, .own 8 1, .canon [0, 1, 2] [3, 7, 8, 9]] (by kernel_rfl) (P1 (cs_mHex hr1) <| P1 (cs_mHex hr2) <| P1 (cs_hLine hr3) <| P0) (ws_vCells _ _ H)
/-! loop example/g00886/spec vHeight -/
theorem cs_vHeight {a0 : Gi_Board} {a1 : Int} {r : Int} (H : Ds_vHeight a0 a1 = some r) : Ct X.P X.gl 192 [.agg [sl 5 gi_Terrain a0.Rules.Terrains, sl 6 gi_Kind a0.Rules.Kinds, I a0.Rules.Stack, I a0.Rules.River, I a0.Rules.Road, I a0.Rules.Supply, I a0.Rules.Turns, I a0.Map.Width, I a0.Map.Height, sl 1 I a0.Map.Terrain, sl 1 I a0.Map.Rivers, sl 1 I a0.Map.Roads], I a1] [] (RI r) [] :=
  Ct.of func192 (c := bdy f192) (by kernel_rfl) (by kernel_rfl) <|
  eBind H fun r1 hr1 H =>
  gS [r0, rg [hC 2 true [] (Rs_bTerrain r1) []]] (by kernel_rfl) (P1 (cs_bTerrain hr1) <| P0) <|
  eIf H (fun h2 H =>
    eW RI (fun _ => []) H <| gE func192 [rg [hT 1], r0] (by kernel_rfl) (P2 (r1.Blocks = true) (h2) <| P0))
  (fun h2 H =>
    eW RI (fun _ => []) H <| gE func192 [rg [hF 1], r0] (by kernel_rfl) (P2 (r1.Blocks = false) (eqF h2) <| P0))
/-! loop example/g00886/spec vBlocks -/
theorem cs_vBlocks {a0 : Gi_Board} {a1 : Int} {a2 : Int} {a3 : Int} {r : Bool} (H : Ds_vBlocks a0 a1 a2 a3 = some r) : Ct X.P X.gl 189 [.agg [sl 5 gi_Terrain a0.Rules.Terrains, sl 6 gi_Kind a0.Rules.Kinds, I a0.Rules.Stack, I a0.Rules.River, I a0.Rules.Road, I a0.Rules.Supply, I a0.Rules.Turns, I a0.Map.Width, I a0.Map.Height, sl 1 I a0.Map.Terrain, sl 1 I a0.Map.Rivers, sl 1 I a0.Map.Roads], I a1, I a2, I a3] [] (RB r) [] :=
  Ct.of func189 (c := bdy f189) (by kernel_rfl) (by kernel_rfl) <|
  eBind H fun r1 hr1 H =>
  eBind H fun r2 hr2 H =>
  eBind H fun r3 hr3 H =>
  eBind H fun r4 hr4 H =>
  eW RB (fun _ => []) H <| gE func189 [r0, rg [hC 2 true [] (RI r1) [], hC 5 true [] (Rs_bTerrain r2) [], hC 9 true [] (Rs_bTerrain r3) [], hC 11 true [] (RI r4) []]] (by kernel_rfl) (P1 (cs_vHeight hr1) <| P1 (cs_bTerrain hr2) <| P1 (cs_bTerrain hr3) <| P1 (cs_l1Most hr4) <| P0)
/-! loop example/g00886/spec vCount -/
noncomputable def Ks_vCount : Ss_vCount → List Item
  | .h1 .. => nav 300 3 [] [.code (bdy f177)]
def Zs_vCount : Ss_vCount → St
  | .h1 i0 k1 n2 t3 t4 t5 b6 => ⟨sts 27 [(1, I i0), (2, I k1), (4, .ptr 0 12 0 0), (9, I n2), (12, sl 1 I t3), (13, I t4), (14, I t5)], [some ⟨false, true, 12, 1, [.agg [sl 5 gi_Terrain b6.Rules.Terrains, sl 6 gi_Kind b6.Rules.Kinds, I b6.Rules.Stack, I b6.Rules.River, I b6.Rules.Road, I b6.Rules.Supply, I b6.Rules.Turns, I b6.Map.Width, I b6.Map.Height, sl 1 I b6.Map.Terrain, sl 1 I b6.Map.Rivers, sl 1 I b6.Map.Roads]]⟩]⟩
abbrev Qs_vCount := Nx X 177 0 Ks_vCount Zs_vCount RI (fun _ => [])
theorem ns_vCount : ∀ s o, Bs_vCount s = some o → Qs_vCount (Ks_vCount s) (Zs_vCount s) o
  | .h1 i0 k1 n2 t3 t4 t5 b6, o, H =>
    eIf H (fun h1 H =>
      eCk H fun h2 H =>
      eBind H fun x3 hx3 H =>
      eBind H fun r4 hr4 H =>
      gN [rg [hT 0], rg [hE 1 (I x3)]] (by kernel_rfl) (P2 ((decide (t5 < t4)) = true) (decide_eq_true h1) <| P1 h2 <| P1 (int_lt_of_at h2 hx3) <| P1 (at_map I hx3) <| P0) <|
      eIf H (fun h5 H =>
        eN H fun r hn => gO [rg [{ i := 4, call := some { cl := true, auto := true, ins := [], res := (RB r4), G' := [] }, dec := some true }], r0, r0, .canon [0] [1, 2, 4, 9, 12, 13, 14]] (by kernel_rfl) (P1 (cs_vBlocks hr4) <| P2 (r4 = true) (h5) <| P0) hn)
      (fun h5 H =>
        eN H fun r hn => gO [rg [{ i := 4, call := some { cl := true, auto := true, ins := [], res := (RB r4), G' := [] }, dec := some false }], r0, .canon [0] [1, 2, 4, 9, 12, 13, 14]] (by kernel_rfl) (P1 (cs_vBlocks hr4) <| P2 (r4 = false) (eqF h5) <| P0) hn))
    (fun h1 H =>
      eN H <| gE func177 [rg [hF 0], r0] (by kernel_rfl) (P2 ((decide (t5 < t4)) = false) (decide_eq_false h1) <| P0))
theorem ws_vCount : ∀ s r, loop Bs_vCount s = some r → Wc X 177 0 (Ks_vCount s) (Zs_vCount s) (RI r) ((fun _ => []) r) := Nx.all ns_vCount
theorem cs_vCount {a0 : Gi_Board} {a1 : Int} {a2 : Int} {a3 : (List Int)} {r : Int} (H : Ds_vCount a0 a1 a2 a3 = some r) : Ct X.P X.gl 177 [.agg [sl 5 gi_Terrain a0.Rules.Terrains, sl 6 gi_Kind a0.Rules.Kinds, I a0.Rules.Stack, I a0.Rules.River, I a0.Rules.Road, I a0.Rules.Supply, I a0.Rules.Turns, I a0.Map.Width, I a0.Map.Height, sl 1 I a0.Map.Terrain, sl 1 I a0.Map.Rivers, sl 1 I a0.Map.Roads], I a1, I a2, sl 1 I a3] [] (RI r) [] :=
  Ct.of func177 (c := bdy f177) (by kernel_rfl) (by kernel_rfl) <|
  gO [r0, r0, r0, .canon [0] [1, 2, 4, 9, 12, 13, 14]] (by kernel_rfl) P0 (ws_vCount _ _ H)
/-! loop example/g00886/spec vFirst -/
noncomputable def Ks_vFirst : Ss_vFirst → List Item
  | .h1 .. => nav 300 2 [] [.code (bdy f175)]
  | .h2 .. => nav 300 6 [true, false] [.code (bdy f175)]
def Zs_vFirst : Ss_vFirst → St
  | .h1 i0 k1 t2 t3 b4 l5 => ⟨sts 29 [(1, I i0), (2, I k1), (3, .ptr 0 12 0 0), (12, .ref 1 1 none), (13, I t2), (14, I t3)], [some ⟨false, true, 12, 1, [.agg [sl 5 gi_Terrain b4.Rules.Terrains, sl 6 gi_Kind b4.Rules.Kinds, I b4.Rules.Stack, I b4.Rules.River, I b4.Rules.Road, I b4.Rules.Supply, I b4.Rules.Turns, I b4.Map.Width, I b4.Map.Height, sl 1 I b4.Map.Terrain, sl 1 I b4.Map.Rivers, sl 1 I b4.Map.Roads]]⟩, some ⟨false, false, 1, l5.length, List.map (ow 1 I) l5⟩]⟩
  | .h2 i0 k1 t2 t3 b4 l5 => ⟨sts 29 [(1, I i0), (2, I k1), (3, .ptr 0 12 0 0), (12, .ref 1 1 none), (13, I t2), (14, I t3)], [some ⟨false, true, 12, 1, [.agg [sl 5 gi_Terrain b4.Rules.Terrains, sl 6 gi_Kind b4.Rules.Kinds, I b4.Rules.Stack, I b4.Rules.River, I b4.Rules.Road, I b4.Rules.Supply, I b4.Rules.Turns, I b4.Map.Width, I b4.Map.Height, sl 1 I b4.Map.Terrain, sl 1 I b4.Map.Rivers, sl 1 I b4.Map.Roads]]⟩, some ⟨true, false, 1, l5.length, List.map (sl 1 I) l5⟩]⟩
abbrev Qs_vFirst := Nx X 175 0 Ks_vFirst Zs_vFirst RI (fun _ => [])
theorem ns_vFirst : ∀ s o, Bs_vFirst s = some o → Qs_vFirst (Ks_vFirst s) (Zs_vFirst s) o
  | .h1 i0 k1 t2 t3 b4 l5, o, H =>
    eIf H (fun h1 H =>
      eCk H fun h2 H =>
      eBind H fun x3 hx3 H =>
      eBind H fun r4 hr4 H =>
      gN [rg [hT 0], .frz 1, .er 1 (List.map (sl 1 I) l5), rg [hE 2 ((sl 1 I) x3)]] (by kernel_rfl) (P2 ((decide (t3 < t2)) = true) (decide_eq_true h1) <| P2 (erL (List.map (ow 1 I) l5) = erL (List.map (sl 1 I) l5)) (erL_map2 ero_28 l5) <| P1 h2 <| P1 (int_lt_of_at h2 hx3) <| P1 (at_map (sl 1 I) hx3) <| P0) <|
      eIf H (fun h5 H =>
        eN H <| gE func175 [rg [hC 4 true [] (RI r4) [], hT 7], r0] (by kernel_rfl) (P1 (cs_vCount hr4) <| P2 (((r4 : Int) == ((x3.length : Nat) : Int)) = true) (beqT h5) <| P0))
      (fun h5 H =>
        eN H fun r hn => gO [rg [hC 4 true [] (RI r4) [], hF 7], r0, .canon [0, 1] [1, 2, 3, 12, 13, 14]] (by kernel_rfl) (P1 (cs_vCount hr4) <| P2 (((r4 : Int) == ((x3.length : Nat) : Int)) = false) (beqF h5) <| P0) hn))
    (fun h1 H =>
      eN H <| gE func175 [rg [hF 0], r0] (by kernel_rfl) (P2 ((decide (t3 < t2)) = false) (decide_eq_false h1) <| P0))
  | .h2 i0 k1 t2 t3 b4 l5, o, H =>
    eIf H (fun h1 H =>
      eCk H fun h2 H =>
      eBind H fun x3 hx3 H =>
      eBind H fun r4 hr4 H =>
      gN [rg [hT 0], rg [hE 2 ((sl 1 I) x3)]] (by kernel_rfl) (P2 ((decide (t3 < t2)) = true) (decide_eq_true h1) <| P1 h2 <| P1 (int_lt_of_at h2 hx3) <| P1 (at_map (sl 1 I) hx3) <| P0) <|
      eIf H (fun h5 H =>
        eN H <| gE func175 [rg [hC 4 true [] (RI r4) [], hT 7], r0] (by kernel_rfl) (P1 (cs_vCount hr4) <| P2 (((r4 : Int) == ((x3.length : Nat) : Int)) = true) (beqT h5) <| P0))
      (fun h5 H =>
        eN H fun r hn => gO [rg [hC 4 true [] (RI r4) [], hF 7], r0, .canon [0, 1] [1, 2, 3, 12, 13, 14]] (by kernel_rfl) (P1 (cs_vCount hr4) <| P2 (((r4 : Int) == ((x3.length : Nat) : Int)) = false) (beqF h5) <| P0) hn))
    (fun h1 H =>
      eN H <| gE func175 [rg [hF 0], r0] (by kernel_rfl) (P2 ((decide (t3 < t2)) = false) (decide_eq_false h1) <| P0))
theorem ws_vFirst : ∀ s r, loop Bs_vFirst s = some r → Wc X 175 0 (Ks_vFirst s) (Zs_vFirst s) (RI r) ((fun _ => []) r) := Nx.all ns_vFirst
theorem cs_vFirst {a0 : Gi_Board} {a1 : Int} {a2 : Int} {r : Int} (H : Ds_vFirst a0 a1 a2 = some r) : Ct X.P X.gl 175 [.agg [sl 5 gi_Terrain a0.Rules.Terrains, sl 6 gi_Kind a0.Rules.Kinds, I a0.Rules.Stack, I a0.Rules.River, I a0.Rules.Road, I a0.Rules.Supply, I a0.Rules.Turns, I a0.Map.Width, I a0.Map.Height, sl 1 I a0.Map.Terrain, sl 1 I a0.Map.Rivers, sl 1 I a0.Map.Roads], I a1, I a2] [] (RI r) [] :=
  Ct.of func175 (c := bdy f175) (by kernel_rfl) (by kernel_rfl) <|
  eBind H fun r1 hr1 H =>
  gO [r0, rg [hC 3 true [] (Rs_vCells r1) []], .canon [0, 1] [1, 2, 3, 12, 13, 14]] (by kernel_rfl) (P1 (cs_vCells hr1) <| P0) (ws_vFirst _ _ H)
/-! loop example/g00886/spec vCode -/
noncomputable def Ks_vCode : Ss_vCode → List Item
  | .h1 .. => nav 300 3 [false] [.code (bdy f151)]
  | .h2 .. => nav 300 7 [false, true, false] [.code (bdy f151)]
def Zs_vCode : Ss_vCode → St
  | .h1 i0 k1 t2 t3 b4 l5 => ⟨sts 30 [(1, I i0), (2, I k1), (3, .ptr 0 12 0 0), (17, .ref 1 1 none), (18, I t2), (19, I t3)], [some ⟨false, true, 12, 1, [.agg [sl 5 gi_Terrain b4.Rules.Terrains, sl 6 gi_Kind b4.Rules.Kinds, I b4.Rules.Stack, I b4.Rules.River, I b4.Rules.Road, I b4.Rules.Supply, I b4.Rules.Turns, I b4.Map.Width, I b4.Map.Height, sl 1 I b4.Map.Terrain, sl 1 I b4.Map.Rivers, sl 1 I b4.Map.Roads]]⟩, some ⟨false, false, 1, l5.length, List.map (ow 1 I) l5⟩]⟩
  | .h2 i0 k1 t2 t3 b4 l5 => ⟨sts 30 [(1, I i0), (2, I k1), (3, .ptr 0 12 0 0), (17, .ref 1 1 none), (18, I t2), (19, I t3)], [some ⟨false, true, 12, 1, [.agg [sl 5 gi_Terrain b4.Rules.Terrains, sl 6 gi_Kind b4.Rules.Kinds, I b4.Rules.Stack, I b4.Rules.River, I b4.Rules.Road, I b4.Rules.Supply, I b4.Rules.Turns, I b4.Map.Width, I b4.Map.Height, sl 1 I b4.Map.Terrain, sl 1 I b4.Map.Rivers, sl 1 I b4.Map.Roads]]⟩, some ⟨true, false, 1, l5.length, List.map (sl 1 I) l5⟩]⟩
abbrev Qs_vCode := Nx X 151 0 Ks_vCode Zs_vCode RI (fun _ => [])
theorem ns_vCode : ∀ s o, Bs_vCode s = some o → Qs_vCode (Ks_vCode s) (Zs_vCode s) o
  | .h1 i0 k1 t2 t3 b4 l5, o, H =>
    eIf H (fun h1 H =>
      eCk H fun h2 H =>
      eBind H fun x3 hx3 H =>
      eBind H fun r4 hr4 H =>
      gN [rg [hT 0], .frz 1, .er 1 (List.map (sl 1 I) l5), rg [hE 1 ((sl 1 I) x3)]] (by kernel_rfl) (P2 ((decide (t3 < t2)) = true) (decide_eq_true h1) <| P2 (erL (List.map (ow 1 I) l5) = erL (List.map (sl 1 I) l5)) (erL_map2 ero_28 l5) <| P1 h2 <| P1 (int_lt_of_at h2 hx3) <| P1 (at_map (sl 1 I) hx3) <| P0) <|
      eIf H (fun h5 H =>
        eN H <| gE func151 [rg [hC 4 true [] (RI r4) [], hT 5], r0] (by kernel_rfl) (P1 (cs_vCount hr4) <| P2 ((decide (r4 > 0)) = true) (decide_eq_true h5) <| P0))
      (fun h5 H =>
        eN H fun r hn => gO [rg [hC 4 true [] (RI r4) [], hF 5], r0, .canon [0, 1] [1, 2, 3, 17, 18, 19]] (by kernel_rfl) (P1 (cs_vCount hr4) <| P2 ((decide (r4 > 0)) = false) (decide_eq_false h5) <| P0) hn))
    (fun h1 H =>
      eN H <| gE func151 [rg [hF 0], r0] (by kernel_rfl) (P2 ((decide (t3 < t2)) = false) (decide_eq_false h1) <| P0))
  | .h2 i0 k1 t2 t3 b4 l5, o, H =>
    eIf H (fun h1 H =>
      eCk H fun h2 H =>
      eBind H fun x3 hx3 H =>
      eBind H fun r4 hr4 H =>
      gN [rg [hT 0], rg [hE 1 ((sl 1 I) x3)]] (by kernel_rfl) (P2 ((decide (t3 < t2)) = true) (decide_eq_true h1) <| P1 h2 <| P1 (int_lt_of_at h2 hx3) <| P1 (at_map (sl 1 I) hx3) <| P0) <|
      eIf H (fun h5 H =>
        eN H <| gE func151 [rg [hC 4 true [] (RI r4) [], hT 5], r0] (by kernel_rfl) (P1 (cs_vCount hr4) <| P2 ((decide (r4 > 0)) = true) (decide_eq_true h5) <| P0))
      (fun h5 H =>
        eN H fun r hn => gO [rg [hC 4 true [] (RI r4) [], hF 5], r0, .canon [0, 1] [1, 2, 3, 17, 18, 19]] (by kernel_rfl) (P1 (cs_vCount hr4) <| P2 ((decide (r4 > 0)) = false) (decide_eq_false h5) <| P0) hn))
    (fun h1 H =>
      eN H <| gE func151 [rg [hF 0], r0] (by kernel_rfl) (P2 ((decide (t3 < t2)) = false) (decide_eq_false h1) <| P0))
theorem ws_vCode : ∀ s r, loop Bs_vCode s = some r → Wc X 151 0 (Ks_vCode s) (Zs_vCode s) (RI r) ((fun _ => []) r) := Nx.all ns_vCode
theorem cs_vCode {a0 : Gi_Board} {a1 : Int} {a2 : Int} {r : Int} (H : Ds_vCode a0 a1 a2 = some r) : Ct X.P X.gl 151 [.agg [sl 5 gi_Terrain a0.Rules.Terrains, sl 6 gi_Kind a0.Rules.Kinds, I a0.Rules.Stack, I a0.Rules.River, I a0.Rules.Road, I a0.Rules.Supply, I a0.Rules.Turns, I a0.Map.Width, I a0.Map.Height, sl 1 I a0.Map.Terrain, sl 1 I a0.Map.Rivers, sl 1 I a0.Map.Roads], I a1, I a2] [] (RI r) [] :=
  Ct.of func151 (c := bdy f151) (by kernel_rfl) (by kernel_rfl) <|
  eBind H fun r1 hr1 H =>
  gS [r0] (by kernel_rfl) P0 <|
  eIf H (fun h2 H =>
    eW RI (fun _ => []) H <| gE func151 [rg [hC 3 true [] (RI r1) [], hT 4], r0] (by kernel_rfl) (P1 (cs_vFirst hr1) <| P2 ((decide (r1 ≥ 0)) = true) (decide_eq_true h2) <| P0))
  (fun h2 H =>
    eBind H fun r3 hr3 H =>
    gO [rg [hC 3 true [] (RI r1) [], hF 4], rg [hC 3 true [] (Rs_vCells r3) []], .canon [0, 1] [1, 2, 3, 17, 18, 19]] (by kernel_rfl) (P1 (cs_vFirst hr1) <| P2 ((decide (r1 ≥ 0)) = false) (decide_eq_false h2) <| P1 (cs_vCells hr3) <| P0) (ws_vCode _ _ H))
/-! loop example/g00886/spec vSeen -/
def Rs_vSeen (r : (List Int)) : List D := [ow 1 I r]
noncomputable def Ks_vSeen : Ss_vSeen → List Item
  | .h1 .. => nav 300 3 [] [.code (bdy f99)]
def Zs_vSeen : Ss_vSeen → St
  | .h1 i0 most1 t2 t3 b4 l5 l6 => ⟨sts 34 [(1, I i0), (3, I most1), (4, .ptr 0 12 0 0), (9, .ref 1 1 none), (16, .ref 2 1 none), (17, I t2), (18, I t3)], [some ⟨false, true, 12, 1, [.agg [sl 5 gi_Terrain b4.Rules.Terrains, sl 6 gi_Kind b4.Rules.Kinds, I b4.Rules.Stack, I b4.Rules.River, I b4.Rules.Road, I b4.Rules.Supply, I b4.Rules.Turns, I b4.Map.Width, I b4.Map.Height, sl 1 I b4.Map.Terrain, sl 1 I b4.Map.Rivers, sl 1 I b4.Map.Roads]]⟩, some ⟨false, false, 1, l5.length, List.map I l5⟩, some ⟨false, false, 1, l6.length, List.map I l6⟩]⟩
abbrev Qs_vSeen := Nx X 99 0 Ks_vSeen Zs_vSeen Rs_vSeen (fun _ => [])
theorem ns_vSeen : ∀ s o, Bs_vSeen s = some o → Qs_vSeen (Ks_vSeen s) (Zs_vSeen s) o
  | .h1 i0 most1 t2 t3 b4 l5 l6, o, H =>
    eIf H (fun h1 H =>
      eCk H fun h2 H =>
      eBind H fun x3 hx3 H =>
      eBind H fun r4 hr4 H =>
      gN [rg [hT 0], rg [hE 1 (I x3)]] (by kernel_rfl) (P2 ((decide (t3 < t2)) = true) (decide_eq_true h1) <| P1 h2 <| P1 (int_lt_of_at h2 hx3) <| P1 (at_map I hx3) <| P0) <|
      eIf H (fun h5 H =>
        eCk H fun h6 H =>
        eN H fun r hn => gO [rg [hC 3 true [] (RI r4) [], hT 5], rg [hA 3 ((l5 ++ [x3]).length) (List.map I (l5 ++ [x3]))], r0, .canon [0, 4, 2] [1, 3, 4, 9, 16, 17, 18]] (by kernel_rfl) (P1 (cs_vCode hr4) <| P2 ((decide (r4 ≤ most1)) = true) (decide_eq_true h5) <| P1 (apL l5 [x3]) <| P1 (apB h6) <| P1 (apM I l5 [x3]) <| P0) hn)
      (fun h5 H =>
        eN H fun r hn => gO [rg [hC 3 true [] (RI r4) [], hF 5], r0, .canon [0, 1, 2] [1, 3, 4, 9, 16, 17, 18]] (by kernel_rfl) (P1 (cs_vCode hr4) <| P2 ((decide (r4 ≤ most1)) = false) (decide_eq_false h5) <| P0) hn))
    (fun h1 H =>
      eN H <| gE func99 [rg [hF 0], r0] (by kernel_rfl) (P2 ((decide (t3 < t2)) = false) (decide_eq_false h1) <| P0))
theorem ws_vSeen : ∀ s r, loop Bs_vSeen s = some r → Wc X 99 0 (Ks_vSeen s) (Zs_vSeen s) (Rs_vSeen r) ((fun _ => []) r) := Nx.all ns_vSeen
theorem cs_vSeen {a0 : Gi_Board} {a1 : Int} {a2 : Int} {a3 : Int} {r : (List Int)} (H : Ds_vSeen a0 a1 a2 a3 = some r) : Ct X.P X.gl 99 [.agg [sl 5 gi_Terrain a0.Rules.Terrains, sl 6 gi_Kind a0.Rules.Kinds, I a0.Rules.Stack, I a0.Rules.River, I a0.Rules.Road, I a0.Rules.Supply, I a0.Rules.Turns, I a0.Map.Width, I a0.Map.Height, sl 1 I a0.Map.Terrain, sl 1 I a0.Map.Rivers, sl 1 I a0.Map.Roads], I a1, I a2, I a3] [] (Rs_vSeen r) [] :=
  Ct.of func99 (c := bdy f99) (by kernel_rfl) (by kernel_rfl) <|
  eBind H fun r1 hr1 H =>
  gO [r0, r0, rg [hC 4 true [] (Rs_mNear r1) []], .own 9 1, .canon [0, 2, 1] [1, 3, 4, 9, 16, 17, 18]] (by kernel_rfl) (P1 (cs_mNear hr1) <| P0) (ws_vSeen _ _ H)
/-! loop example/g00886/spec vBy -/
def Rs_vBy (r : (List Int)) : List D := [ow 1 I r]
theorem cs_vBy {a0 : Gi_Board} {a1 : Int} {a2 : Int} {r : (List Int)} (H : Ds_vBy a0 a1 a2 = some r) : Ct X.P X.gl 50 [.agg [sl 5 gi_Terrain a0.Rules.Terrains, sl 6 gi_Kind a0.Rules.Kinds, I a0.Rules.Stack, I a0.Rules.River, I a0.Rules.Road, I a0.Rules.Supply, I a0.Rules.Turns, I a0.Map.Width, I a0.Map.Height, sl 1 I a0.Map.Terrain, sl 1 I a0.Map.Rivers, sl 1 I a0.Map.Roads], I a1, I a2] [] (Rs_vBy r) [] :=
  Ct.of func50 (c := bdy f50) (by kernel_rfl) (by kernel_rfl) <|
  eCk H fun h1 H =>
  eBind H fun x2 hx2 H =>
  eBind H fun r3 hr3 H =>
  eW Rs_vBy (fun _ => []) H <| gE func50 [r0, rg [hE 8 (gi_Kind x2), hC 9 true [] (Rs_vSeen r3) []]] (by kernel_rfl) (P1 h1 <| P1 (int_lt_of_at h1 hx2) <| P1 (at_map gi_Kind hx2) <| P1 (cs_vSeen hr3) <| P0)
/-! loop example/g00886/spec BestLookout -/
def Rs_BestLookout (r : Int × Int × Bool) : List D := [I r.1, I r.2.1, .bool r.2.2]
noncomputable def Ks_BestLookout : Ss_BestLookout → List Item
  | .h1 .. => nav 300 4 [false] [.code (bdy f10)]
def Zs_BestLookout : Ss_BestLookout → St
  | .h1 kind0 best1 most2 t3 t4 b5 l6 => ⟨sts 44 [(1, I kind0), (2, .ptr 0 12 0 0), (7, I best1), (8, I most2), (25, .ref 1 1 none), (26, I t3), (27, I t4)], [some ⟨false, true, 12, 1, [.agg [sl 5 gi_Terrain b5.Rules.Terrains, sl 6 gi_Kind b5.Rules.Kinds, I b5.Rules.Stack, I b5.Rules.River, I b5.Rules.Road, I b5.Rules.Supply, I b5.Rules.Turns, I b5.Map.Width, I b5.Map.Height, sl 1 I b5.Map.Terrain, sl 1 I b5.Map.Rivers, sl 1 I b5.Map.Roads]]⟩, some ⟨false, false, 1, l6.length, List.map I l6⟩]⟩
abbrev Qs_BestLookout := Nx X 10 0 Ks_BestLookout Zs_BestLookout Rs_BestLookout (fun _ => [])
theorem ns_BestLookout : ∀ s o, Bs_BestLookout s = some o → Qs_BestLookout (Ks_BestLookout s) (Zs_BestLookout s) o
  | .h1 kind0 best1 most2 t3 t4 b5 l6, o, H =>
    eIf H (fun h1 H =>
      eCk H fun h2 H =>
      eBind H fun x3 hx3 H =>
      eBind H fun r4 hr4 H =>
      gN [rg [hT 0], rg [hE 1 (I x3)], rg [hC 3 true [] (Rs_vBy r4) []]] (by kernel_rfl) (P2 ((decide (t4 < t3)) = true) (decide_eq_true h1) <| P1 h2 <| P1 (int_lt_of_at h2 hx3) <| P1 (at_map I hx3) <| P1 (cs_vBy hr4) <| P0) <|
      eIf H (fun h5 H =>
        eN H fun r hn => gO [rg [hT 2], r0, r0, r0, .canon [0, 1] [1, 2, 7, 8, 25, 26, 27]] (by kernel_rfl) (P2 ((decide (((r4.length : Nat) : Int) > most2)) = true) (decide_eq_true h5) <| P0) hn)
      (fun h5 H =>
        eN H fun r hn => gO [rg [hF 2], r0, .canon [0, 1] [1, 2, 7, 8, 25, 26, 27]] (by kernel_rfl) (P2 ((decide (((r4.length : Nat) : Int) > most2)) = false) (decide_eq_false h5) <| P0) hn))
    (fun h1 H =>
      eN H <| gE func10 [rg [hF 0], r0] (by kernel_rfl) (P2 ((decide (t4 < t3)) = false) (decide_eq_false h1) <| P0))
theorem ws_BestLookout : ∀ s r, loop Bs_BestLookout s = some r → Wc X 10 0 (Ks_BestLookout s) (Zs_BestLookout s) (Rs_BestLookout r) ((fun _ => []) r) := Nx.all ns_BestLookout
theorem cs_BestLookout {a0 : Gi_Board} {a1 : Int} {r : Int × Int × Bool} (H : Ds_BestLookout a0 a1 = some r) : Ct X.P X.gl 10 [.agg [sl 5 gi_Terrain a0.Rules.Terrains, sl 6 gi_Kind a0.Rules.Kinds, I a0.Rules.Stack, I a0.Rules.River, I a0.Rules.Road, I a0.Rules.Supply, I a0.Rules.Turns, I a0.Map.Width, I a0.Map.Height, sl 1 I a0.Map.Terrain, sl 1 I a0.Map.Rivers, sl 1 I a0.Map.Roads], I a1] [] (Rs_BestLookout r) [] :=
  Ct.of func10 (c := bdy f10) (by kernel_rfl) (by kernel_rfl) <|
  eBind H fun r1 hr1 H =>
  gS [r0] (by kernel_rfl) P0 <|
  eIf H (fun h2 H =>
    eBind H fun r3 hr3 H =>
    eIf H (fun h4 H =>
      eW Rs_BestLookout (fun _ => []) H <| gE func10 [rg [{ i := 2, call := some { cl := true, auto := true, ins := [], res := (RB r1), G' := [] }, dec := some true }, hC 7 true [] (Rs_bOpen r3) [], hT 9], r0] (by kernel_rfl) (P1 (cs_bAt hr1) <| P2 (r1 = true) (h2) <| P1 (cs_bOpen hr3) <| P2 (((((r3.length : Nat) : Int) : Int) == 0) = true) (beqT h4) <| P0))
    (fun h4 H =>
      eBind H fun r5 hr5 H =>
      gO [rg [{ i := 2, call := some { cl := true, auto := true, ins := [], res := (RB r1), G' := [] }, dec := some true }, hC 7 true [] (Rs_bOpen r3) [], hF 9], r0, rg [hC 2 true [] (Rs_bOpen r5) []], .canon [0, 2] [1, 2, 7, 8, 25, 26, 27]] (by kernel_rfl) (P1 (cs_bAt hr1) <| P2 (r1 = true) (h2) <| P1 (cs_bOpen hr3) <| P2 (((((r3.length : Nat) : Int) : Int) == 0) = false) (beqF h4) <| P1 (cs_bOpen hr5) <| P0) (ws_BestLookout _ _ H)))
  (fun h2 H =>
    eW Rs_BestLookout (fun _ => []) H <| gE func10 [rg [{ i := 2, call := some { cl := true, auto := true, ins := [], res := (RB r1), G' := [] }, dec := some false }], r0] (by kernel_rfl) (P1 (cs_bAt hr1) <| P2 (r1 = false) (eqF h2) <| P0))
/-! loop example/g00886/impl sizeOf -/
theorem ci_sizeOf {a0 : Gi_Board} {r : Int} (H : Di_sizeOf a0 = some r) : Ct X.P X.gl 52 [.agg [sl 5 gi_Terrain a0.Rules.Terrains, sl 6 gi_Kind a0.Rules.Kinds, I a0.Rules.Stack, I a0.Rules.River, I a0.Rules.Road, I a0.Rules.Supply, I a0.Rules.Turns, I a0.Map.Width, I a0.Map.Height, sl 1 I a0.Map.Terrain, sl 1 I a0.Map.Rivers, sl 1 I a0.Map.Roads]] [] (RI r) [] :=
  Ct.of func52 (c := bdy f52) (by kernel_rfl) (by kernel_rfl) <|
  eW RI (fun _ => []) H <| gE func52 [r0, r0] (by kernel_rfl) P0
/-! loop example/g00886/impl SeenBy -/
def Ri_SeenBy (r : (List Int) × Bool) : List D := [ow 1 I r.1, .bool r.2]
theorem ci_SeenBy {a0 : Gi_Board} {a1 : Int} {a2 : Int} {r : (List Int) × Bool} (H : Di_SeenBy a0 a1 a2 = some r) : Ct X.P X.gl 11 [.agg [sl 5 gi_Terrain a0.Rules.Terrains, sl 6 gi_Kind a0.Rules.Kinds, I a0.Rules.Stack, I a0.Rules.River, I a0.Rules.Road, I a0.Rules.Supply, I a0.Rules.Turns, I a0.Map.Width, I a0.Map.Height, sl 1 I a0.Map.Terrain, sl 1 I a0.Map.Rivers, sl 1 I a0.Map.Roads], I a1, I a2] [] (Ri_SeenBy r) [] :=
  Ct.of func11 (c := bdy f11) (by kernel_rfl) (by kernel_rfl) <|
  eBind H fun r1 hr1 H =>
  gS [r0] (by kernel_rfl) P0 <|
  eIf H (fun h2 H =>
    eBind H fun r3 hr3 H =>
    eBind H fun r4 hr4 H =>
    eIf H (fun h5 H =>
      eBind H fun r6 hr6 H =>
      eW Ri_SeenBy (fun _ => []) H <| gE func11 [rg [{ i := 2, call := some { cl := true, auto := true, ins := [], res := (RB r1), G' := [] }, dec := some true }, hC 7 true [] (RI r3) [], { i := 8, call := some { cl := true, auto := true, ins := [], res := (RB r4), G' := [] }, dec := some true }], rg [hC 3 true [] (Ri_seenBy r6) []]] (by kernel_rfl) (P1 (ci_isKindOf hr1) <| P2 (r1 = true) (h2) <| P1 (ci_sizeOf hr3) <| P1 (ci_isIndex hr4) <| P2 (r4 = true) (h5) <| P1 (ci_seenBy hr6) <| P0))
    (fun h5 H =>
      eW Ri_SeenBy (fun _ => []) H <| gE func11 [rg [{ i := 2, call := some { cl := true, auto := true, ins := [], res := (RB r1), G' := [] }, dec := some true }, hC 7 true [] (RI r3) [], { i := 8, call := some { cl := true, auto := true, ins := [], res := (RB r4), G' := [] }, dec := some false }], r0] (by kernel_rfl) (P1 (ci_isKindOf hr1) <| P2 (r1 = true) (h2) <| P1 (ci_sizeOf hr3) <| P1 (ci_isIndex hr4) <| P2 (r4 = false) (eqF h5) <| P0)))
  (fun h2 H =>
    eW Ri_SeenBy (fun _ => []) H <| gE func11 [rg [{ i := 2, call := some { cl := true, auto := true, ins := [], res := (RB r1), G' := [] }, dec := some false }], r0] (by kernel_rfl) (P1 (ci_isKindOf hr1) <| P2 (r1 = false) (eqF h2) <| P0))
/-!   loop example/g00886/spec l1Cur  place -/
def Rs_l1Cur_place (r : Int × Gs_l1Cur) : List D := [I r.1]
def Ns_l1Cur_place (r : Int × Gs_l1Cur) : List Root := [⟨false, true, 3, 1, [.agg [sl 1 (D.int .u8) r.2.code, I r.2.at_, .int .u64 r.2.seed]]⟩]
theorem cs_l1Cur_place {a0 : Gs_l1Cur} {a1 : Gi_Map} {r : Int × Gs_l1Cur} (H : Ds_l1Cur_place a0 a1 = some r) : Ct X.P X.gl 101 [.ptr 0 3 0 0, .agg [I a1.Width, I a1.Height, sl 1 I a1.Terrain, sl 1 I a1.Rivers, sl 1 I a1.Roads]] [⟨false, true, 3, 1, [.agg [sl 1 (D.int .u8) a0.code, I a0.at_, .int .u64 a0.seed]]⟩] (Rs_l1Cur_place r) (Ns_l1Cur_place r) :=
  Ct.of func101 (c := bdy f101) (by kernel_rfl) (by kernel_rfl) <|
  eBind H fun r1 hr1 H =>
  gS [r0] (by kernel_rfl) P0 <|
  eIf H (fun h2 H =>
    eBind H fun r3 hr3 H =>
    eBind H fun r4 hr4 H =>
    eW Rs_l1Cur_place Ns_l1Cur_place H <| gE func101 [rg [{ i := 1, call := some { cl := true, auto := true, ins := [0], res := (Rs_l1Cur_one r1), G' := (Ns_l1Cur_one r1) }, dec := some true }], rg [hC 2 true [] (RI r3) [], { i := 4, frz := [2], call := some { cl := true, auto := true, ins := [0], res := (Rs_l1Cur_among r4), G' := (Ns_l1Cur_among r4) } }]] (by kernel_rfl) (PI (1 : Nat) <| P1 (cs_l1Cur_one hr1) <| P2 (r1.1 = true) (h2) <| P1 (cs_mSize hr3) <| PI (1 : Nat) <| P1 (cs_l1Cur_among hr4) <| P0))
  (fun h2 H =>
    eBind H fun r3 hr3 H =>
    eBind H fun r4 hr4 H =>
    eBind H fun r5 hr5 H =>
    eW Rs_l1Cur_place Ns_l1Cur_place H <| gE func101 [rg [{ i := 1, call := some { cl := true, auto := true, ins := [0], res := (Rs_l1Cur_one r1), G' := (Ns_l1Cur_one r1) }, dec := some false }], rg [hC 2 true [] (RI r3) [], hC 3 true [] (RI r4) [], hC 4 true [0] (Rs_l1Cur_pick r5) (Ns_l1Cur_pick r5)]] (by kernel_rfl) (PI (1 : Nat) <| P1 (cs_l1Cur_one hr1) <| P2 (r1.1 = false) (eqF h2) <| P1 (cs_mSize hr3) <| P1 (cs_l1Most hr4) <| PI (1 : Nat) <| P1 (cs_l1Cur_pick hr5) <| P0))
/-! loop example/g00886/spec DrawEnterCost -/
def Rs_DrawEnterCost (r : Gi_Board × Int × Int) : List D := [.agg [sl 5 gi_Terrain r.1.Rules.Terrains, sl 6 gi_Kind r.1.Rules.Kinds, I r.1.Rules.Stack, I r.1.Rules.River, I r.1.Rules.Road, I r.1.Rules.Supply, I r.1.Rules.Turns, I r.1.Map.Width, I r.1.Map.Height, sl 1 I r.1.Map.Terrain, sl 1 I r.1.Map.Rivers, sl 1 I r.1.Map.Roads], I r.2.1, I r.2.2]
theorem cs_DrawEnterCost {a0 : (List Int)} {r : Gi_Board × Int × Int} (H : Ds_DrawEnterCost a0 = some r) : Ct X.P X.gl 53 [sl 1 (D.int .u8) a0] [] (Rs_DrawEnterCost r) [] :=
  Ct.of func53 (c := bdy f53) (by kernel_rfl) (by kernel_rfl) <|
  eBind H fun r1 hr1 H =>
  eBind H fun r2 hr2 H =>
  eBind H fun r3 hr3 H =>
  eW Rs_DrawEnterCost (fun _ => []) H <| gE func53 [r0, r0, rg [hC 1 true [1] (Rs_l1Cur_anyBoard r1) (Ns_l1Cur_anyBoard r1)], rg [{ i := 3, frz := [2, 3, 11, 12, 13], call := some { cl := true, ins := [1], args := [.ptr 0 3 0 0, .agg [sl 5 gi_Terrain r1.1.Rules.Terrains, sl 6 gi_Kind r1.1.Rules.Kinds, I r1.1.Rules.Stack, I r1.1.Rules.River, I r1.1.Rules.Road, I r1.1.Rules.Supply, I r1.1.Rules.Turns, I r1.1.Map.Width, I r1.1.Map.Height, sl 1 I r1.1.Map.Terrain, sl 1 I r1.1.Map.Rivers, sl 1 I r1.1.Map.Roads]], res := Rs_l1Cur_kindOf r2, G' := Ns_l1Cur_kindOf r2 }, post := [.er 2 (List.map gi_Terrain r1.1.Rules.Terrains)], xtra := [2] }, hC 7 true [1] (Rs_l1Cur_place r3) (Ns_l1Cur_place r3)]] (by kernel_rfl) (PI (1 : Nat) <| P1 (cs_l1Cur_anyBoard hr1) <| PI (0 : Nat) <| PI (0 : Nat) <| PE ero_127 r1.1.Rules.Terrains <| PL gi_Kind r1.1.Rules.Kinds <| PI (r1.1.Rules.Stack : Int) <| PI (r1.1.Rules.River : Int) <| PI (r1.1.Rules.Road : Int) <| PI (r1.1.Rules.Supply : Int) <| PI (r1.1.Rules.Turns : Int) <| PI (r1.1.Map.Width : Int) <| PI (r1.1.Map.Height : Int) <| PL I r1.1.Map.Terrain <| PL I r1.1.Map.Rivers <| PL I r1.1.Map.Roads <| PI (1 : Nat) <| P1 (cs_l1Cur_kindOf hr2) <| P2 (erL (List.map goi_Terrain r1.1.Rules.Terrains) = erL (List.map gi_Terrain r1.1.Rules.Terrains)) (erL_map2 ero_127 r1.1.Rules.Terrains) <| PI (1 : Nat) <| P1 (cs_l1Cur_place hr3) <| P0)
/-! loop example/g00886/spec DrawWatchersOf -/
def Rs_DrawWatchersOf (r : Gi_Board × Int × Int) : List D := [.agg [sl 5 gi_Terrain r.1.Rules.Terrains, sl 6 gi_Kind r.1.Rules.Kinds, I r.1.Rules.Stack, I r.1.Rules.River, I r.1.Rules.Road, I r.1.Rules.Supply, I r.1.Rules.Turns, I r.1.Map.Width, I r.1.Map.Height, sl 1 I r.1.Map.Terrain, sl 1 I r.1.Map.Rivers, sl 1 I r.1.Map.Roads], I r.2.1, I r.2.2]
theorem cs_DrawWatchersOf {a0 : (List Int)} {r : Gi_Board × Int × Int} (H : Ds_DrawWatchersOf a0 = some r) : Ct X.P X.gl 12 [sl 1 (D.int .u8) a0] [] (Rs_DrawWatchersOf r) [] :=
  Ct.of func12 (c := bdy f12) (by kernel_rfl) (by kernel_rfl) <|
  eBind H fun r1 hr1 H =>
  eW Rs_DrawWatchersOf (fun _ => []) H <| gE func12 [r0, rg [hC 1 true [] (Rs_DrawEnterCost r1) []]] (by kernel_rfl) (P1 (cs_DrawEnterCost hr1) <| P0)
/-! slices Index   int int  -/
noncomputable def Kslices_Index_int : Sslices_Index_int → List Item
  | .h1 .. => nav 300 2 [] [.code (bdy f102)]
def Zslices_Index_int : Sslices_Index_int → St
  | .h1 s0 v1 t2 t3 => ⟨sts 19 [(0, sl 1 I s0), (1, I v1), (7, I t2), (8, I t3)], []⟩
abbrev Qslices_Index_int := Nx X 102 0 Kslices_Index_int Zslices_Index_int RI (fun _ => [])
theorem nslices_Index_int : ∀ s o, Bslices_Index_int s = some o → Qslices_Index_int (Kslices_Index_int s) (Zslices_Index_int s) o
  | .h1 s0 v1 t2 t3, o, H =>
    eIf H (fun h1 H =>
      eCk H fun h2 H =>
      eBind H fun x3 hx3 H =>
      gN [rg [hT 0], r0] (by kernel_rfl) (P2 ((decide (t3 < t2)) = true) (decide_eq_true h1) <| P0) <|
      eIf H (fun h4 H =>
        eN H <| gE func102 [rg [hE 4 (I x3), hT 5], r0] (by kernel_rfl) (P1 h2 <| P1 (int_lt_of_at h2 hx3) <| P1 (at_map I hx3) <| P2 (((v1 : Int) == x3) = true) (beqT h4) <| P0))
      (fun h4 H =>
        eN H fun r hn => gO [rg [hE 4 (I x3), hF 5], r0, .canon [] [0, 1, 7, 8]] (by kernel_rfl) (P1 h2 <| P1 (int_lt_of_at h2 hx3) <| P1 (at_map I hx3) <| P2 (((v1 : Int) == x3) = false) (beqF h4) <| P0) hn))
    (fun h1 H =>
      eN H <| gE func102 [rg [hF 0], r0] (by kernel_rfl) (P2 ((decide (t3 < t2)) = false) (decide_eq_false h1) <| P0))
theorem wslices_Index_int : ∀ s r, loop Bslices_Index_int s = some r → Wc X 102 0 (Kslices_Index_int s) (Zslices_Index_int s) (RI r) ((fun _ => []) r) := Nx.all nslices_Index_int
theorem cslices_Index_int {a0 : (List Int)} {a1 : Int} {r : Int} (H : Dslices_Index_int a0 a1 = some r) : Ct X.P X.gl 102 [sl 1 I a0, I a1] [] (RI r) [] :=
  Ct.of func102 (c := bdy f102) (by kernel_rfl) (by kernel_rfl) <|
  gO [r0, r0, .canon [] [0, 1, 7, 8]] (by kernel_rfl) P0 (wslices_Index_int _ _ H)
/-! slices Contains   int int  -/
theorem cslices_Contains_int {a0 : (List Int)} {a1 : Int} {r : Bool} (H : Dslices_Contains_int a0 a1 = some r) : Ct X.P X.gl 54 [sl 1 I a0, I a1] [] (RB r) [] :=
  Ct.of func54 (c := bdy f54) (by kernel_rfl) (by kernel_rfl) <|
  eBind H fun r1 hr1 H =>
  eW RB (fun _ => []) H <| gE func54 [r0, rg [hC 2 true [] (RI r1) []]] (by kernel_rfl) (P1 (cslices_Index_int hr1) <| P0)
/-! loop example/g00886/impl WatchersOf -/
def Ri_WatchersOf (r : (List Int) × Bool) : List D := [ow 1 I r.1, .bool r.2]
noncomputable def Ki_WatchersOf : Si_WatchersOf → List Item
  | .h1 .. => nav 300 4 [false] [.code (bdy f13)]
def Zi_WatchersOf : Si_WatchersOf → St
  | .h1 kind0 k1 t2 t3 b4 l5 l6 => ⟨sts 43 [(1, I kind0), (2, I k1), (3, .ptr 0 12 0 0), (8, .ref 1 1 none), (25, .ref 2 1 none), (26, I t2), (27, I t3)], [some ⟨false, true, 12, 1, [.agg [sl 5 gi_Terrain b4.Rules.Terrains, sl 6 gi_Kind b4.Rules.Kinds, I b4.Rules.Stack, I b4.Rules.River, I b4.Rules.Road, I b4.Rules.Supply, I b4.Rules.Turns, I b4.Map.Width, I b4.Map.Height, sl 1 I b4.Map.Terrain, sl 1 I b4.Map.Rivers, sl 1 I b4.Map.Roads]]⟩, some ⟨false, false, 1, l5.length, List.map I l5⟩, some ⟨false, false, 1, l6.length, List.map I l6⟩]⟩
abbrev Qi_WatchersOf := Nx X 13 0 Ki_WatchersOf Zi_WatchersOf Ri_WatchersOf (fun _ => [])
theorem ni_WatchersOf : ∀ s o, Bi_WatchersOf s = some o → Qi_WatchersOf (Ki_WatchersOf s) (Zi_WatchersOf s) o
  | .h1 kind0 k1 t2 t3 b4 l5 l6, o, H =>
    eIf H (fun h1 H =>
      eCk H fun h2 H =>
      eBind H fun x3 hx3 H =>
      eBind H fun r4 hr4 H =>
      eBind H fun r5 hr5 H =>
      gN [rg [hT 0], rg [hE 1 (I x3)]] (by kernel_rfl) (P2 ((decide (t3 < t2)) = true) (decide_eq_true h1) <| P1 h2 <| P1 (int_lt_of_at h2 hx3) <| P1 (at_map I hx3) <| P0) <|
      eIf H (fun h6 H =>
        eCk H fun h7 H =>
        eN H fun r hn => gO [rg [hC 3 true [] (Ri_seenBy r4) [], { i := 5, call := some { cl := false, auto := true, ins := [], res := (RB r5), G' := [] }, dec := some true }], rg [hA 3 ((l5 ++ [x3]).length) (List.map I (l5 ++ [x3]))], r0, .canon [0, 5, 2] [1, 2, 3, 8, 25, 26, 27]] (by kernel_rfl) (P1 (ci_seenBy hr4) <| P1 (cslices_Contains_int hr5) <| P2 (r5 = true) (h6) <| P1 (apL l5 [x3]) <| P1 (apB h7) <| P1 (apM I l5 [x3]) <| P0) hn)
      (fun h6 H =>
        eN H fun r hn => gO [rg [hC 3 true [] (Ri_seenBy r4) [], { i := 5, call := some { cl := false, auto := true, ins := [], res := (RB r5), G' := [] }, dec := some false }], r0, .canon [0, 1, 2] [1, 2, 3, 8, 25, 26, 27]] (by kernel_rfl) (P1 (ci_seenBy hr4) <| P1 (cslices_Contains_int hr5) <| P2 (r5 = false) (eqF h6) <| P0) hn))
    (fun h1 H =>
      eN H <| gE func13 [rg [hF 0], r0] (by kernel_rfl) (P2 ((decide (t3 < t2)) = false) (decide_eq_false h1) <| P0))
theorem wi_WatchersOf : ∀ s r, loop Bi_WatchersOf s = some r → Wc X 13 0 (Ki_WatchersOf s) (Zi_WatchersOf s) (Ri_WatchersOf r) ((fun _ => []) r) := Nx.all ni_WatchersOf
theorem ci_WatchersOf {a0 : Gi_Board} {a1 : Int} {a2 : Int} {r : (List Int) × Bool} (H : Di_WatchersOf a0 a1 a2 = some r) : Ct X.P X.gl 13 [.agg [sl 5 gi_Terrain a0.Rules.Terrains, sl 6 gi_Kind a0.Rules.Kinds, I a0.Rules.Stack, I a0.Rules.River, I a0.Rules.Road, I a0.Rules.Supply, I a0.Rules.Turns, I a0.Map.Width, I a0.Map.Height, sl 1 I a0.Map.Terrain, sl 1 I a0.Map.Rivers, sl 1 I a0.Map.Roads], I a1, I a2] [] (Ri_WatchersOf r) [] :=
  Ct.of func13 (c := bdy f13) (by kernel_rfl) (by kernel_rfl) <|
  eBind H fun r1 hr1 H =>
  gS [r0] (by kernel_rfl) P0 <|
  eIf H (fun h2 H =>
    eBind H fun r3 hr3 H =>
    eBind H fun r4 hr4 H =>
    eIf H (fun h5 H =>
      eBind H fun r6 hr6 H =>
      gO [rg [{ i := 2, call := some { cl := true, auto := true, ins := [], res := (RB r1), G' := [] }, dec := some true }, hC 7 true [] (RI r3) [], { i := 8, call := some { cl := true, auto := true, ins := [], res := (RB r4), G' := [] }, dec := some true }], r0, rg [hC 2 true [] (Ri_openHexes r6) []], .canon [0, 1, 2] [1, 2, 3, 8, 25, 26, 27]] (by kernel_rfl) (P1 (ci_isKindOf hr1) <| P2 (r1 = true) (h2) <| P1 (ci_sizeOf hr3) <| P1 (ci_isIndex hr4) <| P2 (r4 = true) (h5) <| P1 (ci_openHexes hr6) <| P0) (wi_WatchersOf _ _ H))
    (fun h5 H =>
      eW Ri_WatchersOf (fun _ => []) H <| gE func13 [rg [{ i := 2, call := some { cl := true, auto := true, ins := [], res := (RB r1), G' := [] }, dec := some true }, hC 7 true [] (RI r3) [], { i := 8, call := some { cl := true, auto := true, ins := [], res := (RB r4), G' := [] }, dec := some false }], r0] (by kernel_rfl) (P1 (ci_isKindOf hr1) <| P2 (r1 = true) (h2) <| P1 (ci_sizeOf hr3) <| P1 (ci_isIndex hr4) <| P2 (r4 = false) (eqF h5) <| P0)))
  (fun h2 H =>
    eW Ri_WatchersOf (fun _ => []) H <| gE func13 [rg [{ i := 2, call := some { cl := true, auto := true, ins := [], res := (RB r1), G' := [] }, dec := some false }], r0] (by kernel_rfl) (P1 (ci_isKindOf hr1) <| P2 (r1 = false) (eqF h2) <| P0))
/-! loop example/g00886/spec l1Has -/
noncomputable def Ks_l1Has : Ss_l1Has → List Item
  | .h1 .. => nav 300 2 [] [.code (bdy f55)]
def Zs_l1Has : Ss_l1Has → St
  | .h1 n0 t1 t2 t3 => ⟨sts 17 [(1, I n0), (7, sl 1 I t1), (8, I t2), (9, I t3)], []⟩
abbrev Qs_l1Has := Nx X 55 0 Ks_l1Has Zs_l1Has RB (fun _ => [])
theorem ns_l1Has : ∀ s o, Bs_l1Has s = some o → Qs_l1Has (Ks_l1Has s) (Zs_l1Has s) o
  | .h1 n0 t1 t2 t3, o, H =>
    eIf H (fun h1 H =>
      eCk H fun h2 H =>
      eBind H fun x3 hx3 H =>
      gN [rg [hT 0], rg [hE 1 (I x3)]] (by kernel_rfl) (P2 ((decide (t3 < t2)) = true) (decide_eq_true h1) <| P1 h2 <| P1 (int_lt_of_at h2 hx3) <| P1 (at_map I hx3) <| P0) <|
      eIf H (fun h4 H =>
        eN H <| gE func55 [rg [hT 2], r0] (by kernel_rfl) (P2 (((x3 : Int) == n0) = true) (beqT h4) <| P0))
      (fun h4 H =>
        eN H fun r hn => gO [rg [hF 2], r0, .canon [] [1, 7, 8, 9]] (by kernel_rfl) (P2 (((x3 : Int) == n0) = false) (beqF h4) <| P0) hn))
    (fun h1 H =>
      eN H <| gE func55 [rg [hF 0], r0] (by kernel_rfl) (P2 ((decide (t3 < t2)) = false) (decide_eq_false h1) <| P0))
theorem ws_l1Has : ∀ s r, loop Bs_l1Has s = some r → Wc X 55 0 (Ks_l1Has s) (Zs_l1Has s) (RB r) ((fun _ => []) r) := Nx.all ns_l1Has
theorem cs_l1Has {a0 : (List Int)} {a1 : Int} {r : Bool} (H : Ds_l1Has a0 a1 = some r) : Ct X.P X.gl 55 [sl 1 I a0, I a1] [] (RB r) [] :=
  Ct.of func55 (c := bdy f55) (by kernel_rfl) (by kernel_rfl) <|
  gO [r0, r0, .canon [] [1, 7, 8, 9]] (by kernel_rfl) P0 (ws_l1Has _ _ H)
/-! loop example/g00886/spec WatchersOf -/
def Rs_WatchersOf (r : (List Int) × Bool) : List D := [ow 1 I r.1, .bool r.2]
noncomputable def Ks_WatchersOf : Ss_WatchersOf → List Item
  | .h1 .. => nav 300 4 [false] [.code (bdy f14)]
def Zs_WatchersOf : Ss_WatchersOf → St
  | .h1 kind0 k1 t2 t3 b4 l5 l6 => ⟨sts 36 [(1, I kind0), (2, I k1), (3, .ptr 0 12 0 0), (8, .ref 1 1 none), (18, .ref 2 1 none), (19, I t2), (20, I t3)], [some ⟨false, true, 12, 1, [.agg [sl 5 gi_Terrain b4.Rules.Terrains, sl 6 gi_Kind b4.Rules.Kinds, I b4.Rules.Stack, I b4.Rules.River, I b4.Rules.Road, I b4.Rules.Supply, I b4.Rules.Turns, I b4.Map.Width, I b4.Map.Height, sl 1 I b4.Map.Terrain, sl 1 I b4.Map.Rivers, sl 1 I b4.Map.Roads]]⟩, some ⟨false, false, 1, l5.length, List.map I l5⟩, some ⟨false, false, 1, l6.length, List.map I l6⟩]⟩
abbrev Qs_WatchersOf := Nx X 14 0 Ks_WatchersOf Zs_WatchersOf Rs_WatchersOf (fun _ => [])
theorem ns_WatchersOf : ∀ s o, Bs_WatchersOf s = some o → Qs_WatchersOf (Ks_WatchersOf s) (Zs_WatchersOf s) o
  | .h1 kind0 k1 t2 t3 b4 l5 l6, o, H =>
    eIf H (fun h1 H =>
      eCk H fun h2 H =>
      eBind H fun x3 hx3 H =>
      eBind H fun r4 hr4 H =>
      eBind H fun r5 hr5 H =>
      gN [rg [hT 0], rg [hE 1 (I x3)]] (by kernel_rfl) (P2 ((decide (t3 < t2)) = true) (decide_eq_true h1) <| P1 h2 <| P1 (int_lt_of_at h2 hx3) <| P1 (at_map I hx3) <| P0) <|
      eIf H (fun h6 H =>
        eCk H fun h7 H =>
        eN H fun r hn => gO [rg [hC 3 true [] (Rs_vBy r4) [], { i := 5, call := some { cl := false, auto := true, ins := [], res := (RB r5), G' := [] }, dec := some true }], rg [hA 3 ((l5 ++ [x3]).length) (List.map I (l5 ++ [x3]))], r0, .canon [0, 5, 2] [1, 2, 3, 8, 18, 19, 20]] (by kernel_rfl) (P1 (cs_vBy hr4) <| P1 (cs_l1Has hr5) <| P2 (r5 = true) (h6) <| P1 (apL l5 [x3]) <| P1 (apB h7) <| P1 (apM I l5 [x3]) <| P0) hn)
      (fun h6 H =>
        eN H fun r hn => gO [rg [hC 3 true [] (Rs_vBy r4) [], { i := 5, call := some { cl := false, auto := true, ins := [], res := (RB r5), G' := [] }, dec := some false }], r0, .canon [0, 1, 2] [1, 2, 3, 8, 18, 19, 20]] (by kernel_rfl) (P1 (cs_vBy hr4) <| P1 (cs_l1Has hr5) <| P2 (r5 = false) (eqF h6) <| P0) hn))
    (fun h1 H =>
      eN H <| gE func14 [rg [hF 0], r0] (by kernel_rfl) (P2 ((decide (t3 < t2)) = false) (decide_eq_false h1) <| P0))
theorem ws_WatchersOf : ∀ s r, loop Bs_WatchersOf s = some r → Wc X 14 0 (Ks_WatchersOf s) (Zs_WatchersOf s) (Rs_WatchersOf r) ((fun _ => []) r) := Nx.all ns_WatchersOf
theorem cs_WatchersOf {a0 : Gi_Board} {a1 : Int} {a2 : Int} {r : (List Int) × Bool} (H : Ds_WatchersOf a0 a1 a2 = some r) : Ct X.P X.gl 14 [.agg [sl 5 gi_Terrain a0.Rules.Terrains, sl 6 gi_Kind a0.Rules.Kinds, I a0.Rules.Stack, I a0.Rules.River, I a0.Rules.Road, I a0.Rules.Supply, I a0.Rules.Turns, I a0.Map.Width, I a0.Map.Height, sl 1 I a0.Map.Terrain, sl 1 I a0.Map.Rivers, sl 1 I a0.Map.Roads], I a1, I a2] [] (Rs_WatchersOf r) [] :=
  Ct.of func14 (c := bdy f14) (by kernel_rfl) (by kernel_rfl) <|
  eBind H fun r1 hr1 H =>
  gS [r0] (by kernel_rfl) P0 <|
  eIf H (fun h2 H =>
    eBind H fun r3 hr3 H =>
    gO [rg [{ i := 3, call := some { cl := true, auto := true, ins := [], res := (RB r1), G' := [] }, dec := some true }], r0, rg [hC 2 true [] (Rs_bOpen r3) []], .own 8 1, .canon [0, 2, 1] [1, 2, 3, 8, 18, 19, 20]] (by kernel_rfl) (P1 (cs_bAt hr1) <| P2 (r1 = true) (h2) <| P1 (cs_bOpen hr3) <| P0) (ws_WatchersOf _ _ H))
  (fun h2 H =>
    eW Rs_WatchersOf (fun _ => []) H <| gE func14 [rg [{ i := 3, call := some { cl := true, auto := true, ins := [], res := (RB r1), G' := [] }, dec := some false }], r0] (by kernel_rfl) (P1 (cs_bAt hr1) <| P2 (r1 = false) (eqF h2) <| P0))
/-! loop example/g00886/laws sameInts -/
noncomputable def Kw_sameInts : Sw_sameInts → List Item
  | .h1 .. => nav 300 3 [false] [.code (bdy f15)]
def Zw_sameInts : Sw_sameInts → St
  | .h1 va0 b1 t2 t3 => ⟨sts 26 [(0, sl 1 I va0), (1, sl 1 I b1), (12, I t2), (13, I t3)], []⟩
abbrev Qw_sameInts := Nx X 15 0 Kw_sameInts Zw_sameInts RB (fun _ => [])
theorem nw_sameInts : ∀ s o, Bw_sameInts s = some o → Qw_sameInts (Kw_sameInts s) (Zw_sameInts s) o
  | .h1 va0 b1 t2 t3, o, H =>
    eIf H (fun h1 H =>
      eCk H fun h2 H =>
      eBind H fun x3 hx3 H =>
      eCk H fun h4 H =>
      eBind H fun x5 hx5 H =>
      gN [rg [hT 0], r0] (by kernel_rfl) (P2 ((decide (t3 < t2)) = true) (decide_eq_true h1) <| P0) <|
      eIf H (fun h6 H =>
        eN H fun r hn => gO [rg [hE 3 (I x3), hE 7 (I x5), hF 8], r0, .canon [] [0, 1, 12, 13]] (by kernel_rfl) (P1 h2 <| P1 (int_lt_of_at h2 hx3) <| P1 (at_map I hx3) <| P1 h4 <| P1 (int_lt_of_at h4 hx5) <| P1 (at_map I hx5) <| P2 (((x3 : Int) != x5) = false) (bneF h6) <| P0) hn)
      (fun h6 H =>
        eN H <| gE func15 [rg [hE 3 (I x3), hE 7 (I x5), hT 8], r0] (by kernel_rfl) (P1 h2 <| P1 (int_lt_of_at h2 hx3) <| P1 (at_map I hx3) <| P1 h4 <| P1 (int_lt_of_at h4 hx5) <| P1 (at_map I hx5) <| P2 (((x3 : Int) != x5) = true) (bneT h6) <| P0)))
    (fun h1 H =>
      eN H <| gE func15 [rg [hF 0], r0] (by kernel_rfl) (P2 ((decide (t3 < t2)) = false) (decide_eq_false h1) <| P0))
theorem ww_sameInts : ∀ s r, loop Bw_sameInts s = some r → Wc X 15 0 (Kw_sameInts s) (Zw_sameInts s) (RB r) ((fun _ => []) r) := Nx.all nw_sameInts
theorem cw_sameInts {a0 : (List Int)} {a1 : (List Int)} {r : Bool} (H : Dw_sameInts a0 a1 = some r) : Ct X.P X.gl 15 [sl 1 I a0, sl 1 I a1] [] (RB r) [] :=
  Ct.of func15 (c := bdy f15) (by kernel_rfl) (by kernel_rfl) <|
  gS [r0] (by kernel_rfl) P0 <|
  eIf H (fun h1 H =>
    gO [rg [hF 4], r0, .canon [] [0, 1, 12, 13]] (by kernel_rfl) (P2 (((((a0.length : Nat) : Int) : Int) != ((a1.length : Nat) : Int)) = false) (bneF h1) <| P0) (ww_sameInts _ _ H))
  (fun h1 H =>
    eW RB (fun _ => []) H <| gE func15 [rg [hT 4], r0] (by kernel_rfl) (P2 (((((a0.length : Nat) : Int) : Int) != ((a1.length : Nat) : Int)) = true) (bneT h1) <| P0))
/-! loop example/g00886/laws FnLookouts -/
noncomputable def Kw_FnLookouts : Sw_FnLookouts → List Item
  | .h1 .. => nav 300 14 [false, false, true, false, false] [.code (bdy f3)]
  | .h2 .. => nav 300 19 [false, false, true, false, false, true] [.code (bdy f3)]
def Zw_FnLookouts : Sw_FnLookouts → St
  | .h1 t0 t1 t2 t3 b4 l5 => ⟨sts 142 [(15, .ptr 0 12 0 0), (16, I t0), (17, I t1), (109, .ref 1 1 none), (110, I t2), (111, I t3)], [some ⟨false, true, 12, 1, [.agg [sl 5 gi_Terrain b4.Rules.Terrains, sl 6 gi_Kind b4.Rules.Kinds, I b4.Rules.Stack, I b4.Rules.River, I b4.Rules.Road, I b4.Rules.Supply, I b4.Rules.Turns, I b4.Map.Width, I b4.Map.Height, sl 1 I b4.Map.Terrain, sl 1 I b4.Map.Rivers, sl 1 I b4.Map.Roads]]⟩, some ⟨false, false, 1, l5.length, List.map I l5⟩]⟩
  | .h2 t0 t1 t2 t3 t4 t5 t6 t7 b8 l9 l10 => ⟨sts 142 [(15, .ptr 0 12 0 0), (16, I t0), (17, I t1), (25, .bool t2), (26, .bool t3), (109, .ref 1 1 none), (110, I t4), (111, I t5), (122, .ref 2 1 none), (123, I t6), (124, I t7)], [some ⟨false, true, 12, 1, [.agg [sl 5 gi_Terrain b8.Rules.Terrains, sl 6 gi_Kind b8.Rules.Kinds, I b8.Rules.Stack, I b8.Rules.River, I b8.Rules.Road, I b8.Rules.Supply, I b8.Rules.Turns, I b8.Map.Width, I b8.Map.Height, sl 1 I b8.Map.Terrain, sl 1 I b8.Map.Rivers, sl 1 I b8.Map.Roads]]⟩, some ⟨false, false, 1, l9.length, List.map I l9⟩, some ⟨false, false, 1, l10.length, List.map I l10⟩]⟩
abbrev Qw_FnLookouts := Nx X 3 0 Kw_FnLookouts Zw_FnLookouts RB (fun _ => [])
theorem nw_FnLookouts : ∀ s o, Bw_FnLookouts s = some o → Qw_FnLookouts (Kw_FnLookouts s) (Zw_FnLookouts s) o
  | .h1 t0 t1 t2 t3 b4 l5, o, H =>
    eIf H (fun h1 H =>
      eCk H fun h2 H =>
      eBind H fun x3 hx3 H =>
      eBind H fun r4 hr4 H =>
      eN H fun r hn => gO [rg [hT 0], rg [hE 1 (I x3)], rg [hC 3 true [] (Ri_SeenBy r4) []], r0, r0, .canon [0, 1, 2] [15, 16, 17, 25, 26, 109, 110, 111, 122, 123, 124]] (by kernel_rfl) (P2 ((decide (t3 < t2)) = true) (decide_eq_true h1) <| P1 h2 <| P1 (int_lt_of_at h2 hx3) <| P1 (at_map I hx3) <| P1 (ci_SeenBy hr4) <| P0) hn)
    (fun h1 H =>
      eN H <| gE func3 [rg [hF 0], r0] (by kernel_rfl) (P2 ((decide (t3 < t2)) = false) (decide_eq_false h1) <| P0))
  | .h2 t0 t1 true true t4 t5 t6 t7 b8 l9 l10, o, H =>
    eIf H (fun h1 H =>
      eCk H fun h2 H =>
      eBind H fun x3 hx3 H =>
      eN H fun r hn => gO [rg [hT 0], rg [hE 1 (I x3)], r0, r0, .canon [0, 1, 2] [15, 16, 17, 25, 26, 109, 110, 111, 122, 123, 124]] (by kernel_rfl) (P2 ((decide (t7 < t6)) = true) (decide_eq_true h1) <| P1 h2 <| P1 (int_lt_of_at h2 hx3) <| P1 (at_map I hx3) <| P0) hn)
    (fun h1 H =>
      eN H fun r hn => gO [rg [hF 0], r0, r0, .canon [0, 1] [15, 16, 17, 109, 110, 111]] (by kernel_rfl) (P2 ((decide (t7 < t6)) = false) (decide_eq_false h1) <| P0) hn)
  | .h2 t0 t1 true false t4 t5 t6 t7 b8 l9 l10, o, H =>
    eIf H (fun h1 H =>
      eCk H fun h2 H =>
      eBind H fun x3 hx3 H =>
      eN H fun r hn => gO [rg [hT 0], rg [hE 1 (I x3)], r0, r0, .canon [0, 1, 2] [15, 16, 17, 25, 26, 109, 110, 111, 122, 123, 124]] (by kernel_rfl) (P2 ((decide (t7 < t6)) = true) (decide_eq_true h1) <| P1 h2 <| P1 (int_lt_of_at h2 hx3) <| P1 (at_map I hx3) <| P0) hn)
    (fun h1 H =>
      eN H <| gE func3 [rg [hF 0], r0, r0] (by kernel_rfl) (P2 ((decide (t7 < t6)) = false) (decide_eq_false h1) <| P0))
  | .h2 t0 t1 false true t4 t5 t6 t7 b8 l9 l10, o, H =>
    eIf H (fun h1 H =>
      eCk H fun h2 H =>
      eBind H fun x3 hx3 H =>
      eN H fun r hn => gO [rg [hT 0], rg [hE 1 (I x3)], r0, r0, .canon [0, 1, 2] [15, 16, 17, 25, 26, 109, 110, 111, 122, 123, 124]] (by kernel_rfl) (P2 ((decide (t7 < t6)) = true) (decide_eq_true h1) <| P1 h2 <| P1 (int_lt_of_at h2 hx3) <| P1 (at_map I hx3) <| P0) hn)
    (fun h1 H =>
      eN H <| gE func3 [rg [hF 0], r0, r0] (by kernel_rfl) (P2 ((decide (t7 < t6)) = false) (decide_eq_false h1) <| P0))
  | .h2 t0 t1 false false t4 t5 t6 t7 b8 l9 l10, o, H =>
    eIf H (fun h1 H =>
      eCk H fun h2 H =>
      eBind H fun x3 hx3 H =>
      eN H fun r hn => gO [rg [hT 0], rg [hE 1 (I x3)], r0, r0, .canon [0, 1, 2] [15, 16, 17, 25, 26, 109, 110, 111, 122, 123, 124]] (by kernel_rfl) (P2 ((decide (t7 < t6)) = true) (decide_eq_true h1) <| P1 h2 <| P1 (int_lt_of_at h2 hx3) <| P1 (at_map I hx3) <| P0) hn)
    (fun h1 H =>
      eN H <| gE func3 [rg [hF 0], r0, r0] (by kernel_rfl) (P2 ((decide (t7 < t6)) = false) (decide_eq_false h1) <| P0))
theorem ww_FnLookouts : ∀ s r, loop Bw_FnLookouts s = some r → Wc X 3 0 (Kw_FnLookouts s) (Zw_FnLookouts s) (RB r) ((fun _ => []) r) := Nx.all nw_FnLookouts
theorem cw_FnLookouts {a0 : (List Int)} {a1 : (List Int)} {r : Bool} (H : Dw_FnLookouts a0 a1 = some r) : Ct X.P X.gl 3 [sl 1 (D.int .u8) a0, sl 1 (D.int .u8) a1] [] (RB r) [] :=
  Ct.of func3 (c := bdy f3) (by kernel_rfl) (by kernel_rfl) <|
  eBind H fun r1 hr1 H =>
  gS [r0] (by kernel_rfl) P0 <|
  eIf H (fun h2 H =>
    eW RB (fun _ => []) H <| gE func3 [rg [{ i := 2, call := some { cl := true, auto := true, ins := [], res := (RB r1), G' := [] }, dec := some true }], r0] (by kernel_rfl) (P1 (cw_big hr1) <| P2 (r1 = true) (h2) <| P0))
  (fun h2 H =>
    eBind H fun r3 hr3 H =>
    eBind H fun r4 hr4 H =>
    gS [rg [{ i := 2, call := some { cl := true, auto := true, ins := [], res := (RB r1), G' := [] }, dec := some false }], rg [hC 1 true [] (Rs_DrawBestLookout r3) []]] (by kernel_rfl) (P1 (cw_big hr1) <| P2 (r1 = false) (eqF h2) <| P1 (cs_DrawBestLookout hr3) <| P0) <|
    eIf H (fun h5 H =>
      eBind H fun r6 hr6 H =>
      gS [rg [hC 2 true [] (Ri_BestLookout r4) [], hT 6], rg [hC 2 true [] (Rs_BestLookout r6) []]] (by kernel_rfl) (P1 (ci_BestLookout hr4) <| P2 (r4.2.2 = true) (h5) <| P1 (cs_BestLookout hr6) <| P0) <|
      eIf H (fun h7 H =>
        eW RB (fun _ => []) H <| gE func3 [rg [hT 2], r0] (by kernel_rfl) (P2 ((!(true == r6.2.2)) = true) (h7) <| P0))
      (fun h7 H =>
        eIf H (fun h8 H =>
          eIf H (fun h9 H =>
            eBind H fun r10 hr10 H =>
            gS [rg [hF 2, hF 6, hF 11], r0] (by kernel_rfl) (P2 ((!(true == r6.2.2)) = false) (eqF h7) <| P2 (((r4.1 : Int) != r6.1) = false) (bneF h8) <| P2 (((r4.2.1 : Int) != r6.2.1) = false) (bneF h9) <| P0) <|
            eIf H (fun h11 H =>
              gS [rg [hC 3 true [] (Ri_SeenBy r10) [], hT 6]] (by kernel_rfl) (P1 (ci_SeenBy hr10) <| P2 (r10.2 = true) (h11) <| P0) <|
              eIf H (fun h12 H =>
                eBind H fun r13 hr13 H =>
                eBind H fun r14 hr14 H =>
                eBind H fun r15 hr15 H =>
                gS [rg [hF 6], rg [hC 1 true [] (Rs_DrawWatchersOf r13) []], rg [hC 3 true [] (Ri_WatchersOf r14) []], rg [hC 3 true [] (Rs_WatchersOf r15) []]] (by kernel_rfl) (P2 (((((r10.1.length : Nat) : Int) : Int) != r6.2.1) = false) (bneF h12) <| P1 (cs_DrawWatchersOf hr13) <| P1 (ci_WatchersOf hr14) <| P1 (cs_WatchersOf hr15) <| P0) <|
                eIf H (fun h16 H =>
                  eW RB (fun _ => []) H <| gE func3 [rg [hT 2], r0] (by kernel_rfl) (P2 ((!(r14.2 == r15.2)) = true) (h16) <| P0))
                (fun h16 H =>
                  eBind H fun r17 hr17 H =>
                  eIf H (fun h18 H =>
                    gO [rg [hF 2, { i := 6, call := some { cl := false, auto := true, ins := [], res := (RB r17), G' := [] }, dec := some true }], r0, .canon [2, 4] [15, 16, 17, 109, 110, 111]] (by kernel_rfl) (P2 ((!(r14.2 == r15.2)) = false) (eqF h16) <| P1 (cw_sameInts hr17) <| P2 (r17 = true) (h18) <| P0) (ww_FnLookouts _ _ H))
                  (fun h18 H =>
                    eW RB (fun _ => []) H <| gE func3 [rg [hF 2, { i := 6, call := some { cl := false, auto := true, ins := [], res := (RB r17), G' := [] }, dec := some false }], r0] (by kernel_rfl) (P2 ((!(r14.2 == r15.2)) = false) (eqF h16) <| P1 (cw_sameInts hr17) <| P2 (r17 = false) (eqF h18) <| P0))))
              (fun h12 H =>
                eW RB (fun _ => []) H <| gE func3 [rg [hT 6], r0] (by kernel_rfl) (P2 (((((r10.1.length : Nat) : Int) : Int) != r6.2.1) = true) (bneT h12) <| P0)))
            (fun h11 H =>
              eW RB (fun _ => []) H <| gE func3 [rg [hC 3 true [] (Ri_SeenBy r10) [], hF 6], r0, r0] (by kernel_rfl) (P1 (ci_SeenBy hr10) <| P2 (r10.2 = false) (eqF h11) <| P0)))
          (fun h9 H =>
            eW RB (fun _ => []) H <| gE func3 [rg [hF 2, hF 6, hT 11], r0] (by kernel_rfl) (P2 ((!(true == r6.2.2)) = false) (eqF h7) <| P2 (((r4.1 : Int) != r6.1) = false) (bneF h8) <| P2 (((r4.2.1 : Int) != r6.2.1) = true) (bneT h9) <| P0)))
        (fun h8 H =>
          eW RB (fun _ => []) H <| gE func3 [rg [hF 2, hT 6], r0] (by kernel_rfl) (P2 ((!(true == r6.2.2)) = false) (eqF h7) <| P2 (((r4.1 : Int) != r6.1) = true) (bneT h8) <| P0))))
    (fun h5 H =>
      eBind H fun r6 hr6 H =>
      gS [rg [hC 2 true [] (Ri_BestLookout r4) [], hF 6], rg [hC 2 true [] (Rs_BestLookout r6) []]] (by kernel_rfl) (P1 (ci_BestLookout hr4) <| P2 (r4.2.2 = false) (eqF h5) <| P1 (cs_BestLookout hr6) <| P0) <|
      eIf H (fun h7 H =>
        eW RB (fun _ => []) H <| gE func3 [rg [hT 2], r0] (by kernel_rfl) (P2 ((!(false == r6.2.2)) = true) (h7) <| P0))
      (fun h7 H =>
        eIf H (fun h8 H =>
          eIf H (fun h9 H =>
            eBind H fun r10 hr10 H =>
            eBind H fun r11 hr11 H =>
            eBind H fun r12 hr12 H =>
            gS [rg [hF 2, hF 6, hF 11], r0, rg [hC 1 true [] (Rs_DrawWatchersOf r10) []], rg [hC 3 true [] (Ri_WatchersOf r11) []], rg [hC 3 true [] (Rs_WatchersOf r12) []]] (by kernel_rfl) (P2 ((!(false == r6.2.2)) = false) (eqF h7) <| P2 (((r4.1 : Int) != r6.1) = false) (bneF h8) <| P2 (((r4.2.1 : Int) != r6.2.1) = false) (bneF h9) <| P1 (cs_DrawWatchersOf hr10) <| P1 (ci_WatchersOf hr11) <| P1 (cs_WatchersOf hr12) <| P0) <|
            eIf H (fun h13 H =>
              eW RB (fun _ => []) H <| gE func3 [rg [hT 2], r0] (by kernel_rfl) (P2 ((!(r11.2 == r12.2)) = true) (h13) <| P0))
            (fun h13 H =>
              eBind H fun r14 hr14 H =>
              eIf H (fun h15 H =>
                gO [rg [hF 2, { i := 6, call := some { cl := false, auto := true, ins := [], res := (RB r14), G' := [] }, dec := some true }], r0, .canon [1, 3] [15, 16, 17, 109, 110, 111]] (by kernel_rfl) (P2 ((!(r11.2 == r12.2)) = false) (eqF h13) <| P1 (cw_sameInts hr14) <| P2 (r14 = true) (h15) <| P0) (ww_FnLookouts _ _ H))
              (fun h15 H =>
                eW RB (fun _ => []) H <| gE func3 [rg [hF 2, { i := 6, call := some { cl := false, auto := true, ins := [], res := (RB r14), G' := [] }, dec := some false }], r0] (by kernel_rfl) (P2 ((!(r11.2 == r12.2)) = false) (eqF h13) <| P1 (cw_sameInts hr14) <| P2 (r14 = false) (eqF h15) <| P0))))
          (fun h9 H =>
            eW RB (fun _ => []) H <| gE func3 [rg [hF 2, hF 6, hT 11], r0] (by kernel_rfl) (P2 ((!(false == r6.2.2)) = false) (eqF h7) <| P2 (((r4.1 : Int) != r6.1) = false) (bneF h8) <| P2 (((r4.2.1 : Int) != r6.2.1) = true) (bneT h9) <| P0)))
        (fun h8 H =>
          eW RB (fun _ => []) H <| gE func3 [rg [hF 2, hT 6], r0] (by kernel_rfl) (P2 ((!(false == r6.2.2)) = false) (eqF h7) <| P2 (((r4.1 : Int) != r6.1) = true) (bneT h8) <| P0)))))
end Go.Proofs.YtakcjcjfcignjaaGreatDoor.Ab
