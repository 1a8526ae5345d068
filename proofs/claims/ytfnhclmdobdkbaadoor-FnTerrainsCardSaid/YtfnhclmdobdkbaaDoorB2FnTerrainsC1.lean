/- Part of the proof of FnTerrainsCard: no condition of its own. -/
import Derived.Test.YtfnhclmdobdkbaaDoorB2FnTerrainsC
set_option linter.unusedVariables false
set_option linter.unusedSimpArgs false
open Go Go.Proofs Go.Proofs.Tryd
namespace Go.Proofs.YtfnhclmdobdkbaaDoor.Ab
/-! loop example/g00886/spec MissingTerrains -/
def Rs_MissingTerrains (r : (List Int) × Bool) : List D := [ow 1 I r.1, .bool r.2]
noncomputable def Ks_MissingTerrains : Ss_MissingTerrains → List Item
  | .h1 .. => nav 300 4 [false] [.code (bdy f42)]
def Zs_MissingTerrains : Ss_MissingTerrains → St
  | .h1 t0 t1 t2 b3 l4 => ⟨sts 34 [(2, .ptr 0 7 0 0), (6, .ref 1 1 none), (18, sl 1 I t0), (19, I t1), (20, I t2)], [some ⟨false, true, 7, 1, [.agg [sl 5 gi_Terrain b3.Terrains, sl 6 gi_Kind b3.Kinds, I b3.Stack, I b3.River, I b3.Road, I b3.Supply, I b3.Turns]]⟩, some ⟨false, false, 1, l4.length, List.map I l4⟩]⟩
abbrev Qs_MissingTerrains := Nx X 42 0 Ks_MissingTerrains Zs_MissingTerrains Rs_MissingTerrains (fun _ => [])
theorem ns_MissingTerrains : ∀ s o, Bs_MissingTerrains s = some o → Qs_MissingTerrains (Ks_MissingTerrains s) (Zs_MissingTerrains s) o
  | .h1 t0 t1 t2 b3 l4, o, H =>
    eIf H (fun h1 H =>
      eCk H fun h2 H =>
      eBind H fun x3 hx3 H =>
      gN [rg [hT 0], rg [hE 1 (I x3)]] (by kernel_rfl) (P2 ((decide (t2 < t1)) = true) (decide_eq_true h1) <| P1 h2 <| P1 (int_lt_of_at h2 hx3) <| P1 (at_map I hx3) <| P0) <|
      eIf H (fun h4 H =>
        eBind H fun r5 hr5 H =>
        eN H fun r hn => gO [rg [hT 4], rg [hC 2 true [1] (Rs_l1Put_c0 r5) (Ns_l1Put_c0 r5)], r0, .canon [0, 2] [2, 6, 18, 19, 20]] (by kernel_rfl) (P2 ((decide (x3 ≥ ((b3.Terrains.length : Nat) : Int))) = true) (decide_eq_true h4) <| P1 (cs_l1Put_c0 hr5) <| P0) hn)
      (fun h4 H =>
        eN H fun r hn => gO [rg [hF 4], r0, .canon [0, 1] [2, 6, 18, 19, 20]] (by kernel_rfl) (P2 ((decide (x3 ≥ ((b3.Terrains.length : Nat) : Int))) = false) (decide_eq_false h4) <| P0) hn))
    (fun h1 H =>
      eN H <| gE func42 [rg [hF 0], r0] (by kernel_rfl) (P2 ((decide (t2 < t1)) = false) (decide_eq_false h1) <| P0))
theorem ws_MissingTerrains : ∀ s r, loop Bs_MissingTerrains s = some r → Wc X 42 0 (Ks_MissingTerrains s) (Zs_MissingTerrains s) (Rs_MissingTerrains r) ((fun _ => []) r) := Nx.all ns_MissingTerrains
theorem cs_MissingTerrains {a0 : Gi_Rules} {a1 : Gi_Map} {r : (List Int) × Bool} (H : Ds_MissingTerrains a0 a1 = some r) : Ct X.P X.gl 42 [.agg [sl 5 gi_Terrain a0.Terrains, sl 6 gi_Kind a0.Kinds, I a0.Stack, I a0.River, I a0.Road, I a0.Supply, I a0.Turns], .agg [I a1.Width, I a1.Height, sl 1 I a1.Terrain, sl 1 I a1.Rivers, sl 1 I a1.Roads]] [] (Rs_MissingTerrains r) [] :=
  Ct.of func42 (c := bdy f42) (by kernel_rfl) (by kernel_rfl) <|
  eBind H fun r1 hr1 H =>
  gS [r0] (by kernel_rfl) P0 <|
  eIf H (fun h2 H =>
    eBind H fun r3 hr3 H =>
    eIf H (fun h4 H =>
      gO [rg [{ i := 1, call := some { cl := true, auto := true, ins := [], res := (RB r1), G' := [] }, dec := some true }, { i := 5, call := some { cl := true, auto := true, ins := [], res := (RB r3), G' := [] }, dec := some true }], r0, r0, .own 6 1, .canon [0, 2] [2, 6, 18, 19, 20]] (by kernel_rfl) (P1 (cs_rGood hr1) <| P2 (r1 = true) (h2) <| P1 (cs_mGood hr3) <| P2 (r3 = true) (h4) <| P0) (ws_MissingTerrains _ _ H))
    (fun h4 H =>
      eW Rs_MissingTerrains (fun _ => []) H <| gE func42 [rg [{ i := 1, call := some { cl := true, auto := true, ins := [], res := (RB r1), G' := [] }, dec := some true }, { i := 5, call := some { cl := true, auto := true, ins := [], res := (RB r3), G' := [] }, dec := some false }], r0] (by kernel_rfl) (P1 (cs_rGood hr1) <| P2 (r1 = true) (h2) <| P1 (cs_mGood hr3) <| P2 (r3 = false) (eqF h4) <| P0)))
  (fun h2 H =>
    eW Rs_MissingTerrains (fun _ => []) H <| gE func42 [rg [{ i := 1, call := some { cl := true, auto := true, ins := [], res := (RB r1), G' := [] }, dec := some false }], r0] (by kernel_rfl) (P1 (cs_rGood hr1) <| P2 (r1 = false) (eqF h2) <| P0))
/-!   loop example/g00886/spec l1Cur  kindOf -/
def Rs_l1Cur_kindOf (r : Int × Gs_l1Cur) : List D := [I r.1]
def Ns_l1Cur_kindOf (r : Int × Gs_l1Cur) : List Root := [⟨false, true, 3, 1, [.agg [sl 1 (D.int .u8) r.2.code, I r.2.at_, .int .u64 r.2.seed]]⟩]
theorem cs_l1Cur_kindOf {a0 : Gs_l1Cur} {a1 : Gi_Board} {r : Int × Gs_l1Cur} (H : Ds_l1Cur_kindOf a0 a1 = some r) : Ct X.P X.gl 102 [.ptr 0 3 0 0, .agg [sl 5 gi_Terrain a1.Rules.Terrains, sl 6 gi_Kind a1.Rules.Kinds, I a1.Rules.Stack, I a1.Rules.River, I a1.Rules.Road, I a1.Rules.Supply, I a1.Rules.Turns, I a1.Map.Width, I a1.Map.Height, sl 1 I a1.Map.Terrain, sl 1 I a1.Map.Rivers, sl 1 I a1.Map.Roads]] [⟨false, true, 3, 1, [.agg [sl 1 (D.int .u8) a0.code, I a0.at_, .int .u64 a0.seed]]⟩] (Rs_l1Cur_kindOf r) (Ns_l1Cur_kindOf r) :=
  Ct.of func102 (c := bdy f102) (by kernel_rfl) (by kernel_rfl) <|
  eBind H fun r1 hr1 H =>
  eBind H fun r2 hr2 H =>
  eBind H fun r3 hr3 H =>
  eW Rs_l1Cur_kindOf Ns_l1Cur_kindOf H <| gE func102 [r0, rg [hC 6 true [0] (Rs_l1Cur_pick r1) (Ns_l1Cur_pick r1), hC 9 true [0] (Rs_l1Cur_pick r2) (Ns_l1Cur_pick r2), hC 11 true [0] (Rs_l1Cur_pick r3) (Ns_l1Cur_pick r3)]] (by kernel_rfl) (PI (1 : Nat) <| P1 (cs_l1Cur_pick hr1) <| P2 (¬ (15 : Int) = 0) (by decide) <| PI (1 : Nat) <| P1 (cs_l1Cur_pick hr2) <| PI (1 : Nat) <| P1 (cs_l1Cur_pick hr3) <| P2 (¬ (19 : Int) = 0) (by decide) <| P0)
/-! loop example/g00886/spec l1Most -/
theorem cs_l1Most {a0 : Int} {a1 : Int} {r : Int} (H : Ds_l1Most a0 a1 = some r) : Ct X.P X.gl 111 [I a0, I a1] [] (RI r) [] :=
  Ct.of func111 (c := bdy f111) (by kernel_rfl) (by kernel_rfl) <|
  gS [r0] (by kernel_rfl) P0 <|
  eIf H (fun h1 H =>
    eW RI (fun _ => []) H <| gE func111 [rg [hT 2], r0] (by kernel_rfl) (P2 ((decide (a0 > a1)) = true) (decide_eq_true h1) <| P0))
  (fun h1 H =>
    eW RI (fun _ => []) H <| gE func111 [rg [hF 2], r0] (by kernel_rfl) (P2 ((decide (a0 > a1)) = false) (decide_eq_false h1) <| P0))
/-!   loop example/g00886/spec l1Cur  place -/
def Rs_l1Cur_place (r : Int × Gs_l1Cur) : List D := [I r.1]
def Ns_l1Cur_place (r : Int × Gs_l1Cur) : List Root := [⟨false, true, 3, 1, [.agg [sl 1 (D.int .u8) r.2.code, I r.2.at_, .int .u64 r.2.seed]]⟩]
theorem cs_l1Cur_place {a0 : Gs_l1Cur} {a1 : Gi_Map} {r : Int × Gs_l1Cur} (H : Ds_l1Cur_place a0 a1 = some r) : Ct X.P X.gl 50 [.ptr 0 3 0 0, .agg [I a1.Width, I a1.Height, sl 1 I a1.Terrain, sl 1 I a1.Rivers, sl 1 I a1.Roads]] [⟨false, true, 3, 1, [.agg [sl 1 (D.int .u8) a0.code, I a0.at_, .int .u64 a0.seed]]⟩] (Rs_l1Cur_place r) (Ns_l1Cur_place r) :=
  Ct.of func50 (c := bdy f50) (by kernel_rfl) (by kernel_rfl) <|
  eBind H fun r1 hr1 H =>
  gS [r0] (by kernel_rfl) P0 <|
  eIf H (fun h2 H =>
    eBind H fun r3 hr3 H =>
    eBind H fun r4 hr4 H =>
    eW Rs_l1Cur_place Ns_l1Cur_place H <| gE func50 [rg [{ i := 1, call := some { cl := true, auto := true, ins := [0], res := (Rs_l1Cur_one r1), G' := (Ns_l1Cur_one r1) }, dec := some true }], rg [hC 2 true [] (RI r3) [], { i := 4, frz := [2], call := some { cl := true, auto := true, ins := [0], res := (Rs_l1Cur_among r4), G' := (Ns_l1Cur_among r4) } }]] (by kernel_rfl) (PI (1 : Nat) <| P1 (cs_l1Cur_one hr1) <| P2 (r1.1 = true) (h2) <| P1 (cs_mSize hr3) <| PI (1 : Nat) <| P1 (cs_l1Cur_among hr4) <| P0))
  (fun h2 H =>
    eBind H fun r3 hr3 H =>
    eBind H fun r4 hr4 H =>
    eBind H fun r5 hr5 H =>
    eW Rs_l1Cur_place Ns_l1Cur_place H <| gE func50 [rg [{ i := 1, call := some { cl := true, auto := true, ins := [0], res := (Rs_l1Cur_one r1), G' := (Ns_l1Cur_one r1) }, dec := some false }], rg [hC 2 true [] (RI r3) [], hC 3 true [] (RI r4) [], hC 4 true [0] (Rs_l1Cur_pick r5) (Ns_l1Cur_pick r5)]] (by kernel_rfl) (PI (1 : Nat) <| P1 (cs_l1Cur_one hr1) <| P2 (r1.1 = false) (eqF h2) <| P1 (cs_mSize hr3) <| P1 (cs_l1Most hr4) <| PI (1 : Nat) <| P1 (cs_l1Cur_pick hr5) <| P0))
/-! loop example/g00886/spec DrawEnterCost -/
def Rs_DrawEnterCost (r : Gi_Board × Int × Int) : List D := [.agg [sl 5 gi_Terrain r.1.Rules.Terrains, sl 6 gi_Kind r.1.Rules.Kinds, I r.1.Rules.Stack, I r.1.Rules.River, I r.1.Rules.Road, I r.1.Rules.Supply, I r.1.Rules.Turns, I r.1.Map.Width, I r.1.Map.Height, sl 1 I r.1.Map.Terrain, sl 1 I r.1.Map.Rivers, sl 1 I r.1.Map.Roads], I r.2.1, I r.2.2]
theorem cs_DrawEnterCost {a0 : (List Int)} {r : Gi_Board × Int × Int} (H : Ds_DrawEnterCost a0 = some r) : Ct X.P X.gl 43 [sl 1 (D.int .u8) a0] [] (Rs_DrawEnterCost r) [] :=
  Ct.of func43 (c := bdy f43) (by kernel_rfl) (by kernel_rfl) <|
  eBind H fun r1 hr1 H =>
  eBind H fun r2 hr2 H =>
  eBind H fun r3 hr3 H =>
  eW Rs_DrawEnterCost (fun _ => []) H <| gE func43 [r0, r0, rg [hC 1 true [1] (Rs_l1Cur_anyBoard r1) (Ns_l1Cur_anyBoard r1)], rg [{ i := 3, frz := [2, 3, 11, 12, 13], call := some { cl := true, ins := [1], args := [.ptr 0 3 0 0, .agg [sl 5 gi_Terrain r1.1.Rules.Terrains, sl 6 gi_Kind r1.1.Rules.Kinds, I r1.1.Rules.Stack, I r1.1.Rules.River, I r1.1.Rules.Road, I r1.1.Rules.Supply, I r1.1.Rules.Turns, I r1.1.Map.Width, I r1.1.Map.Height, sl 1 I r1.1.Map.Terrain, sl 1 I r1.1.Map.Rivers, sl 1 I r1.1.Map.Roads]], res := Rs_l1Cur_kindOf r2, G' := Ns_l1Cur_kindOf r2 }, post := [.er 2 (List.map gi_Terrain r1.1.Rules.Terrains)], xtra := [2] }, hC 7 true [1] (Rs_l1Cur_place r3) (Ns_l1Cur_place r3)]] (by kernel_rfl) (PI (1 : Nat) <| P1 (cs_l1Cur_anyBoard hr1) <| PI (0 : Nat) <| PI (0 : Nat) <| PE ero_128 r1.1.Rules.Terrains <| PL gi_Kind r1.1.Rules.Kinds <| PI (r1.1.Rules.Stack : Int) <| PI (r1.1.Rules.River : Int) <| PI (r1.1.Rules.Road : Int) <| PI (r1.1.Rules.Supply : Int) <| PI (r1.1.Rules.Turns : Int) <| PI (r1.1.Map.Width : Int) <| PI (r1.1.Map.Height : Int) <| PL I r1.1.Map.Terrain <| PL I r1.1.Map.Rivers <| PL I r1.1.Map.Roads <| PI (1 : Nat) <| P1 (cs_l1Cur_kindOf hr2) <| P2 (erL (List.map goi_Terrain r1.1.Rules.Terrains) = erL (List.map gi_Terrain r1.1.Rules.Terrains)) (erL_map2 ero_128 r1.1.Rules.Terrains) <| PI (1 : Nat) <| P1 (cs_l1Cur_place hr3) <| P0)
/-! loop example/g00886/impl isKindOf -/
theorem ci_isKindOf {a0 : Gi_Board} {a1 : Int} {r : Bool} (H : Di_isKindOf a0 a1 = some r) : Ct X.P X.gl 89 [.agg [sl 5 gi_Terrain a0.Rules.Terrains, sl 6 gi_Kind a0.Rules.Kinds, I a0.Rules.Stack, I a0.Rules.River, I a0.Rules.Road, I a0.Rules.Supply, I a0.Rules.Turns, I a0.Map.Width, I a0.Map.Height, sl 1 I a0.Map.Terrain, sl 1 I a0.Map.Rivers, sl 1 I a0.Map.Roads], I a1] [] (RB r) [] :=
  Ct.of func89 (c := bdy f89) (by kernel_rfl) (by kernel_rfl) <|
  eBind H fun r1 hr1 H =>
  gS [r0] (by kernel_rfl) P0 <|
  eIf H (fun h2 H =>
    eBind H fun r3 hr3 H =>
    eW RB (fun _ => []) H <| gE func89 [rg [{ i := 1, call := some { cl := true, auto := true, ins := [], res := (RB r1), G' := [] }, dec := some true }, hC 8 true [] (RB r3) []]] (by kernel_rfl) (P1 (ci_IsBoard hr1) <| P2 (r1 = true) (h2) <| P1 (ci_isIndex hr3) <| P0))
  (fun h2 H =>
    eW RB (fun _ => []) H <| gE func89 [rg [{ i := 1, call := some { cl := true, auto := true, ins := [], res := (RB r1), G' := [] }, dec := some false }]] (by kernel_rfl) (P1 (ci_IsBoard hr1) <| P2 (r1 = false) (eqF h2) <| P0))
/-! loop example/g00886/impl sizeOf -/
theorem ci_sizeOf {a0 : Gi_Board} {r : Int} (H : Di_sizeOf a0 = some r) : Ct X.P X.gl 103 [.agg [sl 5 gi_Terrain a0.Rules.Terrains, sl 6 gi_Kind a0.Rules.Kinds, I a0.Rules.Stack, I a0.Rules.River, I a0.Rules.Road, I a0.Rules.Supply, I a0.Rules.Turns, I a0.Map.Width, I a0.Map.Height, sl 1 I a0.Map.Terrain, sl 1 I a0.Map.Rivers, sl 1 I a0.Map.Roads]] [] (RI r) [] :=
  Ct.of func103 (c := bdy f103) (by kernel_rfl) (by kernel_rfl) <|
  eW RI (fun _ => []) H <| gE func103 [r0, r0] (by kernel_rfl) P0
/-! loop example/g00886/impl EnterCost -/
def Ri_EnterCost (r : Int × Bool) : List D := [I r.1, .bool r.2]
theorem ci_EnterCost {a0 : Gi_Board} {a1 : Int} {a2 : Int} {r : Int × Bool} (H : Di_EnterCost a0 a1 a2 = some r) : Ct X.P X.gl 44 [.agg [sl 5 gi_Terrain a0.Rules.Terrains, sl 6 gi_Kind a0.Rules.Kinds, I a0.Rules.Stack, I a0.Rules.River, I a0.Rules.Road, I a0.Rules.Supply, I a0.Rules.Turns, I a0.Map.Width, I a0.Map.Height, sl 1 I a0.Map.Terrain, sl 1 I a0.Map.Rivers, sl 1 I a0.Map.Roads], I a1, I a2] [] (Ri_EnterCost r) [] :=
  Ct.of func44 (c := bdy f44) (by kernel_rfl) (by kernel_rfl) <|
  eBind H fun r1 hr1 H =>
  gS [r0] (by kernel_rfl) P0 <|
  eIf H (fun h2 H =>
    eBind H fun r3 hr3 H =>
    eBind H fun r4 hr4 H =>
    eIf H (fun h5 H =>
      eBind H fun r6 hr6 H =>
      eW Ri_EnterCost (fun _ => []) H <| gE func44 [rg [{ i := 2, call := some { cl := true, auto := true, ins := [], res := (RB r1), G' := [] }, dec := some true }, hC 7 true [] (RI r3) [], { i := 8, call := some { cl := true, auto := true, ins := [], res := (RB r4), G' := [] }, dec := some true }], rg [hC 3 true [] (RI r6) []]] (by kernel_rfl) (P1 (ci_isKindOf hr1) <| P2 (r1 = true) (h2) <| P1 (ci_sizeOf hr3) <| P1 (ci_isIndex hr4) <| P2 (r4 = true) (h5) <| P1 (ci_enterCost hr6) <| P0))
    (fun h5 H =>
      eW Ri_EnterCost (fun _ => []) H <| gE func44 [rg [{ i := 2, call := some { cl := true, auto := true, ins := [], res := (RB r1), G' := [] }, dec := some true }, hC 7 true [] (RI r3) [], { i := 8, call := some { cl := true, auto := true, ins := [], res := (RB r4), G' := [] }, dec := some false }], r0] (by kernel_rfl) (P1 (ci_isKindOf hr1) <| P2 (r1 = true) (h2) <| P1 (ci_sizeOf hr3) <| P1 (ci_isIndex hr4) <| P2 (r4 = false) (eqF h5) <| P0)))
  (fun h2 H =>
    eW Ri_EnterCost (fun _ => []) H <| gE func44 [rg [{ i := 2, call := some { cl := true, auto := true, ins := [], res := (RB r1), G' := [] }, dec := some false }], r0] (by kernel_rfl) (P1 (ci_isKindOf hr1) <| P2 (r1 = false) (eqF h2) <| P0))
/-! loop example/g00886/spec bAt -/
theorem cs_bAt {a0 : Gi_Board} {a1 : Int} {a2 : Int} {r : Bool} (H : Ds_bAt a0 a1 a2 = some r) : Ct X.P X.gl 80 [.agg [sl 5 gi_Terrain a0.Rules.Terrains, sl 6 gi_Kind a0.Rules.Kinds, I a0.Rules.Stack, I a0.Rules.River, I a0.Rules.Road, I a0.Rules.Supply, I a0.Rules.Turns, I a0.Map.Width, I a0.Map.Height, sl 1 I a0.Map.Terrain, sl 1 I a0.Map.Rivers, sl 1 I a0.Map.Roads], I a1, I a2] [] (RB r) [] :=
  Ct.of func80 (c := bdy f80) (by kernel_rfl) (by kernel_rfl) <|
  eBind H fun r1 hr1 H =>
  gS [r0] (by kernel_rfl) P0 <|
  eIf H (fun h2 H =>
    eBind H fun r3 hr3 H =>
    eIf H (fun h4 H =>
      eBind H fun r5 hr5 H =>
      eBind H fun r6 hr6 H =>
      eW RB (fun _ => []) H <| gE func80 [rg [{ i := 1, call := some { cl := true, auto := true, ins := [], res := (RB r1), G' := [] }, dec := some true }, { i := 9, call := some { cl := true, auto := true, ins := [], res := (RB r3), G' := [] }, dec := some true }, hC 15 true [] (RI r5) [], hC 17 true [] (RB r6) []]] (by kernel_rfl) (P1 (cs_bGood hr1) <| P2 (r1 = true) (h2) <| P1 (cs_l1In hr3) <| P2 (r3 = true) (h4) <| P1 (cs_mSize hr5) <| P1 (cs_l1In hr6) <| P0))
    (fun h4 H =>
      eW RB (fun _ => []) H <| gE func80 [rg [{ i := 1, call := some { cl := true, auto := true, ins := [], res := (RB r1), G' := [] }, dec := some true }, { i := 9, call := some { cl := true, auto := true, ins := [], res := (RB r3), G' := [] }, dec := some false }]] (by kernel_rfl) (P1 (cs_bGood hr1) <| P2 (r1 = true) (h2) <| P1 (cs_l1In hr3) <| P2 (r3 = false) (eqF h4) <| P0)))
  (fun h2 H =>
    eW RB (fun _ => []) H <| gE func80 [rg [{ i := 1, call := some { cl := true, auto := true, ins := [], res := (RB r1), G' := [] }, dec := some false }]] (by kernel_rfl) (P1 (cs_bGood hr1) <| P2 (r1 = false) (eqF h2) <| P0))
/-! loop example/g00886/spec EnterCost -/
def Rs_EnterCost (r : Int × Bool) : List D := [I r.1, .bool r.2]
theorem cs_EnterCost {a0 : Gi_Board} {a1 : Int} {a2 : Int} {r : Int × Bool} (H : Ds_EnterCost a0 a1 a2 = some r) : Ct X.P X.gl 45 [.agg [sl 5 gi_Terrain a0.Rules.Terrains, sl 6 gi_Kind a0.Rules.Kinds, I a0.Rules.Stack, I a0.Rules.River, I a0.Rules.Road, I a0.Rules.Supply, I a0.Rules.Turns, I a0.Map.Width, I a0.Map.Height, sl 1 I a0.Map.Terrain, sl 1 I a0.Map.Rivers, sl 1 I a0.Map.Roads], I a1, I a2] [] (Rs_EnterCost r) [] :=
  Ct.of func45 (c := bdy f45) (by kernel_rfl) (by kernel_rfl) <|
  eBind H fun r1 hr1 H =>
  gS [r0] (by kernel_rfl) P0 <|
  eIf H (fun h2 H =>
    eBind H fun r3 hr3 H =>
    eW Rs_EnterCost (fun _ => []) H <| gE func45 [rg [{ i := 3, call := some { cl := true, auto := true, ins := [], res := (RB r1), G' := [] }, dec := some true }], rg [hC 3 true [] (RI r3) []]] (by kernel_rfl) (P1 (cs_bAt hr1) <| P2 (r1 = true) (h2) <| P1 (cs_bCost hr3) <| P0))
  (fun h2 H =>
    eW Rs_EnterCost (fun _ => []) H <| gE func45 [rg [{ i := 3, call := some { cl := true, auto := true, ins := [], res := (RB r1), G' := [] }, dec := some false }], r0] (by kernel_rfl) (P1 (cs_bAt hr1) <| P2 (r1 = false) (eqF h2) <| P0))
/-! loop example/g00886/spec DrawTerrainNamed -/
def Rs_DrawTerrainNamed (r : Gi_Rules × ByteArray) : List D := [.agg [ow 5 goi_Terrain r.1.Terrains, ow 6 gi_Kind r.1.Kinds, I r.1.Stack, I r.1.River, I r.1.Road, I r.1.Supply, I r.1.Turns], .str r.2]
theorem cs_DrawTerrainNamed {a0 : (List Int)} {r : Gi_Rules × ByteArray} (H : Ds_DrawTerrainNamed a0 = some r) : Ct X.P X.gl 46 [sl 1 (D.int .u8) a0] [] (Rs_DrawTerrainNamed r) [] :=
  Ct.of func46 (c := bdy f46) (by kernel_rfl) (by kernel_rfl) <|
  eBind H fun r1 hr1 H =>
  eBind H fun r2 hr2 H =>
  eW Rs_DrawTerrainNamed (fun _ => []) H <| gE func46 [r0, r0, rg [hC 1 true [1] (Rs_l1Cur_anyRules r1) (Ns_l1Cur_anyRules r1), { i := 4, frz := [4], call := some { cl := true, auto := true, ins := [1], res := (Rs_l1Cur_of r2), G' := (Ns_l1Cur_of r2) } }]] (by kernel_rfl) (PI (1 : Nat) <| P1 (cs_l1Cur_anyRules hr1) <| PI (1 : Nat) <| P1 (cs_l1Cur_of hr2) <| P0)
/-! loop example/g00886/impl TerrainNamed -/
def Ri_TerrainNamed (r : Int × Bool) : List D := [I r.1, .bool r.2]
theorem ci_TerrainNamed {a0 : Gi_Rules} {a1 : ByteArray} {r : Int × Bool} (H : Di_TerrainNamed a0 a1 = some r) : Ct X.P X.gl 47 [.agg [sl 5 gi_Terrain a0.Terrains, sl 6 gi_Kind a0.Kinds, I a0.Stack, I a0.River, I a0.Road, I a0.Supply, I a0.Turns], .str a1] [] (Ri_TerrainNamed r) [] :=
  Ct.of func47 (c := bdy f47) (by kernel_rfl) (by kernel_rfl) <|
  eBind H fun r1 hr1 H =>
  gS [r0] (by kernel_rfl) P0 <|
  eIf H (fun h2 H =>
    eBind H fun r3 hr3 H =>
    eIf H (fun h4 H =>
      eW Ri_TerrainNamed (fun _ => []) H <| gE func47 [rg [{ i := 1, call := some { cl := true, auto := true, ins := [], res := (RB r1), G' := [] }, dec := some true }, hC 7 true [] (RI r3) [], hT 8], r0] (by kernel_rfl) (P1 (ci_IsRules hr1) <| P2 (r1 = true) (h2) <| P1 (ci_terrainIndex hr3) <| P2 ((decide (r3 < 0)) = true) (decide_eq_true h4) <| P0))
    (fun h4 H =>
      eBind H fun r5 hr5 H =>
      eW Ri_TerrainNamed (fun _ => []) H <| gE func47 [rg [{ i := 1, call := some { cl := true, auto := true, ins := [], res := (RB r1), G' := [] }, dec := some true }, hC 7 true [] (RI r3) [], hF 8], rg [hC 3 true [] (RI r5) []]] (by kernel_rfl) (P1 (ci_IsRules hr1) <| P2 (r1 = true) (h2) <| P1 (ci_terrainIndex hr3) <| P2 ((decide (r3 < 0)) = false) (decide_eq_false h4) <| P1 (ci_terrainIndex hr5) <| P0)))
  (fun h2 H =>
    eW Ri_TerrainNamed (fun _ => []) H <| gE func47 [rg [{ i := 1, call := some { cl := true, auto := true, ins := [], res := (RB r1), G' := [] }, dec := some false }], r0] (by kernel_rfl) (P1 (ci_IsRules hr1) <| P2 (r1 = false) (eqF h2) <| P0))
/-! loop example/g00886/spec TerrainNamed -/
def Rs_TerrainNamed (r : Int × Bool) : List D := [I r.1, .bool r.2]
theorem cs_TerrainNamed {a0 : Gi_Rules} {a1 : ByteArray} {r : Int × Bool} (H : Ds_TerrainNamed a0 a1 = some r) : Ct X.P X.gl 48 [.agg [sl 5 gi_Terrain a0.Terrains, sl 6 gi_Kind a0.Kinds, I a0.Stack, I a0.River, I a0.Road, I a0.Supply, I a0.Turns], .str a1] [] (Rs_TerrainNamed r) [] :=
  Ct.of func48 (c := bdy f48) (by kernel_rfl) (by kernel_rfl) <|
  eBind H fun r1 hr1 H =>
  gS [r0] (by kernel_rfl) P0 <|
  eIf H (fun h2 H =>
    eBind H fun r3 hr3 H =>
    eIf H (fun h4 H =>
      eW Rs_TerrainNamed (fun _ => []) H <| gE func48 [rg [{ i := 1, call := some { cl := true, auto := true, ins := [], res := (RB r1), G' := [] }, dec := some true }, hC 7 true [] (RI r3) [], hT 8], r0] (by kernel_rfl) (P1 (cs_rGood hr1) <| P2 (r1 = true) (h2) <| P1 (cs_rTerrain hr3) <| P2 ((decide (r3 < 0)) = true) (decide_eq_true h4) <| P0))
    (fun h4 H =>
      eBind H fun r5 hr5 H =>
      eW Rs_TerrainNamed (fun _ => []) H <| gE func48 [rg [{ i := 1, call := some { cl := true, auto := true, ins := [], res := (RB r1), G' := [] }, dec := some true }, hC 7 true [] (RI r3) [], hF 8], rg [hC 3 true [] (RI r5) []]] (by kernel_rfl) (P1 (cs_rGood hr1) <| P2 (r1 = true) (h2) <| P1 (cs_rTerrain hr3) <| P2 ((decide (r3 < 0)) = false) (decide_eq_false h4) <| P1 (cs_rTerrain hr5) <| P0)))
  (fun h2 H =>
    eW Rs_TerrainNamed (fun _ => []) H <| gE func48 [rg [{ i := 1, call := some { cl := true, auto := true, ins := [], res := (RB r1), G' := [] }, dec := some false }], r0] (by kernel_rfl) (P1 (cs_rGood hr1) <| P2 (r1 = false) (eqF h2) <| P0))
/-! loop example/g00886/laws FnTerrains -/
theorem cw_FnTerrains {a0 : (List Int)} {a1 : (List Int)} {r : Bool} (H : Dw_FnTerrains a0 a1 = some r) : Ct X.P X.gl 5 [sl 1 (D.int .u8) a0, sl 1 (D.int .u8) a1] [] (RB r) [] :=
  Ct.of func5 (c := bdy f5) (by kernel_rfl) (by kernel_rfl) <|
  eBind H fun r1 hr1 H =>
  gS [r0] (by kernel_rfl) P0 <|
  eIf H (fun h2 H =>
    eW RB (fun _ => []) H <| gE func5 [rg [{ i := 2, call := some { cl := true, auto := true, ins := [], res := (RB r1), G' := [] }, dec := some true }], r0] (by kernel_rfl) (P1 (cw_big hr1) <| P2 (r1 = true) (h2) <| P0))
  (fun h2 H =>
    eBind H fun r3 hr3 H =>
    eBind H fun r4 hr4 H =>
    gS [rg [{ i := 2, call := some { cl := true, auto := true, ins := [], res := (RB r1), G' := [] }, dec := some false }], rg [hC 1 true [] (Rs_DrawStuckKinds r3) []]] (by kernel_rfl) (P1 (cw_big hr1) <| P2 (r1 = false) (eqF h2) <| P1 (cs_DrawStuckKinds hr3) <| P0) <|
    eIf H (fun h5 H =>
      eBind H fun r6 hr6 H =>
      gS [rg [{ i := 1, call := some { cl := false, ins := [], args := [.agg [sl 5 gi_Terrain r3.Rules.Terrains, sl 6 gi_Kind r3.Rules.Kinds, I r3.Rules.Stack, I r3.Rules.River, I r3.Rules.Road, I r3.Rules.Supply, I r3.Rules.Turns, I r3.Map.Width, I r3.Map.Height, sl 1 I r3.Map.Terrain, sl 1 I r3.Map.Rivers, sl 1 I r3.Map.Roads]], res := Ri_StuckKinds r4, G' := [] } }, hT 4], rg [{ i := 1, call := some { cl := false, ins := [], args := [.agg [sl 5 gi_Terrain r3.Rules.Terrains, sl 6 gi_Kind r3.Rules.Kinds, I r3.Rules.Stack, I r3.Rules.River, I r3.Rules.Road, I r3.Rules.Supply, I r3.Rules.Turns, I r3.Map.Width, I r3.Map.Height, sl 1 I r3.Map.Terrain, sl 1 I r3.Map.Rivers, sl 1 I r3.Map.Roads]], res := Rs_StuckKinds r6, G' := [] } }]] (by kernel_rfl) (PE ero_128 r3.Rules.Terrains <| PL gi_Kind r3.Rules.Kinds <| PI (r3.Rules.Stack : Int) <| PI (r3.Rules.River : Int) <| PI (r3.Rules.Road : Int) <| PI (r3.Rules.Supply : Int) <| PI (r3.Rules.Turns : Int) <| PI (r3.Map.Width : Int) <| PI (r3.Map.Height : Int) <| PL I r3.Map.Terrain <| PL I r3.Map.Rivers <| PL I r3.Map.Roads <| P2 (nfL (List.flatMap D.cells (Ri_StuckKinds r4))) ⟨nfL_map nf_3 _, trivial, trivial⟩ <| P2 (nfG []) trivial <| P1 (ci_StuckKinds hr4) <| P2 (r4.2 = true) (h5) <| PE ero_128 r3.Rules.Terrains <| PL gi_Kind r3.Rules.Kinds <| PI (r3.Rules.Stack : Int) <| PI (r3.Rules.River : Int) <| PI (r3.Rules.Road : Int) <| PI (r3.Rules.Supply : Int) <| PI (r3.Rules.Turns : Int) <| PI (r3.Map.Width : Int) <| PI (r3.Map.Height : Int) <| PL I r3.Map.Terrain <| PL I r3.Map.Rivers <| PL I r3.Map.Roads <| P2 (nfL (List.flatMap D.cells (Rs_StuckKinds r6))) ⟨nfL_map nf_3 _, trivial, trivial⟩ <| P2 (nfG []) trivial <| P1 (cs_StuckKinds hr6) <| P0) <|
      eIf H (fun h7 H =>
        eW RB (fun _ => []) H <| gE func5 [rg [hT 2], r0] (by kernel_rfl) (P2 ((!(true == r6.2)) = true) (h7) <| P0))
      (fun h7 H =>
        eBind H fun r8 hr8 H =>
        eIf H (fun h9 H =>
          eBind H fun r10 hr10 H =>
          eIf H (fun h11 H =>
            eW RB (fun _ => []) H <| gE func5 [rg [hF 2, { i := 6, call := some { cl := false, auto := true, ins := [], res := (RB r8), G' := [] }, dec := some true }, { i := 12, call := some { cl := false, ins := [], args := [.agg [sl 5 gi_Terrain r3.Rules.Terrains, sl 6 gi_Kind r3.Rules.Kinds, I r3.Rules.Stack, I r3.Rules.River, I r3.Rules.Road, I r3.Rules.Supply, I r3.Rules.Turns, I r3.Map.Width, I r3.Map.Height, sl 1 I r3.Map.Terrain, sl 1 I r3.Map.Rivers, sl 1 I r3.Map.Roads]], res := RB r10, G' := [] } }, hT 13], r0] (by kernel_rfl) (P2 ((!(true == r6.2)) = false) (eqF h7) <| P1 (cw_sameInts hr8) <| P2 (r8 = true) (h9) <| PE ero_128 r3.Rules.Terrains <| PL gi_Kind r3.Rules.Kinds <| PI (r3.Rules.Stack : Int) <| PI (r3.Rules.River : Int) <| PI (r3.Rules.Road : Int) <| PI (r3.Rules.Supply : Int) <| PI (r3.Rules.Turns : Int) <| PI (r3.Map.Width : Int) <| PI (r3.Map.Height : Int) <| PL I r3.Map.Terrain <| PL I r3.Map.Rivers <| PL I r3.Map.Roads <| P1 (ci_IsBoard hr10) <| P2 ((!(true == r10)) = true) (h11) <| P0))
          (fun h11 H =>
            eBind H fun r12 hr12 H =>
            eBind H fun r13 hr13 H =>
            gS [rg [hF 2, { i := 6, call := some { cl := false, auto := true, ins := [], res := (RB r8), G' := [] }, dec := some true }, { i := 12, call := some { cl := false, ins := [], args := [.agg [sl 5 gi_Terrain r3.Rules.Terrains, sl 6 gi_Kind r3.Rules.Kinds, I r3.Rules.Stack, I r3.Rules.River, I r3.Rules.Road, I r3.Rules.Supply, I r3.Rules.Turns, I r3.Map.Width, I r3.Map.Height, sl 1 I r3.Map.Terrain, sl 1 I r3.Map.Rivers, sl 1 I r3.Map.Roads]], res := RB r10, G' := [] } }, hF 13], rg [{ i := 1, call := some { cl := false, ins := [], args := [.agg [sl 5 gi_Terrain r3.Rules.Terrains, sl 6 gi_Kind r3.Rules.Kinds, I r3.Rules.Stack, I r3.Rules.River, I r3.Rules.Road, I r3.Rules.Supply, I r3.Rules.Turns, I r3.Map.Width, I r3.Map.Height, sl 1 I r3.Map.Terrain, sl 1 I r3.Map.Rivers, sl 1 I r3.Map.Roads]], res := Ri_UnusedTerrains r12, G' := [] } }], rg [{ i := 1, call := some { cl := false, ins := [], args := [.agg [sl 5 gi_Terrain r3.Rules.Terrains, sl 6 gi_Kind r3.Rules.Kinds, I r3.Rules.Stack, I r3.Rules.River, I r3.Rules.Road, I r3.Rules.Supply, I r3.Rules.Turns, I r3.Map.Width, I r3.Map.Height, sl 1 I r3.Map.Terrain, sl 1 I r3.Map.Rivers, sl 1 I r3.Map.Roads]], res := Rs_UnusedTerrains r13, G' := [] } }]] (by kernel_rfl) (P2 ((!(true == r6.2)) = false) (eqF h7) <| P1 (cw_sameInts hr8) <| P2 (r8 = true) (h9) <| PE ero_128 r3.Rules.Terrains <| PL gi_Kind r3.Rules.Kinds <| PI (r3.Rules.Stack : Int) <| PI (r3.Rules.River : Int) <| PI (r3.Rules.Road : Int) <| PI (r3.Rules.Supply : Int) <| PI (r3.Rules.Turns : Int) <| PI (r3.Map.Width : Int) <| PI (r3.Map.Height : Int) <| PL I r3.Map.Terrain <| PL I r3.Map.Rivers <| PL I r3.Map.Roads <| P1 (ci_IsBoard hr10) <| P2 ((!(true == r10)) = false) (eqF h11) <| PE ero_128 r3.Rules.Terrains <| PL gi_Kind r3.Rules.Kinds <| PI (r3.Rules.Stack : Int) <| PI (r3.Rules.River : Int) <| PI (r3.Rules.Road : Int) <| PI (r3.Rules.Supply : Int) <| PI (r3.Rules.Turns : Int) <| PI (r3.Map.Width : Int) <| PI (r3.Map.Height : Int) <| PL I r3.Map.Terrain <| PL I r3.Map.Rivers <| PL I r3.Map.Roads <| P2 (nfL (List.flatMap D.cells (Ri_UnusedTerrains r12))) ⟨nfL_map nf_3 _, trivial, trivial⟩ <| P2 (nfG []) trivial <| P1 (ci_UnusedTerrains hr12) <| PE ero_128 r3.Rules.Terrains <| PL gi_Kind r3.Rules.Kinds <| PI (r3.Rules.Stack : Int) <| PI (r3.Rules.River : Int) <| PI (r3.Rules.Road : Int) <| PI (r3.Rules.Supply : Int) <| PI (r3.Rules.Turns : Int) <| PI (r3.Map.Width : Int) <| PI (r3.Map.Height : Int) <| PL I r3.Map.Terrain <| PL I r3.Map.Rivers <| PL I r3.Map.Roads <| P2 (nfL (List.flatMap D.cells (Rs_UnusedTerrains r13))) ⟨nfL_map nf_3 _, trivial, trivial⟩ <| P2 (nfG []) trivial <| P1 (cs_UnusedTerrains hr13) <| P0) <|
            eIf H (fun h14 H =>
              eW RB (fun _ => []) H <| gE func5 [rg [hT 2], r0] (by kernel_rfl) (P2 ((!(r12.2 == r13.2)) = true) (h14) <| P0))
            (fun h14 H =>
              eBind H fun r15 hr15 H =>
              eIf H (fun h16 H =>
                eBind H fun r17 hr17 H =>
                gS [rg [hF 2, { i := 6, call := some { cl := false, auto := true, ins := [], res := (RB r15), G' := [] }, dec := some true }], r0] (by kernel_rfl) (P2 ((!(r12.2 == r13.2)) = false) (eqF h14) <| P1 (cw_sameInts hr15) <| P2 (r15 = true) (h16) <| P0) <|
                eIf H (fun h18 H =>
                  gS [rg [{ i := 4, call := some { cl := false, ins := [], args := [.agg [sl 5 gi_Terrain r3.Rules.Terrains, sl 6 gi_Kind r3.Rules.Kinds, I r3.Rules.Stack, I r3.Rules.River, I r3.Rules.Road, I r3.Rules.Supply, I r3.Rules.Turns], .agg [I r3.Map.Width, I r3.Map.Height, sl 1 I r3.Map.Terrain, sl 1 I r3.Map.Rivers, sl 1 I r3.Map.Roads]], res := Ri_MissingTerrains r17, G' := [] } }, hT 7]] (by kernel_rfl) (PE ero_128 r3.Rules.Terrains <| PL gi_Kind r3.Rules.Kinds <| PI (r3.Rules.Stack : Int) <| PI (r3.Rules.River : Int) <| PI (r3.Rules.Road : Int) <| PI (r3.Rules.Supply : Int) <| PI (r3.Rules.Turns : Int) <| PI (r3.Map.Width : Int) <| PI (r3.Map.Height : Int) <| PL I r3.Map.Terrain <| PL I r3.Map.Rivers <| PL I r3.Map.Roads <| P2 (nfL (List.flatMap D.cells (Ri_MissingTerrains r17))) ⟨nfL_map nf_3 _, trivial, trivial⟩ <| P2 (nfG []) trivial <| P1 (ci_MissingTerrains hr17) <| P2 (r17.2 = true) (h18) <| P0) <|
                  eIf H (fun h19 H =>
                    eBind H fun r20 hr20 H =>
                    eBind H fun r21 hr21 H =>
                    eBind H fun r22 hr22 H =>
                    gS [rg [hF 5], rg [hC 1 true [] (Rs_DrawMissingTerrains r20) []], rg [{ i := 2, call := some { cl := false, ins := [], args := [.agg [sl 5 gi_Terrain r20.1.Terrains, sl 6 gi_Kind r20.1.Kinds, I r20.1.Stack, I r20.1.River, I r20.1.Road, I r20.1.Supply, I r20.1.Turns], .agg [I r20.2.Width, I r20.2.Height, sl 1 I r20.2.Terrain, sl 1 I r20.2.Rivers, sl 1 I r20.2.Roads]], res := Ri_MissingTerrains r21, G' := [] } }], rg [{ i := 2, call := some { cl := false, ins := [], args := [.agg [sl 5 gi_Terrain r20.1.Terrains, sl 6 gi_Kind r20.1.Kinds, I r20.1.Stack, I r20.1.River, I r20.1.Road, I r20.1.Supply, I r20.1.Turns], .agg [I r20.2.Width, I r20.2.Height, sl 1 I r20.2.Terrain, sl 1 I r20.2.Rivers, sl 1 I r20.2.Roads]], res := Rs_MissingTerrains r22, G' := [] } }]] (by kernel_rfl) (P2 (((((r17.1.length : Nat) : Int) : Int) != 0) = false) (bneF h19) <| P1 (cs_DrawMissingTerrains hr20) <| PE ero_128 r20.1.Terrains <| PL gi_Kind r20.1.Kinds <| PI (r20.1.Stack : Int) <| PI (r20.1.River : Int) <| PI (r20.1.Road : Int) <| PI (r20.1.Supply : Int) <| PI (r20.1.Turns : Int) <| PI (r20.2.Width : Int) <| PI (r20.2.Height : Int) <| PL I r20.2.Terrain <| PL I r20.2.Rivers <| PL I r20.2.Roads <| P2 (nfL (List.flatMap D.cells (Ri_MissingTerrains r21))) ⟨nfL_map nf_3 _, trivial, trivial⟩ <| P2 (nfG []) trivial <| P1 (ci_MissingTerrains hr21) <| PE ero_128 r20.1.Terrains <| PL gi_Kind r20.1.Kinds <| PI (r20.1.Stack : Int) <| PI (r20.1.River : Int) <| PI (r20.1.Road : Int) <| PI (r20.1.Supply : Int) <| PI (r20.1.Turns : Int) <| PI (r20.2.Width : Int) <| PI (r20.2.Height : Int) <| PL I r20.2.Terrain <| PL I r20.2.Rivers <| PL I r20.2.Roads <| P2 (nfL (List.flatMap D.cells (Rs_MissingTerrains r22))) ⟨nfL_map nf_3 _, trivial, trivial⟩ <| P2 (nfG []) trivial <| P1 (cs_MissingTerrains hr22) <| P0) <|
                    eIf H (fun h23 H =>
                      eW RB (fun _ => []) H <| gE func5 [rg [hT 2], r0] (by kernel_rfl) (P2 ((!(r21.2 == r22.2)) = true) (h23) <| P0))
                    (fun h23 H =>
                      eBind H fun r24 hr24 H =>
                      eIf H (fun h25 H =>
                        eBind H fun r26 hr26 H =>
                        eBind H fun r27 hr27 H =>
                        eBind H fun r28 hr28 H =>
                        eBind H fun r29 hr29 H =>
                        eBind H fun r30 hr30 H =>
                        eBind H fun r31 hr31 H =>
                        gS [rg [hF 2, { i := 6, call := some { cl := false, auto := true, ins := [], res := (RB r24), G' := [] }, dec := some true }], rg [hC 1 true [] (Rs_DrawEnterCost r26) []], rg [hC 3 true [] (Ri_EnterCost r27) []], rg [hC 3 true [] (Rs_EnterCost r28) []], rg [hC 1 true [] (Rs_DrawTerrainNamed r29) []], rg [{ i := 2, call := some { cl := false, ins := [], args := [.agg [sl 5 gi_Terrain r29.1.Terrains, sl 6 gi_Kind r29.1.Kinds, I r29.1.Stack, I r29.1.River, I r29.1.Road, I r29.1.Supply, I r29.1.Turns], .str r29.2], res := Ri_TerrainNamed r30, G' := [] } }], rg [{ i := 2, call := some { cl := false, ins := [], args := [.agg [sl 5 gi_Terrain r29.1.Terrains, sl 6 gi_Kind r29.1.Kinds, I r29.1.Stack, I r29.1.River, I r29.1.Road, I r29.1.Supply, I r29.1.Turns], .str r29.2], res := Rs_TerrainNamed r31, G' := [] } }]] (by kernel_rfl) (P2 ((!(r21.2 == r22.2)) = false) (eqF h23) <| P1 (cw_sameInts hr24) <| P2 (r24 = true) (h25) <| P1 (cs_DrawEnterCost hr26) <| P1 (ci_EnterCost hr27) <| P1 (cs_EnterCost hr28) <| P1 (cs_DrawTerrainNamed hr29) <| PE ero_128 r29.1.Terrains <| PL gi_Kind r29.1.Kinds <| PI (r29.1.Stack : Int) <| PI (r29.1.River : Int) <| PI (r29.1.Road : Int) <| PI (r29.1.Supply : Int) <| PI (r29.1.Turns : Int) <| PI r29.2 <| P1 (ci_TerrainNamed hr30) <| PE ero_128 r29.1.Terrains <| PL gi_Kind r29.1.Kinds <| PI (r29.1.Stack : Int) <| PI (r29.1.River : Int) <| PI (r29.1.Road : Int) <| PI (r29.1.Supply : Int) <| PI (r29.1.Turns : Int) <| PI r29.2 <| P1 (cs_TerrainNamed hr31) <| P0) <|
                        eIf H (fun h32 H =>
                          eIf H (fun h33 H =>
                            eIf H (fun h34 H =>
                              eW RB (fun _ => []) H <| gE func5 [rg [hT 2, hT 6, hT 11]] (by kernel_rfl) (P2 ((r27.2 == r28.2) = true) (h32) <| P2 (((r27.1 : Int) == r28.1) = true) (beqT h33) <| P2 ((r30.2 == r31.2) = true) (h34) <| P0))
                            (fun h34 H =>
                              eW RB (fun _ => []) H <| gE func5 [rg [hT 2, hT 6, hF 11]] (by kernel_rfl) (P2 ((r27.2 == r28.2) = true) (h32) <| P2 (((r27.1 : Int) == r28.1) = true) (beqT h33) <| P2 ((r30.2 == r31.2) = false) (eqF h34) <| P0)))
                          (fun h33 H =>
                            eW RB (fun _ => []) H <| gE func5 [rg [hT 2, hF 6]] (by kernel_rfl) (P2 ((r27.2 == r28.2) = true) (h32) <| P2 (((r27.1 : Int) == r28.1) = false) (beqF h33) <| P0)))
                        (fun h32 H =>
                          eW RB (fun _ => []) H <| gE func5 [rg [hF 2]] (by kernel_rfl) (P2 ((r27.2 == r28.2) = false) (eqF h32) <| P0)))
                      (fun h25 H =>
                        eW RB (fun _ => []) H <| gE func5 [rg [hF 2, { i := 6, call := some { cl := false, auto := true, ins := [], res := (RB r24), G' := [] }, dec := some false }], r0] (by kernel_rfl) (P2 ((!(r21.2 == r22.2)) = false) (eqF h23) <| P1 (cw_sameInts hr24) <| P2 (r24 = false) (eqF h25) <| P0))))
                  (fun h19 H =>
                    eW RB (fun _ => []) H <| gE func5 [rg [hT 5], r0] (by kernel_rfl) (P2 (((((r17.1.length : Nat) : Int) : Int) != 0) = true) (bneT h19) <| P0)))
                (fun h18 H =>
                  eW RB (fun _ => []) H <| gE func5 [rg [{ i := 4, call := some { cl := false, ins := [], args := [.agg [sl 5 gi_Terrain r3.Rules.Terrains, sl 6 gi_Kind r3.Rules.Kinds, I r3.Rules.Stack, I r3.Rules.River, I r3.Rules.Road, I r3.Rules.Supply, I r3.Rules.Turns], .agg [I r3.Map.Width, I r3.Map.Height, sl 1 I r3.Map.Terrain, sl 1 I r3.Map.Rivers, sl 1 I r3.Map.Roads]], res := Ri_MissingTerrains r17, G' := [] } }, hF 7], r0, r0] (by kernel_rfl) (PE ero_128 r3.Rules.Terrains <| PL gi_Kind r3.Rules.Kinds <| PI (r3.Rules.Stack : Int) <| PI (r3.Rules.River : Int) <| PI (r3.Rules.Road : Int) <| PI (r3.Rules.Supply : Int) <| PI (r3.Rules.Turns : Int) <| PI (r3.Map.Width : Int) <| PI (r3.Map.Height : Int) <| PL I r3.Map.Terrain <| PL I r3.Map.Rivers <| PL I r3.Map.Roads <| P2 (nfL (List.flatMap D.cells (Ri_MissingTerrains r17))) ⟨nfL_map nf_3 _, trivial, trivial⟩ <| P2 (nfG []) trivial <| P1 (ci_MissingTerrains hr17) <| P2 (r17.2 = false) (eqF h18) <| P0)))
              (fun h16 H =>
                eW RB (fun _ => []) H <| gE func5 [rg [hF 2, { i := 6, call := some { cl := false, auto := true, ins := [], res := (RB r15), G' := [] }, dec := some false }], r0] (by kernel_rfl) (P2 ((!(r12.2 == r13.2)) = false) (eqF h14) <| P1 (cw_sameInts hr15) <| P2 (r15 = false) (eqF h16) <| P0)))))
        (fun h9 H =>
          eW RB (fun _ => []) H <| gE func5 [rg [hF 2, { i := 6, call := some { cl := false, auto := true, ins := [], res := (RB r8), G' := [] }, dec := some false }], r0] (by kernel_rfl) (P2 ((!(true == r6.2)) = false) (eqF h7) <| P1 (cw_sameInts hr8) <| P2 (r8 = false) (eqF h9) <| P0))))
    (fun h5 H =>
      eBind H fun r6 hr6 H =>
      gS [rg [{ i := 1, call := some { cl := false, ins := [], args := [.agg [sl 5 gi_Terrain r3.Rules.Terrains, sl 6 gi_Kind r3.Rules.Kinds, I r3.Rules.Stack, I r3.Rules.River, I r3.Rules.Road, I r3.Rules.Supply, I r3.Rules.Turns, I r3.Map.Width, I r3.Map.Height, sl 1 I r3.Map.Terrain, sl 1 I r3.Map.Rivers, sl 1 I r3.Map.Roads]], res := Ri_StuckKinds r4, G' := [] } }, hF 4], rg [{ i := 1, call := some { cl := false, ins := [], args := [.agg [sl 5 gi_Terrain r3.Rules.Terrains, sl 6 gi_Kind r3.Rules.Kinds, I r3.Rules.Stack, I r3.Rules.River, I r3.Rules.Road, I r3.Rules.Supply, I r3.Rules.Turns, I r3.Map.Width, I r3.Map.Height, sl 1 I r3.Map.Terrain, sl 1 I r3.Map.Rivers, sl 1 I r3.Map.Roads]], res := Rs_StuckKinds r6, G' := [] } }]] (by kernel_rfl) (PE ero_128 r3.Rules.Terrains <| PL gi_Kind r3.Rules.Kinds <| PI (r3.Rules.Stack : Int) <| PI (r3.Rules.River : Int) <| PI (r3.Rules.Road : Int) <| PI (r3.Rules.Supply : Int) <| PI (r3.Rules.Turns : Int) <| PI (r3.Map.Width : Int) <| PI (r3.Map.Height : Int) <| PL I r3.Map.Terrain <| PL I r3.Map.Rivers <| PL I r3.Map.Roads <| P2 (nfL (List.flatMap D.cells (Ri_StuckKinds r4))) ⟨nfL_map nf_3 _, trivial, trivial⟩ <| P2 (nfG []) trivial <| P1 (ci_StuckKinds hr4) <| P2 (r4.2 = false) (eqF h5) <| PE ero_128 r3.Rules.Terrains <| PL gi_Kind r3.Rules.Kinds <| PI (r3.Rules.Stack : Int) <| PI (r3.Rules.River : Int) <| PI (r3.Rules.Road : Int) <| PI (r3.Rules.Supply : Int) <| PI (r3.Rules.Turns : Int) <| PI (r3.Map.Width : Int) <| PI (r3.Map.Height : Int) <| PL I r3.Map.Terrain <| PL I r3.Map.Rivers <| PL I r3.Map.Roads <| P2 (nfL (List.flatMap D.cells (Rs_StuckKinds r6))) ⟨nfL_map nf_3 _, trivial, trivial⟩ <| P2 (nfG []) trivial <| P1 (cs_StuckKinds hr6) <| P0) <|
      eIf H (fun h7 H =>
        eW RB (fun _ => []) H <| gE func5 [rg [hT 2], r0] (by kernel_rfl) (P2 ((!(false == r6.2)) = true) (h7) <| P0))
      (fun h7 H =>
        eBind H fun r8 hr8 H =>
        eIf H (fun h9 H =>
          eBind H fun r10 hr10 H =>
          eIf H (fun h11 H =>
            eW RB (fun _ => []) H <| gE func5 [rg [hF 2, { i := 6, call := some { cl := false, auto := true, ins := [], res := (RB r8), G' := [] }, dec := some true }, { i := 12, call := some { cl := false, ins := [], args := [.agg [sl 5 gi_Terrain r3.Rules.Terrains, sl 6 gi_Kind r3.Rules.Kinds, I r3.Rules.Stack, I r3.Rules.River, I r3.Rules.Road, I r3.Rules.Supply, I r3.Rules.Turns, I r3.Map.Width, I r3.Map.Height, sl 1 I r3.Map.Terrain, sl 1 I r3.Map.Rivers, sl 1 I r3.Map.Roads]], res := RB r10, G' := [] } }, hT 13], r0] (by kernel_rfl) (P2 ((!(false == r6.2)) = false) (eqF h7) <| P1 (cw_sameInts hr8) <| P2 (r8 = true) (h9) <| PE ero_128 r3.Rules.Terrains <| PL gi_Kind r3.Rules.Kinds <| PI (r3.Rules.Stack : Int) <| PI (r3.Rules.River : Int) <| PI (r3.Rules.Road : Int) <| PI (r3.Rules.Supply : Int) <| PI (r3.Rules.Turns : Int) <| PI (r3.Map.Width : Int) <| PI (r3.Map.Height : Int) <| PL I r3.Map.Terrain <| PL I r3.Map.Rivers <| PL I r3.Map.Roads <| P1 (ci_IsBoard hr10) <| P2 ((!(false == r10)) = true) (h11) <| P0))
          (fun h11 H =>
            eBind H fun r12 hr12 H =>
            eBind H fun r13 hr13 H =>
            gS [rg [hF 2, { i := 6, call := some { cl := false, auto := true, ins := [], res := (RB r8), G' := [] }, dec := some true }, { i := 12, call := some { cl := false, ins := [], args := [.agg [sl 5 gi_Terrain r3.Rules.Terrains, sl 6 gi_Kind r3.Rules.Kinds, I r3.Rules.Stack, I r3.Rules.River, I r3.Rules.Road, I r3.Rules.Supply, I r3.Rules.Turns, I r3.Map.Width, I r3.Map.Height, sl 1 I r3.Map.Terrain, sl 1 I r3.Map.Rivers, sl 1 I r3.Map.Roads]], res := RB r10, G' := [] } }, hF 13], rg [{ i := 1, call := some { cl := false, ins := [], args := [.agg [sl 5 gi_Terrain r3.Rules.Terrains, sl 6 gi_Kind r3.Rules.Kinds, I r3.Rules.Stack, I r3.Rules.River, I r3.Rules.Road, I r3.Rules.Supply, I r3.Rules.Turns, I r3.Map.Width, I r3.Map.Height, sl 1 I r3.Map.Terrain, sl 1 I r3.Map.Rivers, sl 1 I r3.Map.Roads]], res := Ri_UnusedTerrains r12, G' := [] } }], rg [{ i := 1, call := some { cl := false, ins := [], args := [.agg [sl 5 gi_Terrain r3.Rules.Terrains, sl 6 gi_Kind r3.Rules.Kinds, I r3.Rules.Stack, I r3.Rules.River, I r3.Rules.Road, I r3.Rules.Supply, I r3.Rules.Turns, I r3.Map.Width, I r3.Map.Height, sl 1 I r3.Map.Terrain, sl 1 I r3.Map.Rivers, sl 1 I r3.Map.Roads]], res := Rs_UnusedTerrains r13, G' := [] } }]] (by kernel_rfl) (P2 ((!(false == r6.2)) = false) (eqF h7) <| P1 (cw_sameInts hr8) <| P2 (r8 = true) (h9) <| PE ero_128 r3.Rules.Terrains <| PL gi_Kind r3.Rules.Kinds <| PI (r3.Rules.Stack : Int) <| PI (r3.Rules.River : Int) <| PI (r3.Rules.Road : Int) <| PI (r3.Rules.Supply : Int) <| PI (r3.Rules.Turns : Int) <| PI (r3.Map.Width : Int) <| PI (r3.Map.Height : Int) <| PL I r3.Map.Terrain <| PL I r3.Map.Rivers <| PL I r3.Map.Roads <| P1 (ci_IsBoard hr10) <| P2 ((!(false == r10)) = false) (eqF h11) <| PE ero_128 r3.Rules.Terrains <| PL gi_Kind r3.Rules.Kinds <| PI (r3.Rules.Stack : Int) <| PI (r3.Rules.River : Int) <| PI (r3.Rules.Road : Int) <| PI (r3.Rules.Supply : Int) <| PI (r3.Rules.Turns : Int) <| PI (r3.Map.Width : Int) <| PI (r3.Map.Height : Int) <| PL I r3.Map.Terrain <| PL I r3.Map.Rivers <| PL I r3.Map.Roads <| P2 (nfL (List.flatMap D.cells (Ri_UnusedTerrains r12))) ⟨nfL_map nf_3 _, trivial, trivial⟩ <| P2 (nfG []) trivial <| P1 (ci_UnusedTerrains hr12) <| PE ero_128 r3.Rules.Terrains <| PL gi_Kind r3.Rules.Kinds <| PI (r3.Rules.Stack : Int) <| PI (r3.Rules.River : Int) <| PI (r3.Rules.Road : Int) <| PI (r3.Rules.Supply : Int) <| PI (r3.Rules.Turns : Int) <| PI (r3.Map.Width : Int) <| PI (r3.Map.Height : Int) <| PL I r3.Map.Terrain <| PL I r3.Map.Rivers <| PL I r3.Map.Roads <| P2 (nfL (List.flatMap D.cells (Rs_UnusedTerrains r13))) ⟨nfL_map nf_3 _, trivial, trivial⟩ <| P2 (nfG []) trivial <| P1 (cs_UnusedTerrains hr13) <| P0) <|
            eIf H (fun h14 H =>
              eW RB (fun _ => []) H <| gE func5 [rg [hT 2], r0] (by kernel_rfl) (P2 ((!(r12.2 == r13.2)) = true) (h14) <| P0))
            (fun h14 H =>
              eBind H fun r15 hr15 H =>
              eIf H (fun h16 H =>
                eBind H fun r17 hr17 H =>
                eBind H fun r18 hr18 H =>
                eBind H fun r19 hr19 H =>
                gS [rg [hF 2, { i := 6, call := some { cl := false, auto := true, ins := [], res := (RB r15), G' := [] }, dec := some true }], r0, rg [hC 1 true [] (Rs_DrawMissingTerrains r17) []], rg [{ i := 2, call := some { cl := false, ins := [], args := [.agg [sl 5 gi_Terrain r17.1.Terrains, sl 6 gi_Kind r17.1.Kinds, I r17.1.Stack, I r17.1.River, I r17.1.Road, I r17.1.Supply, I r17.1.Turns], .agg [I r17.2.Width, I r17.2.Height, sl 1 I r17.2.Terrain, sl 1 I r17.2.Rivers, sl 1 I r17.2.Roads]], res := Ri_MissingTerrains r18, G' := [] } }], rg [{ i := 2, call := some { cl := false, ins := [], args := [.agg [sl 5 gi_Terrain r17.1.Terrains, sl 6 gi_Kind r17.1.Kinds, I r17.1.Stack, I r17.1.River, I r17.1.Road, I r17.1.Supply, I r17.1.Turns], .agg [I r17.2.Width, I r17.2.Height, sl 1 I r17.2.Terrain, sl 1 I r17.2.Rivers, sl 1 I r17.2.Roads]], res := Rs_MissingTerrains r19, G' := [] } }]] (by kernel_rfl) (P2 ((!(r12.2 == r13.2)) = false) (eqF h14) <| P1 (cw_sameInts hr15) <| P2 (r15 = true) (h16) <| P1 (cs_DrawMissingTerrains hr17) <| PE ero_128 r17.1.Terrains <| PL gi_Kind r17.1.Kinds <| PI (r17.1.Stack : Int) <| PI (r17.1.River : Int) <| PI (r17.1.Road : Int) <| PI (r17.1.Supply : Int) <| PI (r17.1.Turns : Int) <| PI (r17.2.Width : Int) <| PI (r17.2.Height : Int) <| PL I r17.2.Terrain <| PL I r17.2.Rivers <| PL I r17.2.Roads <| P2 (nfL (List.flatMap D.cells (Ri_MissingTerrains r18))) ⟨nfL_map nf_3 _, trivial, trivial⟩ <| P2 (nfG []) trivial <| P1 (ci_MissingTerrains hr18) <| PE ero_128 r17.1.Terrains <| PL gi_Kind r17.1.Kinds <| PI (r17.1.Stack : Int) <| PI (r17.1.River : Int) <| PI (r17.1.Road : Int) <| PI (r17.1.Supply : Int) <| PI (r17.1.Turns : Int) <| PI (r17.2.Width : Int) <| PI (r17.2.Height : Int) <| PL I r17.2.Terrain <| PL I r17.2.Rivers <| PL I r17.2.Roads <| P2 (nfL (List.flatMap D.cells (Rs_MissingTerrains r19))) ⟨nfL_map nf_3 _, trivial, trivial⟩ <| P2 (nfG []) trivial <| P1 (cs_MissingTerrains hr19) <| P0) <|
                eIf H (fun h20 H =>
                  eW RB (fun _ => []) H <| gE func5 [rg [hT 2], r0] (by kernel_rfl) (P2 ((!(r18.2 == r19.2)) = true) (h20) <| P0))
                (fun h20 H =>
                  eBind H fun r21 hr21 H =>
                  eIf H (fun h22 H =>
                    eBind H fun r23 hr23 H =>
                    eBind H fun r24 hr24 H =>
                    eBind H fun r25 hr25 H =>
                    eBind H fun r26 hr26 H =>
                    eBind H fun r27 hr27 H =>
                    eBind H fun r28 hr28 H =>
                    gS [rg [hF 2, { i := 6, call := some { cl := false, auto := true, ins := [], res := (RB r21), G' := [] }, dec := some true }], rg [hC 1 true [] (Rs_DrawEnterCost r23) []], rg [hC 3 true [] (Ri_EnterCost r24) []], rg [hC 3 true [] (Rs_EnterCost r25) []], rg [hC 1 true [] (Rs_DrawTerrainNamed r26) []], rg [{ i := 2, call := some { cl := false, ins := [], args := [.agg [sl 5 gi_Terrain r26.1.Terrains, sl 6 gi_Kind r26.1.Kinds, I r26.1.Stack, I r26.1.River, I r26.1.Road, I r26.1.Supply, I r26.1.Turns], .str r26.2], res := Ri_TerrainNamed r27, G' := [] } }], rg [{ i := 2, call := some { cl := false, ins := [], args := [.agg [sl 5 gi_Terrain r26.1.Terrains, sl 6 gi_Kind r26.1.Kinds, I r26.1.Stack, I r26.1.River, I r26.1.Road, I r26.1.Supply, I r26.1.Turns], .str r26.2], res := Rs_TerrainNamed r28, G' := [] } }]] (by kernel_rfl) (P2 ((!(r18.2 == r19.2)) = false) (eqF h20) <| P1 (cw_sameInts hr21) <| P2 (r21 = true) (h22) <| P1 (cs_DrawEnterCost hr23) <| P1 (ci_EnterCost hr24) <| P1 (cs_EnterCost hr25) <| P1 (cs_DrawTerrainNamed hr26) <| PE ero_128 r26.1.Terrains <| PL gi_Kind r26.1.Kinds <| PI (r26.1.Stack : Int) <| PI (r26.1.River : Int) <| PI (r26.1.Road : Int) <| PI (r26.1.Supply : Int) <| PI (r26.1.Turns : Int) <| PI r26.2 <| P1 (ci_TerrainNamed hr27) <| PE ero_128 r26.1.Terrains <| PL gi_Kind r26.1.Kinds <| PI (r26.1.Stack : Int) <| PI (r26.1.River : Int) <| PI (r26.1.Road : Int) <| PI (r26.1.Supply : Int) <| PI (r26.1.Turns : Int) <| PI r26.2 <| P1 (cs_TerrainNamed hr28) <| P0) <|
                    eIf H (fun h29 H =>
                      eIf H (fun h30 H =>
                        eIf H (fun h31 H =>
                          eW RB (fun _ => []) H <| gE func5 [rg [hT 2, hT 6, hT 11]] (by kernel_rfl) (P2 ((r24.2 == r25.2) = true) (h29) <| P2 (((r24.1 : Int) == r25.1) = true) (beqT h30) <| P2 ((r27.2 == r28.2) = true) (h31) <| P0))
                        (fun h31 H =>
                          eW RB (fun _ => []) H <| gE func5 [rg [hT 2, hT 6, hF 11]] (by kernel_rfl) (P2 ((r24.2 == r25.2) = true) (h29) <| P2 (((r24.1 : Int) == r25.1) = true) (beqT h30) <| P2 ((r27.2 == r28.2) = false) (eqF h31) <| P0)))
                      (fun h30 H =>
                        eW RB (fun _ => []) H <| gE func5 [rg [hT 2, hF 6]] (by kernel_rfl) (P2 ((r24.2 == r25.2) = true) (h29) <| P2 (((r24.1 : Int) == r25.1) = false) (beqF h30) <| P0)))
                    (fun h29 H =>
                      eW RB (fun _ => []) H <| gE func5 [rg [hF 2]] (by kernel_rfl) (P2 ((r24.2 == r25.2) = false) (eqF h29) <| P0)))
                  (fun h22 H =>
                    eW RB (fun _ => []) H <| gE func5 [rg [hF 2, { i := 6, call := some { cl := false, auto := true, ins := [], res := (RB r21), G' := [] }, dec := some false }], r0] (by kernel_rfl) (P2 ((!(r18.2 == r19.2)) = false) (eqF h20) <| P1 (cw_sameInts hr21) <| P2 (r21 = false) (eqF h22) <| P0))))
              (fun h16 H =>
                eW RB (fun _ => []) H <| gE func5 [rg [hF 2, { i := 6, call := some { cl := false, auto := true, ins := [], res := (RB r15), G' := [] }, dec := some false }], r0] (by kernel_rfl) (P2 ((!(r12.2 == r13.2)) = false) (eqF h14) <| P1 (cw_sameInts hr15) <| P2 (r15 = false) (eqF h16) <| P0)))))
        (fun h9 H =>
          eW RB (fun _ => []) H <| gE func5 [rg [hF 2, { i := 6, call := some { cl := false, auto := true, ins := [], res := (RB r8), G' := [] }, dec := some false }], r0] (by kernel_rfl) (P2 ((!(false == r6.2)) = false) (eqF h7) <| P1 (cw_sameInts hr8) <| P2 (r8 = false) (eqF h9) <| P0)))))
end Go.Proofs.YtfnhclmdobdkbaaDoor.Ab
