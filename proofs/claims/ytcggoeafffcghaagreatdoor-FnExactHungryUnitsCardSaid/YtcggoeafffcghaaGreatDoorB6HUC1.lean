/- Part of the proof of FnExactHungryUnitsCard: no condition of its own. -/
import Derived.Test.YtcggoeafffcghaaGreatDoorB6HUC
set_option linter.unusedVariables false
set_option linter.unusedSimpArgs false
open Go Go.Proofs Go.Proofs.Tryz
namespace Go.Proofs.YtcggoeafffcghaaGreatDoor.Ab
/-! loop example/g00886/impl IsCombatTable -/
noncomputable def Ki_IsCombatTable : Si_IsCombatTable → List Item
  | .h1 .. => nav 300 3 [false] [.code (bdy f42)]
  | .h2 .. => nav 300 5 [false, false] [.code (bdy f42)]
def Zi_IsCombatTable : Si_IsCombatTable → St
  | .h1 t0 t1 t2 b3 => ⟨sts 90 [(1, .ptr 0 3 0 0), (29, sl 2 gi_Odds t0), (30, I t1), (31, I t2)], [some ⟨false, true, 3, 1, [.agg [sl 2 gi_Odds b3.Columns, I b3.Dice, sl 1 (sl 1 I) b3.Results]]⟩]⟩
  | .h2 t0 t1 t2 b3 => ⟨sts 90 [(1, .ptr 0 3 0 0), (73, sl 1 (sl 1 I) t0), (74, I t1), (75, I t2)], [some ⟨false, true, 3, 1, [.agg [sl 2 gi_Odds b3.Columns, I b3.Dice, sl 1 (sl 1 I) b3.Results]]⟩]⟩
abbrev Qi_IsCombatTable := Nx X 42 0 Ki_IsCombatTable Zi_IsCombatTable RB (fun _ => [])
theorem ni_IsCombatTable : ∀ s o, Bi_IsCombatTable s = some o → Qi_IsCombatTable (Ki_IsCombatTable s) (Zi_IsCombatTable s) o
  | .h1 t0 t1 t2 b3, o, H =>
    eIf H (fun h1 H =>
      eCk H fun h2 H =>
      eBind H fun x3 hx3 H =>
      eBind H fun r4 hr4 H =>
      gN [rg [hT 0], rg [hE 2 (gi_Odds x3)]] (by kernel_rfl) (P2 ((decide (t2 < t1)) = true) (decide_eq_true h1) <| P1 h2 <| P1 (int_lt_of_at h2 hx3) <| P1 (at_map gi_Odds hx3) <| P0) <|
      eIf H (fun h5 H =>
        eBind H fun r6 hr6 H =>
        eIf H (fun h7 H =>
          gN [rg [{ i := 2, call := some { cl := true, auto := true, ins := [], res := (RB r4), G' := [] }, dec := some true }, { i := 7, call := some { cl := true, auto := true, ins := [], res := (RB r6), G' := [] }, dec := some true }]] (by kernel_rfl) (P1 (ci_inRange hr4) <| P2 (r4 = true) (h5) <| P1 (ci_inRange hr6) <| P2 (r6 = true) (h7) <| P0) <|
          eIf H (fun h8 H =>
            eCk H fun h9 H =>
            eBind H fun x10 hx10 H =>
            eCk H fun h11 H =>
            eBind H fun x12 hx12 H =>
            eIf H (fun h13 H =>
              eN H <| gE func42 [rg [hT 1, hE 9 (gi_Odds x10), hE 21 (gi_Odds x12), hT 23], r0] (by kernel_rfl) (P2 ((decide (t2 > 0)) = true) (decide_eq_true h8) <| P1 h9 <| P1 (int_lt_of_at h9 hx10) <| P1 (at_map gi_Odds hx10) <| P1 h11 <| P1 (int_lt_of_at h11 hx12) <| P1 (at_map gi_Odds hx12) <| P2 ((decide ((IntKind.wrap .i64 (x10.Num * x3.Den)) ≥ (IntKind.wrap .i64 (x3.Num * x12.Den)))) = true) (decide_eq_true h13) <| P0))
            (fun h13 H =>
              eN H fun r hn => gO [rg [hT 1, hE 9 (gi_Odds x10), hE 21 (gi_Odds x12), hF 23], r0, .canon [0] [1, 29, 30, 31]] (by kernel_rfl) (P2 ((decide (t2 > 0)) = true) (decide_eq_true h8) <| P1 h9 <| P1 (int_lt_of_at h9 hx10) <| P1 (at_map gi_Odds hx10) <| P1 h11 <| P1 (int_lt_of_at h11 hx12) <| P1 (at_map gi_Odds hx12) <| P2 ((decide ((IntKind.wrap .i64 (x10.Num * x3.Den)) ≥ (IntKind.wrap .i64 (x3.Num * x12.Den)))) = false) (decide_eq_false h13) <| P0) hn))
          (fun h8 H =>
            eN H fun r hn => gO [rg [hF 1], r0, .canon [0] [1, 29, 30, 31]] (by kernel_rfl) (P2 ((decide (t2 > 0)) = false) (decide_eq_false h8) <| P0) hn))
        (fun h7 H =>
          eN H <| gE func42 [rg [{ i := 2, call := some { cl := true, auto := true, ins := [], res := (RB r4), G' := [] }, dec := some true }, { i := 7, call := some { cl := true, auto := true, ins := [], res := (RB r6), G' := [] }, dec := some false }], r0] (by kernel_rfl) (P1 (ci_inRange hr4) <| P2 (r4 = true) (h5) <| P1 (ci_inRange hr6) <| P2 (r6 = false) (eqF h7) <| P0)))
      (fun h5 H =>
        eN H <| gE func42 [rg [{ i := 2, call := some { cl := true, auto := true, ins := [], res := (RB r4), G' := [] }, dec := some false }], r0] (by kernel_rfl) (P1 (ci_inRange hr4) <| P2 (r4 = false) (eqF h5) <| P0)))
    (fun h1 H =>
      eN H fun r hn => gO [rg [hF 0], r0, .canon [0] [1, 73, 74, 75]] (by kernel_rfl) (P2 ((decide (t2 < t1)) = false) (decide_eq_false h1) <| P0) hn)
  | .h2 t0 t1 t2 b3, o, H =>
    eIf H (fun h1 H =>
      eCk H fun h2 H =>
      eBind H fun x3 hx3 H =>
      gN [rg [hT 0], rg [hE 1 ((sl 1 I) x3)]] (by kernel_rfl) (P2 ((decide (t2 < t1)) = true) (decide_eq_true h1) <| P1 h2 <| P1 (int_lt_of_at h2 hx3) <| P1 (at_map (sl 1 I) hx3) <| P0) <|
      eIf H (fun h4 H =>
        eBind H fun r5 hr5 H =>
        eIf H (fun h6 H =>
          eN H <| gE func42 [rg [hF 5, { i := 8, call := some { cl := true, auto := true, ins := [], res := (RB r5), G' := [] }, dec := some true }], r0] (by kernel_rfl) (P2 (((((x3.length : Nat) : Int) : Int) != ((b3.Columns.length : Nat) : Int)) = false) (bneF h4) <| P1 (cslices_ContainsFunc_int_i_IsCombatTable_1 hr5) <| P2 (r5 = true) (h6) <| P0))
        (fun h6 H =>
          eN H fun r hn => gO [rg [hF 5, { i := 8, call := some { cl := true, auto := true, ins := [], res := (RB r5), G' := [] }, dec := some false }], r0, .canon [0] [1, 73, 74, 75]] (by kernel_rfl) (P2 (((((x3.length : Nat) : Int) : Int) != ((b3.Columns.length : Nat) : Int)) = false) (bneF h4) <| P1 (cslices_ContainsFunc_int_i_IsCombatTable_1 hr5) <| P2 (r5 = false) (eqF h6) <| P0) hn))
      (fun h4 H =>
        eN H <| gE func42 [rg [hT 5], r0] (by kernel_rfl) (P2 (((((x3.length : Nat) : Int) : Int) != ((b3.Columns.length : Nat) : Int)) = true) (bneT h4) <| P0)))
    (fun h1 H =>
      eN H <| gE func42 [rg [hF 0], r0] (by kernel_rfl) (P2 ((decide (t2 < t1)) = false) (decide_eq_false h1) <| P0))
theorem wi_IsCombatTable : ∀ s r, loop Bi_IsCombatTable s = some r → Wc X 42 0 (Ki_IsCombatTable s) (Zi_IsCombatTable s) (RB r) ((fun _ => []) r) := Nx.all ni_IsCombatTable
theorem ci_IsCombatTable {a0 : Gi_CombatTable} {r : Bool} (H : Di_IsCombatTable a0 = some r) : Ct X.P X.gl 42 [.agg [sl 2 gi_Odds a0.Columns, I a0.Dice, sl 1 (sl 1 I) a0.Results]] [] (RB r) [] :=
  Ct.of func42 (c := bdy f42) (by kernel_rfl) (by kernel_rfl) <|
  eBind H fun r1 hr1 H =>
  gS [r0] (by kernel_rfl) P0 <|
  eIf H (fun h2 H =>
    eBind H fun r3 hr3 H =>
    eIf H (fun h4 H =>
      eIf H (fun h5 H =>
        gO [rg [{ i := 3, call := some { cl := true, auto := true, ins := [], res := (RB r1), G' := [] }, dec := some true }, { i := 8, call := some { cl := true, auto := true, ins := [], res := (RB r3), G' := [] }, dec := some true }, hF 19], r0, .canon [0] [1, 29, 30, 31]] (by kernel_rfl) (P1 (ci_inRange hr1) <| P2 (r1 = true) (h2) <| P1 (ci_inRange hr3) <| P2 (r3 = true) (h4) <| P2 (((((a0.Results.length : Nat) : Int) : Int) != (IntKind.wrap .i64 ((IntKind.wrap .i64 (5 * a0.Dice)) + 1))) = false) (bneF h5) <| P0) (wi_IsCombatTable _ _ H))
      (fun h5 H =>
        eW RB (fun _ => []) H <| gE func42 [rg [{ i := 3, call := some { cl := true, auto := true, ins := [], res := (RB r1), G' := [] }, dec := some true }, { i := 8, call := some { cl := true, auto := true, ins := [], res := (RB r3), G' := [] }, dec := some true }, hT 19], r0] (by kernel_rfl) (P1 (ci_inRange hr1) <| P2 (r1 = true) (h2) <| P1 (ci_inRange hr3) <| P2 (r3 = true) (h4) <| P2 (((((a0.Results.length : Nat) : Int) : Int) != (IntKind.wrap .i64 ((IntKind.wrap .i64 (5 * a0.Dice)) + 1))) = true) (bneT h5) <| P0)))
    (fun h4 H =>
      eW RB (fun _ => []) H <| gE func42 [rg [{ i := 3, call := some { cl := true, auto := true, ins := [], res := (RB r1), G' := [] }, dec := some true }, { i := 8, call := some { cl := true, auto := true, ins := [], res := (RB r3), G' := [] }, dec := some false }], r0] (by kernel_rfl) (P1 (ci_inRange hr1) <| P2 (r1 = true) (h2) <| P1 (ci_inRange hr3) <| P2 (r3 = false) (eqF h4) <| P0)))
  (fun h2 H =>
    eW RB (fun _ => []) H <| gE func42 [rg [{ i := 3, call := some { cl := true, auto := true, ins := [], res := (RB r1), G' := [] }, dec := some false }], r0] (by kernel_rfl) (P1 (ci_inRange hr1) <| P2 (r1 = false) (eqF h2) <| P0))
/-! loop example/g00886/impl sizeOf -/
theorem ci_sizeOf {a0 : Gi_Board} {r : Int} (H : Di_sizeOf a0 = some r) : Ct X.P X.gl 98 [.agg [sl 5 gi_Terrain a0.Rules.Terrains, sl 6 gi_Kind a0.Rules.Kinds, I a0.Rules.Stack, I a0.Rules.River, I a0.Rules.Road, I a0.Rules.Supply, I a0.Rules.Turns, I a0.Map.Width, I a0.Map.Height, sl 1 I a0.Map.Terrain, sl 1 I a0.Map.Rivers, sl 1 I a0.Map.Roads]] [] (RI r) [] :=
  Ct.of func98 (c := bdy f98) (by kernel_rfl) (by kernel_rfl) <|
  eW RI (fun _ => []) H <| gE func98 [r0, r0] (by kernel_rfl) P0
/-! loop example/g00886/impl isSide -/
theorem ci_isSide {a0 : Int} {r : Bool} (H : Di_isSide a0 = some r) : Ct X.P X.gl 56 [I a0] [] (RB r) [] :=
  Ct.of func56 (c := bdy f56) (by kernel_rfl) (by kernel_rfl) <|
  eBind H fun r1 hr1 H =>
  eW RB (fun _ => []) H <| gE func56 [r0, rg [hC 1 true [] (RB r1) []]] (by kernel_rfl) (P1 (ci_inRange hr1) <| P0)
/-! loop example/g00886/impl terrainAt -/
def Ri_terrainAt (r : Gi_Terrain) : List D := [.agg [.str r.Name, sl 1 I r.Cost, I r.Shift, I r.Height, .bool r.Blocks]]
theorem ci_terrainAt {a0 : Gi_Board} {a1 : Int} {r : Gi_Terrain} (H : Di_terrainAt a0 a1 = some r) : Ct X.P X.gl 184 [.agg [sl 5 gi_Terrain a0.Rules.Terrains, sl 6 gi_Kind a0.Rules.Kinds, I a0.Rules.Stack, I a0.Rules.River, I a0.Rules.Road, I a0.Rules.Supply, I a0.Rules.Turns, I a0.Map.Width, I a0.Map.Height, sl 1 I a0.Map.Terrain, sl 1 I a0.Map.Rivers, sl 1 I a0.Map.Roads], I a1] [] (Ri_terrainAt r) [] :=
  Ct.of func184 (c := bdy f184) (by kernel_rfl) (by kernel_rfl) <|
  eCk H fun h1 H =>
  eBind H fun x2 hx2 H =>
  eCk H fun h3 H =>
  eBind H fun x4 hx4 H =>
  eW Ri_terrainAt (fun _ => []) H <| gE func184 [r0, rg [hE 8 (I x2), hE 10 (gi_Terrain x4)]] (by kernel_rfl) (P1 h1 <| P1 (int_lt_of_at h1 hx2) <| P1 (at_map I hx2) <| P1 h3 <| P1 (int_lt_of_at h3 hx4) <| P1 (at_map gi_Terrain hx4) <| P0)
/-! loop example/g00886/impl enterCost -/
theorem ci_enterCost {a0 : Gi_Board} {a1 : Int} {a2 : Int} {r : Int} (H : Di_enterCost a0 a1 a2 = some r) : Ct X.P X.gl 148 [.agg [sl 5 gi_Terrain a0.Rules.Terrains, sl 6 gi_Kind a0.Rules.Kinds, I a0.Rules.Stack, I a0.Rules.River, I a0.Rules.Road, I a0.Rules.Supply, I a0.Rules.Turns, I a0.Map.Width, I a0.Map.Height, sl 1 I a0.Map.Terrain, sl 1 I a0.Map.Rivers, sl 1 I a0.Map.Roads], I a1, I a2] [] (RI r) [] :=
  Ct.of func148 (c := bdy f148) (by kernel_rfl) (by kernel_rfl) <|
  eBind H fun r1 hr1 H =>
  eCk H fun h2 H =>
  eBind H fun x3 hx3 H =>
  eW RI (fun _ => []) H <| gE func148 [r0, rg [hC 2 true [] (Ri_terrainAt r1) [], hE 6 (I x3)]] (by kernel_rfl) (P1 (ci_terrainAt hr1) <| P1 h2 <| P1 (int_lt_of_at h2 hx3) <| P1 (at_map I hx3) <| P0)
/-! loop example/g00886/impl goodUnit -/
theorem ci_goodUnit {a0 : Gi_Board} {a1 : Gi_Unit} {r : Bool} (H : Di_goodUnit a0 a1 = some r) : Ct X.P X.gl 99 [.agg [sl 5 gi_Terrain a0.Rules.Terrains, sl 6 gi_Kind a0.Rules.Kinds, I a0.Rules.Stack, I a0.Rules.River, I a0.Rules.Road, I a0.Rules.Supply, I a0.Rules.Turns, I a0.Map.Width, I a0.Map.Height, sl 1 I a0.Map.Terrain, sl 1 I a0.Map.Rivers, sl 1 I a0.Map.Roads], .agg [I a1.Side, I a1.Kind, I a1.At, I a1.Steps]] [] (RB r) [] :=
  Ct.of func99 (c := bdy f99) (by kernel_rfl) (by kernel_rfl) <|
  eBind H fun r1 hr1 H =>
  gS [r0] (by kernel_rfl) P0 <|
  eIf H (fun h2 H =>
    eBind H fun r3 hr3 H =>
    eIf H (fun h4 H =>
      eCk H fun h5 H =>
      eBind H fun x6 hx6 H =>
      eBind H fun r7 hr7 H =>
      eIf H (fun h8 H =>
        gS [rg [{ i := 2, call := some { cl := true, auto := true, ins := [], res := (RB r1), G' := [] }, dec := some true }, { i := 11, call := some { cl := true, auto := true, ins := [], res := (RB r3), G' := [] }, dec := some true }, hE 24 (gi_Kind x6), { i := 25, call := some { cl := true, auto := true, ins := [], res := (RB r7), G' := [] }, dec := some true }]] (by kernel_rfl) (P1 (ci_isSide hr1) <| P2 (r1 = true) (h2) <| P1 (ci_isIndex hr3) <| P2 (r3 = true) (h4) <| P1 h5 <| P1 (int_lt_of_at h5 hx6) <| P1 (at_map gi_Kind hx6) <| P1 (ci_inRange hr7) <| P2 (r7 = true) (h8) <| P0) <|
        eIf H (fun h9 H =>
          eW RB (fun _ => []) H <| gE func99 [rg [hT 2], r0] (by kernel_rfl) (P2 (((a1.At : Int) == (-1)) = true) (beqT h9) <| P0))
        (fun h9 H =>
          gS [rg [hF 2]] (by kernel_rfl) (P2 (((a1.At : Int) == (-1)) = false) (beqF h9) <| P0) <|
          eIf H (fun h10 H =>
            eBind H fun r11 hr11 H =>
            eBind H fun r12 hr12 H =>
            eIf H (fun h13 H =>
              eBind H fun r14 hr14 H =>
              eW RB (fun _ => []) H <| gE func99 [rg [hT 2, hC 7 true [] (RI r11) [], { i := 8, call := some { cl := true, auto := true, ins := [], res := (RB r12), G' := [] }, dec := some true }, hC 16 true [] (RI r14) []]] (by kernel_rfl) (P2 ((decide (a1.Steps > 0)) = true) (decide_eq_true h10) <| P1 (ci_sizeOf hr11) <| P1 (ci_isIndex hr12) <| P2 (r12 = true) (h13) <| P1 (ci_enterCost hr14) <| P0))
            (fun h13 H =>
              eW RB (fun _ => []) H <| gE func99 [rg [hT 2, hC 7 true [] (RI r11) [], { i := 8, call := some { cl := true, auto := true, ins := [], res := (RB r12), G' := [] }, dec := some false }]] (by kernel_rfl) (P2 ((decide (a1.Steps > 0)) = true) (decide_eq_true h10) <| P1 (ci_sizeOf hr11) <| P1 (ci_isIndex hr12) <| P2 (r12 = false) (eqF h13) <| P0)))
          (fun h10 H =>
            eW RB (fun _ => []) H <| gE func99 [rg [hF 2]] (by kernel_rfl) (P2 ((decide (a1.Steps > 0)) = false) (decide_eq_false h10) <| P0))))
      (fun h8 H =>
        eW RB (fun _ => []) H <| gE func99 [rg [{ i := 2, call := some { cl := true, auto := true, ins := [], res := (RB r1), G' := [] }, dec := some true }, { i := 11, call := some { cl := true, auto := true, ins := [], res := (RB r3), G' := [] }, dec := some true }, hE 24 (gi_Kind x6), { i := 25, call := some { cl := true, auto := true, ins := [], res := (RB r7), G' := [] }, dec := some false }], r0] (by kernel_rfl) (P1 (ci_isSide hr1) <| P2 (r1 = true) (h2) <| P1 (ci_isIndex hr3) <| P2 (r3 = true) (h4) <| P1 h5 <| P1 (int_lt_of_at h5 hx6) <| P1 (at_map gi_Kind hx6) <| P1 (ci_inRange hr7) <| P2 (r7 = false) (eqF h8) <| P0)))
    (fun h4 H =>
      eW RB (fun _ => []) H <| gE func99 [rg [{ i := 2, call := some { cl := true, auto := true, ins := [], res := (RB r1), G' := [] }, dec := some true }, { i := 11, call := some { cl := true, auto := true, ins := [], res := (RB r3), G' := [] }, dec := some false }], r0] (by kernel_rfl) (P1 (ci_isSide hr1) <| P2 (r1 = true) (h2) <| P1 (ci_isIndex hr3) <| P2 (r3 = false) (eqF h4) <| P0)))
  (fun h2 H =>
    eW RB (fun _ => []) H <| gE func99 [rg [{ i := 2, call := some { cl := true, auto := true, ins := [], res := (RB r1), G' := [] }, dec := some false }], r0] (by kernel_rfl) (P1 (ci_isSide hr1) <| P2 (r1 = false) (eqF h2) <| P0))
/-! loop example/g00886/impl goodState -/
noncomputable def Ki_goodState : Si_goodState → List Item
  | .h1 .. => nav 300 4 [false] [.code (bdy f43)]
def Zi_goodState : Si_goodState → St
  | .h1 t0 t1 t2 b3 l4 => ⟨sts 80 [(2, .ptr 0 12 0 0), (5, .ref 1 2 none), (31, sl 4 gi_Unit t0), (32, I t1), (33, I t2)], [some ⟨false, true, 12, 1, [.agg [sl 5 gi_Terrain b3.Rules.Terrains, sl 6 gi_Kind b3.Rules.Kinds, I b3.Rules.Stack, I b3.Rules.River, I b3.Rules.Road, I b3.Rules.Supply, I b3.Rules.Turns, I b3.Map.Width, I b3.Map.Height, sl 1 I b3.Map.Terrain, sl 1 I b3.Map.Rivers, sl 1 I b3.Map.Roads]]⟩, some ⟨false, false, 2, l4.length, List.map gA2I l4⟩]⟩
abbrev Qi_goodState := Nx X 43 0 Ki_goodState Zi_goodState RB (fun _ => [])
theorem ni_goodState : ∀ s o, Bi_goodState s = some o → Qi_goodState (Ki_goodState s) (Zi_goodState s) o
  | .h1 t0 t1 t2 b3 l4, o, H =>
    eIf H (fun h1 H =>
      eCk H fun h2 H =>
      eBind H fun x3 hx3 H =>
      eBind H fun r4 hr4 H =>
      gN [rg [hT 0], rg [hE 1 (gi_Unit x3)]] (by kernel_rfl) (P2 ((decide (t2 < t1)) = true) (decide_eq_true h1) <| P1 h2 <| P1 (int_lt_of_at h2 hx3) <| P1 (at_map gi_Unit hx3) <| P0) <|
      eIf H (fun h5 H =>
        gN [rg [{ i := 2, call := some { cl := true, auto := true, ins := [], res := (RB r4), G' := [] }, dec := some true }]] (by kernel_rfl) (P1 (ci_goodUnit hr4) <| P2 (r4 = true) (h5) <| P0) <|
        eIf H (fun h6 H =>
          eN H fun r hn => gO [rg [hT 2], r0, .canon [0, 1] [2, 5, 31, 32, 33]] (by kernel_rfl) (P2 ((decide (x3.At < 0)) = true) (decide_eq_true h6) <| P0) hn)
        (fun h6 H =>
          eCk H fun h7 H =>
          eBind H fun x8 hx8 H =>
          gN [rg [hF 2]] (by kernel_rfl) (P2 ((decide (x3.At < 0)) = false) (decide_eq_false h6) <| P0) <|
          eIf H (fun h9 H =>
            eCk H fun h10 H =>
            eBind H fun x11 hx11 H =>
            eCk H fun h12 H =>
            eBind H fun x13 hx13 H =>
            gN [rg [{ i := 6, n := 0 }, hE 7 (gA2I x8), { i := 10, n := 0 }, hA 11 ((List.set l4 (Int.toNat x3.At) (GA2I.mk (IntKind.wrap .i64 (x8.c0 + 1)) x11.c1)).length) (List.map gA2I (List.set l4 (Int.toNat x3.At) (GA2I.mk (IntKind.wrap .i64 (x8.c0 + 1)) x11.c1)))]] (by kernel_rfl) (P1 h7 <| P1 (int_lt_of_at h7 hx8) <| P1 h9 <| P1 (at_map gA2I hx8) <| P1 h10 <| P1 (int_lt_of_at h10 hx11) <| P1 h9 <| P1 (lt_of_at hx11) <| P2 (setCells (List.map gA2I l4) (Int.toNat x3.At) 0 [I (IntKind.wrap .i64 (x8.c0 + 1))] = List.map gA2I (List.set l4 (Int.toNat x3.At) (GA2I.mk (IntKind.wrap .i64 (x8.c0 + 1)) x11.c1))) (setCells_map hx11 rfl) <| P1 (setLen l4 (Int.toNat x3.At) (GA2I.mk (IntKind.wrap .i64 (x8.c0 + 1)) x11.c1)) <| P0) <|
            eIf H (fun h14 H =>
              eIf H (fun h15 H =>
                eN H <| gE func43 [rg [{ i := 7, n := 0 }, hE 8 (gA2I x13), hT 9], r0] (by kernel_rfl) (P1 h12 <| P1 (int_lt_of_at h12 hx13) <| P1 h14 <| P1 (at_map gA2I hx13) <| P2 ((decide (x13.c0 > 0)) = true) (decide_eq_true h15) <| P0))
              (fun h15 H =>
                eCk H fun h16 H =>
                eBind H fun x17 hx17 H =>
                eIf H (fun h18 H =>
                  eN H <| gE func43 [rg [{ i := 7, n := 0 }, hE 8 (gA2I x13), hF 9, { i := 17, n := 0 }, hE 18 (gA2I x17), hT 22], r0] (by kernel_rfl) (P1 h12 <| P1 (int_lt_of_at h12 hx13) <| P1 h14 <| P1 (at_map gA2I hx13) <| P2 ((decide (x13.c0 > 0)) = false) (decide_eq_false h15) <| P1 h16 <| P1 (int_lt_of_at h16 hx17) <| P1 h9 <| P1 (at_map gA2I hx17) <| P2 ((decide (x17.c0 > b3.Rules.Stack)) = true) (decide_eq_true h18) <| P0))
                (fun h18 H =>
                  eN H fun r hn => gO [rg [{ i := 7, n := 0 }, hE 8 (gA2I x13), hF 9, { i := 17, n := 0 }, hE 18 (gA2I x17), hF 22], r0, .canon [0, 1] [2, 5, 31, 32, 33]] (by kernel_rfl) (P1 h12 <| P1 (int_lt_of_at h12 hx13) <| P1 h14 <| P1 (at_map gA2I hx13) <| P2 ((decide (x13.c0 > 0)) = false) (decide_eq_false h15) <| P1 h16 <| P1 (int_lt_of_at h16 hx17) <| P1 h9 <| P1 (at_map gA2I hx17) <| P2 ((decide (x17.c0 > b3.Rules.Stack)) = false) (decide_eq_false h18) <| P0) hn)))
            (fun h14 H =>
              eCk H fun h15 H =>
              eIf H (fun h16 H =>
                eN H <| gE func43 [rg [{ i := 7, n := 1 }, hE 8 (gA2I x13), hT 9], r0] (by kernel_rfl) (P1 h12 <| P1 (int_lt_of_at h12 hx13) <| P1 h15 <| P1 (at_map gA2I hx13) <| P2 ((decide (x13.c1 > 0)) = true) (decide_eq_true h16) <| P0))
              (fun h16 H =>
                eCk H fun h17 H =>
                eBind H fun x18 hx18 H =>
                eIf H (fun h19 H =>
                  eN H <| gE func43 [rg [{ i := 7, n := 1 }, hE 8 (gA2I x13), hF 9, { i := 17, n := 0 }, hE 18 (gA2I x18), hT 22], r0] (by kernel_rfl) (P1 h12 <| P1 (int_lt_of_at h12 hx13) <| P1 h15 <| P1 (at_map gA2I hx13) <| P2 ((decide (x13.c1 > 0)) = false) (decide_eq_false h16) <| P1 h17 <| P1 (int_lt_of_at h17 hx18) <| P1 h9 <| P1 (at_map gA2I hx18) <| P2 ((decide (x18.c0 > b3.Rules.Stack)) = true) (decide_eq_true h19) <| P0))
                (fun h19 H =>
                  eN H fun r hn => gO [rg [{ i := 7, n := 1 }, hE 8 (gA2I x13), hF 9, { i := 17, n := 0 }, hE 18 (gA2I x18), hF 22], r0, .canon [0, 1] [2, 5, 31, 32, 33]] (by kernel_rfl) (P1 h12 <| P1 (int_lt_of_at h12 hx13) <| P1 h15 <| P1 (at_map gA2I hx13) <| P2 ((decide (x13.c1 > 0)) = false) (decide_eq_false h16) <| P1 h17 <| P1 (int_lt_of_at h17 hx18) <| P1 h9 <| P1 (at_map gA2I hx18) <| P2 ((decide (x18.c0 > b3.Rules.Stack)) = false) (decide_eq_false h19) <| P0) hn))))
          (fun h9 H =>
            eCk H fun h10 H =>
            eCk H fun h11 H =>
            eBind H fun x12 hx12 H =>
            eCk H fun h13 H =>
            eBind H fun x14 hx14 H =>
            gN [rg [{ i := 6, n := 1 }, hE 7 (gA2I x8), { i := 10, n := 1 }, hA 11 ((List.set l4 (Int.toNat x3.At) (GA2I.mk x12.c0 (IntKind.wrap .i64 (x8.c1 + 1)))).length) (List.map gA2I (List.set l4 (Int.toNat x3.At) (GA2I.mk x12.c0 (IntKind.wrap .i64 (x8.c1 + 1)))))]] (by kernel_rfl) (P1 h7 <| P1 (int_lt_of_at h7 hx8) <| P1 h10 <| P1 (at_map gA2I hx8) <| P1 h11 <| P1 (int_lt_of_at h11 hx12) <| P1 h10 <| P1 (lt_of_at hx12) <| P2 (setCells (List.map gA2I l4) (Int.toNat x3.At) 1 [I (IntKind.wrap .i64 (x8.c1 + 1))] = List.map gA2I (List.set l4 (Int.toNat x3.At) (GA2I.mk x12.c0 (IntKind.wrap .i64 (x8.c1 + 1))))) (setCells_map hx12 rfl) <| P1 (setLen l4 (Int.toNat x3.At) (GA2I.mk x12.c0 (IntKind.wrap .i64 (x8.c1 + 1)))) <| P0) <|
            eIf H (fun h15 H =>
              eIf H (fun h16 H =>
                eN H <| gE func43 [rg [{ i := 7, n := 0 }, hE 8 (gA2I x14), hT 9], r0] (by kernel_rfl) (P1 h13 <| P1 (int_lt_of_at h13 hx14) <| P1 h15 <| P1 (at_map gA2I hx14) <| P2 ((decide (x14.c0 > 0)) = true) (decide_eq_true h16) <| P0))
              (fun h16 H =>
                eCk H fun h17 H =>
                eBind H fun x18 hx18 H =>
                eIf H (fun h19 H =>
                  eN H <| gE func43 [rg [{ i := 7, n := 0 }, hE 8 (gA2I x14), hF 9, { i := 17, n := 1 }, hE 18 (gA2I x18), hT 22], r0] (by kernel_rfl) (P1 h13 <| P1 (int_lt_of_at h13 hx14) <| P1 h15 <| P1 (at_map gA2I hx14) <| P2 ((decide (x14.c0 > 0)) = false) (decide_eq_false h16) <| P1 h17 <| P1 (int_lt_of_at h17 hx18) <| P1 h10 <| P1 (at_map gA2I hx18) <| P2 ((decide (x18.c1 > b3.Rules.Stack)) = true) (decide_eq_true h19) <| P0))
                (fun h19 H =>
                  eN H fun r hn => gO [rg [{ i := 7, n := 0 }, hE 8 (gA2I x14), hF 9, { i := 17, n := 1 }, hE 18 (gA2I x18), hF 22], r0, .canon [0, 1] [2, 5, 31, 32, 33]] (by kernel_rfl) (P1 h13 <| P1 (int_lt_of_at h13 hx14) <| P1 h15 <| P1 (at_map gA2I hx14) <| P2 ((decide (x14.c0 > 0)) = false) (decide_eq_false h16) <| P1 h17 <| P1 (int_lt_of_at h17 hx18) <| P1 h10 <| P1 (at_map gA2I hx18) <| P2 ((decide (x18.c1 > b3.Rules.Stack)) = false) (decide_eq_false h19) <| P0) hn)))
            (fun h15 H =>
              eCk H fun h16 H =>
              eIf H (fun h17 H =>
                eN H <| gE func43 [rg [{ i := 7, n := 1 }, hE 8 (gA2I x14), hT 9], r0] (by kernel_rfl) (P1 h13 <| P1 (int_lt_of_at h13 hx14) <| P1 h16 <| P1 (at_map gA2I hx14) <| P2 ((decide (x14.c1 > 0)) = true) (decide_eq_true h17) <| P0))
              (fun h17 H =>
                eCk H fun h18 H =>
                eBind H fun x19 hx19 H =>
                eIf H (fun h20 H =>
                  eN H <| gE func43 [rg [{ i := 7, n := 1 }, hE 8 (gA2I x14), hF 9, { i := 17, n := 1 }, hE 18 (gA2I x19), hT 22], r0] (by kernel_rfl) (P1 h13 <| P1 (int_lt_of_at h13 hx14) <| P1 h16 <| P1 (at_map gA2I hx14) <| P2 ((decide (x14.c1 > 0)) = false) (decide_eq_false h17) <| P1 h18 <| P1 (int_lt_of_at h18 hx19) <| P1 h10 <| P1 (at_map gA2I hx19) <| P2 ((decide (x19.c1 > b3.Rules.Stack)) = true) (decide_eq_true h20) <| P0))
                (fun h20 H =>
                  eN H fun r hn => gO [rg [{ i := 7, n := 1 }, hE 8 (gA2I x14), hF 9, { i := 17, n := 1 }, hE 18 (gA2I x19), hF 22], r0, .canon [0, 1] [2, 5, 31, 32, 33]] (by kernel_rfl) (P1 h13 <| P1 (int_lt_of_at h13 hx14) <| P1 h16 <| P1 (at_map gA2I hx14) <| P2 ((decide (x14.c1 > 0)) = false) (decide_eq_false h17) <| P1 h18 <| P1 (int_lt_of_at h18 hx19) <| P1 h10 <| P1 (at_map gA2I hx19) <| P2 ((decide (x19.c1 > b3.Rules.Stack)) = false) (decide_eq_false h20) <| P0) hn))))))
      (fun h5 H =>
        eN H <| gE func43 [rg [{ i := 2, call := some { cl := true, auto := true, ins := [], res := (RB r4), G' := [] }, dec := some false }], r0] (by kernel_rfl) (P1 (ci_goodUnit hr4) <| P2 (r4 = false) (eqF h5) <| P0)))
    (fun h1 H =>
      eN H <| gE func43 [rg [hF 0], r0] (by kernel_rfl) (P2 ((decide (t2 < t1)) = false) (decide_eq_false h1) <| P0))
theorem wi_goodState : ∀ s r, loop Bi_goodState s = some r → Wc X 43 0 (Ki_goodState s) (Zi_goodState s) (RB r) ((fun _ => []) r) := Nx.all ni_goodState
theorem ci_goodState {a0 : Gi_Board} {a1 : Gi_State} {r : Bool} (H : Di_goodState a0 a1 = some r) : Ct X.P X.gl 43 [.agg [sl 5 gi_Terrain a0.Rules.Terrains, sl 6 gi_Kind a0.Rules.Kinds, I a0.Rules.Stack, I a0.Rules.River, I a0.Rules.Road, I a0.Rules.Supply, I a0.Rules.Turns, I a0.Map.Width, I a0.Map.Height, sl 1 I a0.Map.Terrain, sl 1 I a0.Map.Rivers, sl 1 I a0.Map.Roads], .agg [I a1.Turn, I a1.Weather, sl 4 gi_Unit a1.Units]] [] (RB r) [] :=
  Ct.of func43 (c := bdy f43) (by kernel_rfl) (by kernel_rfl) <|
  eBind H fun r1 hr1 H =>
  gS [r0] (by kernel_rfl) P0 <|
  eIf H (fun h2 H =>
    eBind H fun r3 hr3 H =>
    eIf H (fun h4 H =>
      eIf H (fun h5 H =>
        eW RB (fun _ => []) H <| gE func43 [rg [{ i := 5, call := some { cl := true, auto := true, ins := [], res := (RB r1), G' := [] }, dec := some true }, { i := 10, call := some { cl := true, auto := true, ins := [], res := (RB r3), G' := [] }, dec := some true }, hT 17], r0] (by kernel_rfl) (P1 (ci_inRange hr1) <| P2 (r1 = true) (h2) <| P1 (ci_inRange hr3) <| P2 (r3 = true) (h4) <| P2 ((decide (((a1.Units.length : Nat) : Int) > 12)) = true) (decide_eq_true h5) <| P0))
      (fun h5 H =>
        eBind H fun r6 hr6 H =>
        eCk H fun h7 H =>
        eCk H fun h8 H =>
        gO [rg [{ i := 5, call := some { cl := true, auto := true, ins := [], res := (RB r1), G' := [] }, dec := some true }, { i := 10, call := some { cl := true, auto := true, ins := [], res := (RB r3), G' := [] }, dec := some true }, hF 17], rg [hC 1 true [] (RI r6) [], hA 2 ((List.replicate (Int.toNat r6) (GA2I.mk 0 0)).length) (List.map gA2I (List.replicate (Int.toNat r6) (GA2I.mk 0 0)))], r0, .canon [0, 2] [2, 5, 31, 32, 33]] (by kernel_rfl) (P1 (ci_inRange hr1) <| P2 (r1 = true) (h2) <| P1 (ci_inRange hr3) <| P2 (r3 = true) (h4) <| P2 ((decide (((a1.Units.length : Nat) : Int) > 12)) = false) (decide_eq_false h5) <| P1 (ci_sizeOf hr6) <| PI (r6 : Int) <| P2 ((0 : Int) ≤ r6) h7 <| P2 (Int.toNat r6 * 16 ≤ 140737488355328) h8 <| P1 (repLen (Int.toNat r6) (GA2I.mk 0 0)) <| P1 (repMap gA2I (Int.toNat r6) (GA2I.mk 0 0)) <| P0) (wi_goodState _ _ H)))
    (fun h4 H =>
      eW RB (fun _ => []) H <| gE func43 [rg [{ i := 5, call := some { cl := true, auto := true, ins := [], res := (RB r1), G' := [] }, dec := some true }, { i := 10, call := some { cl := true, auto := true, ins := [], res := (RB r3), G' := [] }, dec := some false }], r0] (by kernel_rfl) (P1 (ci_inRange hr1) <| P2 (r1 = true) (h2) <| P1 (ci_inRange hr3) <| P2 (r3 = false) (eqF h4) <| P0)))
  (fun h2 H =>
    eW RB (fun _ => []) H <| gE func43 [rg [{ i := 5, call := some { cl := true, auto := true, ins := [], res := (RB r1), G' := [] }, dec := some false }], r0] (by kernel_rfl) (P1 (ci_inRange hr1) <| P2 (r1 = false) (eqF h2) <| P0))
/-! loop example/g00886/impl goodConditions -/
noncomputable def Ki_goodConditions : Si_goodConditions → List Item
  | .h1 .. => nav 300 3 [false] [.code (bdy f44)]
def Zi_goodConditions : Si_goodConditions → St
  | .h1 t0 t1 t2 b3 b4 => ⟨sts 60 [(2, .ptr 0 12 0 0), (3, .ptr 1 3 0 0), (24, sl 2 gi_Goal t0), (25, I t1), (26, I t2)], [some ⟨false, true, 12, 1, [.agg [sl 5 gi_Terrain b3.Rules.Terrains, sl 6 gi_Kind b3.Rules.Kinds, I b3.Rules.Stack, I b3.Rules.River, I b3.Rules.Road, I b3.Rules.Supply, I b3.Rules.Turns, I b3.Map.Width, I b3.Map.Height, sl 1 I b3.Map.Terrain, sl 1 I b3.Map.Rivers, sl 1 I b3.Map.Roads]]⟩, some ⟨false, true, 3, 1, [.agg [sl 2 gi_Goal b4.Goals, I b4.Step, I b4.Margin]]⟩]⟩
abbrev Qi_goodConditions := Nx X 44 0 Ki_goodConditions Zi_goodConditions RB (fun _ => [])
theorem ni_goodConditions : ∀ s o, Bi_goodConditions s = some o → Qi_goodConditions (Ki_goodConditions s) (Zi_goodConditions s) o
  | .h1 t0 t1 t2 b3 b4, o, H =>
    eIf H (fun h1 H =>
      eCk H fun h2 H =>
      eBind H fun x3 hx3 H =>
      eBind H fun r4 hr4 H =>
      eBind H fun r5 hr5 H =>
      gN [rg [hT 0], rg [hE 2 (gi_Goal x3)]] (by kernel_rfl) (P2 ((decide (t2 < t1)) = true) (decide_eq_true h1) <| P1 h2 <| P1 (int_lt_of_at h2 hx3) <| P1 (at_map gi_Goal hx3) <| P0) <|
      eIf H (fun h6 H =>
        eBind H fun r7 hr7 H =>
        eIf H (fun h8 H =>
          eIf H (fun h9 H =>
            eCk H fun h10 H =>
            eBind H fun x11 hx11 H =>
            eIf H (fun h12 H =>
              eN H <| gE func44 [rg [hC 3 true [] (RI r4) [], { i := 4, call := some { cl := true, auto := true, ins := [], res := (RB r5), G' := [] }, dec := some true }, { i := 9, call := some { cl := true, auto := true, ins := [], res := (RB r7), G' := [] }, dec := some true }, hT 14, hE 22 (gi_Goal x11), hT 25], r0] (by kernel_rfl) (P1 (ci_sizeOf hr4) <| P1 (ci_isIndex hr5) <| P2 (r5 = true) (h6) <| P1 (ci_inRange hr7) <| P2 (r7 = true) (h8) <| P2 ((decide (t2 > 0)) = true) (decide_eq_true h9) <| P1 h10 <| P1 (int_lt_of_at h10 hx11) <| P1 (at_map gi_Goal hx11) <| P2 ((decide (x11.At ≥ x3.At)) = true) (decide_eq_true h12) <| P0))
            (fun h12 H =>
              eN H fun r hn => gO [rg [hC 3 true [] (RI r4) [], { i := 4, call := some { cl := true, auto := true, ins := [], res := (RB r5), G' := [] }, dec := some true }, { i := 9, call := some { cl := true, auto := true, ins := [], res := (RB r7), G' := [] }, dec := some true }, hT 14, hE 22 (gi_Goal x11), hF 25], r0, .canon [0, 1] [2, 3, 24, 25, 26]] (by kernel_rfl) (P1 (ci_sizeOf hr4) <| P1 (ci_isIndex hr5) <| P2 (r5 = true) (h6) <| P1 (ci_inRange hr7) <| P2 (r7 = true) (h8) <| P2 ((decide (t2 > 0)) = true) (decide_eq_true h9) <| P1 h10 <| P1 (int_lt_of_at h10 hx11) <| P1 (at_map gi_Goal hx11) <| P2 ((decide (x11.At ≥ x3.At)) = false) (decide_eq_false h12) <| P0) hn))
          (fun h9 H =>
            eN H fun r hn => gO [rg [hC 3 true [] (RI r4) [], { i := 4, call := some { cl := true, auto := true, ins := [], res := (RB r5), G' := [] }, dec := some true }, { i := 9, call := some { cl := true, auto := true, ins := [], res := (RB r7), G' := [] }, dec := some true }, hF 14], r0, .canon [0, 1] [2, 3, 24, 25, 26]] (by kernel_rfl) (P1 (ci_sizeOf hr4) <| P1 (ci_isIndex hr5) <| P2 (r5 = true) (h6) <| P1 (ci_inRange hr7) <| P2 (r7 = true) (h8) <| P2 ((decide (t2 > 0)) = false) (decide_eq_false h9) <| P0) hn))
        (fun h8 H =>
          eN H <| gE func44 [rg [hC 3 true [] (RI r4) [], { i := 4, call := some { cl := true, auto := true, ins := [], res := (RB r5), G' := [] }, dec := some true }, { i := 9, call := some { cl := true, auto := true, ins := [], res := (RB r7), G' := [] }, dec := some false }], r0] (by kernel_rfl) (P1 (ci_sizeOf hr4) <| P1 (ci_isIndex hr5) <| P2 (r5 = true) (h6) <| P1 (ci_inRange hr7) <| P2 (r7 = false) (eqF h8) <| P0)))
      (fun h6 H =>
        eN H <| gE func44 [rg [hC 3 true [] (RI r4) [], { i := 4, call := some { cl := true, auto := true, ins := [], res := (RB r5), G' := [] }, dec := some false }], r0] (by kernel_rfl) (P1 (ci_sizeOf hr4) <| P1 (ci_isIndex hr5) <| P2 (r5 = false) (eqF h6) <| P0)))
    (fun h1 H =>
      eN H <| gE func44 [rg [hF 0], r0] (by kernel_rfl) (P2 ((decide (t2 < t1)) = false) (decide_eq_false h1) <| P0))
theorem wi_goodConditions : ∀ s r, loop Bi_goodConditions s = some r → Wc X 44 0 (Ki_goodConditions s) (Zi_goodConditions s) (RB r) ((fun _ => []) r) := Nx.all ni_goodConditions
theorem ci_goodConditions {a0 : Gi_Board} {a1 : Gi_Conditions} {r : Bool} (H : Di_goodConditions a0 a1 = some r) : Ct X.P X.gl 44 [.agg [sl 5 gi_Terrain a0.Rules.Terrains, sl 6 gi_Kind a0.Rules.Kinds, I a0.Rules.Stack, I a0.Rules.River, I a0.Rules.Road, I a0.Rules.Supply, I a0.Rules.Turns, I a0.Map.Width, I a0.Map.Height, sl 1 I a0.Map.Terrain, sl 1 I a0.Map.Rivers, sl 1 I a0.Map.Roads], .agg [sl 2 gi_Goal a1.Goals, I a1.Step, I a1.Margin]] [] (RB r) [] :=
  Ct.of func44 (c := bdy f44) (by kernel_rfl) (by kernel_rfl) <|
  gS [r0] (by kernel_rfl) P0 <|
  eIf H (fun h1 H =>
    eW RB (fun _ => []) H <| gE func44 [rg [hT 3], r0] (by kernel_rfl) (P2 ((decide (((a1.Goals.length : Nat) : Int) > 12)) = true) (decide_eq_true h1) <| P0))
  (fun h1 H =>
    eBind H fun r2 hr2 H =>
    eIf H (fun h3 H =>
      eBind H fun r4 hr4 H =>
      eIf H (fun h5 H =>
        gO [rg [hF 3, { i := 7, call := some { cl := true, auto := true, ins := [], res := (RB r2), G' := [] }, dec := some true }, { i := 13, call := some { cl := true, auto := true, ins := [], res := (RB r4), G' := [] }, dec := some true }], r0, .canon [0, 1] [2, 3, 24, 25, 26]] (by kernel_rfl) (P2 ((decide (((a1.Goals.length : Nat) : Int) > 12)) = false) (decide_eq_false h1) <| P1 (ci_inRange hr2) <| P2 (r2 = true) (h3) <| P1 (ci_inRange hr4) <| P2 (r4 = true) (h5) <| P0) (wi_goodConditions _ _ H))
      (fun h5 H =>
        eW RB (fun _ => []) H <| gE func44 [rg [hF 3, { i := 7, call := some { cl := true, auto := true, ins := [], res := (RB r2), G' := [] }, dec := some true }, { i := 13, call := some { cl := true, auto := true, ins := [], res := (RB r4), G' := [] }, dec := some false }], r0] (by kernel_rfl) (P2 ((decide (((a1.Goals.length : Nat) : Int) > 12)) = false) (decide_eq_false h1) <| P1 (ci_inRange hr2) <| P2 (r2 = true) (h3) <| P1 (ci_inRange hr4) <| P2 (r4 = false) (eqF h5) <| P0)))
    (fun h3 H =>
      eW RB (fun _ => []) H <| gE func44 [rg [hF 3, { i := 7, call := some { cl := true, auto := true, ins := [], res := (RB r2), G' := [] }, dec := some false }], r0] (by kernel_rfl) (P2 ((decide (((a1.Goals.length : Nat) : Int) > 12)) = false) (decide_eq_false h1) <| P1 (ci_inRange hr2) <| P2 (r2 = false) (eqF h3) <| P0)))
/-! loop example/g00886/impl areSources 1 -/
theorem ci_areSources_1 {a0 : Int} {a1 : Gi_Board} {r : Bool} (H : Di_areSources_1 a0 a1 = some r) : Ct X.P X.gl 102 [I a0, .fptr 12 [.agg [sl 5 gi_Terrain a1.Rules.Terrains, sl 6 gi_Kind a1.Rules.Kinds, I a1.Rules.Stack, I a1.Rules.River, I a1.Rules.Road, I a1.Rules.Supply, I a1.Rules.Turns, I a1.Map.Width, I a1.Map.Height, sl 1 I a1.Map.Terrain, sl 1 I a1.Map.Rivers, sl 1 I a1.Map.Roads]] 0 0] [] (RB r) [] :=
  have H := (Di_areSources_1.eq_1 ..).symm.trans H
  Ct.of func102 (c := bdy f102) (by kernel_rfl) (by kernel_rfl) <|
  eBind H fun r1 hr1 H =>
  eBind H fun r2 hr2 H =>
  eW RB (fun _ => []) H <| gE func102 [r0, rg [hC 2 true [] (RI r1) [], hC 3 true [] (RB r2) []]] (by kernel_rfl) (P1 (ci_sizeOf hr1) <| P1 (ci_isIndex hr2) <| P0)
/-! slices IndexFunc   int int  -/
noncomputable def Kslices_IndexFunc_int_i_areSources_1 : Sslices_IndexFunc_int_i_areSources_1 → List Item
  | .h1 .. => nav 300 2 [] [.code (bdy f147)]
def Zslices_IndexFunc_int_i_areSources_1 : Sslices_IndexFunc_int_i_areSources_1 → St
  | .h1 s0 f1 t2 t3 => ⟨sts 19 [(0, sl 1 I s0), (1, .fn 102 [.fptr 12 [.agg [sl 5 gi_Terrain f1.Rules.Terrains, sl 6 gi_Kind f1.Rules.Kinds, I f1.Rules.Stack, I f1.Rules.River, I f1.Rules.Road, I f1.Rules.Supply, I f1.Rules.Turns, I f1.Map.Width, I f1.Map.Height, sl 1 I f1.Map.Terrain, sl 1 I f1.Map.Rivers, sl 1 I f1.Map.Roads]] 0 0]), (7, I t2), (8, I t3)], []⟩
abbrev Qslices_IndexFunc_int_i_areSources_1 := Nx X 147 0 Kslices_IndexFunc_int_i_areSources_1 Zslices_IndexFunc_int_i_areSources_1 RI (fun _ => [])
theorem nslices_IndexFunc_int_i_areSources_1 : ∀ s o, Bslices_IndexFunc_int_i_areSources_1 s = some o → Qslices_IndexFunc_int_i_areSources_1 (Kslices_IndexFunc_int_i_areSources_1 s) (Zslices_IndexFunc_int_i_areSources_1 s) o
  | .h1 s0 f1 t2 t3, o, H =>
    eIf H (fun h1 H =>
      eCk H fun h2 H =>
      eBind H fun x3 hx3 H =>
      eBind H fun r4 hr4 H =>
      gN [rg [hT 0], r0] (by kernel_rfl) (P2 ((decide (t3 < t2)) = true) (decide_eq_true h1) <| P0) <|
      eIf H (fun h5 H =>
        eN H <| gE func147 [rg [hE 4 (I x3), { i := 5, call := some { cl := true, auto := true, ins := [], res := (RB r4), G' := [] }, dec := some true }], r0] (by kernel_rfl) (P1 h2 <| P1 (int_lt_of_at h2 hx3) <| P1 (at_map I hx3) <| P1 (ci_areSources_1 hr4) <| P2 (r4 = true) (h5) <| P0))
      (fun h5 H =>
        eN H fun r hn => gO [rg [hE 4 (I x3), { i := 5, call := some { cl := true, auto := true, ins := [], res := (RB r4), G' := [] }, dec := some false }], r0, .canon [] [0, 1, 7, 8]] (by kernel_rfl) (P1 h2 <| P1 (int_lt_of_at h2 hx3) <| P1 (at_map I hx3) <| P1 (ci_areSources_1 hr4) <| P2 (r4 = false) (eqF h5) <| P0) hn))
    (fun h1 H =>
      eN H <| gE func147 [rg [hF 0], r0] (by kernel_rfl) (P2 ((decide (t3 < t2)) = false) (decide_eq_false h1) <| P0))
theorem wslices_IndexFunc_int_i_areSources_1 : ∀ s r, loop Bslices_IndexFunc_int_i_areSources_1 s = some r → Wc X 147 0 (Kslices_IndexFunc_int_i_areSources_1 s) (Zslices_IndexFunc_int_i_areSources_1 s) (RI r) ((fun _ => []) r) := Nx.all nslices_IndexFunc_int_i_areSources_1
theorem cslices_IndexFunc_int_i_areSources_1 {a0 : (List Int)} {a100 : Gi_Board} {r : Int} (H : Dslices_IndexFunc_int_i_areSources_1 a0 a100 = some r) : Ct X.P X.gl 147 [sl 1 I a0, .fn 102 [.fptr 12 [.agg [sl 5 gi_Terrain a100.Rules.Terrains, sl 6 gi_Kind a100.Rules.Kinds, I a100.Rules.Stack, I a100.Rules.River, I a100.Rules.Road, I a100.Rules.Supply, I a100.Rules.Turns, I a100.Map.Width, I a100.Map.Height, sl 1 I a100.Map.Terrain, sl 1 I a100.Map.Rivers, sl 1 I a100.Map.Roads]] 0 0]] [] (RI r) [] :=
  Ct.of func147 (c := bdy f147) (by kernel_rfl) (by kernel_rfl) <|
  gO [r0, r0, .canon [] [0, 1, 7, 8]] (by kernel_rfl) P0 (wslices_IndexFunc_int_i_areSources_1 _ _ H)
/-! slices ContainsFunc   int int  -/
theorem cslices_ContainsFunc_int_i_areSources_1 {a0 : (List Int)} {a100 : Gi_Board} {r : Bool} (H : Dslices_ContainsFunc_int_i_areSources_1 a0 a100 = some r) : Ct X.P X.gl 94 [sl 1 I a0, .fn 102 [.fptr 12 [.agg [sl 5 gi_Terrain a100.Rules.Terrains, sl 6 gi_Kind a100.Rules.Kinds, I a100.Rules.Stack, I a100.Rules.River, I a100.Rules.Road, I a100.Rules.Supply, I a100.Rules.Turns, I a100.Map.Width, I a100.Map.Height, sl 1 I a100.Map.Terrain, sl 1 I a100.Map.Rivers, sl 1 I a100.Map.Roads]] 0 0]] [] (RB r) [] :=
  Ct.of func94 (c := bdy f94) (by kernel_rfl) (by kernel_rfl) <|
  eBind H fun r1 hr1 H =>
  eW RB (fun _ => []) H <| gE func94 [r0, rg [hC 2 true [] (RI r1) []]] (by kernel_rfl) (P1 (cslices_IndexFunc_int_i_areSources_1 hr1) <| P0)
/-! loop example/g00886/impl areSources -/
theorem ci_areSources {a0 : Gi_Board} {a1 : (List Int)} {r : Bool} (H : Di_areSources a0 a1 = some r) : Ct X.P X.gl 45 [.agg [sl 5 gi_Terrain a0.Rules.Terrains, sl 6 gi_Kind a0.Rules.Kinds, I a0.Rules.Stack, I a0.Rules.River, I a0.Rules.Road, I a0.Rules.Supply, I a0.Rules.Turns, I a0.Map.Width, I a0.Map.Height, sl 1 I a0.Map.Terrain, sl 1 I a0.Map.Rivers, sl 1 I a0.Map.Roads], sl 1 I a1] [] (RB r) [] :=
  Ct.of func45 (c := bdy f45) (by kernel_rfl) (by kernel_rfl) <|
  gS [r0] (by kernel_rfl) P0 <|
  eIf H (fun h1 H =>
    eBind H fun r2 hr2 H =>
    eIf H (fun h3 H =>
      eBind H fun r4 hr4 H =>
      eW RB (fun _ => []) H <| gE func45 [rg [hT 2, { i := 5, call := some { cl := true, auto := true, ins := [], res := (RB r2), G' := [] }, dec := some true }, hC 10 false [] (RB r4) []]] (by kernel_rfl) (P2 ((decide (((a1.length : Nat) : Int) ≤ 6)) = true) (decide_eq_true h1) <| P1 (ci_increasing hr2) <| P2 (r2 = true) (h3) <| P1 (cslices_ContainsFunc_int_i_areSources_1 hr4) <| P0))
    (fun h3 H =>
      eW RB (fun _ => []) H <| gE func45 [rg [hT 2, { i := 5, call := some { cl := true, auto := true, ins := [], res := (RB r2), G' := [] }, dec := some false }]] (by kernel_rfl) (P2 ((decide (((a1.length : Nat) : Int) ≤ 6)) = true) (decide_eq_true h1) <| P1 (ci_increasing hr2) <| P2 (r2 = false) (eqF h3) <| P0)))
  (fun h1 H =>
    eW RB (fun _ => []) H <| gE func45 [rg [hF 2]] (by kernel_rfl) (P2 ((decide (((a1.length : Nat) : Int) ≤ 6)) = false) (decide_eq_false h1) <| P0))
/-! loop example/g00886/impl ScenarioFault -/
theorem ci_ScenarioFault {a0 : Gi_Scenario} {r : Int} (H : Di_ScenarioFault a0 = some r) : Ct X.P X.gl 12 [.agg [.str a0.Name, sl 5 gi_Terrain a0.Board.Rules.Terrains, sl 6 gi_Kind a0.Board.Rules.Kinds, I a0.Board.Rules.Stack, I a0.Board.Rules.River, I a0.Board.Rules.Road, I a0.Board.Rules.Supply, I a0.Board.Rules.Turns, I a0.Board.Map.Width, I a0.Board.Map.Height, sl 1 I a0.Board.Map.Terrain, sl 1 I a0.Board.Map.Rivers, sl 1 I a0.Board.Map.Roads, sl 2 gi_Odds a0.Table.Columns, I a0.Table.Dice, sl 1 (sl 1 I) a0.Table.Results, I a0.Start.Turn, I a0.Start.Weather, sl 4 gi_Unit a0.Start.Units, sl 2 gi_Goal a0.Conditions.Goals, I a0.Conditions.Step, I a0.Conditions.Margin, sl 1 I a0.First, sl 1 I a0.Other]] [] (RI r) [] :=
  Ct.of func12 (c := bdy f12) (by kernel_rfl) (by kernel_rfl) <|
  eBind H fun r1 hr1 H =>
  gS [r0] (by kernel_rfl) P0 <|
  eIf H (fun h2 H =>
    eBind H fun r3 hr3 H =>
    gS [rg [{ i := 2, call := some { cl := true, auto := true, ins := [], res := (RB r1), G' := [] }, dec := some true }]] (by kernel_rfl) (P1 (ci_isName hr1) <| P2 (r1 = true) (h2) <| P0) <|
    eIf H (fun h4 H =>
      eBind H fun r5 hr5 H =>
      gS [rg [{ i := 2, call := some { cl := true, auto := true, ins := [], res := (RB r3), G' := [] }, dec := some true }]] (by kernel_rfl) (P1 (ci_IsBoard hr3) <| P2 (r3 = true) (h4) <| P0) <|
      eIf H (fun h6 H =>
        eBind H fun r7 hr7 H =>
        gS [rg [{ i := 2, call := some { cl := true, auto := true, ins := [], res := (RB r5), G' := [] }, dec := some true }]] (by kernel_rfl) (P1 (ci_IsCombatTable hr5) <| P2 (r5 = true) (h6) <| P0) <|
        eIf H (fun h8 H =>
          eBind H fun r9 hr9 H =>
          gS [rg [{ i := 4, call := some { cl := true, auto := true, ins := [], res := (RB r7), G' := [] }, dec := some true }]] (by kernel_rfl) (P1 (ci_goodState hr7) <| P2 (r7 = true) (h8) <| P0) <|
          eIf H (fun h10 H =>
            eBind H fun r11 hr11 H =>
            gS [rg [{ i := 4, call := some { cl := true, auto := true, ins := [], res := (RB r9), G' := [] }, dec := some true }]] (by kernel_rfl) (P1 (ci_goodConditions hr9) <| P2 (r9 = true) (h10) <| P0) <|
            eIf H (fun h12 H =>
              eBind H fun r13 hr13 H =>
              eIf H (fun h14 H =>
                eW RI (fun _ => []) H <| gE func12 [rg [{ i := 4, call := some { cl := true, auto := true, ins := [], res := (RB r11), G' := [] }, dec := some true }, { i := 11, call := some { cl := true, auto := true, ins := [], res := (RB r13), G' := [] }, dec := some true }], r0] (by kernel_rfl) (P1 (ci_areSources hr11) <| P2 (r11 = true) (h12) <| P1 (ci_areSources hr13) <| P2 (r13 = true) (h14) <| P0))
              (fun h14 H =>
                eW RI (fun _ => []) H <| gE func12 [rg [{ i := 4, call := some { cl := true, auto := true, ins := [], res := (RB r11), G' := [] }, dec := some true }, { i := 11, call := some { cl := true, auto := true, ins := [], res := (RB r13), G' := [] }, dec := some false }], r0] (by kernel_rfl) (P1 (ci_areSources hr11) <| P2 (r11 = true) (h12) <| P1 (ci_areSources hr13) <| P2 (r13 = false) (eqF h14) <| P0)))
            (fun h12 H =>
              eW RI (fun _ => []) H <| gE func12 [rg [{ i := 4, call := some { cl := true, auto := true, ins := [], res := (RB r11), G' := [] }, dec := some false }], r0] (by kernel_rfl) (P1 (ci_areSources hr11) <| P2 (r11 = false) (eqF h12) <| P0)))
          (fun h10 H =>
            eW RI (fun _ => []) H <| gE func12 [rg [{ i := 4, call := some { cl := true, auto := true, ins := [], res := (RB r9), G' := [] }, dec := some false }], r0] (by kernel_rfl) (P1 (ci_goodConditions hr9) <| P2 (r9 = false) (eqF h10) <| P0)))
        (fun h8 H =>
          eW RI (fun _ => []) H <| gE func12 [rg [{ i := 4, call := some { cl := true, auto := true, ins := [], res := (RB r7), G' := [] }, dec := some false }], r0] (by kernel_rfl) (P1 (ci_goodState hr7) <| P2 (r7 = false) (eqF h8) <| P0)))
      (fun h6 H =>
        eW RI (fun _ => []) H <| gE func12 [rg [{ i := 2, call := some { cl := true, auto := true, ins := [], res := (RB r5), G' := [] }, dec := some false }], r0] (by kernel_rfl) (P1 (ci_IsCombatTable hr5) <| P2 (r5 = false) (eqF h6) <| P0)))
    (fun h4 H =>
      eW RI (fun _ => []) H <| gE func12 [rg [{ i := 2, call := some { cl := true, auto := true, ins := [], res := (RB r3), G' := [] }, dec := some false }], r0] (by kernel_rfl) (P1 (ci_IsBoard hr3) <| P2 (r3 = false) (eqF h4) <| P0)))
  (fun h2 H =>
    eW RI (fun _ => []) H <| gE func12 [rg [{ i := 2, call := some { cl := true, auto := true, ins := [], res := (RB r1), G' := [] }, dec := some false }], r0] (by kernel_rfl) (P1 (ci_isName hr1) <| P2 (r1 = false) (eqF h2) <| P0))
/-! loop example/g00886/impl IsScenario -/
theorem ci_IsScenario {a0 : Gi_Scenario} {r : Bool} (H : Di_IsScenario a0 = some r) : Ct X.P X.gl 15 [.agg [.str a0.Name, sl 5 gi_Terrain a0.Board.Rules.Terrains, sl 6 gi_Kind a0.Board.Rules.Kinds, I a0.Board.Rules.Stack, I a0.Board.Rules.River, I a0.Board.Rules.Road, I a0.Board.Rules.Supply, I a0.Board.Rules.Turns, I a0.Board.Map.Width, I a0.Board.Map.Height, sl 1 I a0.Board.Map.Terrain, sl 1 I a0.Board.Map.Rivers, sl 1 I a0.Board.Map.Roads, sl 2 gi_Odds a0.Table.Columns, I a0.Table.Dice, sl 1 (sl 1 I) a0.Table.Results, I a0.Start.Turn, I a0.Start.Weather, sl 4 gi_Unit a0.Start.Units, sl 2 gi_Goal a0.Conditions.Goals, I a0.Conditions.Step, I a0.Conditions.Margin, sl 1 I a0.First, sl 1 I a0.Other]] [] (RB r) [] :=
  Ct.of func15 (c := bdy f15) (by kernel_rfl) (by kernel_rfl) <|
  eBind H fun r1 hr1 H =>
  eW RB (fun _ => []) H <| gE func15 [r0, rg [hC 1 true [] (RI r1) []]] (by kernel_rfl) (P1 (ci_ScenarioFault hr1) <| P0)
/-! loop example/g00886/impl unitsOf -/
def Ri_unitsOf (r : (List Int)) : List D := [ow 1 I r]
noncomputable def Ki_unitsOf : Si_unitsOf → List Item
  | .h1 .. => nav 300 3 [] [.code (bdy f65)]
def Zi_unitsOf : Si_unitsOf → St
  | .h1 side0 t1 t2 t3 l4 => ⟨sts 32 [(1, I side0), (5, .ref 0 1 none), (10, sl 4 gi_Unit t1), (11, I t2), (12, I t3)], [some ⟨false, false, 1, l4.length, List.map I l4⟩]⟩
abbrev Qi_unitsOf := Nx X 65 0 Ki_unitsOf Zi_unitsOf Ri_unitsOf (fun _ => [])
theorem ni_unitsOf : ∀ s o, Bi_unitsOf s = some o → Qi_unitsOf (Ki_unitsOf s) (Zi_unitsOf s) o
  | .h1 side0 t1 t2 t3 l4, o, H =>
    eIf H (fun h1 H =>
      eCk H fun h2 H =>
      eBind H fun x3 hx3 H =>
      gN [rg [hT 0], rg [hE 2 (gi_Unit x3)]] (by kernel_rfl) (P2 ((decide (t3 < t2)) = true) (decide_eq_true h1) <| P1 h2 <| P1 (int_lt_of_at h2 hx3) <| P1 (at_map gi_Unit hx3) <| P0) <|
      eIf H (fun h4 H =>
        eIf H (fun h5 H =>
          eCk H fun h6 H =>
          eN H fun r hn => gO [rg [hT 3, hT 7], rg [hA 3 ((l4 ++ [t3]).length) (List.map I (l4 ++ [t3]))], r0, .canon [3] [1, 5, 10, 11, 12]] (by kernel_rfl) (P2 (((x3.Side : Int) == side0) = true) (beqT h4) <| P2 ((decide (x3.At ≥ 0)) = true) (decide_eq_true h5) <| P1 (apL l4 [t3]) <| P1 (apB h6) <| P1 (apM I l4 [t3]) <| P0) hn)
        (fun h5 H =>
          eN H fun r hn => gO [rg [hT 3, hF 7], r0, .canon [0] [1, 5, 10, 11, 12]] (by kernel_rfl) (P2 (((x3.Side : Int) == side0) = true) (beqT h4) <| P2 ((decide (x3.At ≥ 0)) = false) (decide_eq_false h5) <| P0) hn))
      (fun h4 H =>
        eN H fun r hn => gO [rg [hF 3], r0, .canon [0] [1, 5, 10, 11, 12]] (by kernel_rfl) (P2 (((x3.Side : Int) == side0) = false) (beqF h4) <| P0) hn))
    (fun h1 H =>
      eN H <| gE func65 [rg [hF 0], r0] (by kernel_rfl) (P2 ((decide (t3 < t2)) = false) (decide_eq_false h1) <| P0))
theorem wi_unitsOf : ∀ s r, loop Bi_unitsOf s = some r → Wc X 65 0 (Ki_unitsOf s) (Zi_unitsOf s) (Ri_unitsOf r) ((fun _ => []) r) := Nx.all ni_unitsOf
theorem ci_unitsOf {a0 : Gi_State} {a1 : Int} {r : (List Int)} (H : Di_unitsOf a0 a1 = some r) : Ct X.P X.gl 65 [.agg [I a0.Turn, I a0.Weather, sl 4 gi_Unit a0.Units], I a1] [] (Ri_unitsOf r) [] :=
  Ct.of func65 (c := bdy f65) (by kernel_rfl) (by kernel_rfl) <|
  gO [r0, r0, r0, .canon [1] [1, 5, 10, 11, 12]] (by kernel_rfl) P0 (wi_unitsOf _ _ H)
/-! loop example/g00886/impl sourcesOf -/
def Ri_sourcesOf (r : (List Int)) : List D := [sl 1 I r]
theorem ci_sourcesOf {a0 : Gi_Scenario} {a1 : Int} {r : (List Int)} (H : Di_sourcesOf a0 a1 = some r) : Ct X.P X.gl 58 [.agg [.str a0.Name, sl 5 gi_Terrain a0.Board.Rules.Terrains, sl 6 gi_Kind a0.Board.Rules.Kinds, I a0.Board.Rules.Stack, I a0.Board.Rules.River, I a0.Board.Rules.Road, I a0.Board.Rules.Supply, I a0.Board.Rules.Turns, I a0.Board.Map.Width, I a0.Board.Map.Height, sl 1 I a0.Board.Map.Terrain, sl 1 I a0.Board.Map.Rivers, sl 1 I a0.Board.Map.Roads, sl 2 gi_Odds a0.Table.Columns, I a0.Table.Dice, sl 1 (sl 1 I) a0.Table.Results, I a0.Start.Turn, I a0.Start.Weather, sl 4 gi_Unit a0.Start.Units, sl 2 gi_Goal a0.Conditions.Goals, I a0.Conditions.Step, I a0.Conditions.Margin, sl 1 I a0.First, sl 1 I a0.Other], I a1] [] (Ri_sourcesOf r) [] :=
  Ct.of func58 (c := bdy f58) (by kernel_rfl) (by kernel_rfl) <|
  gS [r0] (by kernel_rfl) P0 <|
  eIf H (fun h1 H =>
    eW Ri_sourcesOf (fun _ => []) H <| gE func58 [rg [hT 1], r0] (by kernel_rfl) (P2 (((a1 : Int) == 0) = true) (beqT h1) <| P0))
  (fun h1 H =>
    eW Ri_sourcesOf (fun _ => []) H <| gE func58 [rg [hF 1], r0] (by kernel_rfl) (P2 (((a1 : Int) == 0) = false) (beqF h1) <| P0))
/-! loop example/g00886/impl ownerOf -/
noncomputable def Ki_ownerOf : Si_ownerOf → List Item
  | .h1 .. => nav 300 2 [] [.code (bdy f191)]
def Zi_ownerOf : Si_ownerOf → St
  | .h1 i0 t1 t2 t3 => ⟨sts 21 [(1, I i0), (8, sl 4 gi_Unit t1), (9, I t2), (10, I t3)], []⟩
abbrev Qi_ownerOf := Nx X 191 0 Ki_ownerOf Zi_ownerOf RI (fun _ => [])
theorem ni_ownerOf : ∀ s o, Bi_ownerOf s = some o → Qi_ownerOf (Ki_ownerOf s) (Zi_ownerOf s) o
  | .h1 i0 t1 t2 t3, o, H =>
    eIf H (fun h1 H =>
      eCk H fun h2 H =>
      eBind H fun x3 hx3 H =>
      gN [rg [hT 0], rg [hE 1 (gi_Unit x3)]] (by kernel_rfl) (P2 ((decide (t3 < t2)) = true) (decide_eq_true h1) <| P1 h2 <| P1 (int_lt_of_at h2 hx3) <| P1 (at_map gi_Unit hx3) <| P0) <|
      eIf H (fun h4 H =>
        eN H <| gE func191 [rg [hT 3], r0] (by kernel_rfl) (P2 (((x3.At : Int) == i0) = true) (beqT h4) <| P0))
      (fun h4 H =>
        eN H fun r hn => gO [rg [hF 3], r0, .canon [] [1, 8, 9, 10]] (by kernel_rfl) (P2 (((x3.At : Int) == i0) = false) (beqF h4) <| P0) hn))
    (fun h1 H =>
      eN H <| gE func191 [rg [hF 0], r0] (by kernel_rfl) (P2 ((decide (t3 < t2)) = false) (decide_eq_false h1) <| P0))
theorem wi_ownerOf : ∀ s r, loop Bi_ownerOf s = some r → Wc X 191 0 (Ki_ownerOf s) (Zi_ownerOf s) (RI r) ((fun _ => []) r) := Nx.all ni_ownerOf
theorem ci_ownerOf {a0 : Gi_State} {a1 : Int} {r : Int} (H : Di_ownerOf a0 a1 = some r) : Ct X.P X.gl 191 [.agg [I a0.Turn, I a0.Weather, sl 4 gi_Unit a0.Units], I a1] [] (RI r) [] :=
  Ct.of func191 (c := bdy f191) (by kernel_rfl) (by kernel_rfl) <|
  gO [r0, r0, .canon [] [1, 8, 9, 10]] (by kernel_rfl) P0 (wi_ownerOf _ _ H)
/-! loop example/g00886/impl edgeOf -/
theorem ci_edgeOf {a0 : Gi_Map} {a1 : Int} {a2 : Int} {r : Int} (H : Di_edgeOf a0 a1 a2 = some r) : Ct X.P X.gl 210 [.agg [I a0.Width, I a0.Height, sl 1 I a0.Terrain, sl 1 I a0.Rivers, sl 1 I a0.Roads], I a1, I a2] [] (RI r) [] :=
  Ct.of func210 (c := bdy f210) (by kernel_rfl) (by kernel_rfl) <|
  eBind H fun r1 hr1 H =>
  gS [r0, rg [hC 3 true [] (RI r1) []]] (by kernel_rfl) (P1 (ci_nextTo hr1) <| P0) <|
  eIf H (fun h2 H =>
    eW RI (fun _ => []) H <| gE func210 [rg [hT 1], r0] (by kernel_rfl) (P2 ((decide (r1 < 0)) = true) (decide_eq_true h2) <| P0))
  (fun h2 H =>
    gS [rg [hF 1]] (by kernel_rfl) (P2 ((decide (r1 < 0)) = false) (decide_eq_false h2) <| P0) <|
    eIf H (fun h3 H =>
      eW RI (fun _ => []) H <| gE func210 [rg [hT 1], r0] (by kernel_rfl) (P2 ((decide (a2 < 3)) = true) (decide_eq_true h3) <| P0))
    (fun h3 H =>
      eW RI (fun _ => []) H <| gE func210 [rg [hF 1], r0] (by kernel_rfl) (P2 ((decide (a2 < 3)) = false) (decide_eq_false h3) <| P0)))
/-! slices Index   int int  -/
noncomputable def Kslices_Index_int : Sslices_Index_int → List Item
  | .h1 .. => nav 300 2 [] [.code (bdy f215)]
def Zslices_Index_int : Sslices_Index_int → St
  | .h1 s0 v1 t2 t3 => ⟨sts 19 [(0, sl 1 I s0), (1, I v1), (7, I t2), (8, I t3)], []⟩
abbrev Qslices_Index_int := Nx X 215 0 Kslices_Index_int Zslices_Index_int RI (fun _ => [])
theorem nslices_Index_int : ∀ s o, Bslices_Index_int s = some o → Qslices_Index_int (Kslices_Index_int s) (Zslices_Index_int s) o
  | .h1 s0 v1 t2 t3, o, H =>
    eIf H (fun h1 H =>
      eCk H fun h2 H =>
      eBind H fun x3 hx3 H =>
      gN [rg [hT 0], r0] (by kernel_rfl) (P2 ((decide (t3 < t2)) = true) (decide_eq_true h1) <| P0) <|
      eIf H (fun h4 H =>
        eN H <| gE func215 [rg [hE 4 (I x3), hT 5], r0] (by kernel_rfl) (P1 h2 <| P1 (int_lt_of_at h2 hx3) <| P1 (at_map I hx3) <| P2 (((v1 : Int) == x3) = true) (beqT h4) <| P0))
      (fun h4 H =>
        eN H fun r hn => gO [rg [hE 4 (I x3), hF 5], r0, .canon [] [0, 1, 7, 8]] (by kernel_rfl) (P1 h2 <| P1 (int_lt_of_at h2 hx3) <| P1 (at_map I hx3) <| P2 (((v1 : Int) == x3) = false) (beqF h4) <| P0) hn))
    (fun h1 H =>
      eN H <| gE func215 [rg [hF 0], r0] (by kernel_rfl) (P2 ((decide (t3 < t2)) = false) (decide_eq_false h1) <| P0))
theorem wslices_Index_int : ∀ s r, loop Bslices_Index_int s = some r → Wc X 215 0 (Kslices_Index_int s) (Zslices_Index_int s) (RI r) ((fun _ => []) r) := Nx.all nslices_Index_int
theorem cslices_Index_int {a0 : (List Int)} {a1 : Int} {r : Int} (H : Dslices_Index_int a0 a1 = some r) : Ct X.P X.gl 215 [sl 1 I a0, I a1] [] (RI r) [] :=
  Ct.of func215 (c := bdy f215) (by kernel_rfl) (by kernel_rfl) <|
  gO [r0, r0, .canon [] [0, 1, 7, 8]] (by kernel_rfl) P0 (wslices_Index_int _ _ H)
/-! slices Contains   int int  -/
theorem cslices_Contains_int {a0 : (List Int)} {a1 : Int} {r : Bool} (H : Dslices_Contains_int a0 a1 = some r) : Ct X.P X.gl 212 [sl 1 I a0, I a1] [] (RB r) [] :=
  Ct.of func212 (c := bdy f212) (by kernel_rfl) (by kernel_rfl) <|
  eBind H fun r1 hr1 H =>
  eW RB (fun _ => []) H <| gE func212 [r0, rg [hC 2 true [] (RI r1) []]] (by kernel_rfl) (P1 (cslices_Index_int hr1) <| P0)
/-! loop example/g00886/impl crossesFreely -/
theorem ci_crossesFreely {a0 : Gi_Map} {a1 : Int} {r : Bool} (H : Di_crossesFreely a0 a1 = some r) : Ct X.P X.gl 209 [.agg [I a0.Width, I a0.Height, sl 1 I a0.Terrain, sl 1 I a0.Rivers, sl 1 I a0.Roads], I a1] [] (RB r) [] :=
  Ct.of func209 (c := bdy f209) (by kernel_rfl) (by kernel_rfl) <|
  eBind H fun r1 hr1 H =>
  gS [r0] (by kernel_rfl) P0 <|
  eIf H (fun h2 H =>
    eBind H fun r3 hr3 H =>
    eW RB (fun _ => []) H <| gE func209 [rg [{ i := 3, call := some { cl := true, auto := true, ins := [], res := (RB r1), G' := [] }, dec := some true }, hC 9 true [] (RB r3) []]] (by kernel_rfl) (P1 (cslices_Contains_int hr1) <| P2 (r1 = true) (h2) <| P1 (cslices_Contains_int hr3) <| P0))
  (fun h2 H =>
    eW RB (fun _ => []) H <| gE func209 [rg [{ i := 3, call := some { cl := true, auto := true, ins := [], res := (RB r1), G' := [] }, dec := some false }]] (by kernel_rfl) (P1 (cslices_Contains_int hr1) <| P2 (r1 = false) (eqF h2) <| P0))
/-! loop example/g00886/impl controls -/
noncomputable def Ki_controls : Si_controls → List Item
  | .h1 .. => nav 300 3 [false] [.code (bdy f206)]
def Zi_controls : Si_controls → St
  | .h1 i0 t1 b2 b3 => ⟨sts 51 [(2, I i0), (3, .ptr 0 12 0 0), (4, .ptr 1 4 0 0), (30, I t1)], [some ⟨false, true, 12, 1, [.agg [sl 5 gi_Terrain b2.Rules.Terrains, sl 6 gi_Kind b2.Rules.Kinds, I b2.Rules.Stack, I b2.Rules.River, I b2.Rules.Road, I b2.Rules.Supply, I b2.Rules.Turns, I b2.Map.Width, I b2.Map.Height, sl 1 I b2.Map.Terrain, sl 1 I b2.Map.Rivers, sl 1 I b2.Map.Roads]]⟩, some ⟨false, true, 4, 1, [.agg [I b3.Side, I b3.Kind, I b3.At, I b3.Steps]]⟩]⟩
abbrev Qi_controls := Nx X 206 0 Ki_controls Zi_controls RB (fun _ => [])
theorem ni_controls : ∀ s o, Bi_controls s = some o → Qi_controls (Ki_controls s) (Zi_controls s) o
  | .h1 i0 t1 b2 b3, o, H =>
    eIf H (fun h1 H =>
      eBind H fun r2 hr2 H =>
      gN [rg [hT 0], r0] (by kernel_rfl) (P2 ((decide (t1 < 6)) = true) (decide_eq_true h1) <| P0) <|
      eIf H (fun h3 H =>
        eBind H fun r4 hr4 H =>
        eBind H fun r5 hr5 H =>
        eN H <| gE func206 [rg [hC 5 true [] (RI r2) [], hT 7], rg [hC 7 true [] (RI r4) [], hC 8 true [] (RB r5) []]] (by kernel_rfl) (P1 (ci_nextTo hr2) <| P2 (((r2 : Int) == i0) = true) (beqT h3) <| P1 (ci_edgeOf hr4) <| P1 (ci_crossesFreely hr5) <| P0))
      (fun h3 H =>
        eN H fun r hn => gO [rg [hC 5 true [] (RI r2) [], hF 7], r0, .canon [0, 1] [2, 3, 4, 30]] (by kernel_rfl) (P1 (ci_nextTo hr2) <| P2 (((r2 : Int) == i0) = false) (beqF h3) <| P0) hn))
    (fun h1 H =>
      eN H <| gE func206 [rg [hF 0], r0] (by kernel_rfl) (P2 ((decide (t1 < 6)) = false) (decide_eq_false h1) <| P0))
theorem wi_controls : ∀ s r, loop Bi_controls s = some r → Wc X 206 0 (Ki_controls s) (Zi_controls s) (RB r) ((fun _ => []) r) := Nx.all ni_controls
theorem ci_controls {a0 : Gi_Board} {a1 : Gi_Unit} {a2 : Int} {r : Bool} (H : Di_controls a0 a1 a2 = some r) : Ct X.P X.gl 206 [.agg [sl 5 gi_Terrain a0.Rules.Terrains, sl 6 gi_Kind a0.Rules.Kinds, I a0.Rules.Stack, I a0.Rules.River, I a0.Rules.Road, I a0.Rules.Supply, I a0.Rules.Turns, I a0.Map.Width, I a0.Map.Height, sl 1 I a0.Map.Terrain, sl 1 I a0.Map.Rivers, sl 1 I a0.Map.Roads], .agg [I a1.Side, I a1.Kind, I a1.At, I a1.Steps], I a2] [] (RB r) [] :=
  Ct.of func206 (c := bdy f206) (by kernel_rfl) (by kernel_rfl) <|
  gS [r0] (by kernel_rfl) P0 <|
  eIf H (fun h1 H =>
    eW RB (fun _ => []) H <| gE func206 [rg [hT 2], r0] (by kernel_rfl) (P2 ((decide (a1.At < 0)) = true) (decide_eq_true h1) <| P0))
  (fun h1 H =>
    eCk H fun h2 H =>
    eBind H fun x3 hx3 H =>
    eIf H (fun h4 H =>
      eBind H fun r5 hr5 H =>
      eIf H (fun h6 H =>
        eW RB (fun _ => []) H <| gE func206 [rg [hF 2, { i := 11, el := some (gi_Kind x3), dec := some true }, hC 19 true [] (RI r5) [], hT 20], r0] (by kernel_rfl) (P2 ((decide (a1.At < 0)) = false) (decide_eq_false h1) <| P1 h2 <| P1 (int_lt_of_at h2 hx3) <| P1 (at_map gi_Kind hx3) <| P2 (x3.Zone = true) (h4) <| P1 (ci_enterCost hr5) <| P2 (((r5 : Int) == 0) = true) (beqT h6) <| P0))
      (fun h6 H =>
        gO [rg [hF 2, { i := 11, el := some (gi_Kind x3), dec := some true }, hC 19 true [] (RI r5) [], hF 20], r0, .canon [0, 1] [2, 3, 4, 30]] (by kernel_rfl) (P2 ((decide (a1.At < 0)) = false) (decide_eq_false h1) <| P1 h2 <| P1 (int_lt_of_at h2 hx3) <| P1 (at_map gi_Kind hx3) <| P2 (x3.Zone = true) (h4) <| P1 (ci_enterCost hr5) <| P2 (((r5 : Int) == 0) = false) (beqF h6) <| P0) (wi_controls _ _ H)))
    (fun h4 H =>
      eW RB (fun _ => []) H <| gE func206 [rg [hF 2, { i := 11, el := some (gi_Kind x3), dec := some false }], r0] (by kernel_rfl) (P2 ((decide (a1.At < 0)) = false) (decide_eq_false h1) <| P1 h2 <| P1 (int_lt_of_at h2 hx3) <| P1 (at_map gi_Kind hx3) <| P2 (x3.Zone = false) (eqF h4) <| P0)))
/-! loop example/g00886/impl inZone -/
noncomputable def Ki_inZone : Si_inZone → List Item
  | .h1 .. => nav 300 2 [] [.code (bdy f192)]
def Zi_inZone : Si_inZone → St
  | .h1 side0 i1 t2 t3 t4 b5 => ⟨sts 29 [(2, I side0), (3, I i1), (4, .ptr 0 12 0 0), (12, sl 4 gi_Unit t2), (13, I t3), (14, I t4)], [some ⟨false, true, 12, 1, [.agg [sl 5 gi_Terrain b5.Rules.Terrains, sl 6 gi_Kind b5.Rules.Kinds, I b5.Rules.Stack, I b5.Rules.River, I b5.Rules.Road, I b5.Rules.Supply, I b5.Rules.Turns, I b5.Map.Width, I b5.Map.Height, sl 1 I b5.Map.Terrain, sl 1 I b5.Map.Rivers, sl 1 I b5.Map.Roads]]⟩]⟩
abbrev Qi_inZone := Nx X 192 0 Ki_inZone Zi_inZone RB (fun _ => [])
theorem ni_inZone : ∀ s o, Bi_inZone s = some o → Qi_inZone (Ki_inZone s) (Zi_inZone s) o
  | .h1 side0 i1 t2 t3 t4 b5, o, H =>
    eIf H (fun h1 H =>
      eCk H fun h2 H =>
      eBind H fun x3 hx3 H =>
      gN [rg [hT 0], rg [hE 1 (gi_Unit x3)]] (by kernel_rfl) (P2 ((decide (t4 < t3)) = true) (decide_eq_true h1) <| P1 h2 <| P1 (int_lt_of_at h2 hx3) <| P1 (at_map gi_Unit hx3) <| P0) <|
      eIf H (fun h4 H =>
        eBind H fun r5 hr5 H =>
        eIf H (fun h6 H =>
          eN H <| gE func192 [rg [hT 3, { i := 8, call := some { cl := true, auto := true, ins := [], res := (RB r5), G' := [] }, dec := some true }], r0] (by kernel_rfl) (P2 (((x3.Side : Int) == side0) = true) (beqT h4) <| P1 (ci_controls hr5) <| P2 (r5 = true) (h6) <| P0))
        (fun h6 H =>
          eN H fun r hn => gO [rg [hT 3, { i := 8, call := some { cl := true, auto := true, ins := [], res := (RB r5), G' := [] }, dec := some false }], r0, .canon [0] [2, 3, 4, 12, 13, 14]] (by kernel_rfl) (P2 (((x3.Side : Int) == side0) = true) (beqT h4) <| P1 (ci_controls hr5) <| P2 (r5 = false) (eqF h6) <| P0) hn))
      (fun h4 H =>
        eN H fun r hn => gO [rg [hF 3], r0, .canon [0] [2, 3, 4, 12, 13, 14]] (by kernel_rfl) (P2 (((x3.Side : Int) == side0) = false) (beqF h4) <| P0) hn))
    (fun h1 H =>
      eN H <| gE func192 [rg [hF 0], r0] (by kernel_rfl) (P2 ((decide (t4 < t3)) = false) (decide_eq_false h1) <| P0))
theorem wi_inZone : ∀ s r, loop Bi_inZone s = some r → Wc X 192 0 (Ki_inZone s) (Zi_inZone s) (RB r) ((fun _ => []) r) := Nx.all ni_inZone
theorem ci_inZone {a0 : Gi_Board} {a1 : Gi_State} {a2 : Int} {a3 : Int} {r : Bool} (H : Di_inZone a0 a1 a2 a3 = some r) : Ct X.P X.gl 192 [.agg [sl 5 gi_Terrain a0.Rules.Terrains, sl 6 gi_Kind a0.Rules.Kinds, I a0.Rules.Stack, I a0.Rules.River, I a0.Rules.Road, I a0.Rules.Supply, I a0.Rules.Turns, I a0.Map.Width, I a0.Map.Height, sl 1 I a0.Map.Terrain, sl 1 I a0.Map.Rivers, sl 1 I a0.Map.Roads], .agg [I a1.Turn, I a1.Weather, sl 4 gi_Unit a1.Units], I a2, I a3] [] (RB r) [] :=
  Ct.of func192 (c := bdy f192) (by kernel_rfl) (by kernel_rfl) <|
  gO [r0, r0, .canon [0] [2, 3, 4, 12, 13, 14]] (by kernel_rfl) P0 (wi_inZone _ _ H)
/-! loop example/g00886/impl blockedFor -/
theorem ci_blockedFor {a0 : Gi_Board} {a1 : Gi_State} {a2 : Int} {a3 : Int} {r : Bool} (H : Di_blockedFor a0 a1 a2 a3 = some r) : Ct X.P X.gl 159 [.agg [sl 5 gi_Terrain a0.Rules.Terrains, sl 6 gi_Kind a0.Rules.Kinds, I a0.Rules.Stack, I a0.Rules.River, I a0.Rules.Road, I a0.Rules.Supply, I a0.Rules.Turns, I a0.Map.Width, I a0.Map.Height, sl 1 I a0.Map.Terrain, sl 1 I a0.Map.Rivers, sl 1 I a0.Map.Roads], .agg [I a1.Turn, I a1.Weather, sl 4 gi_Unit a1.Units], I a2, I a3] [] (RB r) [] :=
  Ct.of func159 (c := bdy f159) (by kernel_rfl) (by kernel_rfl) <|
  eBind H fun r1 hr1 H =>
  gS [r0, rg [hC 2 true [] (RI r1) []]] (by kernel_rfl) (P1 (ci_ownerOf hr1) <| P0) <|
  eIf H (fun h2 H =>
    eW RB (fun _ => []) H <| gE func159 [rg [hT 3]] (by kernel_rfl) (P2 (((r1 : Int) == (IntKind.wrap .i64 (1 - a2))) = true) (beqT h2) <| P0))
  (fun h2 H =>
    eIf H (fun h3 H =>
      eW RB (fun _ => []) H <| gE func159 [rg [hF 3, hF 7]] (by kernel_rfl) (P2 (((r1 : Int) == (IntKind.wrap .i64 (1 - a2))) = false) (beqF h2) <| P2 (((r1 : Int) != a2) = false) (bneF h3) <| P0))
    (fun h3 H =>
      eBind H fun r4 hr4 H =>
      eW RB (fun _ => []) H <| gE func159 [rg [hF 3, hT 7, hC 14 true [] (RB r4) []]] (by kernel_rfl) (P2 (((r1 : Int) == (IntKind.wrap .i64 (1 - a2))) = false) (beqF h2) <| P2 (((r1 : Int) != a2) = true) (bneT h3) <| P1 (ci_inZone hr4) <| P0)))
/-! loop example/g00886/impl openFor -/
def Ri_openFor (r : (List Bool)) : List D := [ow 1 D.bool r]
noncomputable def Ki_openFor : Si_openFor → List Item
  | .h1 .. => nav 300 3 [] [.code (bdy f118)]
def Zi_openFor : Si_openFor → St
  | .h1 side0 kind1 t2 t3 b4 b5 l6 => ⟨sts 37 [(2, I side0), (3, I kind1), (4, .ptr 0 12 0 0), (5, .ptr 1 3 0 0), (9, .ref 2 1 none), (15, I t2), (16, I t3)], [some ⟨false, true, 12, 1, [.agg [sl 5 gi_Terrain b4.Rules.Terrains, sl 6 gi_Kind b4.Rules.Kinds, I b4.Rules.Stack, I b4.Rules.River, I b4.Rules.Road, I b4.Rules.Supply, I b4.Rules.Turns, I b4.Map.Width, I b4.Map.Height, sl 1 I b4.Map.Terrain, sl 1 I b4.Map.Rivers, sl 1 I b4.Map.Roads]]⟩, some ⟨false, true, 3, 1, [.agg [I b5.Turn, I b5.Weather, sl 4 gi_Unit b5.Units]]⟩, some ⟨false, false, 1, l6.length, List.map D.bool l6⟩]⟩
abbrev Qi_openFor := Nx X 118 0 Ki_openFor Zi_openFor Ri_openFor (fun _ => [])
theorem ni_openFor : ∀ s o, Bi_openFor s = some o → Qi_openFor (Ki_openFor s) (Zi_openFor s) o
  | .h1 side0 kind1 t2 t3 b4 b5 l6, o, H =>
    eIf H (fun h1 H =>
      eBind H fun r2 hr2 H =>
      gN [rg [hT 0], r0] (by kernel_rfl) (P2 ((decide (t3 < t2)) = true) (decide_eq_true h1) <| P0) <|
      eIf H (fun h3 H =>
        eCk H fun h4 H =>
        eN H fun r hn => gO [rg [hC 4 true [] (RI r2) [], hF 5, hA 15 ((l6 ++ [false]).length) (List.map D.bool (l6 ++ [false]))], r0, .canon [0, 1, 4] [2, 3, 4, 5, 9, 15, 16]] (by kernel_rfl) (P1 (ci_enterCost hr2) <| P2 (((r2 : Int) != 0) = false) (bneF h3) <| P1 (apL l6 [false]) <| P1 (apB h4) <| P1 (apM D.bool l6 [false]) <| P0) hn)
      (fun h3 H =>
        eBind H fun r4 hr4 H =>
        eCk H fun h5 H =>
        eN H fun r hn => gO [rg [hC 4 true [] (RI r2) [], hT 5, hC 11 true [] (RB r4) [], hA 15 ((l6 ++ [(!r4)]).length) (List.map D.bool (l6 ++ [(!r4)]))], r0, .canon [0, 1, 4] [2, 3, 4, 5, 9, 15, 16]] (by kernel_rfl) (P1 (ci_enterCost hr2) <| P2 (((r2 : Int) != 0) = true) (bneT h3) <| P1 (ci_blockedFor hr4) <| P1 (apL l6 [(!r4)]) <| P1 (apB h5) <| P1 (apM D.bool l6 [(!r4)]) <| P0) hn))
    (fun h1 H =>
      eN H <| gE func118 [rg [hF 0], r0] (by kernel_rfl) (P2 ((decide (t3 < t2)) = false) (decide_eq_false h1) <| P0))
theorem wi_openFor : ∀ s r, loop Bi_openFor s = some r → Wc X 118 0 (Ki_openFor s) (Zi_openFor s) (Ri_openFor r) ((fun _ => []) r) := Nx.all ni_openFor
theorem ci_openFor {a0 : Gi_Board} {a1 : Gi_State} {a2 : Int} {a3 : Int} {r : (List Bool)} (H : Di_openFor a0 a1 a2 a3 = some r) : Ct X.P X.gl 118 [.agg [sl 5 gi_Terrain a0.Rules.Terrains, sl 6 gi_Kind a0.Rules.Kinds, I a0.Rules.Stack, I a0.Rules.River, I a0.Rules.Road, I a0.Rules.Supply, I a0.Rules.Turns, I a0.Map.Width, I a0.Map.Height, sl 1 I a0.Map.Terrain, sl 1 I a0.Map.Rivers, sl 1 I a0.Map.Roads], .agg [I a1.Turn, I a1.Weather, sl 4 gi_Unit a1.Units], I a2, I a3] [] (Ri_openFor r) [] :=
  Ct.of func118 (c := bdy f118) (by kernel_rfl) (by kernel_rfl) <|
  gO [r0, r0, r0, .canon [0, 1, 2] [2, 3, 4, 5, 9, 15, 16]] (by kernel_rfl) P0 (wi_openFor _ _ H)
/-! loop example/g00886/impl neighboursOn -/
def Ri_neighboursOn (r : (List Int)) : List D := [ow 1 I r]
noncomputable def Ki_neighboursOn : Si_neighboursOn → List Item
  | .h1 .. => nav 300 3 [] [.code (bdy f190)]
def Zi_neighboursOn : Si_neighboursOn → St
  | .h1 i0 t1 b2 l3 => ⟨sts 24 [(1, I i0), (2, .ptr 0 5 0 0), (5, .ref 1 1 none), (9, I t1)], [some ⟨false, true, 5, 1, [.agg [I b2.Width, I b2.Height, sl 1 I b2.Terrain, sl 1 I b2.Rivers, sl 1 I b2.Roads]]⟩, some ⟨false, false, 1, l3.length, List.map I l3⟩]⟩
abbrev Qi_neighboursOn := Nx X 190 0 Ki_neighboursOn Zi_neighboursOn Ri_neighboursOn (fun _ => [])
theorem ni_neighboursOn : ∀ s o, Bi_neighboursOn s = some o → Qi_neighboursOn (Ki_neighboursOn s) (Zi_neighboursOn s) o
  | .h1 i0 t1 b2 l3, o, H =>
    eIf H (fun h1 H =>
      eBind H fun r2 hr2 H =>
      gN [rg [hT 0], r0, rg [hC 3 true [] (RI r2) []]] (by kernel_rfl) (P2 ((decide (t1 < 6)) = true) (decide_eq_true h1) <| P1 (ci_nextTo hr2) <| P0) <|
      eIf H (fun h3 H =>
        eCk H fun h4 H =>
        eN H fun r hn => gO [rg [hT 1], rg [hA 3 ((l3 ++ [r2]).length) (List.map I (l3 ++ [r2]))], r0, .canon [0, 3] [1, 2, 5, 9]] (by kernel_rfl) (P2 ((decide (r2 ≥ 0)) = true) (decide_eq_true h3) <| P1 (apL l3 [r2]) <| P1 (apB h4) <| P1 (apM I l3 [r2]) <| P0) hn)
      (fun h3 H =>
        eN H fun r hn => gO [rg [hF 1], r0, .canon [0, 1] [1, 2, 5, 9]] (by kernel_rfl) (P2 ((decide (r2 ≥ 0)) = false) (decide_eq_false h3) <| P0) hn))
    (fun h1 H =>
      eN H <| gE func190 [rg [hF 0], r0] (by kernel_rfl) (P2 ((decide (t1 < 6)) = false) (decide_eq_false h1) <| P0))
theorem wi_neighboursOn : ∀ s r, loop Bi_neighboursOn s = some r → Wc X 190 0 (Ki_neighboursOn s) (Zi_neighboursOn s) (Ri_neighboursOn r) ((fun _ => []) r) := Nx.all ni_neighboursOn
theorem ci_neighboursOn {a0 : Gi_Map} {a1 : Int} {r : (List Int)} (H : Di_neighboursOn a0 a1 = some r) : Ct X.P X.gl 190 [.agg [I a0.Width, I a0.Height, sl 1 I a0.Terrain, sl 1 I a0.Rivers, sl 1 I a0.Roads], I a1] [] (Ri_neighboursOn r) [] :=
  Ct.of func190 (c := bdy f190) (by kernel_rfl) (by kernel_rfl) <|
  gO [r0, r0, r0, .canon [0, 1] [1, 2, 5, 9]] (by kernel_rfl) P0 (wi_neighboursOn _ _ H)
/-! loop example/g00886/impl spread -/
def Ri_spread (r : (List Int)) : List D := [ow 1 I r]
noncomputable def Ki_spread : Si_spread → List Item
  | .h1 .. => nav 300 3 [] [.code (bdy f158)]
  | .h2 .. => nav 300 5 [false] [.code (bdy f158)]
  | .h3 .. => nav 300 7 [false, false] [.code (bdy f158)]
  | .h4 .. => nav 300 9 [false, false, true] [.code (bdy f158)]
def Zi_spread : Si_spread → St
  | .h1 t0 t1 t2 t3 b4 l5 l6 => ⟨sts 91 [(1, sl 1 D.bool t0), (2, sl 1 I t1), (3, .ptr 0 5 0 0), (7, .ref 1 1 none), (8, .ref 2 1 none), (20, I t2), (21, I t3)], [some ⟨false, true, 5, 1, [.agg [I b4.Width, I b4.Height, sl 1 I b4.Terrain, sl 1 I b4.Rivers, sl 1 I b4.Roads]]⟩, some ⟨false, false, 1, l5.length, List.map I l5⟩, some ⟨false, false, 1, l6.length, List.map I l6⟩]⟩
  | .h2 t0 t1 t2 t3 b4 l5 l6 => ⟨sts 91 [(1, sl 1 D.bool t0), (3, .ptr 0 5 0 0), (7, .ref 1 1 none), (8, .ref 2 1 none), (28, sl 1 I t1), (29, I t2), (30, I t3)], [some ⟨false, true, 5, 1, [.agg [I b4.Width, I b4.Height, sl 1 I b4.Terrain, sl 1 I b4.Rivers, sl 1 I b4.Roads]]⟩, some ⟨false, false, 1, l5.length, List.map I l5⟩, some ⟨false, false, 1, l6.length, List.map I l6⟩]⟩
  | .h3 t0 t1 b2 l3 l4 => ⟨sts 91 [(1, sl 1 D.bool t0), (3, .ptr 0 5 0 0), (7, .ref 1 1 none), (8, .ref 2 1 none), (12, I t1)], [some ⟨false, true, 5, 1, [.agg [I b2.Width, I b2.Height, sl 1 I b2.Terrain, sl 1 I b2.Rivers, sl 1 I b2.Roads]]⟩, some ⟨false, false, 1, l3.length, List.map I l3⟩, some ⟨false, false, 1, l4.length, List.map I l4⟩]⟩
  | .h4 t0 t1 t2 t3 b4 l5 l6 l7 => ⟨sts 91 [(1, sl 1 D.bool t0), (3, .ptr 0 5 0 0), (7, .ref 1 1 none), (8, .ref 2 1 none), (12, I t1), (57, .ref 3 1 none), (58, I t2), (59, I t3)], [some ⟨false, true, 5, 1, [.agg [I b4.Width, I b4.Height, sl 1 I b4.Terrain, sl 1 I b4.Rivers, sl 1 I b4.Roads]]⟩, some ⟨false, false, 1, l5.length, List.map I l5⟩, some ⟨false, false, 1, l6.length, List.map I l6⟩, some ⟨false, false, 1, l7.length, List.map I l7⟩]⟩
abbrev Qi_spread := Nx X 158 0 Ki_spread Zi_spread Ri_spread (fun _ => [])
theorem ni_spread : ∀ s o, Bi_spread s = some o → Qi_spread (Ki_spread s) (Zi_spread s) o
  | .h1 t0 t1 t2 t3 b4 l5 l6, o, H =>
    eIf H (fun h1 H =>
      eCk H fun h2 H =>
      eBind H fun x3 hx3 H =>
      eN H fun r hn => gO [rg [hT 0], r0, rg [hA 3 ((List.set l5 (Int.toNat t3) (-1)).length) (List.map I (List.set l5 (Int.toNat t3) (-1)))], r0, .canon [0, 1, 2] [1, 2, 3, 7, 8, 20, 21]] (by kernel_rfl) (P2 ((decide (t3 < t2)) = true) (decide_eq_true h1) <| P1 h2 <| P1 (int_lt_of_at h2 hx3) <| P1 (lt_of_at hx3) <| P2 (setCells (List.map I l5) (Int.toNat t3) 0 [I (-1)] = List.map I (List.set l5 (Int.toNat t3) (-1))) (setCells_map hx3 rfl) <| P1 (setLen l5 (Int.toNat t3) (-1)) <| P0) hn)
    (fun h1 H =>
      eN H fun r hn => gO [rg [hF 0], r0, .canon [0, 1, 2] [1, 3, 7, 8, 28, 29, 30]] (by kernel_rfl) (P2 ((decide (t3 < t2)) = false) (decide_eq_false h1) <| P0) hn)
  | .h2 t0 t1 t2 t3 b4 l5 l6, o, H =>
    eIf H (fun h1 H =>
      eCk H fun h2 H =>
      eBind H fun x3 hx3 H =>
      eCk H fun h4 H =>
      eBind H fun x5 hx5 H =>
      gN [rg [hT 0], rg [hE 1 (I x3)]] (by kernel_rfl) (P2 ((decide (t3 < t2)) = true) (decide_eq_true h1) <| P1 h2 <| P1 (int_lt_of_at h2 hx3) <| P1 (at_map I hx3) <| P0) <|
      eIf H (fun h6 H =>
        eCk H fun h7 H =>
        eBind H fun x8 hx8 H =>
        eCk H fun h9 H =>
        eN H fun r hn => gO [rg [{ i := 3, el := some (D.bool x5), dec := some true }], rg [hA 3 ((List.set l5 (Int.toNat x3) 0).length) (List.map I (List.set l5 (Int.toNat x3) 0))], rg [hA 3 ((l6 ++ [x3]).length) (List.map I (l6 ++ [x3]))], r0, .canon [0, 1, 4] [1, 3, 7, 8, 28, 29, 30]] (by kernel_rfl) (P1 h4 <| P1 (int_lt_of_at h4 hx5) <| P1 (at_map D.bool hx5) <| P2 (x5 = true) (h6) <| P1 h7 <| P1 (int_lt_of_at h7 hx8) <| P1 (lt_of_at hx8) <| P2 (setCells (List.map I l5) (Int.toNat x3) 0 [I 0] = List.map I (List.set l5 (Int.toNat x3) 0)) (setCells_map hx8 rfl) <| P1 (setLen l5 (Int.toNat x3) 0) <| P1 (apL l6 [x3]) <| P1 (apB h9) <| P1 (apM I l6 [x3]) <| P0) hn)
      (fun h6 H =>
        eN H fun r hn => gO [rg [{ i := 3, el := some (D.bool x5), dec := some false }], r0, .canon [0, 1, 2] [1, 3, 7, 8, 28, 29, 30]] (by kernel_rfl) (P1 h4 <| P1 (int_lt_of_at h4 hx5) <| P1 (at_map D.bool hx5) <| P2 (x5 = false) (eqF h6) <| P0) hn))
    (fun h1 H =>
      eN H fun r hn => gO [rg [hF 0], r0, .canon [0, 1, 2] [1, 3, 7, 8, 12]] (by kernel_rfl) (P2 ((decide (t3 < t2)) = false) (decide_eq_false h1) <| P0) hn)
  | .h3 t0 t1 b2 l3 l4, o, H =>
    eIf H (fun h1 H =>
      eCk H fun h2 H =>
      eBind H fun x3 hx3 H =>
      eBind H fun r4 hr4 H =>
      eN H fun r hn => gO [rg [hT 3], rg [hE 4 (I x3), hC 5 true [] (Ri_neighboursOn r4) []], .canon [0, 1, 2, 3] [1, 3, 7, 8, 12, 57, 58, 59]] (by kernel_rfl) (P2 ((decide (t1 < ((l4.length : Nat) : Int))) = true) (decide_eq_true h1) <| P1 h2 <| P1 (int_lt_of_at h2 hx3) <| P1 (at_map I hx3) <| P1 (ci_neighboursOn hr4) <| P0) hn)
    (fun h1 H =>
      eN H <| gE func158 [rg [hF 3], r0] (by kernel_rfl) (P2 ((decide (t1 < ((l4.length : Nat) : Int))) = false) (decide_eq_false h1) <| P0))
  | .h4 t0 t1 t2 t3 b4 l5 l6 l7, o, H =>
    eIf H (fun h1 H =>
      eCk H fun h2 H =>
      eBind H fun x3 hx3 H =>
      eCk H fun h4 H =>
      eBind H fun x5 hx5 H =>
      gN [rg [hT 0], rg [hE 1 (I x3)]] (by kernel_rfl) (P2 ((decide (t3 < t2)) = true) (decide_eq_true h1) <| P1 h2 <| P1 (int_lt_of_at h2 hx3) <| P1 (at_map I hx3) <| P0) <|
      eIf H (fun h6 H =>
        eCk H fun h7 H =>
        eBind H fun x8 hx8 H =>
        eIf H (fun h9 H =>
          eCk H fun h10 H =>
          eBind H fun x11 hx11 H =>
          eCk H fun h12 H =>
          eBind H fun x13 hx13 H =>
          eCk H fun h14 H =>
          eBind H fun x15 hx15 H =>
          eCk H fun h16 H =>
          eN H fun r hn => gO [rg [{ i := 3, el := some (D.bool x5), dec := some true }, hE 8 (I x8), hT 9], rg [hE 6 (I x11), hE 8 (I x13), hA 11 ((List.set l5 (Int.toNat x3) (IntKind.wrap .i64 (x13 + 1))).length) (List.map I (List.set l5 (Int.toNat x3) (IntKind.wrap .i64 (x13 + 1))))], rg [hA 3 ((l6 ++ [x3]).length) (List.map I (l6 ++ [x3]))], r0, .canon [0, 1, 5, 3] [1, 3, 7, 8, 12, 57, 58, 59]] (by kernel_rfl) (P1 h4 <| P1 (int_lt_of_at h4 hx5) <| P1 (at_map D.bool hx5) <| P2 (x5 = true) (h6) <| P1 h7 <| P1 (int_lt_of_at h7 hx8) <| P1 (at_map I hx8) <| P2 ((decide (x8 < 0)) = true) (decide_eq_true h9) <| P1 h10 <| P1 (int_lt_of_at h10 hx11) <| P1 (at_map I hx11) <| P1 h12 <| P1 (int_lt_of_at h12 hx13) <| P1 (at_map I hx13) <| P1 h14 <| P1 (int_lt_of_at h14 hx15) <| P1 (lt_of_at hx15) <| P2 (setCells (List.map I l5) (Int.toNat x3) 0 [I (IntKind.wrap .i64 (x13 + 1))] = List.map I (List.set l5 (Int.toNat x3) (IntKind.wrap .i64 (x13 + 1)))) (setCells_map hx15 rfl) <| P1 (setLen l5 (Int.toNat x3) (IntKind.wrap .i64 (x13 + 1))) <| P1 (apL l6 [x3]) <| P1 (apB h16) <| P1 (apM I l6 [x3]) <| P0) hn)
        (fun h9 H =>
          eN H fun r hn => gO [rg [{ i := 3, el := some (D.bool x5), dec := some true }, hE 8 (I x8), hF 9], r0, .canon [0, 1, 2, 3] [1, 3, 7, 8, 12, 57, 58, 59]] (by kernel_rfl) (P1 h4 <| P1 (int_lt_of_at h4 hx5) <| P1 (at_map D.bool hx5) <| P2 (x5 = true) (h6) <| P1 h7 <| P1 (int_lt_of_at h7 hx8) <| P1 (at_map I hx8) <| P2 ((decide (x8 < 0)) = false) (decide_eq_false h9) <| P0) hn))
      (fun h6 H =>
        eN H fun r hn => gO [rg [{ i := 3, el := some (D.bool x5), dec := some false }], r0, .canon [0, 1, 2, 3] [1, 3, 7, 8, 12, 57, 58, 59]] (by kernel_rfl) (P1 h4 <| P1 (int_lt_of_at h4 hx5) <| P1 (at_map D.bool hx5) <| P2 (x5 = false) (eqF h6) <| P0) hn))
    (fun h1 H =>
      eN H fun r hn => gO [rg [hF 0], r0, .canon [0, 1, 2] [1, 3, 7, 8, 12]] (by kernel_rfl) (P2 ((decide (t3 < t2)) = false) (decide_eq_false h1) <| P0) hn)
theorem wi_spread : ∀ s r, loop Bi_spread s = some r → Wc X 158 0 (Ki_spread s) (Zi_spread s) (Ri_spread r) ((fun _ => []) r) := Nx.all ni_spread
theorem ci_spread {a0 : Gi_Map} {a1 : (List Bool)} {a2 : (List Int)} {r : (List Int)} (H : Di_spread a0 a1 a2 = some r) : Ct X.P X.gl 158 [.agg [I a0.Width, I a0.Height, sl 1 I a0.Terrain, sl 1 I a0.Rivers, sl 1 I a0.Roads], sl 1 D.bool a1, sl 1 I a2] [] (Ri_spread r) [] :=
  Ct.of func158 (c := bdy f158) (by kernel_rfl) (by kernel_rfl) <|
  eCk H fun h1 H =>
  gO [r0, rg [hA 2 ((List.replicate (Int.toNat ((a1.length : Nat) : Int)) (0 : Int)).length) (List.map I (List.replicate (Int.toNat ((a1.length : Nat) : Int)) (0 : Int)))], r0, .canon [0, 1, 2] [1, 2, 3, 7, 8, 20, 21]] (by kernel_rfl) (PI (((a1.length : Nat) : Int) : Int) <| P2 ((0 : Int) ≤ ((a1.length : Nat) : Int)) (by omega) <| P2 (Int.toNat ((a1.length : Nat) : Int) * 8 ≤ 140737488355328) h1 <| P1 (repLen (Int.toNat ((a1.length : Nat) : Int)) (0 : Int)) <| P1 (repMap I (Int.toNat ((a1.length : Nat) : Int)) (0 : Int)) <| P0) (wi_spread _ _ H)
/-! loop example/g00886/impl supplyWay -/
theorem ci_supplyWay {a0 : Gi_Board} {a1 : Gi_Unit} {a2 : (List Bool)} {a3 : (List Int)} {r : Int} (H : Di_supplyWay a0 a1 a2 a3 = some r) : Ct X.P X.gl 117 [.agg [sl 5 gi_Terrain a0.Rules.Terrains, sl 6 gi_Kind a0.Rules.Kinds, I a0.Rules.Stack, I a0.Rules.River, I a0.Rules.Road, I a0.Rules.Supply, I a0.Rules.Turns, I a0.Map.Width, I a0.Map.Height, sl 1 I a0.Map.Terrain, sl 1 I a0.Map.Rivers, sl 1 I a0.Map.Roads], .agg [I a1.Side, I a1.Kind, I a1.At, I a1.Steps], sl 1 D.bool a2, sl 1 I a3] [] (RI r) [] :=
  Ct.of func117 (c := bdy f117) (by kernel_rfl) (by kernel_rfl) <|
  gS [r0] (by kernel_rfl) P0 <|
  eIf H (fun h1 H =>
    eW RI (fun _ => []) H <| gE func117 [rg [hT 2], r0] (by kernel_rfl) (P2 ((decide (a1.At < 0)) = true) (decide_eq_true h1) <| P0))
  (fun h1 H =>
    eBind H fun r2 hr2 H =>
    eCk H fun h3 H =>
    eBind H fun x4 hx4 H =>
    gS [rg [hF 2], rg [hC 4 true [] (Ri_spread r2) [], hE 8 (I x4)]] (by kernel_rfl) (P2 ((decide (a1.At < 0)) = false) (decide_eq_false h1) <| P1 (ci_spread hr2) <| P1 h3 <| P1 (int_lt_of_at h3 hx4) <| P1 (at_map I hx4) <| P0) <|
    eIf H (fun h5 H =>
      eW RI (fun _ => []) H <| gE func117 [rg [hT 4], r0] (by kernel_rfl) (P2 ((decide (x4 > a0.Rules.Supply)) = true) (decide_eq_true h5) <| P0))
    (fun h5 H =>
      eW RI (fun _ => []) H <| gE func117 [rg [hF 4], r0] (by kernel_rfl) (P2 ((decide (x4 > a0.Rules.Supply)) = false) (decide_eq_false h5) <| P0)))
/-! loop example/g00886/impl wayOf -/
theorem ci_wayOf {a0 : Gi_Board} {a1 : Gi_State} {a2 : Gi_Unit} {a3 : (List Int)} {r : Int} (H : Di_wayOf a0 a1 a2 a3 = some r) : Ct X.P X.gl 66 [.agg [sl 5 gi_Terrain a0.Rules.Terrains, sl 6 gi_Kind a0.Rules.Kinds, I a0.Rules.Stack, I a0.Rules.River, I a0.Rules.Road, I a0.Rules.Supply, I a0.Rules.Turns, I a0.Map.Width, I a0.Map.Height, sl 1 I a0.Map.Terrain, sl 1 I a0.Map.Rivers, sl 1 I a0.Map.Roads], .agg [I a1.Turn, I a1.Weather, sl 4 gi_Unit a1.Units], .agg [I a2.Side, I a2.Kind, I a2.At, I a2.Steps], sl 1 I a3] [] (RI r) [] :=
  Ct.of func66 (c := bdy f66) (by kernel_rfl) (by kernel_rfl) <|
  eBind H fun r1 hr1 H =>
  eBind H fun r2 hr2 H =>
  eW RI (fun _ => []) H <| gE func66 [r0, rg [hC 8 true [] (Ri_openFor r1) [], hC 10 false [] (RI r2) []]] (by kernel_rfl) (P1 (ci_openFor hr1) <| P1 (ci_supplyWay hr2) <| P0)
/-! loop example/g00886/impl HungryUnits -/
def Ri_HungryUnits (r : (List Int) × Bool) : List D := [ow 1 I r.1, .bool r.2]
noncomputable def Ki_HungryUnits : Si_HungryUnits → List Item
  | .h1 .. => nav 300 4 [false] [.code (bdy f25)]
def Zi_HungryUnits : Si_HungryUnits → St
  | .h1 side0 t1 t2 b3 l4 l5 => ⟨sts 48 [(1, I side0), (2, .ptr 0 24 0 0), (6, .ref 1 1 none), (21, .ref 2 1 none), (22, I t1), (23, I t2)], [some ⟨false, true, 24, 1, [.agg [.str b3.Name, sl 5 gi_Terrain b3.Board.Rules.Terrains, sl 6 gi_Kind b3.Board.Rules.Kinds, I b3.Board.Rules.Stack, I b3.Board.Rules.River, I b3.Board.Rules.Road, I b3.Board.Rules.Supply, I b3.Board.Rules.Turns, I b3.Board.Map.Width, I b3.Board.Map.Height, sl 1 I b3.Board.Map.Terrain, sl 1 I b3.Board.Map.Rivers, sl 1 I b3.Board.Map.Roads, sl 2 gi_Odds b3.Table.Columns, I b3.Table.Dice, sl 1 (sl 1 I) b3.Table.Results, I b3.Start.Turn, I b3.Start.Weather, sl 4 gi_Unit b3.Start.Units, sl 2 gi_Goal b3.Conditions.Goals, I b3.Conditions.Step, I b3.Conditions.Margin, sl 1 I b3.First, sl 1 I b3.Other]]⟩, some ⟨false, false, 1, l4.length, List.map I l4⟩, some ⟨false, false, 1, l5.length, List.map I l5⟩]⟩
abbrev Qi_HungryUnits := Nx X 25 0 Ki_HungryUnits Zi_HungryUnits Ri_HungryUnits (fun _ => [])
theorem ni_HungryUnits : ∀ s o, Bi_HungryUnits s = some o → Qi_HungryUnits (Ki_HungryUnits s) (Zi_HungryUnits s) o
  | .h1 side0 t1 t2 b3 l4 l5, o, H =>
    eIf H (fun h1 H =>
      eCk H fun h2 H =>
      eBind H fun x3 hx3 H =>
      eCk H fun h4 H =>
      eBind H fun x5 hx5 H =>
      eBind H fun r6 hr6 H =>
      eBind H fun r7 hr7 H =>
      gN [rg [hT 0], rg [hE 1 (I x3)]] (by kernel_rfl) (P2 ((decide (t2 < t1)) = true) (decide_eq_true h1) <| P1 h2 <| P1 (int_lt_of_at h2 hx3) <| P1 (at_map I hx3) <| P0) <|
      eIf H (fun h8 H =>
        eCk H fun h9 H =>
        eN H fun r hn => gO [rg [hE 9 (gi_Unit x5), hC 12 true [] (Ri_sourcesOf r6) [], hC 13 true [] (RI r7) [], hT 14], rg [hA 3 ((l4 ++ [x3]).length) (List.map I (l4 ++ [x3]))], r0, .canon [0, 4, 2] [1, 2, 6, 21, 22, 23]] (by kernel_rfl) (P1 h4 <| P1 (int_lt_of_at h4 hx5) <| P1 (at_map gi_Unit hx5) <| P1 (ci_sourcesOf hr6) <| P1 (ci_wayOf hr7) <| P2 ((decide (r7 < 0)) = true) (decide_eq_true h8) <| P1 (apL l4 [x3]) <| P1 (apB h9) <| P1 (apM I l4 [x3]) <| P0) hn)
      (fun h8 H =>
        eN H fun r hn => gO [rg [hE 9 (gi_Unit x5), hC 12 true [] (Ri_sourcesOf r6) [], hC 13 true [] (RI r7) [], hF 14], r0, .canon [0, 1, 2] [1, 2, 6, 21, 22, 23]] (by kernel_rfl) (P1 h4 <| P1 (int_lt_of_at h4 hx5) <| P1 (at_map gi_Unit hx5) <| P1 (ci_sourcesOf hr6) <| P1 (ci_wayOf hr7) <| P2 ((decide (r7 < 0)) = false) (decide_eq_false h8) <| P0) hn))
    (fun h1 H =>
      eN H <| gE func25 [rg [hF 0], r0] (by kernel_rfl) (P2 ((decide (t2 < t1)) = false) (decide_eq_false h1) <| P0))
theorem wi_HungryUnits : ∀ s r, loop Bi_HungryUnits s = some r → Wc X 25 0 (Ki_HungryUnits s) (Zi_HungryUnits s) (Ri_HungryUnits r) ((fun _ => []) r) := Nx.all ni_HungryUnits
theorem ci_HungryUnits {a0 : Gi_Scenario} {a1 : Int} {r : (List Int) × Bool} (H : Di_HungryUnits a0 a1 = some r) : Ct X.P X.gl 25 [.agg [.str a0.Name, sl 5 gi_Terrain a0.Board.Rules.Terrains, sl 6 gi_Kind a0.Board.Rules.Kinds, I a0.Board.Rules.Stack, I a0.Board.Rules.River, I a0.Board.Rules.Road, I a0.Board.Rules.Supply, I a0.Board.Rules.Turns, I a0.Board.Map.Width, I a0.Board.Map.Height, sl 1 I a0.Board.Map.Terrain, sl 1 I a0.Board.Map.Rivers, sl 1 I a0.Board.Map.Roads, sl 2 gi_Odds a0.Table.Columns, I a0.Table.Dice, sl 1 (sl 1 I) a0.Table.Results, I a0.Start.Turn, I a0.Start.Weather, sl 4 gi_Unit a0.Start.Units, sl 2 gi_Goal a0.Conditions.Goals, I a0.Conditions.Step, I a0.Conditions.Margin, sl 1 I a0.First, sl 1 I a0.Other], I a1] [] (Ri_HungryUnits r) [] :=
  Ct.of func25 (c := bdy f25) (by kernel_rfl) (by kernel_rfl) <|
  eBind H fun r1 hr1 H =>
  gS [r0] (by kernel_rfl) P0 <|
  eIf H (fun h2 H =>
    eBind H fun r3 hr3 H =>
    eIf H (fun h4 H =>
      eBind H fun r5 hr5 H =>
      gO [rg [{ i := 1, call := some { cl := true, auto := true, ins := [], res := (RB r1), G' := [] }, dec := some true }, { i := 5, call := some { cl := true, auto := true, ins := [], res := (RB r3), G' := [] }, dec := some true }], r0, rg [hC 3 true [] (Ri_unitsOf r5) []], .canon [0, 1, 2] [1, 2, 6, 21, 22, 23]] (by kernel_rfl) (P1 (ci_IsScenario hr1) <| P2 (r1 = true) (h2) <| P1 (ci_isSide hr3) <| P2 (r3 = true) (h4) <| P1 (ci_unitsOf hr5) <| P0) (wi_HungryUnits _ _ H))
    (fun h4 H =>
      eW Ri_HungryUnits (fun _ => []) H <| gE func25 [rg [{ i := 1, call := some { cl := true, auto := true, ins := [], res := (RB r1), G' := [] }, dec := some true }, { i := 5, call := some { cl := true, auto := true, ins := [], res := (RB r3), G' := [] }, dec := some false }], r0] (by kernel_rfl) (P1 (ci_IsScenario hr1) <| P2 (r1 = true) (h2) <| P1 (ci_isSide hr3) <| P2 (r3 = false) (eqF h4) <| P0)))
  (fun h2 H =>
    eW Ri_HungryUnits (fun _ => []) H <| gE func25 [rg [{ i := 1, call := some { cl := true, auto := true, ins := [], res := (RB r1), G' := [] }, dec := some false }], r0] (by kernel_rfl) (P1 (ci_IsScenario hr1) <| P2 (r1 = false) (eqF h2) <| P0))
/-! loop example/g00886/laws eqIntS -/
noncomputable def Kw_eqIntS : Sw_eqIntS → List Item
  | .h1 .. => nav 300 3 [false] [.code (bdy f20)]
def Zw_eqIntS : Sw_eqIntS → St
  | .h1 va0 b1 i2 => ⟨sts 26 [(0, sl 1 I va0), (1, sl 1 I b1), (5, I i2)], []⟩
abbrev Qw_eqIntS := Nx X 20 0 Kw_eqIntS Zw_eqIntS RB (fun _ => [])
theorem nw_eqIntS : ∀ s o, Bw_eqIntS s = some o → Qw_eqIntS (Kw_eqIntS s) (Zw_eqIntS s) o
  | .h1 va0 b1 i2, o, H =>
    eIf H (fun h1 H =>
      eCk H fun h2 H =>
      eBind H fun x3 hx3 H =>
      eCk H fun h4 H =>
      eBind H fun x5 hx5 H =>
      gN [rg [hT 3]] (by kernel_rfl) (P2 ((decide (i2 < ((va0.length : Nat) : Int))) = true) (decide_eq_true h1) <| P0) <|
      eIf H (fun h6 H =>
        eN H fun r hn => gO [rg [hE 3 (I x3), hE 7 (I x5), hF 8], r0, .canon [] [0, 1, 5]] (by kernel_rfl) (P1 h2 <| P1 (int_lt_of_at h2 hx3) <| P1 (at_map I hx3) <| P1 h4 <| P1 (int_lt_of_at h4 hx5) <| P1 (at_map I hx5) <| P2 (((x3 : Int) != x5) = false) (bneF h6) <| P0) hn)
      (fun h6 H =>
        eN H <| gE func20 [rg [hE 3 (I x3), hE 7 (I x5), hT 8], r0] (by kernel_rfl) (P1 h2 <| P1 (int_lt_of_at h2 hx3) <| P1 (at_map I hx3) <| P1 h4 <| P1 (int_lt_of_at h4 hx5) <| P1 (at_map I hx5) <| P2 (((x3 : Int) != x5) = true) (bneT h6) <| P0)))
    (fun h1 H =>
      eN H <| gE func20 [rg [hF 3], r0] (by kernel_rfl) (P2 ((decide (i2 < ((va0.length : Nat) : Int))) = false) (decide_eq_false h1) <| P0))
theorem ww_eqIntS : ∀ s r, loop Bw_eqIntS s = some r → Wc X 20 0 (Kw_eqIntS s) (Zw_eqIntS s) (RB r) ((fun _ => []) r) := Nx.all nw_eqIntS
theorem cw_eqIntS {a0 : (List Int)} {a1 : (List Int)} {r : Bool} (H : Dw_eqIntS a0 a1 = some r) : Ct X.P X.gl 20 [sl 1 I a0, sl 1 I a1] [] (RB r) [] :=
  Ct.of func20 (c := bdy f20) (by kernel_rfl) (by kernel_rfl) <|
  gS [r0] (by kernel_rfl) P0 <|
  eIf H (fun h1 H =>
    gO [rg [hF 4], r0, .canon [] [0, 1, 5]] (by kernel_rfl) (P2 (((((a0.length : Nat) : Int) : Int) != ((a1.length : Nat) : Int)) = false) (bneF h1) <| P0) (ww_eqIntS _ _ H))
  (fun h1 H =>
    eW RB (fun _ => []) H <| gE func20 [rg [hT 4], r0] (by kernel_rfl) (P2 (((((a0.length : Nat) : Int) : Int) != ((a1.length : Nat) : Int)) = true) (bneT h1) <| P0))
/-! loop example/g00886/laws eqTerrain -/
theorem cw_eqTerrain {a0 : Gi_Terrain} {a1 : Gi_Terrain} {r : Bool} (H : Dw_eqTerrain a0 a1 = some r) : Ct X.P X.gl 185 [.agg [.str a0.Name, sl 1 I a0.Cost, I a0.Shift, I a0.Height, .bool a0.Blocks], .agg [.str a1.Name, sl 1 I a1.Cost, I a1.Shift, I a1.Height, .bool a1.Blocks]] [] (RB r) [] :=
  Ct.of func185 (c := bdy f185) (by kernel_rfl) (by kernel_rfl) <|
  gS [r0] (by kernel_rfl) P0 <|
  eIf H (fun h1 H =>
    eBind H fun r2 hr2 H =>
    gS [rg [hF 4]] (by kernel_rfl) (P2 ((!(a0.Name == a1.Name)) = false) (nbeqF h1) <| P0) <|
    eIf H (fun h3 H =>
      gS [rg [{ i := 4, call := some { cl := true, auto := true, ins := [], res := (RB r2), G' := [] }, dec := some true }]] (by kernel_rfl) (P1 (cw_eqIntS hr2) <| P2 (r2 = true) (h3) <| P0) <|
      eIf H (fun h4 H =>
        gS [rg [hF 4]] (by kernel_rfl) (P2 (((a0.Shift : Int) != a1.Shift) = false) (bneF h4) <| P0) <|
        eIf H (fun h5 H =>
          gS [rg [hF 4]] (by kernel_rfl) (P2 (((a0.Height : Int) != a1.Height) = false) (bneF h5) <| P0) <|
          eIf H (fun h6 H =>
            eW RB (fun _ => []) H <| gE func185 [rg [hT 4], r0] (by kernel_rfl) (P2 ((!(a0.Blocks == a1.Blocks)) = true) (h6) <| P0))
          (fun h6 H =>
            eW RB (fun _ => []) H <| gE func185 [rg [hF 4], r0] (by kernel_rfl) (P2 ((!(a0.Blocks == a1.Blocks)) = false) (eqF h6) <| P0)))
        (fun h5 H =>
          eW RB (fun _ => []) H <| gE func185 [rg [hT 4], r0] (by kernel_rfl) (P2 (((a0.Height : Int) != a1.Height) = true) (bneT h5) <| P0)))
      (fun h4 H =>
        eW RB (fun _ => []) H <| gE func185 [rg [hT 4], r0] (by kernel_rfl) (P2 (((a0.Shift : Int) != a1.Shift) = true) (bneT h4) <| P0)))
    (fun h3 H =>
      eW RB (fun _ => []) H <| gE func185 [rg [{ i := 4, call := some { cl := true, auto := true, ins := [], res := (RB r2), G' := [] }, dec := some false }], r0] (by kernel_rfl) (P1 (cw_eqIntS hr2) <| P2 (r2 = false) (eqF h3) <| P0)))
  (fun h1 H =>
    eW RB (fun _ => []) H <| gE func185 [rg [hT 4], r0] (by kernel_rfl) (P2 ((!(a0.Name == a1.Name)) = true) (nbeqT h1) <| P0))
/-! loop example/g00886/laws eqTerrainS -/
noncomputable def Kw_eqTerrainS : Sw_eqTerrainS → List Item
  | .h1 .. => nav 300 3 [false] [.code (bdy f149)]
def Zw_eqTerrainS : Sw_eqTerrainS → St
  | .h1 va0 b1 i2 => ⟨sts 27 [(0, sl 5 gi_Terrain va0), (1, sl 5 gi_Terrain b1), (5, I i2)], []⟩
abbrev Qw_eqTerrainS := Nx X 149 0 Kw_eqTerrainS Zw_eqTerrainS RB (fun _ => [])
theorem nw_eqTerrainS : ∀ s o, Bw_eqTerrainS s = some o → Qw_eqTerrainS (Kw_eqTerrainS s) (Zw_eqTerrainS s) o
  | .h1 va0 b1 i2, o, H =>
    eIf H (fun h1 H =>
      eCk H fun h2 H =>
      eBind H fun x3 hx3 H =>
      eCk H fun h4 H =>
      eBind H fun x5 hx5 H =>
      eBind H fun r6 hr6 H =>
      gN [rg [hT 3]] (by kernel_rfl) (P2 ((decide (i2 < ((va0.length : Nat) : Int))) = true) (decide_eq_true h1) <| P0) <|
      eIf H (fun h7 H =>
        eN H fun r hn => gO [rg [hE 3 (gi_Terrain x3), hE 7 (gi_Terrain x5), { i := 8, call := some { cl := true, auto := true, ins := [], res := (RB r6), G' := [] }, dec := some true }], r0, .canon [] [0, 1, 5]] (by kernel_rfl) (P1 h2 <| P1 (int_lt_of_at h2 hx3) <| P1 (at_map gi_Terrain hx3) <| P1 h4 <| P1 (int_lt_of_at h4 hx5) <| P1 (at_map gi_Terrain hx5) <| P1 (cw_eqTerrain hr6) <| P2 (r6 = true) (h7) <| P0) hn)
      (fun h7 H =>
        eN H <| gE func149 [rg [hE 3 (gi_Terrain x3), hE 7 (gi_Terrain x5), { i := 8, call := some { cl := true, auto := true, ins := [], res := (RB r6), G' := [] }, dec := some false }], r0] (by kernel_rfl) (P1 h2 <| P1 (int_lt_of_at h2 hx3) <| P1 (at_map gi_Terrain hx3) <| P1 h4 <| P1 (int_lt_of_at h4 hx5) <| P1 (at_map gi_Terrain hx5) <| P1 (cw_eqTerrain hr6) <| P2 (r6 = false) (eqF h7) <| P0)))
    (fun h1 H =>
      eN H <| gE func149 [rg [hF 3], r0] (by kernel_rfl) (P2 ((decide (i2 < ((va0.length : Nat) : Int))) = false) (decide_eq_false h1) <| P0))
theorem ww_eqTerrainS : ∀ s r, loop Bw_eqTerrainS s = some r → Wc X 149 0 (Kw_eqTerrainS s) (Zw_eqTerrainS s) (RB r) ((fun _ => []) r) := Nx.all nw_eqTerrainS
theorem cw_eqTerrainS {a0 : (List Gi_Terrain)} {a1 : (List Gi_Terrain)} {r : Bool} (H : Dw_eqTerrainS a0 a1 = some r) : Ct X.P X.gl 149 [sl 5 gi_Terrain a0, sl 5 gi_Terrain a1] [] (RB r) [] :=
  Ct.of func149 (c := bdy f149) (by kernel_rfl) (by kernel_rfl) <|
  gS [r0] (by kernel_rfl) P0 <|
  eIf H (fun h1 H =>
    gO [rg [hF 4], r0, .canon [] [0, 1, 5]] (by kernel_rfl) (P2 (((((a0.length : Nat) : Int) : Int) != ((a1.length : Nat) : Int)) = false) (bneF h1) <| P0) (ww_eqTerrainS _ _ H))
  (fun h1 H =>
    eW RB (fun _ => []) H <| gE func149 [rg [hT 4], r0] (by kernel_rfl) (P2 (((((a0.length : Nat) : Int) : Int) != ((a1.length : Nat) : Int)) = true) (bneT h1) <| P0))
/-! loop example/g00886/laws eqKind -/
theorem cw_eqKind {a0 : Gi_Kind} {a1 : Gi_Kind} {r : Bool} (H : Dw_eqKind a0 a1 = some r) : Ct X.P X.gl 186 [.agg [.str a0.Name, I a0.Strength, I a0.Moves, I a0.Steps, .bool a0.Zone, I a0.View], .agg [.str a1.Name, I a1.Strength, I a1.Moves, I a1.Steps, .bool a1.Zone, I a1.View]] [] (RB r) [] :=
  Ct.of func186 (c := bdy f186) (by kernel_rfl) (by kernel_rfl) <|
  gS [r0] (by kernel_rfl) P0 <|
  eIf H (fun h1 H =>
    gS [rg [hF 4]] (by kernel_rfl) (P2 ((!(a0.Name == a1.Name)) = false) (nbeqF h1) <| P0) <|
    eIf H (fun h2 H =>
      gS [rg [hF 4]] (by kernel_rfl) (P2 (((a0.Strength : Int) != a1.Strength) = false) (bneF h2) <| P0) <|
      eIf H (fun h3 H =>
        gS [rg [hF 4]] (by kernel_rfl) (P2 (((a0.Moves : Int) != a1.Moves) = false) (bneF h3) <| P0) <|
        eIf H (fun h4 H =>
          gS [rg [hF 4]] (by kernel_rfl) (P2 (((a0.Steps : Int) != a1.Steps) = false) (bneF h4) <| P0) <|
          eIf H (fun h5 H =>
            eW RB (fun _ => []) H <| gE func186 [rg [hT 4], r0] (by kernel_rfl) (P2 ((!(a0.Zone == a1.Zone)) = true) (h5) <| P0))
          (fun h5 H =>
            gS [rg [hF 4]] (by kernel_rfl) (P2 ((!(a0.Zone == a1.Zone)) = false) (eqF h5) <| P0) <|
            eIf H (fun h6 H =>
              eW RB (fun _ => []) H <| gE func186 [rg [hF 4], r0] (by kernel_rfl) (P2 (((a0.View : Int) != a1.View) = false) (bneF h6) <| P0))
            (fun h6 H =>
              eW RB (fun _ => []) H <| gE func186 [rg [hT 4], r0] (by kernel_rfl) (P2 (((a0.View : Int) != a1.View) = true) (bneT h6) <| P0))))
        (fun h4 H =>
          eW RB (fun _ => []) H <| gE func186 [rg [hT 4], r0] (by kernel_rfl) (P2 (((a0.Steps : Int) != a1.Steps) = true) (bneT h4) <| P0)))
      (fun h3 H =>
        eW RB (fun _ => []) H <| gE func186 [rg [hT 4], r0] (by kernel_rfl) (P2 (((a0.Moves : Int) != a1.Moves) = true) (bneT h3) <| P0)))
    (fun h2 H =>
      eW RB (fun _ => []) H <| gE func186 [rg [hT 4], r0] (by kernel_rfl) (P2 (((a0.Strength : Int) != a1.Strength) = true) (bneT h2) <| P0)))
  (fun h1 H =>
    eW RB (fun _ => []) H <| gE func186 [rg [hT 4], r0] (by kernel_rfl) (P2 ((!(a0.Name == a1.Name)) = true) (nbeqT h1) <| P0))
/-! loop example/g00886/laws eqKindS -/
noncomputable def Kw_eqKindS : Sw_eqKindS → List Item
  | .h1 .. => nav 300 3 [false] [.code (bdy f150)]
def Zw_eqKindS : Sw_eqKindS → St
  | .h1 va0 b1 i2 => ⟨sts 27 [(0, sl 6 gi_Kind va0), (1, sl 6 gi_Kind b1), (5, I i2)], []⟩
abbrev Qw_eqKindS := Nx X 150 0 Kw_eqKindS Zw_eqKindS RB (fun _ => [])
theorem nw_eqKindS : ∀ s o, Bw_eqKindS s = some o → Qw_eqKindS (Kw_eqKindS s) (Zw_eqKindS s) o
  | .h1 va0 b1 i2, o, H =>
    eIf H (fun h1 H =>
      eCk H fun h2 H =>
      eBind H fun x3 hx3 H =>
      eCk H fun h4 H =>
      eBind H fun x5 hx5 H =>
      eBind H fun r6 hr6 H =>
      gN [rg [hT 3]] (by kernel_rfl) (P2 ((decide (i2 < ((va0.length : Nat) : Int))) = true) (decide_eq_true h1) <| P0) <|
      eIf H (fun h7 H =>
        eN H fun r hn => gO [rg [hE 3 (gi_Kind x3), hE 7 (gi_Kind x5), { i := 8, call := some { cl := true, auto := true, ins := [], res := (RB r6), G' := [] }, dec := some true }], r0, .canon [] [0, 1, 5]] (by kernel_rfl) (P1 h2 <| P1 (int_lt_of_at h2 hx3) <| P1 (at_map gi_Kind hx3) <| P1 h4 <| P1 (int_lt_of_at h4 hx5) <| P1 (at_map gi_Kind hx5) <| P1 (cw_eqKind hr6) <| P2 (r6 = true) (h7) <| P0) hn)
      (fun h7 H =>
        eN H <| gE func150 [rg [hE 3 (gi_Kind x3), hE 7 (gi_Kind x5), { i := 8, call := some { cl := true, auto := true, ins := [], res := (RB r6), G' := [] }, dec := some false }], r0] (by kernel_rfl) (P1 h2 <| P1 (int_lt_of_at h2 hx3) <| P1 (at_map gi_Kind hx3) <| P1 h4 <| P1 (int_lt_of_at h4 hx5) <| P1 (at_map gi_Kind hx5) <| P1 (cw_eqKind hr6) <| P2 (r6 = false) (eqF h7) <| P0)))
    (fun h1 H =>
      eN H <| gE func150 [rg [hF 3], r0] (by kernel_rfl) (P2 ((decide (i2 < ((va0.length : Nat) : Int))) = false) (decide_eq_false h1) <| P0))
theorem ww_eqKindS : ∀ s r, loop Bw_eqKindS s = some r → Wc X 150 0 (Kw_eqKindS s) (Zw_eqKindS s) (RB r) ((fun _ => []) r) := Nx.all nw_eqKindS
theorem cw_eqKindS {a0 : (List Gi_Kind)} {a1 : (List Gi_Kind)} {r : Bool} (H : Dw_eqKindS a0 a1 = some r) : Ct X.P X.gl 150 [sl 6 gi_Kind a0, sl 6 gi_Kind a1] [] (RB r) [] :=
  Ct.of func150 (c := bdy f150) (by kernel_rfl) (by kernel_rfl) <|
  gS [r0] (by kernel_rfl) P0 <|
  eIf H (fun h1 H =>
    gO [rg [hF 4], r0, .canon [] [0, 1, 5]] (by kernel_rfl) (P2 (((((a0.length : Nat) : Int) : Int) != ((a1.length : Nat) : Int)) = false) (bneF h1) <| P0) (ww_eqKindS _ _ H))
  (fun h1 H =>
    eW RB (fun _ => []) H <| gE func150 [rg [hT 4], r0] (by kernel_rfl) (P2 (((((a0.length : Nat) : Int) : Int) != ((a1.length : Nat) : Int)) = true) (bneT h1) <| P0))
/-! loop example/g00886/laws eqRules -/
theorem cw_eqRules {a0 : Gi_Rules} {a1 : Gi_Rules} {r : Bool} (H : Dw_eqRules a0 a1 = some r) : Ct X.P X.gl 103 [.agg [sl 5 gi_Terrain a0.Terrains, sl 6 gi_Kind a0.Kinds, I a0.Stack, I a0.River, I a0.Road, I a0.Supply, I a0.Turns], .agg [sl 5 gi_Terrain a1.Terrains, sl 6 gi_Kind a1.Kinds, I a1.Stack, I a1.River, I a1.Road, I a1.Supply, I a1.Turns]] [] (RB r) [] :=
  Ct.of func103 (c := bdy f103) (by kernel_rfl) (by kernel_rfl) <|
  eBind H fun r1 hr1 H =>
  gS [r0] (by kernel_rfl) P0 <|
  eIf H (fun h2 H =>
    eBind H fun r3 hr3 H =>
    gS [rg [{ i := 4, call := some { cl := true, auto := true, ins := [], res := (RB r1), G' := [] }, dec := some true }]] (by kernel_rfl) (P1 (cw_eqTerrainS hr1) <| P2 (r1 = true) (h2) <| P0) <|
    eIf H (fun h4 H =>
      gS [rg [{ i := 4, call := some { cl := true, auto := true, ins := [], res := (RB r3), G' := [] }, dec := some true }]] (by kernel_rfl) (P1 (cw_eqKindS hr3) <| P2 (r3 = true) (h4) <| P0) <|
      eIf H (fun h5 H =>
        gS [rg [hF 4]] (by kernel_rfl) (P2 (((a0.Stack : Int) != a1.Stack) = false) (bneF h5) <| P0) <|
        eIf H (fun h6 H =>
          gS [rg [hF 4]] (by kernel_rfl) (P2 (((a0.River : Int) != a1.River) = false) (bneF h6) <| P0) <|
          eIf H (fun h7 H =>
            gS [rg [hF 4]] (by kernel_rfl) (P2 (((a0.Road : Int) != a1.Road) = false) (bneF h7) <| P0) <|
            eIf H (fun h8 H =>
              gS [rg [hF 4]] (by kernel_rfl) (P2 (((a0.Supply : Int) != a1.Supply) = false) (bneF h8) <| P0) <|
              eIf H (fun h9 H =>
                eW RB (fun _ => []) H <| gE func103 [rg [hF 4], r0] (by kernel_rfl) (P2 (((a0.Turns : Int) != a1.Turns) = false) (bneF h9) <| P0))
              (fun h9 H =>
                eW RB (fun _ => []) H <| gE func103 [rg [hT 4], r0] (by kernel_rfl) (P2 (((a0.Turns : Int) != a1.Turns) = true) (bneT h9) <| P0)))
            (fun h8 H =>
              eW RB (fun _ => []) H <| gE func103 [rg [hT 4], r0] (by kernel_rfl) (P2 (((a0.Supply : Int) != a1.Supply) = true) (bneT h8) <| P0)))
          (fun h7 H =>
            eW RB (fun _ => []) H <| gE func103 [rg [hT 4], r0] (by kernel_rfl) (P2 (((a0.Road : Int) != a1.Road) = true) (bneT h7) <| P0)))
        (fun h6 H =>
          eW RB (fun _ => []) H <| gE func103 [rg [hT 4], r0] (by kernel_rfl) (P2 (((a0.River : Int) != a1.River) = true) (bneT h6) <| P0)))
      (fun h5 H =>
        eW RB (fun _ => []) H <| gE func103 [rg [hT 4], r0] (by kernel_rfl) (P2 (((a0.Stack : Int) != a1.Stack) = true) (bneT h5) <| P0)))
    (fun h4 H =>
      eW RB (fun _ => []) H <| gE func103 [rg [{ i := 4, call := some { cl := true, auto := true, ins := [], res := (RB r3), G' := [] }, dec := some false }], r0] (by kernel_rfl) (P1 (cw_eqKindS hr3) <| P2 (r3 = false) (eqF h4) <| P0)))
  (fun h2 H =>
    eW RB (fun _ => []) H <| gE func103 [rg [{ i := 4, call := some { cl := true, auto := true, ins := [], res := (RB r1), G' := [] }, dec := some false }], r0] (by kernel_rfl) (P1 (cw_eqTerrainS hr1) <| P2 (r1 = false) (eqF h2) <| P0))
/-! loop example/g00886/laws eqMap -/
theorem cw_eqMap {a0 : Gi_Map} {a1 : Gi_Map} {r : Bool} (H : Dw_eqMap a0 a1 = some r) : Ct X.P X.gl 104 [.agg [I a0.Width, I a0.Height, sl 1 I a0.Terrain, sl 1 I a0.Rivers, sl 1 I a0.Roads], .agg [I a1.Width, I a1.Height, sl 1 I a1.Terrain, sl 1 I a1.Rivers, sl 1 I a1.Roads]] [] (RB r) [] :=
  Ct.of func104 (c := bdy f104) (by kernel_rfl) (by kernel_rfl) <|
  gS [r0] (by kernel_rfl) P0 <|
  eIf H (fun h1 H =>
    gS [rg [hF 4]] (by kernel_rfl) (P2 (((a0.Width : Int) != a1.Width) = false) (bneF h1) <| P0) <|
    eIf H (fun h2 H =>
      eBind H fun r3 hr3 H =>
      gS [rg [hF 4]] (by kernel_rfl) (P2 (((a0.Height : Int) != a1.Height) = false) (bneF h2) <| P0) <|
      eIf H (fun h4 H =>
        eBind H fun r5 hr5 H =>
        gS [rg [{ i := 4, call := some { cl := true, auto := true, ins := [], res := (RB r3), G' := [] }, dec := some true }]] (by kernel_rfl) (P1 (cw_eqIntS hr3) <| P2 (r3 = true) (h4) <| P0) <|
        eIf H (fun h6 H =>
          eBind H fun r7 hr7 H =>
          gS [rg [{ i := 4, call := some { cl := true, auto := true, ins := [], res := (RB r5), G' := [] }, dec := some true }]] (by kernel_rfl) (P1 (cw_eqIntS hr5) <| P2 (r5 = true) (h6) <| P0) <|
          eIf H (fun h8 H =>
            eW RB (fun _ => []) H <| gE func104 [rg [{ i := 4, call := some { cl := true, auto := true, ins := [], res := (RB r7), G' := [] }, dec := some true }], r0] (by kernel_rfl) (P1 (cw_eqIntS hr7) <| P2 (r7 = true) (h8) <| P0))
          (fun h8 H =>
            eW RB (fun _ => []) H <| gE func104 [rg [{ i := 4, call := some { cl := true, auto := true, ins := [], res := (RB r7), G' := [] }, dec := some false }], r0] (by kernel_rfl) (P1 (cw_eqIntS hr7) <| P2 (r7 = false) (eqF h8) <| P0)))
        (fun h6 H =>
          eW RB (fun _ => []) H <| gE func104 [rg [{ i := 4, call := some { cl := true, auto := true, ins := [], res := (RB r5), G' := [] }, dec := some false }], r0] (by kernel_rfl) (P1 (cw_eqIntS hr5) <| P2 (r5 = false) (eqF h6) <| P0)))
      (fun h4 H =>
        eW RB (fun _ => []) H <| gE func104 [rg [{ i := 4, call := some { cl := true, auto := true, ins := [], res := (RB r3), G' := [] }, dec := some false }], r0] (by kernel_rfl) (P1 (cw_eqIntS hr3) <| P2 (r3 = false) (eqF h4) <| P0)))
    (fun h2 H =>
      eW RB (fun _ => []) H <| gE func104 [rg [hT 4], r0] (by kernel_rfl) (P2 (((a0.Height : Int) != a1.Height) = true) (bneT h2) <| P0)))
  (fun h1 H =>
    eW RB (fun _ => []) H <| gE func104 [rg [hT 4], r0] (by kernel_rfl) (P2 (((a0.Width : Int) != a1.Width) = true) (bneT h1) <| P0))
/-! loop example/g00886/laws eqBoard -/
theorem cw_eqBoard {a0 : Gi_Board} {a1 : Gi_Board} {r : Bool} (H : Dw_eqBoard a0 a1 = some r) : Ct X.P X.gl 46 [.agg [sl 5 gi_Terrain a0.Rules.Terrains, sl 6 gi_Kind a0.Rules.Kinds, I a0.Rules.Stack, I a0.Rules.River, I a0.Rules.Road, I a0.Rules.Supply, I a0.Rules.Turns, I a0.Map.Width, I a0.Map.Height, sl 1 I a0.Map.Terrain, sl 1 I a0.Map.Rivers, sl 1 I a0.Map.Roads], .agg [sl 5 gi_Terrain a1.Rules.Terrains, sl 6 gi_Kind a1.Rules.Kinds, I a1.Rules.Stack, I a1.Rules.River, I a1.Rules.Road, I a1.Rules.Supply, I a1.Rules.Turns, I a1.Map.Width, I a1.Map.Height, sl 1 I a1.Map.Terrain, sl 1 I a1.Map.Rivers, sl 1 I a1.Map.Roads]] [] (RB r) [] :=
  Ct.of func46 (c := bdy f46) (by kernel_rfl) (by kernel_rfl) <|
  eBind H fun r1 hr1 H =>
  gS [r0] (by kernel_rfl) P0 <|
  eIf H (fun h2 H =>
    eBind H fun r3 hr3 H =>
    gS [rg [{ i := 4, call := some { cl := true, auto := true, ins := [], res := (RB r1), G' := [] }, dec := some true }]] (by kernel_rfl) (P1 (cw_eqRules hr1) <| P2 (r1 = true) (h2) <| P0) <|
    eIf H (fun h4 H =>
      eW RB (fun _ => []) H <| gE func46 [rg [{ i := 4, call := some { cl := true, auto := true, ins := [], res := (RB r3), G' := [] }, dec := some true }], r0] (by kernel_rfl) (P1 (cw_eqMap hr3) <| P2 (r3 = true) (h4) <| P0))
    (fun h4 H =>
      eW RB (fun _ => []) H <| gE func46 [rg [{ i := 4, call := some { cl := true, auto := true, ins := [], res := (RB r3), G' := [] }, dec := some false }], r0] (by kernel_rfl) (P1 (cw_eqMap hr3) <| P2 (r3 = false) (eqF h4) <| P0)))
  (fun h2 H =>
    eW RB (fun _ => []) H <| gE func46 [rg [{ i := 4, call := some { cl := true, auto := true, ins := [], res := (RB r1), G' := [] }, dec := some false }], r0] (by kernel_rfl) (P1 (cw_eqRules hr1) <| P2 (r1 = false) (eqF h2) <| P0))
/-! loop example/g00886/laws eqOdds -/
theorem cw_eqOdds {a0 : Gi_Odds} {a1 : Gi_Odds} {r : Bool} (H : Dw_eqOdds a0 a1 = some r) : Ct X.P X.gl 151 [.agg [I a0.Num, I a0.Den], .agg [I a1.Num, I a1.Den]] [] (RB r) [] :=
  Ct.of func151 (c := bdy f151) (by kernel_rfl) (by kernel_rfl) <|
  gS [r0] (by kernel_rfl) P0 <|
  eIf H (fun h1 H =>
    gS [rg [hF 4]] (by kernel_rfl) (P2 (((a0.Num : Int) != a1.Num) = false) (bneF h1) <| P0) <|
    eIf H (fun h2 H =>
      eW RB (fun _ => []) H <| gE func151 [rg [hF 4], r0] (by kernel_rfl) (P2 (((a0.Den : Int) != a1.Den) = false) (bneF h2) <| P0))
    (fun h2 H =>
      eW RB (fun _ => []) H <| gE func151 [rg [hT 4], r0] (by kernel_rfl) (P2 (((a0.Den : Int) != a1.Den) = true) (bneT h2) <| P0)))
  (fun h1 H =>
    eW RB (fun _ => []) H <| gE func151 [rg [hT 4], r0] (by kernel_rfl) (P2 (((a0.Num : Int) != a1.Num) = true) (bneT h1) <| P0))
/-! loop example/g00886/laws eqOddsS -/
noncomputable def Kw_eqOddsS : Sw_eqOddsS → List Item
  | .h1 .. => nav 300 3 [false] [.code (bdy f105)]
def Zw_eqOddsS : Sw_eqOddsS → St
  | .h1 va0 b1 i2 => ⟨sts 27 [(0, sl 2 gi_Odds va0), (1, sl 2 gi_Odds b1), (5, I i2)], []⟩
abbrev Qw_eqOddsS := Nx X 105 0 Kw_eqOddsS Zw_eqOddsS RB (fun _ => [])
theorem nw_eqOddsS : ∀ s o, Bw_eqOddsS s = some o → Qw_eqOddsS (Kw_eqOddsS s) (Zw_eqOddsS s) o
  | .h1 va0 b1 i2, o, H =>
    eIf H (fun h1 H =>
      eCk H fun h2 H =>
      eBind H fun x3 hx3 H =>
      eCk H fun h4 H =>
      eBind H fun x5 hx5 H =>
      eBind H fun r6 hr6 H =>
      gN [rg [hT 3]] (by kernel_rfl) (P2 ((decide (i2 < ((va0.length : Nat) : Int))) = true) (decide_eq_true h1) <| P0) <|
      eIf H (fun h7 H =>
        eN H fun r hn => gO [rg [hE 3 (gi_Odds x3), hE 7 (gi_Odds x5), { i := 8, call := some { cl := true, auto := true, ins := [], res := (RB r6), G' := [] }, dec := some true }], r0, .canon [] [0, 1, 5]] (by kernel_rfl) (P1 h2 <| P1 (int_lt_of_at h2 hx3) <| P1 (at_map gi_Odds hx3) <| P1 h4 <| P1 (int_lt_of_at h4 hx5) <| P1 (at_map gi_Odds hx5) <| P1 (cw_eqOdds hr6) <| P2 (r6 = true) (h7) <| P0) hn)
      (fun h7 H =>
        eN H <| gE func105 [rg [hE 3 (gi_Odds x3), hE 7 (gi_Odds x5), { i := 8, call := some { cl := true, auto := true, ins := [], res := (RB r6), G' := [] }, dec := some false }], r0] (by kernel_rfl) (P1 h2 <| P1 (int_lt_of_at h2 hx3) <| P1 (at_map gi_Odds hx3) <| P1 h4 <| P1 (int_lt_of_at h4 hx5) <| P1 (at_map gi_Odds hx5) <| P1 (cw_eqOdds hr6) <| P2 (r6 = false) (eqF h7) <| P0)))
    (fun h1 H =>
      eN H <| gE func105 [rg [hF 3], r0] (by kernel_rfl) (P2 ((decide (i2 < ((va0.length : Nat) : Int))) = false) (decide_eq_false h1) <| P0))
theorem ww_eqOddsS : ∀ s r, loop Bw_eqOddsS s = some r → Wc X 105 0 (Kw_eqOddsS s) (Zw_eqOddsS s) (RB r) ((fun _ => []) r) := Nx.all nw_eqOddsS
theorem cw_eqOddsS {a0 : (List Gi_Odds)} {a1 : (List Gi_Odds)} {r : Bool} (H : Dw_eqOddsS a0 a1 = some r) : Ct X.P X.gl 105 [sl 2 gi_Odds a0, sl 2 gi_Odds a1] [] (RB r) [] :=
  Ct.of func105 (c := bdy f105) (by kernel_rfl) (by kernel_rfl) <|
  gS [r0] (by kernel_rfl) P0 <|
  eIf H (fun h1 H =>
    gO [rg [hF 4], r0, .canon [] [0, 1, 5]] (by kernel_rfl) (P2 (((((a0.length : Nat) : Int) : Int) != ((a1.length : Nat) : Int)) = false) (bneF h1) <| P0) (ww_eqOddsS _ _ H))
  (fun h1 H =>
    eW RB (fun _ => []) H <| gE func105 [rg [hT 4], r0] (by kernel_rfl) (P2 (((((a0.length : Nat) : Int) : Int) != ((a1.length : Nat) : Int)) = true) (bneT h1) <| P0))
/-! loop example/g00886/laws eqIntSS -/
noncomputable def Kw_eqIntSS : Sw_eqIntSS → List Item
  | .h1 .. => nav 300 3 [false] [.code (bdy f106)]
def Zw_eqIntSS : Sw_eqIntSS → St
  | .h1 va0 b1 i2 => ⟨sts 27 [(0, sl 1 (sl 1 I) va0), (1, sl 1 (sl 1 I) b1), (5, I i2)], []⟩
abbrev Qw_eqIntSS := Nx X 106 0 Kw_eqIntSS Zw_eqIntSS RB (fun _ => [])
theorem nw_eqIntSS : ∀ s o, Bw_eqIntSS s = some o → Qw_eqIntSS (Kw_eqIntSS s) (Zw_eqIntSS s) o
  | .h1 va0 b1 i2, o, H =>
    eIf H (fun h1 H =>
      eCk H fun h2 H =>
      eBind H fun x3 hx3 H =>
      eCk H fun h4 H =>
      eBind H fun x5 hx5 H =>
      eBind H fun r6 hr6 H =>
      gN [rg [hT 3]] (by kernel_rfl) (P2 ((decide (i2 < ((va0.length : Nat) : Int))) = true) (decide_eq_true h1) <| P0) <|
      eIf H (fun h7 H =>
        eN H fun r hn => gO [rg [hE 3 ((sl 1 I) x3), hE 7 ((sl 1 I) x5), { i := 8, call := some { cl := true, auto := true, ins := [], res := (RB r6), G' := [] }, dec := some true }], r0, .canon [] [0, 1, 5]] (by kernel_rfl) (P1 h2 <| P1 (int_lt_of_at h2 hx3) <| P1 (at_map (sl 1 I) hx3) <| P1 h4 <| P1 (int_lt_of_at h4 hx5) <| P1 (at_map (sl 1 I) hx5) <| P1 (cw_eqIntS hr6) <| P2 (r6 = true) (h7) <| P0) hn)
      (fun h7 H =>
        eN H <| gE func106 [rg [hE 3 ((sl 1 I) x3), hE 7 ((sl 1 I) x5), { i := 8, call := some { cl := true, auto := true, ins := [], res := (RB r6), G' := [] }, dec := some false }], r0] (by kernel_rfl) (P1 h2 <| P1 (int_lt_of_at h2 hx3) <| P1 (at_map (sl 1 I) hx3) <| P1 h4 <| P1 (int_lt_of_at h4 hx5) <| P1 (at_map (sl 1 I) hx5) <| P1 (cw_eqIntS hr6) <| P2 (r6 = false) (eqF h7) <| P0)))
    (fun h1 H =>
      eN H <| gE func106 [rg [hF 3], r0] (by kernel_rfl) (P2 ((decide (i2 < ((va0.length : Nat) : Int))) = false) (decide_eq_false h1) <| P0))
theorem ww_eqIntSS : ∀ s r, loop Bw_eqIntSS s = some r → Wc X 106 0 (Kw_eqIntSS s) (Zw_eqIntSS s) (RB r) ((fun _ => []) r) := Nx.all nw_eqIntSS
theorem cw_eqIntSS {a0 : (List (List Int))} {a1 : (List (List Int))} {r : Bool} (H : Dw_eqIntSS a0 a1 = some r) : Ct X.P X.gl 106 [sl 1 (sl 1 I) a0, sl 1 (sl 1 I) a1] [] (RB r) [] :=
  Ct.of func106 (c := bdy f106) (by kernel_rfl) (by kernel_rfl) <|
  gS [r0] (by kernel_rfl) P0 <|
  eIf H (fun h1 H =>
    gO [rg [hF 4], r0, .canon [] [0, 1, 5]] (by kernel_rfl) (P2 (((((a0.length : Nat) : Int) : Int) != ((a1.length : Nat) : Int)) = false) (bneF h1) <| P0) (ww_eqIntSS _ _ H))
  (fun h1 H =>
    eW RB (fun _ => []) H <| gE func106 [rg [hT 4], r0] (by kernel_rfl) (P2 (((((a0.length : Nat) : Int) : Int) != ((a1.length : Nat) : Int)) = true) (bneT h1) <| P0))
/-! loop example/g00886/laws eqCombatTable -/
theorem cw_eqCombatTable {a0 : Gi_CombatTable} {a1 : Gi_CombatTable} {r : Bool} (H : Dw_eqCombatTable a0 a1 = some r) : Ct X.P X.gl 47 [.agg [sl 2 gi_Odds a0.Columns, I a0.Dice, sl 1 (sl 1 I) a0.Results], .agg [sl 2 gi_Odds a1.Columns, I a1.Dice, sl 1 (sl 1 I) a1.Results]] [] (RB r) [] :=
  Ct.of func47 (c := bdy f47) (by kernel_rfl) (by kernel_rfl) <|
  eBind H fun r1 hr1 H =>
  gS [r0] (by kernel_rfl) P0 <|
  eIf H (fun h2 H =>
    gS [rg [{ i := 4, call := some { cl := true, auto := true, ins := [], res := (RB r1), G' := [] }, dec := some true }]] (by kernel_rfl) (P1 (cw_eqOddsS hr1) <| P2 (r1 = true) (h2) <| P0) <|
    eIf H (fun h3 H =>
      eBind H fun r4 hr4 H =>
      gS [rg [hF 4]] (by kernel_rfl) (P2 (((a0.Dice : Int) != a1.Dice) = false) (bneF h3) <| P0) <|
      eIf H (fun h5 H =>
        eW RB (fun _ => []) H <| gE func47 [rg [{ i := 4, call := some { cl := true, auto := true, ins := [], res := (RB r4), G' := [] }, dec := some true }], r0] (by kernel_rfl) (P1 (cw_eqIntSS hr4) <| P2 (r4 = true) (h5) <| P0))
      (fun h5 H =>
        eW RB (fun _ => []) H <| gE func47 [rg [{ i := 4, call := some { cl := true, auto := true, ins := [], res := (RB r4), G' := [] }, dec := some false }], r0] (by kernel_rfl) (P1 (cw_eqIntSS hr4) <| P2 (r4 = false) (eqF h5) <| P0)))
    (fun h3 H =>
      eW RB (fun _ => []) H <| gE func47 [rg [hT 4], r0] (by kernel_rfl) (P2 (((a0.Dice : Int) != a1.Dice) = true) (bneT h3) <| P0)))
  (fun h2 H =>
    eW RB (fun _ => []) H <| gE func47 [rg [{ i := 4, call := some { cl := true, auto := true, ins := [], res := (RB r1), G' := [] }, dec := some false }], r0] (by kernel_rfl) (P1 (cw_eqOddsS hr1) <| P2 (r1 = false) (eqF h2) <| P0))
/-! loop example/g00886/laws eqUnit -/
theorem cw_eqUnit {a0 : Gi_Unit} {a1 : Gi_Unit} {r : Bool} (H : Dw_eqUnit a0 a1 = some r) : Ct X.P X.gl 152 [.agg [I a0.Side, I a0.Kind, I a0.At, I a0.Steps], .agg [I a1.Side, I a1.Kind, I a1.At, I a1.Steps]] [] (RB r) [] :=
  Ct.of func152 (c := bdy f152) (by kernel_rfl) (by kernel_rfl) <|
  gS [r0] (by kernel_rfl) P0 <|
  eIf H (fun h1 H =>
    gS [rg [hF 4]] (by kernel_rfl) (P2 (((a0.Side : Int) != a1.Side) = false) (bneF h1) <| P0) <|
    eIf H (fun h2 H =>
      gS [rg [hF 4]] (by kernel_rfl) (P2 (((a0.Kind : Int) != a1.Kind) = false) (bneF h2) <| P0) <|
      eIf H (fun h3 H =>
        gS [rg [hF 4]] (by kernel_rfl) (P2 (((a0.At : Int) != a1.At) = false) (bneF h3) <| P0) <|
        eIf H (fun h4 H =>
          eW RB (fun _ => []) H <| gE func152 [rg [hF 4], r0] (by kernel_rfl) (P2 (((a0.Steps : Int) != a1.Steps) = false) (bneF h4) <| P0))
        (fun h4 H =>
          eW RB (fun _ => []) H <| gE func152 [rg [hT 4], r0] (by kernel_rfl) (P2 (((a0.Steps : Int) != a1.Steps) = true) (bneT h4) <| P0)))
      (fun h3 H =>
        eW RB (fun _ => []) H <| gE func152 [rg [hT 4], r0] (by kernel_rfl) (P2 (((a0.At : Int) != a1.At) = true) (bneT h3) <| P0)))
    (fun h2 H =>
      eW RB (fun _ => []) H <| gE func152 [rg [hT 4], r0] (by kernel_rfl) (P2 (((a0.Kind : Int) != a1.Kind) = true) (bneT h2) <| P0)))
  (fun h1 H =>
    eW RB (fun _ => []) H <| gE func152 [rg [hT 4], r0] (by kernel_rfl) (P2 (((a0.Side : Int) != a1.Side) = true) (bneT h1) <| P0))
/-! loop example/g00886/laws eqUnitS -/
noncomputable def Kw_eqUnitS : Sw_eqUnitS → List Item
  | .h1 .. => nav 300 3 [false] [.code (bdy f107)]
def Zw_eqUnitS : Sw_eqUnitS → St
  | .h1 va0 b1 i2 => ⟨sts 27 [(0, sl 4 gi_Unit va0), (1, sl 4 gi_Unit b1), (5, I i2)], []⟩
abbrev Qw_eqUnitS := Nx X 107 0 Kw_eqUnitS Zw_eqUnitS RB (fun _ => [])
theorem nw_eqUnitS : ∀ s o, Bw_eqUnitS s = some o → Qw_eqUnitS (Kw_eqUnitS s) (Zw_eqUnitS s) o
  | .h1 va0 b1 i2, o, H =>
    eIf H (fun h1 H =>
      eCk H fun h2 H =>
      eBind H fun x3 hx3 H =>
      eCk H fun h4 H =>
      eBind H fun x5 hx5 H =>
      eBind H fun r6 hr6 H =>
      gN [rg [hT 3]] (by kernel_rfl) (P2 ((decide (i2 < ((va0.length : Nat) : Int))) = true) (decide_eq_true h1) <| P0) <|
      eIf H (fun h7 H =>
        eN H fun r hn => gO [rg [hE 3 (gi_Unit x3), hE 7 (gi_Unit x5), { i := 8, call := some { cl := true, auto := true, ins := [], res := (RB r6), G' := [] }, dec := some true }], r0, .canon [] [0, 1, 5]] (by kernel_rfl) (P1 h2 <| P1 (int_lt_of_at h2 hx3) <| P1 (at_map gi_Unit hx3) <| P1 h4 <| P1 (int_lt_of_at h4 hx5) <| P1 (at_map gi_Unit hx5) <| P1 (cw_eqUnit hr6) <| P2 (r6 = true) (h7) <| P0) hn)
      (fun h7 H =>
        eN H <| gE func107 [rg [hE 3 (gi_Unit x3), hE 7 (gi_Unit x5), { i := 8, call := some { cl := true, auto := true, ins := [], res := (RB r6), G' := [] }, dec := some false }], r0] (by kernel_rfl) (P1 h2 <| P1 (int_lt_of_at h2 hx3) <| P1 (at_map gi_Unit hx3) <| P1 h4 <| P1 (int_lt_of_at h4 hx5) <| P1 (at_map gi_Unit hx5) <| P1 (cw_eqUnit hr6) <| P2 (r6 = false) (eqF h7) <| P0)))
    (fun h1 H =>
      eN H <| gE func107 [rg [hF 3], r0] (by kernel_rfl) (P2 ((decide (i2 < ((va0.length : Nat) : Int))) = false) (decide_eq_false h1) <| P0))
theorem ww_eqUnitS : ∀ s r, loop Bw_eqUnitS s = some r → Wc X 107 0 (Kw_eqUnitS s) (Zw_eqUnitS s) (RB r) ((fun _ => []) r) := Nx.all nw_eqUnitS
theorem cw_eqUnitS {a0 : (List Gi_Unit)} {a1 : (List Gi_Unit)} {r : Bool} (H : Dw_eqUnitS a0 a1 = some r) : Ct X.P X.gl 107 [sl 4 gi_Unit a0, sl 4 gi_Unit a1] [] (RB r) [] :=
  Ct.of func107 (c := bdy f107) (by kernel_rfl) (by kernel_rfl) <|
  gS [r0] (by kernel_rfl) P0 <|
  eIf H (fun h1 H =>
    gO [rg [hF 4], r0, .canon [] [0, 1, 5]] (by kernel_rfl) (P2 (((((a0.length : Nat) : Int) : Int) != ((a1.length : Nat) : Int)) = false) (bneF h1) <| P0) (ww_eqUnitS _ _ H))
  (fun h1 H =>
    eW RB (fun _ => []) H <| gE func107 [rg [hT 4], r0] (by kernel_rfl) (P2 (((((a0.length : Nat) : Int) : Int) != ((a1.length : Nat) : Int)) = true) (bneT h1) <| P0))
/-! loop example/g00886/laws eqState -/
theorem cw_eqState {a0 : Gi_State} {a1 : Gi_State} {r : Bool} (H : Dw_eqState a0 a1 = some r) : Ct X.P X.gl 48 [.agg [I a0.Turn, I a0.Weather, sl 4 gi_Unit a0.Units], .agg [I a1.Turn, I a1.Weather, sl 4 gi_Unit a1.Units]] [] (RB r) [] :=
  Ct.of func48 (c := bdy f48) (by kernel_rfl) (by kernel_rfl) <|
  gS [r0] (by kernel_rfl) P0 <|
  eIf H (fun h1 H =>
    gS [rg [hF 4]] (by kernel_rfl) (P2 (((a0.Turn : Int) != a1.Turn) = false) (bneF h1) <| P0) <|
    eIf H (fun h2 H =>
      eBind H fun r3 hr3 H =>
      gS [rg [hF 4]] (by kernel_rfl) (P2 (((a0.Weather : Int) != a1.Weather) = false) (bneF h2) <| P0) <|
      eIf H (fun h4 H =>
        eW RB (fun _ => []) H <| gE func48 [rg [{ i := 4, call := some { cl := true, auto := true, ins := [], res := (RB r3), G' := [] }, dec := some true }], r0] (by kernel_rfl) (P1 (cw_eqUnitS hr3) <| P2 (r3 = true) (h4) <| P0))
      (fun h4 H =>
        eW RB (fun _ => []) H <| gE func48 [rg [{ i := 4, call := some { cl := true, auto := true, ins := [], res := (RB r3), G' := [] }, dec := some false }], r0] (by kernel_rfl) (P1 (cw_eqUnitS hr3) <| P2 (r3 = false) (eqF h4) <| P0)))
    (fun h2 H =>
      eW RB (fun _ => []) H <| gE func48 [rg [hT 4], r0] (by kernel_rfl) (P2 (((a0.Weather : Int) != a1.Weather) = true) (bneT h2) <| P0)))
  (fun h1 H =>
    eW RB (fun _ => []) H <| gE func48 [rg [hT 4], r0] (by kernel_rfl) (P2 (((a0.Turn : Int) != a1.Turn) = true) (bneT h1) <| P0))
/-! loop example/g00886/laws eqGoal -/
theorem cw_eqGoal {a0 : Gi_Goal} {a1 : Gi_Goal} {r : Bool} (H : Dw_eqGoal a0 a1 = some r) : Ct X.P X.gl 153 [.agg [I a0.At, I a0.Points], .agg [I a1.At, I a1.Points]] [] (RB r) [] :=
  Ct.of func153 (c := bdy f153) (by kernel_rfl) (by kernel_rfl) <|
  gS [r0] (by kernel_rfl) P0 <|
  eIf H (fun h1 H =>
    gS [rg [hF 4]] (by kernel_rfl) (P2 (((a0.At : Int) != a1.At) = false) (bneF h1) <| P0) <|
    eIf H (fun h2 H =>
      eW RB (fun _ => []) H <| gE func153 [rg [hF 4], r0] (by kernel_rfl) (P2 (((a0.Points : Int) != a1.Points) = false) (bneF h2) <| P0))
    (fun h2 H =>
      eW RB (fun _ => []) H <| gE func153 [rg [hT 4], r0] (by kernel_rfl) (P2 (((a0.Points : Int) != a1.Points) = true) (bneT h2) <| P0)))
  (fun h1 H =>
    eW RB (fun _ => []) H <| gE func153 [rg [hT 4], r0] (by kernel_rfl) (P2 (((a0.At : Int) != a1.At) = true) (bneT h1) <| P0))
/-! loop example/g00886/laws eqGoalS -/
noncomputable def Kw_eqGoalS : Sw_eqGoalS → List Item
  | .h1 .. => nav 300 3 [false] [.code (bdy f108)]
def Zw_eqGoalS : Sw_eqGoalS → St
  | .h1 va0 b1 i2 => ⟨sts 27 [(0, sl 2 gi_Goal va0), (1, sl 2 gi_Goal b1), (5, I i2)], []⟩
abbrev Qw_eqGoalS := Nx X 108 0 Kw_eqGoalS Zw_eqGoalS RB (fun _ => [])
theorem nw_eqGoalS : ∀ s o, Bw_eqGoalS s = some o → Qw_eqGoalS (Kw_eqGoalS s) (Zw_eqGoalS s) o
  | .h1 va0 b1 i2, o, H =>
    eIf H (fun h1 H =>
      eCk H fun h2 H =>
      eBind H fun x3 hx3 H =>
      eCk H fun h4 H =>
      eBind H fun x5 hx5 H =>
      eBind H fun r6 hr6 H =>
      gN [rg [hT 3]] (by kernel_rfl) (P2 ((decide (i2 < ((va0.length : Nat) : Int))) = true) (decide_eq_true h1) <| P0) <|
      eIf H (fun h7 H =>
        eN H fun r hn => gO [rg [hE 3 (gi_Goal x3), hE 7 (gi_Goal x5), { i := 8, call := some { cl := true, auto := true, ins := [], res := (RB r6), G' := [] }, dec := some true }], r0, .canon [] [0, 1, 5]] (by kernel_rfl) (P1 h2 <| P1 (int_lt_of_at h2 hx3) <| P1 (at_map gi_Goal hx3) <| P1 h4 <| P1 (int_lt_of_at h4 hx5) <| P1 (at_map gi_Goal hx5) <| P1 (cw_eqGoal hr6) <| P2 (r6 = true) (h7) <| P0) hn)
      (fun h7 H =>
        eN H <| gE func108 [rg [hE 3 (gi_Goal x3), hE 7 (gi_Goal x5), { i := 8, call := some { cl := true, auto := true, ins := [], res := (RB r6), G' := [] }, dec := some false }], r0] (by kernel_rfl) (P1 h2 <| P1 (int_lt_of_at h2 hx3) <| P1 (at_map gi_Goal hx3) <| P1 h4 <| P1 (int_lt_of_at h4 hx5) <| P1 (at_map gi_Goal hx5) <| P1 (cw_eqGoal hr6) <| P2 (r6 = false) (eqF h7) <| P0)))
    (fun h1 H =>
      eN H <| gE func108 [rg [hF 3], r0] (by kernel_rfl) (P2 ((decide (i2 < ((va0.length : Nat) : Int))) = false) (decide_eq_false h1) <| P0))
theorem ww_eqGoalS : ∀ s r, loop Bw_eqGoalS s = some r → Wc X 108 0 (Kw_eqGoalS s) (Zw_eqGoalS s) (RB r) ((fun _ => []) r) := Nx.all nw_eqGoalS
theorem cw_eqGoalS {a0 : (List Gi_Goal)} {a1 : (List Gi_Goal)} {r : Bool} (H : Dw_eqGoalS a0 a1 = some r) : Ct X.P X.gl 108 [sl 2 gi_Goal a0, sl 2 gi_Goal a1] [] (RB r) [] :=
  Ct.of func108 (c := bdy f108) (by kernel_rfl) (by kernel_rfl) <|
  gS [r0] (by kernel_rfl) P0 <|
  eIf H (fun h1 H =>
    gO [rg [hF 4], r0, .canon [] [0, 1, 5]] (by kernel_rfl) (P2 (((((a0.length : Nat) : Int) : Int) != ((a1.length : Nat) : Int)) = false) (bneF h1) <| P0) (ww_eqGoalS _ _ H))
  (fun h1 H =>
    eW RB (fun _ => []) H <| gE func108 [rg [hT 4], r0] (by kernel_rfl) (P2 (((((a0.length : Nat) : Int) : Int) != ((a1.length : Nat) : Int)) = true) (bneT h1) <| P0))
/-! loop example/g00886/laws eqConditions -/
theorem cw_eqConditions {a0 : Gi_Conditions} {a1 : Gi_Conditions} {r : Bool} (H : Dw_eqConditions a0 a1 = some r) : Ct X.P X.gl 49 [.agg [sl 2 gi_Goal a0.Goals, I a0.Step, I a0.Margin], .agg [sl 2 gi_Goal a1.Goals, I a1.Step, I a1.Margin]] [] (RB r) [] :=
  Ct.of func49 (c := bdy f49) (by kernel_rfl) (by kernel_rfl) <|
  eBind H fun r1 hr1 H =>
  gS [r0] (by kernel_rfl) P0 <|
  eIf H (fun h2 H =>
    gS [rg [{ i := 4, call := some { cl := true, auto := true, ins := [], res := (RB r1), G' := [] }, dec := some true }]] (by kernel_rfl) (P1 (cw_eqGoalS hr1) <| P2 (r1 = true) (h2) <| P0) <|
    eIf H (fun h3 H =>
      gS [rg [hF 4]] (by kernel_rfl) (P2 (((a0.Step : Int) != a1.Step) = false) (bneF h3) <| P0) <|
      eIf H (fun h4 H =>
        eW RB (fun _ => []) H <| gE func49 [rg [hF 4], r0] (by kernel_rfl) (P2 (((a0.Margin : Int) != a1.Margin) = false) (bneF h4) <| P0))
      (fun h4 H =>
        eW RB (fun _ => []) H <| gE func49 [rg [hT 4], r0] (by kernel_rfl) (P2 (((a0.Margin : Int) != a1.Margin) = true) (bneT h4) <| P0)))
    (fun h3 H =>
      eW RB (fun _ => []) H <| gE func49 [rg [hT 4], r0] (by kernel_rfl) (P2 (((a0.Step : Int) != a1.Step) = true) (bneT h3) <| P0)))
  (fun h2 H =>
    eW RB (fun _ => []) H <| gE func49 [rg [{ i := 4, call := some { cl := true, auto := true, ins := [], res := (RB r1), G' := [] }, dec := some false }], r0] (by kernel_rfl) (P1 (cw_eqGoalS hr1) <| P2 (r1 = false) (eqF h2) <| P0))
/-! loop example/g00886/laws eqScenario -/
theorem cw_eqScenario {a0 : Gi_Scenario} {a1 : Gi_Scenario} {r : Bool} (H : Dw_eqScenario a0 a1 = some r) : Ct X.P X.gl 13 [.agg [.str a0.Name, sl 5 gi_Terrain a0.Board.Rules.Terrains, sl 6 gi_Kind a0.Board.Rules.Kinds, I a0.Board.Rules.Stack, I a0.Board.Rules.River, I a0.Board.Rules.Road, I a0.Board.Rules.Supply, I a0.Board.Rules.Turns, I a0.Board.Map.Width, I a0.Board.Map.Height, sl 1 I a0.Board.Map.Terrain, sl 1 I a0.Board.Map.Rivers, sl 1 I a0.Board.Map.Roads, sl 2 gi_Odds a0.Table.Columns, I a0.Table.Dice, sl 1 (sl 1 I) a0.Table.Results, I a0.Start.Turn, I a0.Start.Weather, sl 4 gi_Unit a0.Start.Units, sl 2 gi_Goal a0.Conditions.Goals, I a0.Conditions.Step, I a0.Conditions.Margin, sl 1 I a0.First, sl 1 I a0.Other], .agg [.str a1.Name, sl 5 gi_Terrain a1.Board.Rules.Terrains, sl 6 gi_Kind a1.Board.Rules.Kinds, I a1.Board.Rules.Stack, I a1.Board.Rules.River, I a1.Board.Rules.Road, I a1.Board.Rules.Supply, I a1.Board.Rules.Turns, I a1.Board.Map.Width, I a1.Board.Map.Height, sl 1 I a1.Board.Map.Terrain, sl 1 I a1.Board.Map.Rivers, sl 1 I a1.Board.Map.Roads, sl 2 gi_Odds a1.Table.Columns, I a1.Table.Dice, sl 1 (sl 1 I) a1.Table.Results, I a1.Start.Turn, I a1.Start.Weather, sl 4 gi_Unit a1.Start.Units, sl 2 gi_Goal a1.Conditions.Goals, I a1.Conditions.Step, I a1.Conditions.Margin, sl 1 I a1.First, sl 1 I a1.Other]] [] (RB r) [] :=
  Ct.of func13 (c := bdy f13) (by kernel_rfl) (by kernel_rfl) <|
  gS [r0] (by kernel_rfl) P0 <|
  eIf H (fun h1 H =>
    eBind H fun r2 hr2 H =>
    gS [rg [hF 4]] (by kernel_rfl) (P2 ((!(a0.Name == a1.Name)) = false) (nbeqF h1) <| P0) <|
    eIf H (fun h3 H =>
      eBind H fun r4 hr4 H =>
      gS [rg [{ i := 4, call := some { cl := true, auto := true, ins := [], res := (RB r2), G' := [] }, dec := some true }]] (by kernel_rfl) (P1 (cw_eqBoard hr2) <| P2 (r2 = true) (h3) <| P0) <|
      eIf H (fun h5 H =>
        eBind H fun r6 hr6 H =>
        gS [rg [{ i := 4, call := some { cl := true, auto := true, ins := [], res := (RB r4), G' := [] }, dec := some true }]] (by kernel_rfl) (P1 (cw_eqCombatTable hr4) <| P2 (r4 = true) (h5) <| P0) <|
        eIf H (fun h7 H =>
          eBind H fun r8 hr8 H =>
          gS [rg [{ i := 4, call := some { cl := true, auto := true, ins := [], res := (RB r6), G' := [] }, dec := some true }]] (by kernel_rfl) (P1 (cw_eqState hr6) <| P2 (r6 = true) (h7) <| P0) <|
          eIf H (fun h9 H =>
            eBind H fun r10 hr10 H =>
            gS [rg [{ i := 4, call := some { cl := true, auto := true, ins := [], res := (RB r8), G' := [] }, dec := some true }]] (by kernel_rfl) (P1 (cw_eqConditions hr8) <| P2 (r8 = true) (h9) <| P0) <|
            eIf H (fun h11 H =>
              eBind H fun r12 hr12 H =>
              gS [rg [{ i := 4, call := some { cl := true, auto := true, ins := [], res := (RB r10), G' := [] }, dec := some true }]] (by kernel_rfl) (P1 (cw_eqIntS hr10) <| P2 (r10 = true) (h11) <| P0) <|
              eIf H (fun h13 H =>
                eW RB (fun _ => []) H <| gE func13 [rg [{ i := 4, call := some { cl := true, auto := true, ins := [], res := (RB r12), G' := [] }, dec := some true }], r0] (by kernel_rfl) (P1 (cw_eqIntS hr12) <| P2 (r12 = true) (h13) <| P0))
              (fun h13 H =>
                eW RB (fun _ => []) H <| gE func13 [rg [{ i := 4, call := some { cl := true, auto := true, ins := [], res := (RB r12), G' := [] }, dec := some false }], r0] (by kernel_rfl) (P1 (cw_eqIntS hr12) <| P2 (r12 = false) (eqF h13) <| P0)))
            (fun h11 H =>
              eW RB (fun _ => []) H <| gE func13 [rg [{ i := 4, call := some { cl := true, auto := true, ins := [], res := (RB r10), G' := [] }, dec := some false }], r0] (by kernel_rfl) (P1 (cw_eqIntS hr10) <| P2 (r10 = false) (eqF h11) <| P0)))
          (fun h9 H =>
            eW RB (fun _ => []) H <| gE func13 [rg [{ i := 4, call := some { cl := true, auto := true, ins := [], res := (RB r8), G' := [] }, dec := some false }], r0] (by kernel_rfl) (P1 (cw_eqConditions hr8) <| P2 (r8 = false) (eqF h9) <| P0)))
        (fun h7 H =>
          eW RB (fun _ => []) H <| gE func13 [rg [{ i := 4, call := some { cl := true, auto := true, ins := [], res := (RB r6), G' := [] }, dec := some false }], r0] (by kernel_rfl) (P1 (cw_eqState hr6) <| P2 (r6 = false) (eqF h7) <| P0)))
      (fun h5 H =>
        eW RB (fun _ => []) H <| gE func13 [rg [{ i := 4, call := some { cl := true, auto := true, ins := [], res := (RB r4), G' := [] }, dec := some false }], r0] (by kernel_rfl) (P1 (cw_eqCombatTable hr4) <| P2 (r4 = false) (eqF h5) <| P0)))
    (fun h3 H =>
      eW RB (fun _ => []) H <| gE func13 [rg [{ i := 4, call := some { cl := true, auto := true, ins := [], res := (RB r2), G' := [] }, dec := some false }], r0] (by kernel_rfl) (P1 (cw_eqBoard hr2) <| P2 (r2 = false) (eqF h3) <| P0)))
  (fun h1 H =>
    eW RB (fun _ => []) H <| gE func13 [rg [hT 4], r0] (by kernel_rfl) (P2 ((!(a0.Name == a1.Name)) = true) (nbeqT h1) <| P0))
/-! loop example/g00886/laws markText -/
def Rw_markText (r : ByteArray) : List D := [.str r]
noncomputable def Kw_markText : Sw_markText → List Item
  | .h1 .. => nav 300 3 [false] [.code (bdy f187)]
def Zw_markText : Sw_markText → St
  | .h1 k0 out1 => ⟨sts 20 [(0, I k0), (3, .str out1)], []⟩
abbrev Qw_markText := Nx X 187 0 Kw_markText Zw_markText Rw_markText (fun _ => [])
theorem nw_markText : ∀ s o, Bw_markText s = some o → Qw_markText (Kw_markText s) (Zw_markText s) o
  | .h1 k0 out1, o, H =>
    eIf H (fun h1 H =>
      eCk H fun h2 H =>
      eCk H fun h3 H =>
      eN H fun r hn => gO [rg [hT 1], rg [{ i := 5, s := (bytesOf [(IntKind.wrap .u8 (IntKind.wrap .i64 (48 + (Int.tmod k0 10))))]) }], r0, .canon [] [0, 3]] (by kernel_rfl) (P2 ((decide (k0 > 0)) = true) (decide_eq_true h1) <| P2 (¬ (10 : Int) = 0) (by decide) <| P1 (bytesD_of h2) <| P1 h3 <| P2 (¬ (10 : Int) = 0) (by decide) <| P0) hn)
    (fun h1 H =>
      eCk H fun h2 H =>
      eN H <| gE func187 [rg [hF 1], r0] (by kernel_rfl) (P2 ((decide (k0 > 0)) = false) (decide_eq_false h1) <| P1 h2 <| P0))
theorem ww_markText : ∀ s r, loop Bw_markText s = some r → Wc X 187 0 (Kw_markText s) (Zw_markText s) (Rw_markText r) ((fun _ => []) r) := Nx.all nw_markText
theorem cw_markText {a0 : Int} {r : ByteArray} (H : Dw_markText a0 = some r) : Ct X.P X.gl 187 [I a0] [] (Rw_markText r) [] :=
  Ct.of func187 (c := bdy f187) (by kernel_rfl) (by kernel_rfl) <|
  gS [r0] (by kernel_rfl) P0 <|
  eIf H (fun h1 H =>
    eW Rw_markText (fun _ => []) H <| gE func187 [rg [hT 1], r0] (by kernel_rfl) (P2 ((decide (a0 ≤ 0)) = true) (decide_eq_true h1) <| P0))
  (fun h1 H =>
    gO [rg [hF 1], r0, .canon [] [0, 3]] (by kernel_rfl) (P2 ((decide (a0 ≤ 0)) = false) (decide_eq_false h1) <| P0) (ww_markText _ _ H))
/-! loop example/g00886/laws markIntS -/
def Rw_markIntS (r : Int × (List Int)) : List D := [I r.1]
def Nw_markIntS (r : Int × (List Int)) : List Root := [⟨false, false, 1, r.2.length, List.map I r.2⟩]
noncomputable def Kw_markIntS : Sw_markIntS → List Item
  | .h1 .. => nav 300 2 [] [.code (bdy f22)]
def Zw_markIntS : Sw_markIntS → St
  | .h1 k0 i1 l2 => ⟨sts 19 [(0, .ref 0 1 none), (1, I k0), (5, I i1)], [some ⟨false, false, 1, l2.length, List.map I l2⟩]⟩
abbrev Qw_markIntS := Nx X 22 1 Kw_markIntS Zw_markIntS Rw_markIntS Nw_markIntS
theorem nw_markIntS : ∀ s o, Bw_markIntS s = some o → Qw_markIntS (Kw_markIntS s) (Zw_markIntS s) o
  | .h1 k0 i1 l2, o, H =>
    eIf H (fun h1 H =>
      eCk H fun h2 H =>
      eBind H fun x3 hx3 H =>
      eN H fun r hn => gO [rg [hT 3], rg [hA 4 ((List.set l2 (Int.toNat i1) k0).length) (List.map I (List.set l2 (Int.toNat i1) k0))], r0, r0, .canon [0] [0, 1, 5]] (by kernel_rfl) (P2 ((decide (i1 < ((l2.length : Nat) : Int))) = true) (decide_eq_true h1) <| P1 h2 <| P1 (int_lt_of_at h2 hx3) <| P1 (lt_of_at hx3) <| P2 (setCells (List.map I l2) (Int.toNat i1) 0 [I k0] = List.map I (List.set l2 (Int.toNat i1) k0)) (setCells_map hx3 rfl) <| P1 (setLen l2 (Int.toNat i1) k0) <| P0) hn)
    (fun h1 H =>
      eN H <| gE func22 [rg [hF 3], r0] (by kernel_rfl) (P2 ((decide (i1 < ((l2.length : Nat) : Int))) = false) (decide_eq_false h1) <| P0))
theorem ww_markIntS : ∀ s r, loop Bw_markIntS s = some r → Wc X 22 1 (Kw_markIntS s) (Zw_markIntS s) (Rw_markIntS r) (Nw_markIntS r) := Nx.all nw_markIntS
theorem cw_markIntS {a0 : (List Int)} {a1 : Int} {r : Int × (List Int)} (H : Dw_markIntS a0 a1 = some r) : Ct X.P X.gl 22 [.ref 0 1 none, I a1] [⟨false, false, 1, a0.length, List.map I a0⟩] (Rw_markIntS r) (Nw_markIntS r) :=
  Ct.of func22 (c := bdy f22) (by kernel_rfl) (by kernel_rfl) <|
  gO [r0, r0, .canon [0] [0, 1, 5]] (by kernel_rfl) P0 (ww_markIntS _ _ H)
/-! loop example/g00886/laws markTerrainS -/
def Rw_markTerrainS (r : Int × (List Gi_Terrain)) : List D := [I r.1]
def Nw_markTerrainS (r : Int × (List Gi_Terrain)) : List Root := [⟨false, false, 5, r.2.length, List.map goi_Terrain r.2⟩]
noncomputable def Kw_markTerrainS : Sw_markTerrainS → List Item
  | .h1 .. => nav 300 2 [] [.code (bdy f154)]
def Zw_markTerrainS : Sw_markTerrainS → St
  | .h1 k0 i1 l2 => ⟨sts 51 [(0, .ref 0 5 none), (1, I k0), (5, I i1)], [some ⟨false, false, 5, l2.length, List.map goi_Terrain l2⟩]⟩
abbrev Qw_markTerrainS := Nx X 154 1 Kw_markTerrainS Zw_markTerrainS Rw_markTerrainS Nw_markTerrainS
theorem nw_markTerrainS : ∀ s o, Bw_markTerrainS s = some o → Qw_markTerrainS (Kw_markTerrainS s) (Zw_markTerrainS s) o
  | .h1 k0 i1 l2, o, H =>
    eIf H (fun h1 H =>
      eBind H fun r2 hr2 H =>
      eCk H fun h3 H =>
      eBind H fun x4 hx4 H =>
      eCk H fun h5 H =>
      eBind H fun x6 hx6 H =>
      eBind H fun r7 hr7 H =>
      eCk H fun h8 H =>
      eCk H fun h9 H =>
      eBind H fun x10 hx10 H =>
      eCk H fun h11 H =>
      eBind H fun x12 hx12 H =>
      eCk H fun h13 H =>
      eBind H fun x14 hx14 H =>
      eN H fun r hn => gO [rg [hT 3], rg [hC 3 true [] (Rw_markText r2) [], hA 6 ((List.set l2 (Int.toNat i1) (Gi_Terrain.mk r2 x4.Cost x4.Shift x4.Height x4.Blocks)).length) (List.map goi_Terrain (List.set l2 (Int.toNat i1) (Gi_Terrain.mk r2 x4.Cost x4.Shift x4.Height x4.Blocks)))], r0, rg [{ i := 4, pre := [.take 0 (Int.toNat i1) 1 1 x6.Cost.length (List.map I x6.Cost) (List.set (List.map goi_Terrain (List.set l2 (Int.toNat i1) (Gi_Terrain.mk r2 x4.Cost x4.Shift x4.Height x4.Blocks))) (Int.toNat i1) (.agg [.str x6.Name, .ref 1 1 none, I x6.Shift, I x6.Height, .bool x6.Blocks]))], el := some (.agg [.str x6.Name, .ref 1 1 none, I x6.Shift, I x6.Height, .bool x6.Blocks]) }, { i := 6, call := some { cl := true, auto := true, ins := [1], res := (Rw_markIntS r7), G' := (Nw_markIntS r7) }, post := [.put 0 (Int.toNat i1) 1 1 (List.map goi_Terrain (List.set (List.set l2 (Int.toNat i1) (Gi_Terrain.mk r2 x4.Cost x4.Shift x4.Height x4.Blocks)) (Int.toNat i1) (Gi_Terrain.mk x6.Name r7.2 x6.Shift x6.Height x6.Blocks))), .own 0 (List.set (List.set l2 (Int.toNat i1) (Gi_Terrain.mk r2 x4.Cost x4.Shift x4.Height x4.Blocks)) (Int.toNat i1) (Gi_Terrain.mk x6.Name r7.2 x6.Shift x6.Height x6.Blocks)).length], xtra := [0] }], rg [hA 5 ((List.set (List.set (List.set l2 (Int.toNat i1) (Gi_Terrain.mk r2 x4.Cost x4.Shift x4.Height x4.Blocks)) (Int.toNat i1) (Gi_Terrain.mk x6.Name r7.2 x6.Shift x6.Height x6.Blocks)) (Int.toNat i1) (Gi_Terrain.mk x10.Name x10.Cost r7.1 x10.Height x10.Blocks)).length) (List.map goi_Terrain (List.set (List.set (List.set l2 (Int.toNat i1) (Gi_Terrain.mk r2 x4.Cost x4.Shift x4.Height x4.Blocks)) (Int.toNat i1) (Gi_Terrain.mk x6.Name r7.2 x6.Shift x6.Height x6.Blocks)) (Int.toNat i1) (Gi_Terrain.mk x10.Name x10.Cost r7.1 x10.Height x10.Blocks)))], r0, rg [hA 5 ((List.set (List.set (List.set (List.set l2 (Int.toNat i1) (Gi_Terrain.mk r2 x4.Cost x4.Shift x4.Height x4.Blocks)) (Int.toNat i1) (Gi_Terrain.mk x6.Name r7.2 x6.Shift x6.Height x6.Blocks)) (Int.toNat i1) (Gi_Terrain.mk x10.Name x10.Cost r7.1 x10.Height x10.Blocks)) (Int.toNat i1) (Gi_Terrain.mk x12.Name x12.Cost x12.Shift (IntKind.wrap .i64 (r7.1 + 1)) x12.Blocks)).length) (List.map goi_Terrain (List.set (List.set (List.set (List.set l2 (Int.toNat i1) (Gi_Terrain.mk r2 x4.Cost x4.Shift x4.Height x4.Blocks)) (Int.toNat i1) (Gi_Terrain.mk x6.Name r7.2 x6.Shift x6.Height x6.Blocks)) (Int.toNat i1) (Gi_Terrain.mk x10.Name x10.Cost r7.1 x10.Height x10.Blocks)) (Int.toNat i1) (Gi_Terrain.mk x12.Name x12.Cost x12.Shift (IntKind.wrap .i64 (r7.1 + 1)) x12.Blocks)))], r0, rg [hA 7 ((List.set (List.set (List.set (List.set (List.set l2 (Int.toNat i1) (Gi_Terrain.mk r2 x4.Cost x4.Shift x4.Height x4.Blocks)) (Int.toNat i1) (Gi_Terrain.mk x6.Name r7.2 x6.Shift x6.Height x6.Blocks)) (Int.toNat i1) (Gi_Terrain.mk x10.Name x10.Cost r7.1 x10.Height x10.Blocks)) (Int.toNat i1) (Gi_Terrain.mk x12.Name x12.Cost x12.Shift (IntKind.wrap .i64 (r7.1 + 1)) x12.Blocks)) (Int.toNat i1) (Gi_Terrain.mk x14.Name x14.Cost x14.Shift x14.Height (((Int.tmod (IntKind.wrap .i64 ((IntKind.wrap .i64 (r7.1 + 1)) + 1)) 3) : Int) == 0))).length) (List.map goi_Terrain (List.set (List.set (List.set (List.set (List.set l2 (Int.toNat i1) (Gi_Terrain.mk r2 x4.Cost x4.Shift x4.Height x4.Blocks)) (Int.toNat i1) (Gi_Terrain.mk x6.Name r7.2 x6.Shift x6.Height x6.Blocks)) (Int.toNat i1) (Gi_Terrain.mk x10.Name x10.Cost r7.1 x10.Height x10.Blocks)) (Int.toNat i1) (Gi_Terrain.mk x12.Name x12.Cost x12.Shift (IntKind.wrap .i64 (r7.1 + 1)) x12.Blocks)) (Int.toNat i1) (Gi_Terrain.mk x14.Name x14.Cost x14.Shift x14.Height (((Int.tmod (IntKind.wrap .i64 ((IntKind.wrap .i64 (r7.1 + 1)) + 1)) 3) : Int) == 0))))], r0, r0, .canon [0] [0, 1, 5]] (by kernel_rfl) (P2 ((decide (i1 < ((l2.length : Nat) : Int))) = true) (decide_eq_true h1) <| P1 (cw_markText hr2) <| P1 h3 <| P1 (int_lt_of_at h3 hx4) <| P1 (lt_of_at hx4) <| P2 (setCells (List.map goi_Terrain l2) (Int.toNat i1) 0 [.str r2] = List.map goi_Terrain (List.set l2 (Int.toNat i1) (Gi_Terrain.mk r2 x4.Cost x4.Shift x4.Height x4.Blocks))) (setCells_map hx4 rfl) <| P1 (setLen l2 (Int.toNat i1) (Gi_Terrain.mk r2 x4.Cost x4.Shift x4.Height x4.Blocks)) <| P1 h5 <| P1 (int_lt_of_at h5 hx6) <| P2 (getCells (List.map goi_Terrain (List.set l2 (Int.toNat i1) (Gi_Terrain.mk r2 x4.Cost x4.Shift x4.Height x4.Blocks))) (Int.toNat i1) 1 1 = some [ow 1 I x6.Cost]) (getCells_at hx6 rfl) <| P2 (setCells (List.map goi_Terrain (List.set l2 (Int.toNat i1) (Gi_Terrain.mk r2 x4.Cost x4.Shift x4.Height x4.Blocks))) (Int.toNat i1) 1 [.ref 1 1 none] = List.set (List.map goi_Terrain (List.set l2 (Int.toNat i1) (Gi_Terrain.mk r2 x4.Cost x4.Shift x4.Height x4.Blocks))) (Int.toNat i1) (.agg [.str x6.Name, .ref 1 1 none, I x6.Shift, I x6.Height, .bool x6.Blocks])) (setCells_mapD hx6 rfl) <| P1 (at_set (f := goi_Terrain) (.agg [.str x6.Name, .ref 1 1 none, I x6.Shift, I x6.Height, .bool x6.Blocks]) hx6) <| P1 h8 <| P1 (cw_markIntS hr7) <| P2 (getCells (List.set (List.map goi_Terrain (List.set l2 (Int.toNat i1) (Gi_Terrain.mk r2 x4.Cost x4.Shift x4.Height x4.Blocks))) (Int.toNat i1) (.agg [.str x6.Name, .ref 1 1 none, I x6.Shift, I x6.Height, .bool x6.Blocks])) (Int.toNat i1) 1 1 = some [.ref 1 1 none]) (getCells_set hx6 rfl) <| P2 (setCells (List.set (List.map goi_Terrain (List.set l2 (Int.toNat i1) (Gi_Terrain.mk r2 x4.Cost x4.Shift x4.Height x4.Blocks))) (Int.toNat i1) (.agg [.str x6.Name, .ref 1 1 none, I x6.Shift, I x6.Height, .bool x6.Blocks])) (Int.toNat i1) 1 [ow 1 I r7.2] = List.map goi_Terrain (List.set (List.set l2 (Int.toNat i1) (Gi_Terrain.mk r2 x4.Cost x4.Shift x4.Height x4.Blocks)) (Int.toNat i1) (Gi_Terrain.mk x6.Name r7.2 x6.Shift x6.Height x6.Blocks))) (setCells_set hx6 rfl) <| P1 (allOw_169 (List.set (List.set l2 (Int.toNat i1) (Gi_Terrain.mk r2 x4.Cost x4.Shift x4.Height x4.Blocks)) (Int.toNat i1) (Gi_Terrain.mk x6.Name r7.2 x6.Shift x6.Height x6.Blocks))) <| P1 (setLen (List.set l2 (Int.toNat i1) (Gi_Terrain.mk r2 x4.Cost x4.Shift x4.Height x4.Blocks)) (Int.toNat i1) (Gi_Terrain.mk x6.Name r7.2 x6.Shift x6.Height x6.Blocks)) <| P1 h9 <| P1 (int_lt_of_at h9 hx10) <| P1 (lt_of_at hx10) <| P2 (setCells (List.map goi_Terrain (List.set (List.set l2 (Int.toNat i1) (Gi_Terrain.mk r2 x4.Cost x4.Shift x4.Height x4.Blocks)) (Int.toNat i1) (Gi_Terrain.mk x6.Name r7.2 x6.Shift x6.Height x6.Blocks))) (Int.toNat i1) 2 [I r7.1] = List.map goi_Terrain (List.set (List.set (List.set l2 (Int.toNat i1) (Gi_Terrain.mk r2 x4.Cost x4.Shift x4.Height x4.Blocks)) (Int.toNat i1) (Gi_Terrain.mk x6.Name r7.2 x6.Shift x6.Height x6.Blocks)) (Int.toNat i1) (Gi_Terrain.mk x10.Name x10.Cost r7.1 x10.Height x10.Blocks))) (setCells_map hx10 rfl) <| P1 (setLen (List.set (List.set l2 (Int.toNat i1) (Gi_Terrain.mk r2 x4.Cost x4.Shift x4.Height x4.Blocks)) (Int.toNat i1) (Gi_Terrain.mk x6.Name r7.2 x6.Shift x6.Height x6.Blocks)) (Int.toNat i1) (Gi_Terrain.mk x10.Name x10.Cost r7.1 x10.Height x10.Blocks)) <| P1 h11 <| P1 (int_lt_of_at h11 hx12) <| P1 (lt_of_at hx12) <| P2 (setCells (List.map goi_Terrain (List.set (List.set (List.set l2 (Int.toNat i1) (Gi_Terrain.mk r2 x4.Cost x4.Shift x4.Height x4.Blocks)) (Int.toNat i1) (Gi_Terrain.mk x6.Name r7.2 x6.Shift x6.Height x6.Blocks)) (Int.toNat i1) (Gi_Terrain.mk x10.Name x10.Cost r7.1 x10.Height x10.Blocks))) (Int.toNat i1) 3 [I (IntKind.wrap .i64 (r7.1 + 1))] = List.map goi_Terrain (List.set (List.set (List.set (List.set l2 (Int.toNat i1) (Gi_Terrain.mk r2 x4.Cost x4.Shift x4.Height x4.Blocks)) (Int.toNat i1) (Gi_Terrain.mk x6.Name r7.2 x6.Shift x6.Height x6.Blocks)) (Int.toNat i1) (Gi_Terrain.mk x10.Name x10.Cost r7.1 x10.Height x10.Blocks)) (Int.toNat i1) (Gi_Terrain.mk x12.Name x12.Cost x12.Shift (IntKind.wrap .i64 (r7.1 + 1)) x12.Blocks))) (setCells_map hx12 rfl) <| P1 (setLen (List.set (List.set (List.set l2 (Int.toNat i1) (Gi_Terrain.mk r2 x4.Cost x4.Shift x4.Height x4.Blocks)) (Int.toNat i1) (Gi_Terrain.mk x6.Name r7.2 x6.Shift x6.Height x6.Blocks)) (Int.toNat i1) (Gi_Terrain.mk x10.Name x10.Cost r7.1 x10.Height x10.Blocks)) (Int.toNat i1) (Gi_Terrain.mk x12.Name x12.Cost x12.Shift (IntKind.wrap .i64 (r7.1 + 1)) x12.Blocks)) <| P2 (¬ (3 : Int) = 0) (by decide) <| P1 h13 <| P1 (int_lt_of_at h13 hx14) <| P1 (lt_of_at hx14) <| P2 (setCells (List.map goi_Terrain (List.set (List.set (List.set (List.set l2 (Int.toNat i1) (Gi_Terrain.mk r2 x4.Cost x4.Shift x4.Height x4.Blocks)) (Int.toNat i1) (Gi_Terrain.mk x6.Name r7.2 x6.Shift x6.Height x6.Blocks)) (Int.toNat i1) (Gi_Terrain.mk x10.Name x10.Cost r7.1 x10.Height x10.Blocks)) (Int.toNat i1) (Gi_Terrain.mk x12.Name x12.Cost x12.Shift (IntKind.wrap .i64 (r7.1 + 1)) x12.Blocks))) (Int.toNat i1) 4 [.bool (((Int.tmod (IntKind.wrap .i64 ((IntKind.wrap .i64 (r7.1 + 1)) + 1)) 3) : Int) == 0)] = List.map goi_Terrain (List.set (List.set (List.set (List.set (List.set l2 (Int.toNat i1) (Gi_Terrain.mk r2 x4.Cost x4.Shift x4.Height x4.Blocks)) (Int.toNat i1) (Gi_Terrain.mk x6.Name r7.2 x6.Shift x6.Height x6.Blocks)) (Int.toNat i1) (Gi_Terrain.mk x10.Name x10.Cost r7.1 x10.Height x10.Blocks)) (Int.toNat i1) (Gi_Terrain.mk x12.Name x12.Cost x12.Shift (IntKind.wrap .i64 (r7.1 + 1)) x12.Blocks)) (Int.toNat i1) (Gi_Terrain.mk x14.Name x14.Cost x14.Shift x14.Height (((Int.tmod (IntKind.wrap .i64 ((IntKind.wrap .i64 (r7.1 + 1)) + 1)) 3) : Int) == 0)))) (setCells_map hx14 rfl) <| P1 (setLen (List.set (List.set (List.set (List.set l2 (Int.toNat i1) (Gi_Terrain.mk r2 x4.Cost x4.Shift x4.Height x4.Blocks)) (Int.toNat i1) (Gi_Terrain.mk x6.Name r7.2 x6.Shift x6.Height x6.Blocks)) (Int.toNat i1) (Gi_Terrain.mk x10.Name x10.Cost r7.1 x10.Height x10.Blocks)) (Int.toNat i1) (Gi_Terrain.mk x12.Name x12.Cost x12.Shift (IntKind.wrap .i64 (r7.1 + 1)) x12.Blocks)) (Int.toNat i1) (Gi_Terrain.mk x14.Name x14.Cost x14.Shift x14.Height (((Int.tmod (IntKind.wrap .i64 ((IntKind.wrap .i64 (r7.1 + 1)) + 1)) 3) : Int) == 0))) <| P0) hn)
    (fun h1 H =>
      eN H <| gE func154 [rg [hF 3], r0] (by kernel_rfl) (P2 ((decide (i1 < ((l2.length : Nat) : Int))) = false) (decide_eq_false h1) <| P0))
theorem ww_markTerrainS : ∀ s r, loop Bw_markTerrainS s = some r → Wc X 154 1 (Kw_markTerrainS s) (Zw_markTerrainS s) (Rw_markTerrainS r) (Nw_markTerrainS r) := Nx.all nw_markTerrainS
theorem cw_markTerrainS {a0 : (List Gi_Terrain)} {a1 : Int} {r : Int × (List Gi_Terrain)} (H : Dw_markTerrainS a0 a1 = some r) : Ct X.P X.gl 154 [.ref 0 5 none, I a1] [⟨false, false, 5, a0.length, List.map goi_Terrain a0⟩] (Rw_markTerrainS r) (Nw_markTerrainS r) :=
  Ct.of func154 (c := bdy f154) (by kernel_rfl) (by kernel_rfl) <|
  gO [r0, r0, .canon [0] [0, 1, 5]] (by kernel_rfl) P0 (ww_markTerrainS _ _ H)
/-! loop example/g00886/laws markKindS -/
def Rw_markKindS (r : Int × (List Gi_Kind)) : List D := [I r.1]
def Nw_markKindS (r : Int × (List Gi_Kind)) : List Root := [⟨false, false, 6, r.2.length, List.map gi_Kind r.2⟩]
noncomputable def Kw_markKindS : Sw_markKindS → List Item
  | .h1 .. => nav 300 2 [] [.code (bdy f155)]
def Zw_markKindS : Sw_markKindS → St
  | .h1 k0 i1 l2 => ⟨sts 58 [(0, .ref 0 6 none), (1, I k0), (5, I i1)], [some ⟨false, false, 6, l2.length, List.map gi_Kind l2⟩]⟩
abbrev Qw_markKindS := Nx X 155 1 Kw_markKindS Zw_markKindS Rw_markKindS Nw_markKindS
theorem nw_markKindS : ∀ s o, Bw_markKindS s = some o → Qw_markKindS (Kw_markKindS s) (Zw_markKindS s) o
  | .h1 k0 i1 l2, o, H =>
    eIf H (fun h1 H =>
      eBind H fun r2 hr2 H =>
      eCk H fun h3 H =>
      eBind H fun x4 hx4 H =>
      eCk H fun h5 H =>
      eBind H fun x6 hx6 H =>
      eCk H fun h7 H =>
      eBind H fun x8 hx8 H =>
      eCk H fun h9 H =>
      eBind H fun x10 hx10 H =>
      eCk H fun h11 H =>
      eBind H fun x12 hx12 H =>
      eCk H fun h13 H =>
      eBind H fun x14 hx14 H =>
      eN H fun r hn => gO [rg [hT 3], rg [hC 3 true [] (Rw_markText r2) [], hA 6 ((List.set l2 (Int.toNat i1) (Gi_Kind.mk r2 x4.Strength x4.Moves x4.Steps x4.Zone x4.View)).length) (List.map gi_Kind (List.set l2 (Int.toNat i1) (Gi_Kind.mk r2 x4.Strength x4.Moves x4.Steps x4.Zone x4.View)))], r0, rg [hA 5 ((List.set (List.set l2 (Int.toNat i1) (Gi_Kind.mk r2 x4.Strength x4.Moves x4.Steps x4.Zone x4.View)) (Int.toNat i1) (Gi_Kind.mk x6.Name (IntKind.wrap .i64 (k0 + 1)) x6.Moves x6.Steps x6.Zone x6.View)).length) (List.map gi_Kind (List.set (List.set l2 (Int.toNat i1) (Gi_Kind.mk r2 x4.Strength x4.Moves x4.Steps x4.Zone x4.View)) (Int.toNat i1) (Gi_Kind.mk x6.Name (IntKind.wrap .i64 (k0 + 1)) x6.Moves x6.Steps x6.Zone x6.View)))], r0, rg [hA 5 ((List.set (List.set (List.set l2 (Int.toNat i1) (Gi_Kind.mk r2 x4.Strength x4.Moves x4.Steps x4.Zone x4.View)) (Int.toNat i1) (Gi_Kind.mk x6.Name (IntKind.wrap .i64 (k0 + 1)) x6.Moves x6.Steps x6.Zone x6.View)) (Int.toNat i1) (Gi_Kind.mk x8.Name x8.Strength (IntKind.wrap .i64 ((IntKind.wrap .i64 (k0 + 1)) + 1)) x8.Steps x8.Zone x8.View)).length) (List.map gi_Kind (List.set (List.set (List.set l2 (Int.toNat i1) (Gi_Kind.mk r2 x4.Strength x4.Moves x4.Steps x4.Zone x4.View)) (Int.toNat i1) (Gi_Kind.mk x6.Name (IntKind.wrap .i64 (k0 + 1)) x6.Moves x6.Steps x6.Zone x6.View)) (Int.toNat i1) (Gi_Kind.mk x8.Name x8.Strength (IntKind.wrap .i64 ((IntKind.wrap .i64 (k0 + 1)) + 1)) x8.Steps x8.Zone x8.View)))], r0, rg [hA 5 ((List.set (List.set (List.set (List.set l2 (Int.toNat i1) (Gi_Kind.mk r2 x4.Strength x4.Moves x4.Steps x4.Zone x4.View)) (Int.toNat i1) (Gi_Kind.mk x6.Name (IntKind.wrap .i64 (k0 + 1)) x6.Moves x6.Steps x6.Zone x6.View)) (Int.toNat i1) (Gi_Kind.mk x8.Name x8.Strength (IntKind.wrap .i64 ((IntKind.wrap .i64 (k0 + 1)) + 1)) x8.Steps x8.Zone x8.View)) (Int.toNat i1) (Gi_Kind.mk x10.Name x10.Strength x10.Moves (IntKind.wrap .i64 ((IntKind.wrap .i64 ((IntKind.wrap .i64 (k0 + 1)) + 1)) + 1)) x10.Zone x10.View)).length) (List.map gi_Kind (List.set (List.set (List.set (List.set l2 (Int.toNat i1) (Gi_Kind.mk r2 x4.Strength x4.Moves x4.Steps x4.Zone x4.View)) (Int.toNat i1) (Gi_Kind.mk x6.Name (IntKind.wrap .i64 (k0 + 1)) x6.Moves x6.Steps x6.Zone x6.View)) (Int.toNat i1) (Gi_Kind.mk x8.Name x8.Strength (IntKind.wrap .i64 ((IntKind.wrap .i64 (k0 + 1)) + 1)) x8.Steps x8.Zone x8.View)) (Int.toNat i1) (Gi_Kind.mk x10.Name x10.Strength x10.Moves (IntKind.wrap .i64 ((IntKind.wrap .i64 ((IntKind.wrap .i64 (k0 + 1)) + 1)) + 1)) x10.Zone x10.View)))], r0, rg [hA 7 ((List.set (List.set (List.set (List.set (List.set l2 (Int.toNat i1) (Gi_Kind.mk r2 x4.Strength x4.Moves x4.Steps x4.Zone x4.View)) (Int.toNat i1) (Gi_Kind.mk x6.Name (IntKind.wrap .i64 (k0 + 1)) x6.Moves x6.Steps x6.Zone x6.View)) (Int.toNat i1) (Gi_Kind.mk x8.Name x8.Strength (IntKind.wrap .i64 ((IntKind.wrap .i64 (k0 + 1)) + 1)) x8.Steps x8.Zone x8.View)) (Int.toNat i1) (Gi_Kind.mk x10.Name x10.Strength x10.Moves (IntKind.wrap .i64 ((IntKind.wrap .i64 ((IntKind.wrap .i64 (k0 + 1)) + 1)) + 1)) x10.Zone x10.View)) (Int.toNat i1) (Gi_Kind.mk x12.Name x12.Strength x12.Moves x12.Steps (((Int.tmod (IntKind.wrap .i64 ((IntKind.wrap .i64 ((IntKind.wrap .i64 ((IntKind.wrap .i64 (k0 + 1)) + 1)) + 1)) + 1)) 3) : Int) == 0) x12.View)).length) (List.map gi_Kind (List.set (List.set (List.set (List.set (List.set l2 (Int.toNat i1) (Gi_Kind.mk r2 x4.Strength x4.Moves x4.Steps x4.Zone x4.View)) (Int.toNat i1) (Gi_Kind.mk x6.Name (IntKind.wrap .i64 (k0 + 1)) x6.Moves x6.Steps x6.Zone x6.View)) (Int.toNat i1) (Gi_Kind.mk x8.Name x8.Strength (IntKind.wrap .i64 ((IntKind.wrap .i64 (k0 + 1)) + 1)) x8.Steps x8.Zone x8.View)) (Int.toNat i1) (Gi_Kind.mk x10.Name x10.Strength x10.Moves (IntKind.wrap .i64 ((IntKind.wrap .i64 ((IntKind.wrap .i64 (k0 + 1)) + 1)) + 1)) x10.Zone x10.View)) (Int.toNat i1) (Gi_Kind.mk x12.Name x12.Strength x12.Moves x12.Steps (((Int.tmod (IntKind.wrap .i64 ((IntKind.wrap .i64 ((IntKind.wrap .i64 ((IntKind.wrap .i64 (k0 + 1)) + 1)) + 1)) + 1)) 3) : Int) == 0) x12.View)))], r0, rg [hA 5 ((List.set (List.set (List.set (List.set (List.set (List.set l2 (Int.toNat i1) (Gi_Kind.mk r2 x4.Strength x4.Moves x4.Steps x4.Zone x4.View)) (Int.toNat i1) (Gi_Kind.mk x6.Name (IntKind.wrap .i64 (k0 + 1)) x6.Moves x6.Steps x6.Zone x6.View)) (Int.toNat i1) (Gi_Kind.mk x8.Name x8.Strength (IntKind.wrap .i64 ((IntKind.wrap .i64 (k0 + 1)) + 1)) x8.Steps x8.Zone x8.View)) (Int.toNat i1) (Gi_Kind.mk x10.Name x10.Strength x10.Moves (IntKind.wrap .i64 ((IntKind.wrap .i64 ((IntKind.wrap .i64 (k0 + 1)) + 1)) + 1)) x10.Zone x10.View)) (Int.toNat i1) (Gi_Kind.mk x12.Name x12.Strength x12.Moves x12.Steps (((Int.tmod (IntKind.wrap .i64 ((IntKind.wrap .i64 ((IntKind.wrap .i64 ((IntKind.wrap .i64 (k0 + 1)) + 1)) + 1)) + 1)) 3) : Int) == 0) x12.View)) (Int.toNat i1) (Gi_Kind.mk x14.Name x14.Strength x14.Moves x14.Steps x14.Zone (IntKind.wrap .i64 ((IntKind.wrap .i64 ((IntKind.wrap .i64 ((IntKind.wrap .i64 ((IntKind.wrap .i64 (k0 + 1)) + 1)) + 1)) + 1)) + 1)))).length) (List.map gi_Kind (List.set (List.set (List.set (List.set (List.set (List.set l2 (Int.toNat i1) (Gi_Kind.mk r2 x4.Strength x4.Moves x4.Steps x4.Zone x4.View)) (Int.toNat i1) (Gi_Kind.mk x6.Name (IntKind.wrap .i64 (k0 + 1)) x6.Moves x6.Steps x6.Zone x6.View)) (Int.toNat i1) (Gi_Kind.mk x8.Name x8.Strength (IntKind.wrap .i64 ((IntKind.wrap .i64 (k0 + 1)) + 1)) x8.Steps x8.Zone x8.View)) (Int.toNat i1) (Gi_Kind.mk x10.Name x10.Strength x10.Moves (IntKind.wrap .i64 ((IntKind.wrap .i64 ((IntKind.wrap .i64 (k0 + 1)) + 1)) + 1)) x10.Zone x10.View)) (Int.toNat i1) (Gi_Kind.mk x12.Name x12.Strength x12.Moves x12.Steps (((Int.tmod (IntKind.wrap .i64 ((IntKind.wrap .i64 ((IntKind.wrap .i64 ((IntKind.wrap .i64 (k0 + 1)) + 1)) + 1)) + 1)) 3) : Int) == 0) x12.View)) (Int.toNat i1) (Gi_Kind.mk x14.Name x14.Strength x14.Moves x14.Steps x14.Zone (IntKind.wrap .i64 ((IntKind.wrap .i64 ((IntKind.wrap .i64 ((IntKind.wrap .i64 ((IntKind.wrap .i64 (k0 + 1)) + 1)) + 1)) + 1)) + 1)))))], r0, r0, .canon [0] [0, 1, 5]] (by kernel_rfl) (P2 ((decide (i1 < ((l2.length : Nat) : Int))) = true) (decide_eq_true h1) <| P1 (cw_markText hr2) <| P1 h3 <| P1 (int_lt_of_at h3 hx4) <| P1 (lt_of_at hx4) <| P2 (setCells (List.map gi_Kind l2) (Int.toNat i1) 0 [.str r2] = List.map gi_Kind (List.set l2 (Int.toNat i1) (Gi_Kind.mk r2 x4.Strength x4.Moves x4.Steps x4.Zone x4.View))) (setCells_map hx4 rfl) <| P1 (setLen l2 (Int.toNat i1) (Gi_Kind.mk r2 x4.Strength x4.Moves x4.Steps x4.Zone x4.View)) <| P1 h5 <| P1 (int_lt_of_at h5 hx6) <| P1 (lt_of_at hx6) <| P2 (setCells (List.map gi_Kind (List.set l2 (Int.toNat i1) (Gi_Kind.mk r2 x4.Strength x4.Moves x4.Steps x4.Zone x4.View))) (Int.toNat i1) 1 [I (IntKind.wrap .i64 (k0 + 1))] = List.map gi_Kind (List.set (List.set l2 (Int.toNat i1) (Gi_Kind.mk r2 x4.Strength x4.Moves x4.Steps x4.Zone x4.View)) (Int.toNat i1) (Gi_Kind.mk x6.Name (IntKind.wrap .i64 (k0 + 1)) x6.Moves x6.Steps x6.Zone x6.View))) (setCells_map hx6 rfl) <| P1 (setLen (List.set l2 (Int.toNat i1) (Gi_Kind.mk r2 x4.Strength x4.Moves x4.Steps x4.Zone x4.View)) (Int.toNat i1) (Gi_Kind.mk x6.Name (IntKind.wrap .i64 (k0 + 1)) x6.Moves x6.Steps x6.Zone x6.View)) <| P1 h7 <| P1 (int_lt_of_at h7 hx8) <| P1 (lt_of_at hx8) <| P2 (setCells (List.map gi_Kind (List.set (List.set l2 (Int.toNat i1) (Gi_Kind.mk r2 x4.Strength x4.Moves x4.Steps x4.Zone x4.View)) (Int.toNat i1) (Gi_Kind.mk x6.Name (IntKind.wrap .i64 (k0 + 1)) x6.Moves x6.Steps x6.Zone x6.View))) (Int.toNat i1) 2 [I (IntKind.wrap .i64 ((IntKind.wrap .i64 (k0 + 1)) + 1))] = List.map gi_Kind (List.set (List.set (List.set l2 (Int.toNat i1) (Gi_Kind.mk r2 x4.Strength x4.Moves x4.Steps x4.Zone x4.View)) (Int.toNat i1) (Gi_Kind.mk x6.Name (IntKind.wrap .i64 (k0 + 1)) x6.Moves x6.Steps x6.Zone x6.View)) (Int.toNat i1) (Gi_Kind.mk x8.Name x8.Strength (IntKind.wrap .i64 ((IntKind.wrap .i64 (k0 + 1)) + 1)) x8.Steps x8.Zone x8.View))) (setCells_map hx8 rfl) <| P1 (setLen (List.set (List.set l2 (Int.toNat i1) (Gi_Kind.mk r2 x4.Strength x4.Moves x4.Steps x4.Zone x4.View)) (Int.toNat i1) (Gi_Kind.mk x6.Name (IntKind.wrap .i64 (k0 + 1)) x6.Moves x6.Steps x6.Zone x6.View)) (Int.toNat i1) (Gi_Kind.mk x8.Name x8.Strength (IntKind.wrap .i64 ((IntKind.wrap .i64 (k0 + 1)) + 1)) x8.Steps x8.Zone x8.View)) <| P1 h9 <| P1 (int_lt_of_at h9 hx10) <| P1 (lt_of_at hx10) <| P2 (setCells (List.map gi_Kind (List.set (List.set (List.set l2 (Int.toNat i1) (Gi_Kind.mk r2 x4.Strength x4.Moves x4.Steps x4.Zone x4.View)) (Int.toNat i1) (Gi_Kind.mk x6.Name (IntKind.wrap .i64 (k0 + 1)) x6.Moves x6.Steps x6.Zone x6.View)) (Int.toNat i1) (Gi_Kind.mk x8.Name x8.Strength (IntKind.wrap .i64 ((IntKind.wrap .i64 (k0 + 1)) + 1)) x8.Steps x8.Zone x8.View))) (Int.toNat i1) 3 [I (IntKind.wrap .i64 ((IntKind.wrap .i64 ((IntKind.wrap .i64 (k0 + 1)) + 1)) + 1))] = List.map gi_Kind (List.set (List.set (List.set (List.set l2 (Int.toNat i1) (Gi_Kind.mk r2 x4.Strength x4.Moves x4.Steps x4.Zone x4.View)) (Int.toNat i1) (Gi_Kind.mk x6.Name (IntKind.wrap .i64 (k0 + 1)) x6.Moves x6.Steps x6.Zone x6.View)) (Int.toNat i1) (Gi_Kind.mk x8.Name x8.Strength (IntKind.wrap .i64 ((IntKind.wrap .i64 (k0 + 1)) + 1)) x8.Steps x8.Zone x8.View)) (Int.toNat i1) (Gi_Kind.mk x10.Name x10.Strength x10.Moves (IntKind.wrap .i64 ((IntKind.wrap .i64 ((IntKind.wrap .i64 (k0 + 1)) + 1)) + 1)) x10.Zone x10.View))) (setCells_map hx10 rfl) <| P1 (setLen (List.set (List.set (List.set l2 (Int.toNat i1) (Gi_Kind.mk r2 x4.Strength x4.Moves x4.Steps x4.Zone x4.View)) (Int.toNat i1) (Gi_Kind.mk x6.Name (IntKind.wrap .i64 (k0 + 1)) x6.Moves x6.Steps x6.Zone x6.View)) (Int.toNat i1) (Gi_Kind.mk x8.Name x8.Strength (IntKind.wrap .i64 ((IntKind.wrap .i64 (k0 + 1)) + 1)) x8.Steps x8.Zone x8.View)) (Int.toNat i1) (Gi_Kind.mk x10.Name x10.Strength x10.Moves (IntKind.wrap .i64 ((IntKind.wrap .i64 ((IntKind.wrap .i64 (k0 + 1)) + 1)) + 1)) x10.Zone x10.View)) <| P2 (¬ (3 : Int) = 0) (by decide) <| P1 h11 <| P1 (int_lt_of_at h11 hx12) <| P1 (lt_of_at hx12) <| P2 (setCells (List.map gi_Kind (List.set (List.set (List.set (List.set l2 (Int.toNat i1) (Gi_Kind.mk r2 x4.Strength x4.Moves x4.Steps x4.Zone x4.View)) (Int.toNat i1) (Gi_Kind.mk x6.Name (IntKind.wrap .i64 (k0 + 1)) x6.Moves x6.Steps x6.Zone x6.View)) (Int.toNat i1) (Gi_Kind.mk x8.Name x8.Strength (IntKind.wrap .i64 ((IntKind.wrap .i64 (k0 + 1)) + 1)) x8.Steps x8.Zone x8.View)) (Int.toNat i1) (Gi_Kind.mk x10.Name x10.Strength x10.Moves (IntKind.wrap .i64 ((IntKind.wrap .i64 ((IntKind.wrap .i64 (k0 + 1)) + 1)) + 1)) x10.Zone x10.View))) (Int.toNat i1) 4 [.bool (((Int.tmod (IntKind.wrap .i64 ((IntKind.wrap .i64 ((IntKind.wrap .i64 ((IntKind.wrap .i64 (k0 + 1)) + 1)) + 1)) + 1)) 3) : Int) == 0)] = List.map gi_Kind (List.set (List.set (List.set (List.set (List.set l2 (Int.toNat i1) (Gi_Kind.mk r2 x4.Strength x4.Moves x4.Steps x4.Zone x4.View)) (Int.toNat i1) (Gi_Kind.mk x6.Name (IntKind.wrap .i64 (k0 + 1)) x6.Moves x6.Steps x6.Zone x6.View)) (Int.toNat i1) (Gi_Kind.mk x8.Name x8.Strength (IntKind.wrap .i64 ((IntKind.wrap .i64 (k0 + 1)) + 1)) x8.Steps x8.Zone x8.View)) (Int.toNat i1) (Gi_Kind.mk x10.Name x10.Strength x10.Moves (IntKind.wrap .i64 ((IntKind.wrap .i64 ((IntKind.wrap .i64 (k0 + 1)) + 1)) + 1)) x10.Zone x10.View)) (Int.toNat i1) (Gi_Kind.mk x12.Name x12.Strength x12.Moves x12.Steps (((Int.tmod (IntKind.wrap .i64 ((IntKind.wrap .i64 ((IntKind.wrap .i64 ((IntKind.wrap .i64 (k0 + 1)) + 1)) + 1)) + 1)) 3) : Int) == 0) x12.View))) (setCells_map hx12 rfl) <| P1 (setLen (List.set (List.set (List.set (List.set l2 (Int.toNat i1) (Gi_Kind.mk r2 x4.Strength x4.Moves x4.Steps x4.Zone x4.View)) (Int.toNat i1) (Gi_Kind.mk x6.Name (IntKind.wrap .i64 (k0 + 1)) x6.Moves x6.Steps x6.Zone x6.View)) (Int.toNat i1) (Gi_Kind.mk x8.Name x8.Strength (IntKind.wrap .i64 ((IntKind.wrap .i64 (k0 + 1)) + 1)) x8.Steps x8.Zone x8.View)) (Int.toNat i1) (Gi_Kind.mk x10.Name x10.Strength x10.Moves (IntKind.wrap .i64 ((IntKind.wrap .i64 ((IntKind.wrap .i64 (k0 + 1)) + 1)) + 1)) x10.Zone x10.View)) (Int.toNat i1) (Gi_Kind.mk x12.Name x12.Strength x12.Moves x12.Steps (((Int.tmod (IntKind.wrap .i64 ((IntKind.wrap .i64 ((IntKind.wrap .i64 ((IntKind.wrap .i64 (k0 + 1)) + 1)) + 1)) + 1)) 3) : Int) == 0) x12.View)) <| P1 h13 <| P1 (int_lt_of_at h13 hx14) <| P1 (lt_of_at hx14) <| P2 (setCells (List.map gi_Kind (List.set (List.set (List.set (List.set (List.set l2 (Int.toNat i1) (Gi_Kind.mk r2 x4.Strength x4.Moves x4.Steps x4.Zone x4.View)) (Int.toNat i1) (Gi_Kind.mk x6.Name (IntKind.wrap .i64 (k0 + 1)) x6.Moves x6.Steps x6.Zone x6.View)) (Int.toNat i1) (Gi_Kind.mk x8.Name x8.Strength (IntKind.wrap .i64 ((IntKind.wrap .i64 (k0 + 1)) + 1)) x8.Steps x8.Zone x8.View)) (Int.toNat i1) (Gi_Kind.mk x10.Name x10.Strength x10.Moves (IntKind.wrap .i64 ((IntKind.wrap .i64 ((IntKind.wrap .i64 (k0 + 1)) + 1)) + 1)) x10.Zone x10.View)) (Int.toNat i1) (Gi_Kind.mk x12.Name x12.Strength x12.Moves x12.Steps (((Int.tmod (IntKind.wrap .i64 ((IntKind.wrap .i64 ((IntKind.wrap .i64 ((IntKind.wrap .i64 (k0 + 1)) + 1)) + 1)) + 1)) 3) : Int) == 0) x12.View))) (Int.toNat i1) 5 [I (IntKind.wrap .i64 ((IntKind.wrap .i64 ((IntKind.wrap .i64 ((IntKind.wrap .i64 ((IntKind.wrap .i64 (k0 + 1)) + 1)) + 1)) + 1)) + 1))] = List.map gi_Kind (List.set (List.set (List.set (List.set (List.set (List.set l2 (Int.toNat i1) (Gi_Kind.mk r2 x4.Strength x4.Moves x4.Steps x4.Zone x4.View)) (Int.toNat i1) (Gi_Kind.mk x6.Name (IntKind.wrap .i64 (k0 + 1)) x6.Moves x6.Steps x6.Zone x6.View)) (Int.toNat i1) (Gi_Kind.mk x8.Name x8.Strength (IntKind.wrap .i64 ((IntKind.wrap .i64 (k0 + 1)) + 1)) x8.Steps x8.Zone x8.View)) (Int.toNat i1) (Gi_Kind.mk x10.Name x10.Strength x10.Moves (IntKind.wrap .i64 ((IntKind.wrap .i64 ((IntKind.wrap .i64 (k0 + 1)) + 1)) + 1)) x10.Zone x10.View)) (Int.toNat i1) (Gi_Kind.mk x12.Name x12.Strength x12.Moves x12.Steps (((Int.tmod (IntKind.wrap .i64 ((IntKind.wrap .i64 ((IntKind.wrap .i64 ((IntKind.wrap .i64 (k0 + 1)) + 1)) + 1)) + 1)) 3) : Int) == 0) x12.View)) (Int.toNat i1) (Gi_Kind.mk x14.Name x14.Strength x14.Moves x14.Steps x14.Zone (IntKind.wrap .i64 ((IntKind.wrap .i64 ((IntKind.wrap .i64 ((IntKind.wrap .i64 ((IntKind.wrap .i64 (k0 + 1)) + 1)) + 1)) + 1)) + 1))))) (setCells_map hx14 rfl) <| P1 (setLen (List.set (List.set (List.set (List.set (List.set l2 (Int.toNat i1) (Gi_Kind.mk r2 x4.Strength x4.Moves x4.Steps x4.Zone x4.View)) (Int.toNat i1) (Gi_Kind.mk x6.Name (IntKind.wrap .i64 (k0 + 1)) x6.Moves x6.Steps x6.Zone x6.View)) (Int.toNat i1) (Gi_Kind.mk x8.Name x8.Strength (IntKind.wrap .i64 ((IntKind.wrap .i64 (k0 + 1)) + 1)) x8.Steps x8.Zone x8.View)) (Int.toNat i1) (Gi_Kind.mk x10.Name x10.Strength x10.Moves (IntKind.wrap .i64 ((IntKind.wrap .i64 ((IntKind.wrap .i64 (k0 + 1)) + 1)) + 1)) x10.Zone x10.View)) (Int.toNat i1) (Gi_Kind.mk x12.Name x12.Strength x12.Moves x12.Steps (((Int.tmod (IntKind.wrap .i64 ((IntKind.wrap .i64 ((IntKind.wrap .i64 ((IntKind.wrap .i64 (k0 + 1)) + 1)) + 1)) + 1)) 3) : Int) == 0) x12.View)) (Int.toNat i1) (Gi_Kind.mk x14.Name x14.Strength x14.Moves x14.Steps x14.Zone (IntKind.wrap .i64 ((IntKind.wrap .i64 ((IntKind.wrap .i64 ((IntKind.wrap .i64 ((IntKind.wrap .i64 (k0 + 1)) + 1)) + 1)) + 1)) + 1)))) <| P0) hn)
    (fun h1 H =>
      eN H <| gE func155 [rg [hF 3], r0] (by kernel_rfl) (P2 ((decide (i1 < ((l2.length : Nat) : Int))) = false) (decide_eq_false h1) <| P0))
theorem ww_markKindS : ∀ s r, loop Bw_markKindS s = some r → Wc X 155 1 (Kw_markKindS s) (Zw_markKindS s) (Rw_markKindS r) (Nw_markKindS r) := Nx.all nw_markKindS
theorem cw_markKindS {a0 : (List Gi_Kind)} {a1 : Int} {r : Int × (List Gi_Kind)} (H : Dw_markKindS a0 a1 = some r) : Ct X.P X.gl 155 [.ref 0 6 none, I a1] [⟨false, false, 6, a0.length, List.map gi_Kind a0⟩] (Rw_markKindS r) (Nw_markKindS r) :=
  Ct.of func155 (c := bdy f155) (by kernel_rfl) (by kernel_rfl) <|
  gO [r0, r0, .canon [0] [0, 1, 5]] (by kernel_rfl) P0 (ww_markKindS _ _ H)
/-! loop example/g00886/laws markRules -/
def Rw_markRules (r : Int × (List Gi_Terrain) × (List Gi_Kind)) : List D := [I r.1]
def Nw_markRules (r : Int × (List Gi_Terrain) × (List Gi_Kind)) : List Root := [⟨false, false, 5, r.2.1.length, List.map goi_Terrain r.2.1⟩, ⟨false, false, 6, r.2.2.length, List.map gi_Kind r.2.2⟩]
theorem cw_markRules {a0 : Gi_Rules} {a1 : Int} {r : Int × (List Gi_Terrain) × (List Gi_Kind)} (H : Dw_markRules a0 a1 = some r) : Ct X.P X.gl 110 [.agg [.ref 0 5 none, .ref 1 6 none, I a0.Stack, I a0.River, I a0.Road, I a0.Supply, I a0.Turns], I a1] [⟨false, false, 5, a0.Terrains.length, List.map goi_Terrain a0.Terrains⟩, ⟨false, false, 6, a0.Kinds.length, List.map gi_Kind a0.Kinds⟩] (Rw_markRules r) (Nw_markRules r) :=
  Ct.of func110 (c := bdy f110) (by kernel_rfl) (by kernel_rfl) <|
  eBind H fun r1 hr1 H =>
  eCk H fun h2 H =>
  eBind H fun r3 hr3 H =>
  eCk H fun h4 H =>
  eW Rw_markRules Nw_markRules H <| gE func110 [r0, rg [{ i := 3, call := some { cl := true, ins := [0], args := [.ref 0 5 none, I a1], res := Rw_markTerrainS r1, G' := Nw_markTerrainS r1 } }], rg [hC 3 true [1] (Rw_markKindS r3) (Nw_markKindS r3)], r0] (by kernel_rfl) (PI (none : Option (Nat × Nat)) <| PI (a1 : Int) <| P1 h2 <| P1 (cw_markTerrainS hr1) <| P1 h4 <| P1 (cw_markKindS hr3) <| P0)
/-! loop example/g00886/laws markMap -/
def Rw_markMap (r : Int × (List Int) × (List Int) × (List Int)) : List D := [I r.1]
def Nw_markMap (r : Int × (List Int) × (List Int) × (List Int)) : List Root := [⟨false, false, 1, r.2.1.length, List.map I r.2.1⟩, ⟨false, false, 1, r.2.2.1.length, List.map I r.2.2.1⟩, ⟨false, false, 1, r.2.2.2.length, List.map I r.2.2.2⟩]
theorem cw_markMap {a0 : Gi_Map} {a1 : Int} {r : Int × (List Int) × (List Int) × (List Int)} (H : Dw_markMap a0 a1 = some r) : Ct X.P X.gl 111 [.agg [I a0.Width, I a0.Height, .ref 0 1 none, .ref 1 1 none, .ref 2 1 none], I a1] [⟨false, false, 1, a0.Terrain.length, List.map I a0.Terrain⟩, ⟨false, false, 1, a0.Rivers.length, List.map I a0.Rivers⟩, ⟨false, false, 1, a0.Roads.length, List.map I a0.Roads⟩] (Rw_markMap r) (Nw_markMap r) :=
  Ct.of func111 (c := bdy f111) (by kernel_rfl) (by kernel_rfl) <|
  eBind H fun r1 hr1 H =>
  eCk H fun h2 H =>
  eBind H fun r3 hr3 H =>
  eCk H fun h4 H =>
  eBind H fun r5 hr5 H =>
  eCk H fun h6 H =>
  eW Rw_markMap Nw_markMap H <| gE func111 [r0, rg [hC 3 true [0] (Rw_markIntS r1) (Nw_markIntS r1)], rg [hC 3 true [1] (Rw_markIntS r3) (Nw_markIntS r3)], rg [hC 3 true [2] (Rw_markIntS r5) (Nw_markIntS r5)], r0] (by kernel_rfl) (P1 h2 <| P1 (cw_markIntS hr1) <| P1 h4 <| P1 (cw_markIntS hr3) <| P1 h6 <| P1 (cw_markIntS hr5) <| P0)
/-! loop example/g00886/laws markBoard -/
def Rw_markBoard (r : Int × (List Gi_Terrain) × (List Gi_Kind) × (List Int) × (List Int) × (List Int)) : List D := [I r.1]
def Nw_markBoard (r : Int × (List Gi_Terrain) × (List Gi_Kind) × (List Int) × (List Int) × (List Int)) : List Root := [⟨false, false, 5, r.2.1.length, List.map goi_Terrain r.2.1⟩, ⟨false, false, 6, r.2.2.1.length, List.map gi_Kind r.2.2.1⟩, ⟨false, false, 1, r.2.2.2.1.length, List.map I r.2.2.2.1⟩, ⟨false, false, 1, r.2.2.2.2.1.length, List.map I r.2.2.2.2.1⟩, ⟨false, false, 1, r.2.2.2.2.2.length, List.map I r.2.2.2.2.2⟩]
theorem cw_markBoard {a0 : Gi_Board} {a1 : Int} {r : Int × (List Gi_Terrain) × (List Gi_Kind) × (List Int) × (List Int) × (List Int)} (H : Dw_markBoard a0 a1 = some r) : Ct X.P X.gl 59 [.agg [.ref 0 5 none, .ref 1 6 none, I a0.Rules.Stack, I a0.Rules.River, I a0.Rules.Road, I a0.Rules.Supply, I a0.Rules.Turns, I a0.Map.Width, I a0.Map.Height, .ref 2 1 none, .ref 3 1 none, .ref 4 1 none], I a1] [⟨false, false, 5, a0.Rules.Terrains.length, List.map goi_Terrain a0.Rules.Terrains⟩, ⟨false, false, 6, a0.Rules.Kinds.length, List.map gi_Kind a0.Rules.Kinds⟩, ⟨false, false, 1, a0.Map.Terrain.length, List.map I a0.Map.Terrain⟩, ⟨false, false, 1, a0.Map.Rivers.length, List.map I a0.Map.Rivers⟩, ⟨false, false, 1, a0.Map.Roads.length, List.map I a0.Map.Roads⟩] (Rw_markBoard r) (Nw_markBoard r) :=
  Ct.of func59 (c := bdy f59) (by kernel_rfl) (by kernel_rfl) <|
  eBind H fun r1 hr1 H =>
  eCk H fun h2 H =>
  eCk H fun h3 H =>
  eBind H fun r4 hr4 H =>
  eCk H fun h5 H =>
  eCk H fun h6 H =>
  eCk H fun h7 H =>
  eW Rw_markBoard Nw_markBoard H <| gE func59 [r0, rg [{ i := 3, call := some { cl := true, ins := [0, 1], args := [.agg [.ref 0 5 none, .ref 1 6 none, I a0.Rules.Stack, I a0.Rules.River, I a0.Rules.Road, I a0.Rules.Supply, I a0.Rules.Turns], I a1], res := Rw_markRules r1, G' := Nw_markRules r1 } }], rg [hC 3 true [2, 3, 4] (Rw_markMap r4) (Nw_markMap r4)], r0] (by kernel_rfl) (PI (none : Option (Nat × Nat)) <| PI (none : Option (Nat × Nat)) <| PI (a0.Rules.Stack : Int) <| PI (a0.Rules.River : Int) <| PI (a0.Rules.Road : Int) <| PI (a0.Rules.Supply : Int) <| PI (a0.Rules.Turns : Int) <| PI (a1 : Int) <| P1 h2 <| P1 h3 <| P1 (cw_markRules hr1) <| P1 h5 <| P1 h6 <| P1 h7 <| P1 (cw_markMap hr4) <| P0)
/-! loop example/g00886/laws markOddsS -/
def Rw_markOddsS (r : Int × (List Gi_Odds)) : List D := [I r.1]
def Nw_markOddsS (r : Int × (List Gi_Odds)) : List Root := [⟨false, false, 2, r.2.length, List.map gi_Odds r.2⟩]
noncomputable def Kw_markOddsS : Sw_markOddsS → List Item
  | .h1 .. => nav 300 2 [] [.code (bdy f112)]
def Zw_markOddsS : Sw_markOddsS → St
  | .h1 k0 i1 l2 => ⟨sts 27 [(0, .ref 0 2 none), (1, I k0), (5, I i1)], [some ⟨false, false, 2, l2.length, List.map gi_Odds l2⟩]⟩
abbrev Qw_markOddsS := Nx X 112 1 Kw_markOddsS Zw_markOddsS Rw_markOddsS Nw_markOddsS
theorem nw_markOddsS : ∀ s o, Bw_markOddsS s = some o → Qw_markOddsS (Kw_markOddsS s) (Zw_markOddsS s) o
  | .h1 k0 i1 l2, o, H =>
    eIf H (fun h1 H =>
      eCk H fun h2 H =>
      eBind H fun x3 hx3 H =>
      eCk H fun h4 H =>
      eBind H fun x5 hx5 H =>
      eN H fun r hn => gO [rg [hT 3], rg [hA 5 ((List.set l2 (Int.toNat i1) (Gi_Odds.mk k0 x3.Den)).length) (List.map gi_Odds (List.set l2 (Int.toNat i1) (Gi_Odds.mk k0 x3.Den)))], r0, rg [hA 5 ((List.set (List.set l2 (Int.toNat i1) (Gi_Odds.mk k0 x3.Den)) (Int.toNat i1) (Gi_Odds.mk x5.Num (IntKind.wrap .i64 (k0 + 1)))).length) (List.map gi_Odds (List.set (List.set l2 (Int.toNat i1) (Gi_Odds.mk k0 x3.Den)) (Int.toNat i1) (Gi_Odds.mk x5.Num (IntKind.wrap .i64 (k0 + 1)))))], r0, r0, .canon [0] [0, 1, 5]] (by kernel_rfl) (P2 ((decide (i1 < ((l2.length : Nat) : Int))) = true) (decide_eq_true h1) <| P1 h2 <| P1 (int_lt_of_at h2 hx3) <| P1 (lt_of_at hx3) <| P2 (setCells (List.map gi_Odds l2) (Int.toNat i1) 0 [I k0] = List.map gi_Odds (List.set l2 (Int.toNat i1) (Gi_Odds.mk k0 x3.Den))) (setCells_map hx3 rfl) <| P1 (setLen l2 (Int.toNat i1) (Gi_Odds.mk k0 x3.Den)) <| P1 h4 <| P1 (int_lt_of_at h4 hx5) <| P1 (lt_of_at hx5) <| P2 (setCells (List.map gi_Odds (List.set l2 (Int.toNat i1) (Gi_Odds.mk k0 x3.Den))) (Int.toNat i1) 1 [I (IntKind.wrap .i64 (k0 + 1))] = List.map gi_Odds (List.set (List.set l2 (Int.toNat i1) (Gi_Odds.mk k0 x3.Den)) (Int.toNat i1) (Gi_Odds.mk x5.Num (IntKind.wrap .i64 (k0 + 1))))) (setCells_map hx5 rfl) <| P1 (setLen (List.set l2 (Int.toNat i1) (Gi_Odds.mk k0 x3.Den)) (Int.toNat i1) (Gi_Odds.mk x5.Num (IntKind.wrap .i64 (k0 + 1)))) <| P0) hn)
    (fun h1 H =>
      eN H <| gE func112 [rg [hF 3], r0] (by kernel_rfl) (P2 ((decide (i1 < ((l2.length : Nat) : Int))) = false) (decide_eq_false h1) <| P0))
theorem ww_markOddsS : ∀ s r, loop Bw_markOddsS s = some r → Wc X 112 1 (Kw_markOddsS s) (Zw_markOddsS s) (Rw_markOddsS r) (Nw_markOddsS r) := Nx.all nw_markOddsS
theorem cw_markOddsS {a0 : (List Gi_Odds)} {a1 : Int} {r : Int × (List Gi_Odds)} (H : Dw_markOddsS a0 a1 = some r) : Ct X.P X.gl 112 [.ref 0 2 none, I a1] [⟨false, false, 2, a0.length, List.map gi_Odds a0⟩] (Rw_markOddsS r) (Nw_markOddsS r) :=
  Ct.of func112 (c := bdy f112) (by kernel_rfl) (by kernel_rfl) <|
  gO [r0, r0, .canon [0] [0, 1, 5]] (by kernel_rfl) P0 (ww_markOddsS _ _ H)
/-! loop example/g00886/laws markIntSS -/
def Rw_markIntSS (r : Int × (List (List Int))) : List D := [I r.1]
def Nw_markIntSS (r : Int × (List (List Int))) : List Root := [⟨false, false, 1, r.2.length, List.map (ow 1 I) r.2⟩]
noncomputable def Kw_markIntSS : Sw_markIntSS → List Item
  | .h1 .. => nav 300 2 [] [.code (bdy f113)]
def Zw_markIntSS : Sw_markIntSS → St
  | .h1 k0 i1 l2 => ⟨sts 19 [(0, .ref 0 1 none), (1, I k0), (5, I i1)], [some ⟨false, false, 1, l2.length, List.map (ow 1 I) l2⟩]⟩
abbrev Qw_markIntSS := Nx X 113 1 Kw_markIntSS Zw_markIntSS Rw_markIntSS Nw_markIntSS
theorem nw_markIntSS : ∀ s o, Bw_markIntSS s = some o → Qw_markIntSS (Kw_markIntSS s) (Zw_markIntSS s) o
  | .h1 k0 i1 l2, o, H =>
    eIf H (fun h1 H =>
      eCk H fun h2 H =>
      eBind H fun x3 hx3 H =>
      eBind H fun r4 hr4 H =>
      eCk H fun h5 H =>
      eN H fun r hn => gO [rg [hT 3], rg [{ i := 3, pre := [.take 0 (Int.toNat i1) 0 1 x3.length (List.map I x3) (List.set (List.map (ow 1 I) l2) (Int.toNat i1) (.ref 1 1 none))], el := some (.ref 1 1 none) }, { i := 5, call := some { cl := true, auto := true, ins := [1], res := (Rw_markIntS r4), G' := (Nw_markIntS r4) }, post := [.put 0 (Int.toNat i1) 0 1 (List.map (ow 1 I) (List.set l2 (Int.toNat i1) r4.2)), .own 0 (List.set l2 (Int.toNat i1) r4.2).length], xtra := [0] }], r0, .canon [0] [0, 1, 5]] (by kernel_rfl) (P2 ((decide (i1 < ((l2.length : Nat) : Int))) = true) (decide_eq_true h1) <| P1 h2 <| P1 (int_lt_of_at h2 hx3) <| P2 (getCells (List.map (ow 1 I) l2) (Int.toNat i1) 0 1 = some [ow 1 I x3]) (getCells_at hx3 rfl) <| P2 (setCells (List.map (ow 1 I) l2) (Int.toNat i1) 0 [.ref 1 1 none] = List.set (List.map (ow 1 I) l2) (Int.toNat i1) (.ref 1 1 none)) (setCells_mapD hx3 rfl) <| P1 (at_set (f := (ow 1 I)) (.ref 1 1 none) hx3) <| P1 h5 <| P1 (cw_markIntS hr4) <| P2 (getCells (List.set (List.map (ow 1 I) l2) (Int.toNat i1) (.ref 1 1 none)) (Int.toNat i1) 0 1 = some [.ref 1 1 none]) (getCells_set hx3 rfl) <| P2 (setCells (List.set (List.map (ow 1 I) l2) (Int.toNat i1) (.ref 1 1 none)) (Int.toNat i1) 0 [ow 1 I r4.2] = List.map (ow 1 I) (List.set l2 (Int.toNat i1) r4.2)) (setCells_set hx3 rfl) <| P1 (allOw_26 (List.set l2 (Int.toNat i1) r4.2)) <| P1 (setLen l2 (Int.toNat i1) r4.2) <| P0) hn)
    (fun h1 H =>
      eN H <| gE func113 [rg [hF 3], r0] (by kernel_rfl) (P2 ((decide (i1 < ((l2.length : Nat) : Int))) = false) (decide_eq_false h1) <| P0))
theorem ww_markIntSS : ∀ s r, loop Bw_markIntSS s = some r → Wc X 113 1 (Kw_markIntSS s) (Zw_markIntSS s) (Rw_markIntSS r) (Nw_markIntSS r) := Nx.all nw_markIntSS
theorem cw_markIntSS {a0 : (List (List Int))} {a1 : Int} {r : Int × (List (List Int))} (H : Dw_markIntSS a0 a1 = some r) : Ct X.P X.gl 113 [.ref 0 1 none, I a1] [⟨false, false, 1, a0.length, List.map (ow 1 I) a0⟩] (Rw_markIntSS r) (Nw_markIntSS r) :=
  Ct.of func113 (c := bdy f113) (by kernel_rfl) (by kernel_rfl) <|
  gO [r0, r0, .canon [0] [0, 1, 5]] (by kernel_rfl) P0 (ww_markIntSS _ _ H)
/-! loop example/g00886/laws markCombatTable -/
def Rw_markCombatTable (r : Int × (List Gi_Odds) × (List (List Int))) : List D := [I r.1]
def Nw_markCombatTable (r : Int × (List Gi_Odds) × (List (List Int))) : List Root := [⟨false, false, 2, r.2.1.length, List.map gi_Odds r.2.1⟩, ⟨false, false, 1, r.2.2.length, List.map (ow 1 I) r.2.2⟩]
theorem cw_markCombatTable {a0 : Gi_CombatTable} {a1 : Int} {r : Int × (List Gi_Odds) × (List (List Int))} (H : Dw_markCombatTable a0 a1 = some r) : Ct X.P X.gl 60 [.agg [.ref 0 2 none, I a0.Dice, .ref 1 1 none], I a1] [⟨false, false, 2, a0.Columns.length, List.map gi_Odds a0.Columns⟩, ⟨false, false, 1, a0.Results.length, List.map (ow 1 I) a0.Results⟩] (Rw_markCombatTable r) (Nw_markCombatTable r) :=
  Ct.of func60 (c := bdy f60) (by kernel_rfl) (by kernel_rfl) <|
  eBind H fun r1 hr1 H =>
  eCk H fun h2 H =>
  eBind H fun r3 hr3 H =>
  eCk H fun h4 H =>
  eW Rw_markCombatTable Nw_markCombatTable H <| gE func60 [r0, rg [hC 3 true [0] (Rw_markOddsS r1) (Nw_markOddsS r1)], rg [{ i := 3, call := some { cl := true, ins := [1], args := [.ref 0 1 none, I r1.1], res := Rw_markIntSS r3, G' := Nw_markIntSS r3 } }], r0] (by kernel_rfl) (P1 h2 <| P1 (cw_markOddsS hr1) <| PI (none : Option (Nat × Nat)) <| PI (r1.1 : Int) <| P1 h4 <| P1 (cw_markIntSS hr3) <| P0)
/-! loop example/g00886/laws markUnitS -/
def Rw_markUnitS (r : Int × (List Gi_Unit)) : List D := [I r.1]
def Nw_markUnitS (r : Int × (List Gi_Unit)) : List Root := [⟨false, false, 4, r.2.length, List.map gi_Unit r.2⟩]
noncomputable def Kw_markUnitS : Sw_markUnitS → List Item
  | .h1 .. => nav 300 2 [] [.code (bdy f114)]
def Zw_markUnitS : Sw_markUnitS → St
  | .h1 k0 i1 l2 => ⟨sts 41 [(0, .ref 0 4 none), (1, I k0), (5, I i1)], [some ⟨false, false, 4, l2.length, List.map gi_Unit l2⟩]⟩
abbrev Qw_markUnitS := Nx X 114 1 Kw_markUnitS Zw_markUnitS Rw_markUnitS Nw_markUnitS
theorem nw_markUnitS : ∀ s o, Bw_markUnitS s = some o → Qw_markUnitS (Kw_markUnitS s) (Zw_markUnitS s) o
  | .h1 k0 i1 l2, o, H =>
    eIf H (fun h1 H =>
      eCk H fun h2 H =>
      eBind H fun x3 hx3 H =>
      eCk H fun h4 H =>
      eBind H fun x5 hx5 H =>
      eCk H fun h6 H =>
      eBind H fun x7 hx7 H =>
      eCk H fun h8 H =>
      eBind H fun x9 hx9 H =>
      eN H fun r hn => gO [rg [hT 3], rg [hA 5 ((List.set l2 (Int.toNat i1) (Gi_Unit.mk k0 x3.Kind x3.At x3.Steps)).length) (List.map gi_Unit (List.set l2 (Int.toNat i1) (Gi_Unit.mk k0 x3.Kind x3.At x3.Steps)))], r0, rg [hA 5 ((List.set (List.set l2 (Int.toNat i1) (Gi_Unit.mk k0 x3.Kind x3.At x3.Steps)) (Int.toNat i1) (Gi_Unit.mk x5.Side (IntKind.wrap .i64 (k0 + 1)) x5.At x5.Steps)).length) (List.map gi_Unit (List.set (List.set l2 (Int.toNat i1) (Gi_Unit.mk k0 x3.Kind x3.At x3.Steps)) (Int.toNat i1) (Gi_Unit.mk x5.Side (IntKind.wrap .i64 (k0 + 1)) x5.At x5.Steps)))], r0, rg [hA 5 ((List.set (List.set (List.set l2 (Int.toNat i1) (Gi_Unit.mk k0 x3.Kind x3.At x3.Steps)) (Int.toNat i1) (Gi_Unit.mk x5.Side (IntKind.wrap .i64 (k0 + 1)) x5.At x5.Steps)) (Int.toNat i1) (Gi_Unit.mk x7.Side x7.Kind (IntKind.wrap .i64 ((IntKind.wrap .i64 (k0 + 1)) + 1)) x7.Steps)).length) (List.map gi_Unit (List.set (List.set (List.set l2 (Int.toNat i1) (Gi_Unit.mk k0 x3.Kind x3.At x3.Steps)) (Int.toNat i1) (Gi_Unit.mk x5.Side (IntKind.wrap .i64 (k0 + 1)) x5.At x5.Steps)) (Int.toNat i1) (Gi_Unit.mk x7.Side x7.Kind (IntKind.wrap .i64 ((IntKind.wrap .i64 (k0 + 1)) + 1)) x7.Steps)))], r0, rg [hA 5 ((List.set (List.set (List.set (List.set l2 (Int.toNat i1) (Gi_Unit.mk k0 x3.Kind x3.At x3.Steps)) (Int.toNat i1) (Gi_Unit.mk x5.Side (IntKind.wrap .i64 (k0 + 1)) x5.At x5.Steps)) (Int.toNat i1) (Gi_Unit.mk x7.Side x7.Kind (IntKind.wrap .i64 ((IntKind.wrap .i64 (k0 + 1)) + 1)) x7.Steps)) (Int.toNat i1) (Gi_Unit.mk x9.Side x9.Kind x9.At (IntKind.wrap .i64 ((IntKind.wrap .i64 ((IntKind.wrap .i64 (k0 + 1)) + 1)) + 1)))).length) (List.map gi_Unit (List.set (List.set (List.set (List.set l2 (Int.toNat i1) (Gi_Unit.mk k0 x3.Kind x3.At x3.Steps)) (Int.toNat i1) (Gi_Unit.mk x5.Side (IntKind.wrap .i64 (k0 + 1)) x5.At x5.Steps)) (Int.toNat i1) (Gi_Unit.mk x7.Side x7.Kind (IntKind.wrap .i64 ((IntKind.wrap .i64 (k0 + 1)) + 1)) x7.Steps)) (Int.toNat i1) (Gi_Unit.mk x9.Side x9.Kind x9.At (IntKind.wrap .i64 ((IntKind.wrap .i64 ((IntKind.wrap .i64 (k0 + 1)) + 1)) + 1)))))], r0, r0, .canon [0] [0, 1, 5]] (by kernel_rfl) (P2 ((decide (i1 < ((l2.length : Nat) : Int))) = true) (decide_eq_true h1) <| P1 h2 <| P1 (int_lt_of_at h2 hx3) <| P1 (lt_of_at hx3) <| P2 (setCells (List.map gi_Unit l2) (Int.toNat i1) 0 [I k0] = List.map gi_Unit (List.set l2 (Int.toNat i1) (Gi_Unit.mk k0 x3.Kind x3.At x3.Steps))) (setCells_map hx3 rfl) <| P1 (setLen l2 (Int.toNat i1) (Gi_Unit.mk k0 x3.Kind x3.At x3.Steps)) <| P1 h4 <| P1 (int_lt_of_at h4 hx5) <| P1 (lt_of_at hx5) <| P2 (setCells (List.map gi_Unit (List.set l2 (Int.toNat i1) (Gi_Unit.mk k0 x3.Kind x3.At x3.Steps))) (Int.toNat i1) 1 [I (IntKind.wrap .i64 (k0 + 1))] = List.map gi_Unit (List.set (List.set l2 (Int.toNat i1) (Gi_Unit.mk k0 x3.Kind x3.At x3.Steps)) (Int.toNat i1) (Gi_Unit.mk x5.Side (IntKind.wrap .i64 (k0 + 1)) x5.At x5.Steps))) (setCells_map hx5 rfl) <| P1 (setLen (List.set l2 (Int.toNat i1) (Gi_Unit.mk k0 x3.Kind x3.At x3.Steps)) (Int.toNat i1) (Gi_Unit.mk x5.Side (IntKind.wrap .i64 (k0 + 1)) x5.At x5.Steps)) <| P1 h6 <| P1 (int_lt_of_at h6 hx7) <| P1 (lt_of_at hx7) <| P2 (setCells (List.map gi_Unit (List.set (List.set l2 (Int.toNat i1) (Gi_Unit.mk k0 x3.Kind x3.At x3.Steps)) (Int.toNat i1) (Gi_Unit.mk x5.Side (IntKind.wrap .i64 (k0 + 1)) x5.At x5.Steps))) (Int.toNat i1) 2 [I (IntKind.wrap .i64 ((IntKind.wrap .i64 (k0 + 1)) + 1))] = List.map gi_Unit (List.set (List.set (List.set l2 (Int.toNat i1) (Gi_Unit.mk k0 x3.Kind x3.At x3.Steps)) (Int.toNat i1) (Gi_Unit.mk x5.Side (IntKind.wrap .i64 (k0 + 1)) x5.At x5.Steps)) (Int.toNat i1) (Gi_Unit.mk x7.Side x7.Kind (IntKind.wrap .i64 ((IntKind.wrap .i64 (k0 + 1)) + 1)) x7.Steps))) (setCells_map hx7 rfl) <| P1 (setLen (List.set (List.set l2 (Int.toNat i1) (Gi_Unit.mk k0 x3.Kind x3.At x3.Steps)) (Int.toNat i1) (Gi_Unit.mk x5.Side (IntKind.wrap .i64 (k0 + 1)) x5.At x5.Steps)) (Int.toNat i1) (Gi_Unit.mk x7.Side x7.Kind (IntKind.wrap .i64 ((IntKind.wrap .i64 (k0 + 1)) + 1)) x7.Steps)) <| P1 h8 <| P1 (int_lt_of_at h8 hx9) <| P1 (lt_of_at hx9) <| P2 (setCells (List.map gi_Unit (List.set (List.set (List.set l2 (Int.toNat i1) (Gi_Unit.mk k0 x3.Kind x3.At x3.Steps)) (Int.toNat i1) (Gi_Unit.mk x5.Side (IntKind.wrap .i64 (k0 + 1)) x5.At x5.Steps)) (Int.toNat i1) (Gi_Unit.mk x7.Side x7.Kind (IntKind.wrap .i64 ((IntKind.wrap .i64 (k0 + 1)) + 1)) x7.Steps))) (Int.toNat i1) 3 [I (IntKind.wrap .i64 ((IntKind.wrap .i64 ((IntKind.wrap .i64 (k0 + 1)) + 1)) + 1))] = List.map gi_Unit (List.set (List.set (List.set (List.set l2 (Int.toNat i1) (Gi_Unit.mk k0 x3.Kind x3.At x3.Steps)) (Int.toNat i1) (Gi_Unit.mk x5.Side (IntKind.wrap .i64 (k0 + 1)) x5.At x5.Steps)) (Int.toNat i1) (Gi_Unit.mk x7.Side x7.Kind (IntKind.wrap .i64 ((IntKind.wrap .i64 (k0 + 1)) + 1)) x7.Steps)) (Int.toNat i1) (Gi_Unit.mk x9.Side x9.Kind x9.At (IntKind.wrap .i64 ((IntKind.wrap .i64 ((IntKind.wrap .i64 (k0 + 1)) + 1)) + 1))))) (setCells_map hx9 rfl) <| P1 (setLen (List.set (List.set (List.set l2 (Int.toNat i1) (Gi_Unit.mk k0 x3.Kind x3.At x3.Steps)) (Int.toNat i1) (Gi_Unit.mk x5.Side (IntKind.wrap .i64 (k0 + 1)) x5.At x5.Steps)) (Int.toNat i1) (Gi_Unit.mk x7.Side x7.Kind (IntKind.wrap .i64 ((IntKind.wrap .i64 (k0 + 1)) + 1)) x7.Steps)) (Int.toNat i1) (Gi_Unit.mk x9.Side x9.Kind x9.At (IntKind.wrap .i64 ((IntKind.wrap .i64 ((IntKind.wrap .i64 (k0 + 1)) + 1)) + 1)))) <| P0) hn)
    (fun h1 H =>
      eN H <| gE func114 [rg [hF 3], r0] (by kernel_rfl) (P2 ((decide (i1 < ((l2.length : Nat) : Int))) = false) (decide_eq_false h1) <| P0))
theorem ww_markUnitS : ∀ s r, loop Bw_markUnitS s = some r → Wc X 114 1 (Kw_markUnitS s) (Zw_markUnitS s) (Rw_markUnitS r) (Nw_markUnitS r) := Nx.all nw_markUnitS
theorem cw_markUnitS {a0 : (List Gi_Unit)} {a1 : Int} {r : Int × (List Gi_Unit)} (H : Dw_markUnitS a0 a1 = some r) : Ct X.P X.gl 114 [.ref 0 4 none, I a1] [⟨false, false, 4, a0.length, List.map gi_Unit a0⟩] (Rw_markUnitS r) (Nw_markUnitS r) :=
  Ct.of func114 (c := bdy f114) (by kernel_rfl) (by kernel_rfl) <|
  gO [r0, r0, .canon [0] [0, 1, 5]] (by kernel_rfl) P0 (ww_markUnitS _ _ H)
/-! loop example/g00886/laws markState -/
def Rw_markState (r : Int × (List Gi_Unit)) : List D := [I r.1]
def Nw_markState (r : Int × (List Gi_Unit)) : List Root := [⟨false, false, 4, r.2.length, List.map gi_Unit r.2⟩]
theorem cw_markState {a0 : Gi_State} {a1 : Int} {r : Int × (List Gi_Unit)} (H : Dw_markState a0 a1 = some r) : Ct X.P X.gl 61 [.agg [I a0.Turn, I a0.Weather, .ref 0 4 none], I a1] [⟨false, false, 4, a0.Units.length, List.map gi_Unit a0.Units⟩] (Rw_markState r) (Nw_markState r) :=
  Ct.of func61 (c := bdy f61) (by kernel_rfl) (by kernel_rfl) <|
  eBind H fun r1 hr1 H =>
  eCk H fun h2 H =>
  eW Rw_markState Nw_markState H <| gE func61 [r0, rg [hC 3 true [0] (Rw_markUnitS r1) (Nw_markUnitS r1)], r0] (by kernel_rfl) (P1 h2 <| P1 (cw_markUnitS hr1) <| P0)
/-! loop example/g00886/laws markGoalS -/
def Rw_markGoalS (r : Int × (List Gi_Goal)) : List D := [I r.1]
def Nw_markGoalS (r : Int × (List Gi_Goal)) : List Root := [⟨false, false, 2, r.2.length, List.map gi_Goal r.2⟩]
noncomputable def Kw_markGoalS : Sw_markGoalS → List Item
  | .h1 .. => nav 300 2 [] [.code (bdy f115)]
def Zw_markGoalS : Sw_markGoalS → St
  | .h1 k0 i1 l2 => ⟨sts 27 [(0, .ref 0 2 none), (1, I k0), (5, I i1)], [some ⟨false, false, 2, l2.length, List.map gi_Goal l2⟩]⟩
abbrev Qw_markGoalS := Nx X 115 1 Kw_markGoalS Zw_markGoalS Rw_markGoalS Nw_markGoalS
theorem nw_markGoalS : ∀ s o, Bw_markGoalS s = some o → Qw_markGoalS (Kw_markGoalS s) (Zw_markGoalS s) o
  | .h1 k0 i1 l2, o, H =>
    eIf H (fun h1 H =>
      eCk H fun h2 H =>
      eBind H fun x3 hx3 H =>
      eCk H fun h4 H =>
      eBind H fun x5 hx5 H =>
      eN H fun r hn => gO [rg [hT 3], rg [hA 5 ((List.set l2 (Int.toNat i1) (Gi_Goal.mk k0 x3.Points)).length) (List.map gi_Goal (List.set l2 (Int.toNat i1) (Gi_Goal.mk k0 x3.Points)))], r0, rg [hA 5 ((List.set (List.set l2 (Int.toNat i1) (Gi_Goal.mk k0 x3.Points)) (Int.toNat i1) (Gi_Goal.mk x5.At (IntKind.wrap .i64 (k0 + 1)))).length) (List.map gi_Goal (List.set (List.set l2 (Int.toNat i1) (Gi_Goal.mk k0 x3.Points)) (Int.toNat i1) (Gi_Goal.mk x5.At (IntKind.wrap .i64 (k0 + 1)))))], r0, r0, .canon [0] [0, 1, 5]] (by kernel_rfl) (P2 ((decide (i1 < ((l2.length : Nat) : Int))) = true) (decide_eq_true h1) <| P1 h2 <| P1 (int_lt_of_at h2 hx3) <| P1 (lt_of_at hx3) <| P2 (setCells (List.map gi_Goal l2) (Int.toNat i1) 0 [I k0] = List.map gi_Goal (List.set l2 (Int.toNat i1) (Gi_Goal.mk k0 x3.Points))) (setCells_map hx3 rfl) <| P1 (setLen l2 (Int.toNat i1) (Gi_Goal.mk k0 x3.Points)) <| P1 h4 <| P1 (int_lt_of_at h4 hx5) <| P1 (lt_of_at hx5) <| P2 (setCells (List.map gi_Goal (List.set l2 (Int.toNat i1) (Gi_Goal.mk k0 x3.Points))) (Int.toNat i1) 1 [I (IntKind.wrap .i64 (k0 + 1))] = List.map gi_Goal (List.set (List.set l2 (Int.toNat i1) (Gi_Goal.mk k0 x3.Points)) (Int.toNat i1) (Gi_Goal.mk x5.At (IntKind.wrap .i64 (k0 + 1))))) (setCells_map hx5 rfl) <| P1 (setLen (List.set l2 (Int.toNat i1) (Gi_Goal.mk k0 x3.Points)) (Int.toNat i1) (Gi_Goal.mk x5.At (IntKind.wrap .i64 (k0 + 1)))) <| P0) hn)
    (fun h1 H =>
      eN H <| gE func115 [rg [hF 3], r0] (by kernel_rfl) (P2 ((decide (i1 < ((l2.length : Nat) : Int))) = false) (decide_eq_false h1) <| P0))
theorem ww_markGoalS : ∀ s r, loop Bw_markGoalS s = some r → Wc X 115 1 (Kw_markGoalS s) (Zw_markGoalS s) (Rw_markGoalS r) (Nw_markGoalS r) := Nx.all nw_markGoalS
theorem cw_markGoalS {a0 : (List Gi_Goal)} {a1 : Int} {r : Int × (List Gi_Goal)} (H : Dw_markGoalS a0 a1 = some r) : Ct X.P X.gl 115 [.ref 0 2 none, I a1] [⟨false, false, 2, a0.length, List.map gi_Goal a0⟩] (Rw_markGoalS r) (Nw_markGoalS r) :=
  Ct.of func115 (c := bdy f115) (by kernel_rfl) (by kernel_rfl) <|
  gO [r0, r0, .canon [0] [0, 1, 5]] (by kernel_rfl) P0 (ww_markGoalS _ _ H)
/-! loop example/g00886/laws markConditions -/
def Rw_markConditions (r : Int × (List Gi_Goal)) : List D := [I r.1]
def Nw_markConditions (r : Int × (List Gi_Goal)) : List Root := [⟨false, false, 2, r.2.length, List.map gi_Goal r.2⟩]
theorem cw_markConditions {a0 : Gi_Conditions} {a1 : Int} {r : Int × (List Gi_Goal)} (H : Dw_markConditions a0 a1 = some r) : Ct X.P X.gl 62 [.agg [.ref 0 2 none, I a0.Step, I a0.Margin], I a1] [⟨false, false, 2, a0.Goals.length, List.map gi_Goal a0.Goals⟩] (Rw_markConditions r) (Nw_markConditions r) :=
  Ct.of func62 (c := bdy f62) (by kernel_rfl) (by kernel_rfl) <|
  eBind H fun r1 hr1 H =>
  eCk H fun h2 H =>
  eW Rw_markConditions Nw_markConditions H <| gE func62 [r0, rg [hC 3 true [0] (Rw_markGoalS r1) (Nw_markGoalS r1)], r0] (by kernel_rfl) (P1 h2 <| P1 (cw_markGoalS hr1) <| P0)
/-! loop example/g00886/laws markScenario -/
def Rw_markScenario (r : Int × (List Gi_Terrain) × (List Gi_Kind) × (List Int) × (List Int) × (List Int) × (List Gi_Odds) × (List (List Int)) × (List Gi_Unit) × (List Gi_Goal) × (List Int) × (List Int)) : List D := [I r.1]
def Nw_markScenario (r : Int × (List Gi_Terrain) × (List Gi_Kind) × (List Int) × (List Int) × (List Int) × (List Gi_Odds) × (List (List Int)) × (List Gi_Unit) × (List Gi_Goal) × (List Int) × (List Int)) : List Root := [⟨false, false, 5, r.2.1.length, List.map goi_Terrain r.2.1⟩, ⟨false, false, 6, r.2.2.1.length, List.map gi_Kind r.2.2.1⟩, ⟨false, false, 1, r.2.2.2.1.length, List.map I r.2.2.2.1⟩, ⟨false, false, 1, r.2.2.2.2.1.length, List.map I r.2.2.2.2.1⟩, ⟨false, false, 1, r.2.2.2.2.2.1.length, List.map I r.2.2.2.2.2.1⟩, ⟨false, false, 2, r.2.2.2.2.2.2.1.length, List.map gi_Odds r.2.2.2.2.2.2.1⟩, ⟨false, false, 1, r.2.2.2.2.2.2.2.1.length, List.map (ow 1 I) r.2.2.2.2.2.2.2.1⟩, ⟨false, false, 4, r.2.2.2.2.2.2.2.2.1.length, List.map gi_Unit r.2.2.2.2.2.2.2.2.1⟩, ⟨false, false, 2, r.2.2.2.2.2.2.2.2.2.1.length, List.map gi_Goal r.2.2.2.2.2.2.2.2.2.1⟩, ⟨false, false, 1, r.2.2.2.2.2.2.2.2.2.2.1.length, List.map I r.2.2.2.2.2.2.2.2.2.2.1⟩, ⟨false, false, 1, r.2.2.2.2.2.2.2.2.2.2.2.length, List.map I r.2.2.2.2.2.2.2.2.2.2.2⟩]
theorem cw_markScenario {a0 : Gi_Scenario} {a1 : Int} {r : Int × (List Gi_Terrain) × (List Gi_Kind) × (List Int) × (List Int) × (List Int) × (List Gi_Odds) × (List (List Int)) × (List Gi_Unit) × (List Gi_Goal) × (List Int) × (List Int)} (H : Dw_markScenario a0 a1 = some r) : Ct X.P X.gl 21 [.agg [.str a0.Name, .ref 0 5 none, .ref 1 6 none, I a0.Board.Rules.Stack, I a0.Board.Rules.River, I a0.Board.Rules.Road, I a0.Board.Rules.Supply, I a0.Board.Rules.Turns, I a0.Board.Map.Width, I a0.Board.Map.Height, .ref 2 1 none, .ref 3 1 none, .ref 4 1 none, .ref 5 2 none, I a0.Table.Dice, .ref 6 1 none, I a0.Start.Turn, I a0.Start.Weather, .ref 7 4 none, .ref 8 2 none, I a0.Conditions.Step, I a0.Conditions.Margin, .ref 9 1 none, .ref 10 1 none], I a1] [⟨false, false, 5, a0.Board.Rules.Terrains.length, List.map goi_Terrain a0.Board.Rules.Terrains⟩, ⟨false, false, 6, a0.Board.Rules.Kinds.length, List.map gi_Kind a0.Board.Rules.Kinds⟩, ⟨false, false, 1, a0.Board.Map.Terrain.length, List.map I a0.Board.Map.Terrain⟩, ⟨false, false, 1, a0.Board.Map.Rivers.length, List.map I a0.Board.Map.Rivers⟩, ⟨false, false, 1, a0.Board.Map.Roads.length, List.map I a0.Board.Map.Roads⟩, ⟨false, false, 2, a0.Table.Columns.length, List.map gi_Odds a0.Table.Columns⟩, ⟨false, false, 1, a0.Table.Results.length, List.map (ow 1 I) a0.Table.Results⟩, ⟨false, false, 4, a0.Start.Units.length, List.map gi_Unit a0.Start.Units⟩, ⟨false, false, 2, a0.Conditions.Goals.length, List.map gi_Goal a0.Conditions.Goals⟩, ⟨false, false, 1, a0.First.length, List.map I a0.First⟩, ⟨false, false, 1, a0.Other.length, List.map I a0.Other⟩] (Rw_markScenario r) (Nw_markScenario r) :=
  Ct.of func21 (c := bdy f21) (by kernel_rfl) (by kernel_rfl) <|
  eBind H fun r1 hr1 H =>
  eCk H fun h2 H =>
  eCk H fun h3 H =>
  eCk H fun h4 H =>
  eCk H fun h5 H =>
  eCk H fun h6 H =>
  eBind H fun r7 hr7 H =>
  eCk H fun h8 H =>
  eCk H fun h9 H =>
  eBind H fun r10 hr10 H =>
  eCk H fun h11 H =>
  eBind H fun r12 hr12 H =>
  eCk H fun h13 H =>
  eBind H fun r14 hr14 H =>
  eCk H fun h15 H =>
  eBind H fun r16 hr16 H =>
  eCk H fun h17 H =>
  eW Rw_markScenario Nw_markScenario H <| gE func21 [r0, rg [{ i := 3, call := some { cl := true, ins := [0, 1, 2, 3, 4], args := [.agg [.ref 0 5 none, .ref 1 6 none, I a0.Board.Rules.Stack, I a0.Board.Rules.River, I a0.Board.Rules.Road, I a0.Board.Rules.Supply, I a0.Board.Rules.Turns, I a0.Board.Map.Width, I a0.Board.Map.Height, .ref 2 1 none, .ref 3 1 none, .ref 4 1 none], I a1], res := Rw_markBoard r1, G' := Nw_markBoard r1 } }], rg [{ i := 3, call := some { cl := true, ins := [5, 6], args := [.agg [.ref 0 2 none, I a0.Table.Dice, .ref 1 1 none], I r1.1], res := Rw_markCombatTable r7, G' := Nw_markCombatTable r7 } }], rg [hC 3 true [7] (Rw_markState r10) (Nw_markState r10)], rg [hC 3 true [8] (Rw_markConditions r12) (Nw_markConditions r12)], rg [hC 3 true [9] (Rw_markIntS r14) (Nw_markIntS r14)], rg [hC 3 true [10] (Rw_markIntS r16) (Nw_markIntS r16)], r0] (by kernel_rfl) (PI (none : Option (Nat × Nat)) <| PI (none : Option (Nat × Nat)) <| PI (a0.Board.Rules.Stack : Int) <| PI (a0.Board.Rules.River : Int) <| PI (a0.Board.Rules.Road : Int) <| PI (a0.Board.Rules.Supply : Int) <| PI (a0.Board.Rules.Turns : Int) <| PI (a0.Board.Map.Width : Int) <| PI (a0.Board.Map.Height : Int) <| PI (none : Option (Nat × Nat)) <| PI (none : Option (Nat × Nat)) <| PI (none : Option (Nat × Nat)) <| PI (a1 : Int) <| P1 h2 <| P1 h3 <| P1 h4 <| P1 h5 <| P1 h6 <| P1 (cw_markBoard hr1) <| PI (none : Option (Nat × Nat)) <| PI (a0.Table.Dice : Int) <| PI (none : Option (Nat × Nat)) <| PI (r1.1 : Int) <| P1 h8 <| P1 h9 <| P1 (cw_markCombatTable hr7) <| P1 h11 <| P1 (cw_markState hr10) <| P1 h13 <| P1 (cw_markConditions hr12) <| P1 h15 <| P1 (cw_markIntS hr14) <| P1 h17 <| P1 (cw_markIntS hr16) <| P0)
/-! loop example/g00886/laws heldIntS -/
noncomputable def Kw_heldIntS : Sw_heldIntS → List Item
  | .h1 .. => nav 300 2 [] [.code (bdy f23)]
def Zw_heldIntS : Sw_heldIntS → St
  | .h1 va0 k1 i2 => ⟨sts 21 [(0, sl 1 I va0), (1, I k1), (5, I i2)], []⟩
abbrev Qw_heldIntS := Nx X 23 0 Kw_heldIntS Zw_heldIntS RI (fun _ => [])
theorem nw_heldIntS : ∀ s o, Bw_heldIntS s = some o → Qw_heldIntS (Kw_heldIntS s) (Zw_heldIntS s) o
  | .h1 va0 k1 i2, o, H =>
    eIf H (fun h1 H =>
      eCk H fun h2 H =>
      eBind H fun x3 hx3 H =>
      gN [rg [hT 3]] (by kernel_rfl) (P2 ((decide (i2 < ((va0.length : Nat) : Int))) = true) (decide_eq_true h1) <| P0) <|
      eIf H (fun h4 H =>
        eN H fun r hn => gO [rg [hE 3 (I x3), hF 5], r0, r0, .canon [] [0, 1, 5]] (by kernel_rfl) (P1 h2 <| P1 (int_lt_of_at h2 hx3) <| P1 (at_map I hx3) <| P2 (((x3 : Int) != k1) = false) (bneF h4) <| P0) hn)
      (fun h4 H =>
        eN H <| gE func23 [rg [hE 3 (I x3), hT 5], r0] (by kernel_rfl) (P1 h2 <| P1 (int_lt_of_at h2 hx3) <| P1 (at_map I hx3) <| P2 (((x3 : Int) != k1) = true) (bneT h4) <| P0)))
    (fun h1 H =>
      eN H <| gE func23 [rg [hF 3], r0] (by kernel_rfl) (P2 ((decide (i2 < ((va0.length : Nat) : Int))) = false) (decide_eq_false h1) <| P0))
theorem ww_heldIntS : ∀ s r, loop Bw_heldIntS s = some r → Wc X 23 0 (Kw_heldIntS s) (Zw_heldIntS s) (RI r) ((fun _ => []) r) := Nx.all nw_heldIntS
theorem cw_heldIntS {a0 : (List Int)} {a1 : Int} {r : Int} (H : Dw_heldIntS a0 a1 = some r) : Ct X.P X.gl 23 [sl 1 I a0, I a1] [] (RI r) [] :=
  Ct.of func23 (c := bdy f23) (by kernel_rfl) (by kernel_rfl) <|
  gO [r0, r0, .canon [] [0, 1, 5]] (by kernel_rfl) P0 (ww_heldIntS _ _ H)
/-! loop example/g00886/laws FnExactHungryUnits -/
theorem cw_FnExactHungryUnits {a0 : Gw_Scenario} {a1 : Int} {r : Bool} (H : Dw_FnExactHungryUnits a0 a1 = some r) : Ct X.P X.gl 7 [.agg [.str a0.Name, sl 5 gw_Terrain a0.Board.Rules.Terrains, sl 6 gw_Kind a0.Board.Rules.Kinds, I a0.Board.Rules.Stack, I a0.Board.Rules.River, I a0.Board.Rules.Road, I a0.Board.Rules.Supply, I a0.Board.Rules.Turns, I a0.Board.Map.Width, I a0.Board.Map.Height, sl 1 I a0.Board.Map.Terrain, sl 1 I a0.Board.Map.Rivers, sl 1 I a0.Board.Map.Roads, sl 2 gw_Odds a0.Table.Columns, I a0.Table.Dice, sl 1 (sl 1 I) a0.Table.Results, I a0.Start.Turn, I a0.Start.Weather, sl 4 gw_Unit a0.Start.Units, sl 2 gw_Goal a0.Conditions.Goals, I a0.Conditions.Step, I a0.Conditions.Margin, sl 1 I a0.First, sl 1 I a0.Other], I a1] [] (RB r) [] :=
  Ct.of func7 (c := bdy f7) (by kernel_rfl) (by kernel_rfl) <|
  eBind H fun r1 hr1 H =>
  gS [r0, r0, rg [hC 2 true [] (RI r1) []]] (by kernel_rfl) (P1 (cw_szScenario hr1) <| P0) <|
  eIf H (fun h2 H =>
    eW RB (fun _ => []) H <| gE func7 [rg [hT 1], r0] (by kernel_rfl) (P2 ((decide (r1 < 0)) = true) (decide_eq_true h2) <| P0))
  (fun h2 H =>
    eBind H fun r3 hr3 H =>
    eBind H fun r4 hr4 H =>
    eBind H fun r5 hr5 H =>
    eBind H fun r6 hr6 H =>
    eBind H fun r7 hr7 H =>
    gS [rg [hF 1], rg [hC 1 true [] (Rw_toScenario r3) [], { i := 3, call := some { cl := false, ins := [], args := [.agg [.str r3.Name, sl 5 gi_Terrain r3.Board.Rules.Terrains, sl 6 gi_Kind r3.Board.Rules.Kinds, I r3.Board.Rules.Stack, I r3.Board.Rules.River, I r3.Board.Rules.Road, I r3.Board.Rules.Supply, I r3.Board.Rules.Turns, I r3.Board.Map.Width, I r3.Board.Map.Height, sl 1 I r3.Board.Map.Terrain, sl 1 I r3.Board.Map.Rivers, sl 1 I r3.Board.Map.Roads, sl 2 gi_Odds r3.Table.Columns, I r3.Table.Dice, sl 1 (sl 1 I) r3.Table.Results, I r3.Start.Turn, I r3.Start.Weather, sl 4 gi_Unit r3.Start.Units, sl 2 gi_Goal r3.Conditions.Goals, I r3.Conditions.Step, I r3.Conditions.Margin, sl 1 I r3.First, sl 1 I r3.Other], I a1], res := Rs_HungryUnits r4, G' := [] } }], rg [hC 1 true [] (Rw_toScenario r5) []], rg [{ i := 2, call := some { cl := false, ins := [], args := [.agg [.str r5.Name, sl 5 gi_Terrain r5.Board.Rules.Terrains, sl 6 gi_Kind r5.Board.Rules.Kinds, I r5.Board.Rules.Stack, I r5.Board.Rules.River, I r5.Board.Rules.Road, I r5.Board.Rules.Supply, I r5.Board.Rules.Turns, I r5.Board.Map.Width, I r5.Board.Map.Height, sl 1 I r5.Board.Map.Terrain, sl 1 I r5.Board.Map.Rivers, sl 1 I r5.Board.Map.Roads, sl 2 gi_Odds r5.Table.Columns, I r5.Table.Dice, sl 1 (sl 1 I) r5.Table.Results, I r5.Start.Turn, I r5.Start.Weather, sl 4 gi_Unit r5.Start.Units, sl 2 gi_Goal r5.Conditions.Goals, I r5.Conditions.Step, I r5.Conditions.Margin, sl 1 I r5.First, sl 1 I r5.Other], I a1], res := Ri_HungryUnits r6, G' := [] } }]] (by kernel_rfl) (P2 ((decide (r1 < 0)) = false) (decide_eq_false h2) <| P1 (cw_toScenario hr3) <| PI r3.Name <| PE ero_169 r3.Board.Rules.Terrains <| PL gi_Kind r3.Board.Rules.Kinds <| PI (r3.Board.Rules.Stack : Int) <| PI (r3.Board.Rules.River : Int) <| PI (r3.Board.Rules.Road : Int) <| PI (r3.Board.Rules.Supply : Int) <| PI (r3.Board.Rules.Turns : Int) <| PI (r3.Board.Map.Width : Int) <| PI (r3.Board.Map.Height : Int) <| PL I r3.Board.Map.Terrain <| PL I r3.Board.Map.Rivers <| PL I r3.Board.Map.Roads <| PL gi_Odds r3.Table.Columns <| PI (r3.Table.Dice : Int) <| PE ero_26 r3.Table.Results <| PI (r3.Start.Turn : Int) <| PI (r3.Start.Weather : Int) <| PL gi_Unit r3.Start.Units <| PL gi_Goal r3.Conditions.Goals <| PI (r3.Conditions.Step : Int) <| PI (r3.Conditions.Margin : Int) <| PL I r3.First <| PL I r3.Other <| PI (a1 : Int) <| P2 (nfL (List.flatMap D.cells (Rs_HungryUnits r4))) ⟨nfL_map nf_3 _, trivial, trivial⟩ <| P2 (nfG []) trivial <| P1 (cs_HungryUnits hr4) <| P1 (cw_toScenario hr5) <| PI r5.Name <| PE ero_169 r5.Board.Rules.Terrains <| PL gi_Kind r5.Board.Rules.Kinds <| PI (r5.Board.Rules.Stack : Int) <| PI (r5.Board.Rules.River : Int) <| PI (r5.Board.Rules.Road : Int) <| PI (r5.Board.Rules.Supply : Int) <| PI (r5.Board.Rules.Turns : Int) <| PI (r5.Board.Map.Width : Int) <| PI (r5.Board.Map.Height : Int) <| PL I r5.Board.Map.Terrain <| PL I r5.Board.Map.Rivers <| PL I r5.Board.Map.Roads <| PL gi_Odds r5.Table.Columns <| PI (r5.Table.Dice : Int) <| PE ero_26 r5.Table.Results <| PI (r5.Start.Turn : Int) <| PI (r5.Start.Weather : Int) <| PL gi_Unit r5.Start.Units <| PL gi_Goal r5.Conditions.Goals <| PI (r5.Conditions.Step : Int) <| PI (r5.Conditions.Margin : Int) <| PL I r5.First <| PL I r5.Other <| PI (a1 : Int) <| P2 (nfL (List.flatMap D.cells (Ri_HungryUnits r6))) ⟨nfL_map nf_3 _, trivial, trivial⟩ <| P2 (nfG []) trivial <| P1 (ci_HungryUnits hr6) <| P0) <|
    eIf H (fun h8 H =>
      eIf H (fun h9 H =>
        eW RB (fun _ => []) H <| gE func7 [rg [{ i := 2, call := some { cl := false, auto := true, ins := [], res := (RB r7), G' := [] }, dec := some true }, hT 7], r0] (by kernel_rfl) (P1 (cw_eqIntS hr7) <| P2 (r7 = true) (h8) <| P2 ((!(r6.2 == r4.2)) = true) (h9) <| P0))
      (fun h9 H =>
        eBind H fun r10 hr10 H =>
        eBind H fun r11 hr11 H =>
        gS [rg [{ i := 2, call := some { cl := false, auto := true, ins := [], res := (RB r7), G' := [] }, dec := some true }, hF 7]] (by kernel_rfl) (P1 (cw_eqIntS hr7) <| P2 (r7 = true) (h8) <| P2 ((!(r6.2 == r4.2)) = false) (eqF h9) <| P0) <|
        eIf H (fun h12 H =>
          eBind H fun r13 hr13 H =>
          eCk H fun h14 H =>
          eCk H fun h15 H =>
          eCk H fun h16 H =>
          eCk H fun h17 H =>
          eCk H fun h18 H =>
          eCk H fun h19 H =>
          eCk H fun h20 H =>
          eCk H fun h21 H =>
          eCk H fun h22 H =>
          eCk H fun h23 H =>
          eCk H fun h24 H =>
          gS [rg [hC 2 true [] (Rw_toScenario r10) [], { i := 3, call := some { cl := false, ins := [], args := [.agg [.str r5.Name, sl 5 gi_Terrain r5.Board.Rules.Terrains, sl 6 gi_Kind r5.Board.Rules.Kinds, I r5.Board.Rules.Stack, I r5.Board.Rules.River, I r5.Board.Rules.Road, I r5.Board.Rules.Supply, I r5.Board.Rules.Turns, I r5.Board.Map.Width, I r5.Board.Map.Height, sl 1 I r5.Board.Map.Terrain, sl 1 I r5.Board.Map.Rivers, sl 1 I r5.Board.Map.Roads, sl 2 gi_Odds r5.Table.Columns, I r5.Table.Dice, sl 1 (sl 1 I) r5.Table.Results, I r5.Start.Turn, I r5.Start.Weather, sl 4 gi_Unit r5.Start.Units, sl 2 gi_Goal r5.Conditions.Goals, I r5.Conditions.Step, I r5.Conditions.Margin, sl 1 I r5.First, sl 1 I r5.Other], .agg [.str r10.Name, sl 5 gi_Terrain r10.Board.Rules.Terrains, sl 6 gi_Kind r10.Board.Rules.Kinds, I r10.Board.Rules.Stack, I r10.Board.Rules.River, I r10.Board.Rules.Road, I r10.Board.Rules.Supply, I r10.Board.Rules.Turns, I r10.Board.Map.Width, I r10.Board.Map.Height, sl 1 I r10.Board.Map.Terrain, sl 1 I r10.Board.Map.Rivers, sl 1 I r10.Board.Map.Roads, sl 2 gi_Odds r10.Table.Columns, I r10.Table.Dice, sl 1 (sl 1 I) r10.Table.Results, I r10.Start.Turn, I r10.Start.Weather, sl 4 gi_Unit r10.Start.Units, sl 2 gi_Goal r10.Conditions.Goals, I r10.Conditions.Step, I r10.Conditions.Margin, sl 1 I r10.First, sl 1 I r10.Other]], res := RB r11, G' := [] }, dec := some true }], r0, rg [{ i := 2, call := some { cl := true, ins := [27, 28, 36, 37, 38, 39, 41, 44, 45, 48, 49], args := [.agg [.str r5.Name, .ref 0 5 none, .ref 1 6 none, I r5.Board.Rules.Stack, I r5.Board.Rules.River, I r5.Board.Rules.Road, I r5.Board.Rules.Supply, I r5.Board.Rules.Turns, I r5.Board.Map.Width, I r5.Board.Map.Height, .ref 2 1 none, .ref 3 1 none, .ref 4 1 none, .ref 5 2 none, I r5.Table.Dice, .ref 6 1 none, I r5.Start.Turn, I r5.Start.Weather, .ref 7 4 none, .ref 8 2 none, I r5.Conditions.Step, I r5.Conditions.Margin, .ref 9 1 none, .ref 10 1 none], I 1], res := Rw_markScenario r13, G' := Nw_markScenario r13 } }]] (by kernel_rfl) (P1 (cw_toScenario hr10) <| PI r5.Name <| PE ero_169 r5.Board.Rules.Terrains <| PL gi_Kind r5.Board.Rules.Kinds <| PI (r5.Board.Rules.Stack : Int) <| PI (r5.Board.Rules.River : Int) <| PI (r5.Board.Rules.Road : Int) <| PI (r5.Board.Rules.Supply : Int) <| PI (r5.Board.Rules.Turns : Int) <| PI (r5.Board.Map.Width : Int) <| PI (r5.Board.Map.Height : Int) <| PL I r5.Board.Map.Terrain <| PL I r5.Board.Map.Rivers <| PL I r5.Board.Map.Roads <| PL gi_Odds r5.Table.Columns <| PI (r5.Table.Dice : Int) <| PE ero_26 r5.Table.Results <| PI (r5.Start.Turn : Int) <| PI (r5.Start.Weather : Int) <| PL gi_Unit r5.Start.Units <| PL gi_Goal r5.Conditions.Goals <| PI (r5.Conditions.Step : Int) <| PI (r5.Conditions.Margin : Int) <| PL I r5.First <| PL I r5.Other <| PI r10.Name <| PE ero_169 r10.Board.Rules.Terrains <| PL gi_Kind r10.Board.Rules.Kinds <| PI (r10.Board.Rules.Stack : Int) <| PI (r10.Board.Rules.River : Int) <| PI (r10.Board.Rules.Road : Int) <| PI (r10.Board.Rules.Supply : Int) <| PI (r10.Board.Rules.Turns : Int) <| PI (r10.Board.Map.Width : Int) <| PI (r10.Board.Map.Height : Int) <| PL I r10.Board.Map.Terrain <| PL I r10.Board.Map.Rivers <| PL I r10.Board.Map.Roads <| PL gi_Odds r10.Table.Columns <| PI (r10.Table.Dice : Int) <| PE ero_26 r10.Table.Results <| PI (r10.Start.Turn : Int) <| PI (r10.Start.Weather : Int) <| PL gi_Unit r10.Start.Units <| PL gi_Goal r10.Conditions.Goals <| PI (r10.Conditions.Step : Int) <| PI (r10.Conditions.Margin : Int) <| PL I r10.First <| PL I r10.Other <| P1 (cw_eqScenario hr11) <| P2 (r11 = true) (h12) <| PI r5.Name <| PI (none : Option (Nat × Nat)) <| PI (none : Option (Nat × Nat)) <| PI (r5.Board.Rules.Stack : Int) <| PI (r5.Board.Rules.River : Int) <| PI (r5.Board.Rules.Road : Int) <| PI (r5.Board.Rules.Supply : Int) <| PI (r5.Board.Rules.Turns : Int) <| PI (r5.Board.Map.Width : Int) <| PI (r5.Board.Map.Height : Int) <| PI (none : Option (Nat × Nat)) <| PI (none : Option (Nat × Nat)) <| PI (none : Option (Nat × Nat)) <| PI (none : Option (Nat × Nat)) <| PI (r5.Table.Dice : Int) <| PI (none : Option (Nat × Nat)) <| PI (r5.Start.Turn : Int) <| PI (r5.Start.Weather : Int) <| PI (none : Option (Nat × Nat)) <| PI (none : Option (Nat × Nat)) <| PI (r5.Conditions.Step : Int) <| PI (r5.Conditions.Margin : Int) <| PI (none : Option (Nat × Nat)) <| PI (none : Option (Nat × Nat)) <| PI (1 : Int) <| P1 h14 <| P1 h15 <| P1 h16 <| P1 h17 <| P1 h18 <| P1 h19 <| P1 h20 <| P1 h21 <| P1 h22 <| P1 h23 <| P1 h24 <| P1 (cw_markScenario hr13) <| P0) <|
          eIf H (fun h25 H =>
            eW RB (fun _ => []) H <| gE func7 [rg [hT 1], r0] (by kernel_rfl) (P2 ((decide (r13.1 < 0)) = true) (decide_eq_true h25) <| P0))
          (fun h25 H =>
            eBind H fun r26 hr26 H =>
            eIf H (fun h27 H =>
              eIf H (fun h28 H =>
                eW RB (fun _ => []) H <| gE func7 [rg [hF 1, { i := 5, call := some { cl := false, auto := true, ins := [], res := (RB r26), G' := [] }, dec := some true }, hT 11], r0] (by kernel_rfl) (P2 ((decide (r13.1 < 0)) = false) (decide_eq_false h25) <| P1 (cw_eqIntS hr26) <| P2 (r26 = true) (h27) <| P2 ((!(r6.2 == r4.2)) = true) (h28) <| P0))
              (fun h28 H =>
                eBind H fun r29 hr29 H =>
                eCk H fun h30 H =>
                eBind H fun r31 hr31 H =>
                gS [rg [hF 1, { i := 5, call := some { cl := false, auto := true, ins := [], res := (RB r26), G' := [] }, dec := some true }, hF 11], r0, rg [hC 2 true [51] (Rw_markIntS r29) (Nw_markIntS r29)], r0, rg [hC 2 false [] (RI r31) []]] (by kernel_rfl) (P2 ((decide (r13.1 < 0)) = false) (decide_eq_false h25) <| P1 (cw_eqIntS hr26) <| P2 (r26 = true) (h27) <| P2 ((!(r6.2 == r4.2)) = false) (eqF h28) <| P1 h30 <| P1 (cw_markIntS hr29) <| P1 (cw_heldIntS hr31) <| P0) <|
                eIf H (fun h32 H =>
                  eW RB (fun _ => []) H <| gE func7 [rg [hT 1], r0] (by kernel_rfl) (P2 ((decide (r31 < 0)) = true) (decide_eq_true h32) <| P0))
                (fun h32 H =>
                  gS [rg [hF 1]] (by kernel_rfl) (P2 ((decide (r31 < 0)) = false) (decide_eq_false h32) <| P0) <|
                  eIf H (fun h33 H =>
                    eBind H fun r34 hr34 H =>
                    eBind H fun r35 hr35 H =>
                    eBind H fun r36 hr36 H =>
                    gS [rg [hF 2], rg [hC 1 true [] (Rw_toScenario r34) [], { i := 3, call := some { cl := false, ins := [], args := [.agg [.str r34.Name, sl 5 gi_Terrain r34.Board.Rules.Terrains, sl 6 gi_Kind r34.Board.Rules.Kinds, I r34.Board.Rules.Stack, I r34.Board.Rules.River, I r34.Board.Rules.Road, I r34.Board.Rules.Supply, I r34.Board.Rules.Turns, I r34.Board.Map.Width, I r34.Board.Map.Height, sl 1 I r34.Board.Map.Terrain, sl 1 I r34.Board.Map.Rivers, sl 1 I r34.Board.Map.Roads, sl 2 gi_Odds r34.Table.Columns, I r34.Table.Dice, sl 1 (sl 1 I) r34.Table.Results, I r34.Start.Turn, I r34.Start.Weather, sl 4 gi_Unit r34.Start.Units, sl 2 gi_Goal r34.Conditions.Goals, I r34.Conditions.Step, I r34.Conditions.Margin, sl 1 I r34.First, sl 1 I r34.Other], I a1], res := Ri_HungryUnits r35, G' := [] } }]] (by kernel_rfl) (P2 (((r31 : Int) != r29.1) = false) (bneF h33) <| P1 (cw_toScenario hr34) <| PI r34.Name <| PE ero_169 r34.Board.Rules.Terrains <| PL gi_Kind r34.Board.Rules.Kinds <| PI (r34.Board.Rules.Stack : Int) <| PI (r34.Board.Rules.River : Int) <| PI (r34.Board.Rules.Road : Int) <| PI (r34.Board.Rules.Supply : Int) <| PI (r34.Board.Rules.Turns : Int) <| PI (r34.Board.Map.Width : Int) <| PI (r34.Board.Map.Height : Int) <| PL I r34.Board.Map.Terrain <| PL I r34.Board.Map.Rivers <| PL I r34.Board.Map.Roads <| PL gi_Odds r34.Table.Columns <| PI (r34.Table.Dice : Int) <| PE ero_26 r34.Table.Results <| PI (r34.Start.Turn : Int) <| PI (r34.Start.Weather : Int) <| PL gi_Unit r34.Start.Units <| PL gi_Goal r34.Conditions.Goals <| PI (r34.Conditions.Step : Int) <| PI (r34.Conditions.Margin : Int) <| PL I r34.First <| PL I r34.Other <| PI (a1 : Int) <| P2 (nfL (List.flatMap D.cells (Ri_HungryUnits r35))) ⟨nfL_map nf_3 _, trivial, trivial⟩ <| P2 (nfG []) trivial <| P1 (ci_HungryUnits hr35) <| P0) <|
                    eIf H (fun h37 H =>
                      eIf H (fun h38 H =>
                        eW RB (fun _ => []) H <| gE func7 [rg [{ i := 2, call := some { cl := false, auto := true, ins := [], res := (RB r36), G' := [] }, dec := some true }, hT 7], r0] (by kernel_rfl) (P1 (cw_eqIntS hr36) <| P2 (r36 = true) (h37) <| P2 ((!(r35.2 == r4.2)) = true) (h38) <| P0))
                      (fun h38 H =>
                        eBind H fun r39 hr39 H =>
                        gS [rg [{ i := 2, call := some { cl := false, auto := true, ins := [], res := (RB r36), G' := [] }, dec := some true }, hF 7], r0, rg [hC 2 false [] (RI r39) []]] (by kernel_rfl) (P1 (cw_eqIntS hr36) <| P2 (r36 = true) (h37) <| P2 ((!(r35.2 == r4.2)) = false) (eqF h38) <| P1 (cw_heldIntS hr39) <| P0) <|
                        eIf H (fun h40 H =>
                          eW RB (fun _ => []) H <| gE func7 [rg [hT 1], r0] (by kernel_rfl) (P2 ((decide (r39 < 0)) = true) (decide_eq_true h40) <| P0))
                        (fun h40 H =>
                          gS [rg [hF 1]] (by kernel_rfl) (P2 ((decide (r39 < 0)) = false) (decide_eq_false h40) <| P0) <|
                          eIf H (fun h41 H =>
                            eW RB (fun _ => []) H <| gE func7 [rg [hF 2], r0] (by kernel_rfl) (P2 (((r39 : Int) != r29.1) = false) (bneF h41) <| P0))
                          (fun h41 H =>
                            eW RB (fun _ => []) H <| gE func7 [rg [hT 2], r0] (by kernel_rfl) (P2 (((r39 : Int) != r29.1) = true) (bneT h41) <| P0)))))
                    (fun h37 H =>
                      eW RB (fun _ => []) H <| gE func7 [rg [{ i := 2, call := some { cl := false, auto := true, ins := [], res := (RB r36), G' := [] }, dec := some false }], r0] (by kernel_rfl) (P1 (cw_eqIntS hr36) <| P2 (r36 = false) (eqF h37) <| P0)))
                  (fun h33 H =>
                    eW RB (fun _ => []) H <| gE func7 [rg [hT 2], r0] (by kernel_rfl) (P2 (((r31 : Int) != r29.1) = true) (bneT h33) <| P0)))))
            (fun h27 H =>
              eW RB (fun _ => []) H <| gE func7 [rg [hF 1, { i := 5, call := some { cl := false, auto := true, ins := [], res := (RB r26), G' := [] }, dec := some false }], r0] (by kernel_rfl) (P2 ((decide (r13.1 < 0)) = false) (decide_eq_false h25) <| P1 (cw_eqIntS hr26) <| P2 (r26 = false) (eqF h27) <| P0))))
        (fun h12 H =>
          eW RB (fun _ => []) H <| gE func7 [rg [hC 2 true [] (Rw_toScenario r10) [], { i := 3, call := some { cl := false, ins := [], args := [.agg [.str r5.Name, sl 5 gi_Terrain r5.Board.Rules.Terrains, sl 6 gi_Kind r5.Board.Rules.Kinds, I r5.Board.Rules.Stack, I r5.Board.Rules.River, I r5.Board.Rules.Road, I r5.Board.Rules.Supply, I r5.Board.Rules.Turns, I r5.Board.Map.Width, I r5.Board.Map.Height, sl 1 I r5.Board.Map.Terrain, sl 1 I r5.Board.Map.Rivers, sl 1 I r5.Board.Map.Roads, sl 2 gi_Odds r5.Table.Columns, I r5.Table.Dice, sl 1 (sl 1 I) r5.Table.Results, I r5.Start.Turn, I r5.Start.Weather, sl 4 gi_Unit r5.Start.Units, sl 2 gi_Goal r5.Conditions.Goals, I r5.Conditions.Step, I r5.Conditions.Margin, sl 1 I r5.First, sl 1 I r5.Other], .agg [.str r10.Name, sl 5 gi_Terrain r10.Board.Rules.Terrains, sl 6 gi_Kind r10.Board.Rules.Kinds, I r10.Board.Rules.Stack, I r10.Board.Rules.River, I r10.Board.Rules.Road, I r10.Board.Rules.Supply, I r10.Board.Rules.Turns, I r10.Board.Map.Width, I r10.Board.Map.Height, sl 1 I r10.Board.Map.Terrain, sl 1 I r10.Board.Map.Rivers, sl 1 I r10.Board.Map.Roads, sl 2 gi_Odds r10.Table.Columns, I r10.Table.Dice, sl 1 (sl 1 I) r10.Table.Results, I r10.Start.Turn, I r10.Start.Weather, sl 4 gi_Unit r10.Start.Units, sl 2 gi_Goal r10.Conditions.Goals, I r10.Conditions.Step, I r10.Conditions.Margin, sl 1 I r10.First, sl 1 I r10.Other]], res := RB r11, G' := [] }, dec := some false }], r0] (by kernel_rfl) (P1 (cw_toScenario hr10) <| PI r5.Name <| PE ero_169 r5.Board.Rules.Terrains <| PL gi_Kind r5.Board.Rules.Kinds <| PI (r5.Board.Rules.Stack : Int) <| PI (r5.Board.Rules.River : Int) <| PI (r5.Board.Rules.Road : Int) <| PI (r5.Board.Rules.Supply : Int) <| PI (r5.Board.Rules.Turns : Int) <| PI (r5.Board.Map.Width : Int) <| PI (r5.Board.Map.Height : Int) <| PL I r5.Board.Map.Terrain <| PL I r5.Board.Map.Rivers <| PL I r5.Board.Map.Roads <| PL gi_Odds r5.Table.Columns <| PI (r5.Table.Dice : Int) <| PE ero_26 r5.Table.Results <| PI (r5.Start.Turn : Int) <| PI (r5.Start.Weather : Int) <| PL gi_Unit r5.Start.Units <| PL gi_Goal r5.Conditions.Goals <| PI (r5.Conditions.Step : Int) <| PI (r5.Conditions.Margin : Int) <| PL I r5.First <| PL I r5.Other <| PI r10.Name <| PE ero_169 r10.Board.Rules.Terrains <| PL gi_Kind r10.Board.Rules.Kinds <| PI (r10.Board.Rules.Stack : Int) <| PI (r10.Board.Rules.River : Int) <| PI (r10.Board.Rules.Road : Int) <| PI (r10.Board.Rules.Supply : Int) <| PI (r10.Board.Rules.Turns : Int) <| PI (r10.Board.Map.Width : Int) <| PI (r10.Board.Map.Height : Int) <| PL I r10.Board.Map.Terrain <| PL I r10.Board.Map.Rivers <| PL I r10.Board.Map.Roads <| PL gi_Odds r10.Table.Columns <| PI (r10.Table.Dice : Int) <| PE ero_26 r10.Table.Results <| PI (r10.Start.Turn : Int) <| PI (r10.Start.Weather : Int) <| PL gi_Unit r10.Start.Units <| PL gi_Goal r10.Conditions.Goals <| PI (r10.Conditions.Step : Int) <| PI (r10.Conditions.Margin : Int) <| PL I r10.First <| PL I r10.Other <| P1 (cw_eqScenario hr11) <| P2 (r11 = false) (eqF h12) <| P0))))
    (fun h8 H =>
      eW RB (fun _ => []) H <| gE func7 [rg [{ i := 2, call := some { cl := false, auto := true, ins := [], res := (RB r7), G' := [] }, dec := some false }], r0] (by kernel_rfl) (P1 (cw_eqIntS hr7) <| P2 (r7 = false) (eqF h8) <| P0)))
end Go.Proofs.YtcggoeafffcghaaGreatDoor.Ab
