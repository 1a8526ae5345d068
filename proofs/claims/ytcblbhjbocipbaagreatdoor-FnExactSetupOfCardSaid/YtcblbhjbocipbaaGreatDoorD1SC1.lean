/- Part of the proof of FnExactSetupOfCard: no condition of its own. -/
import Derived.Test.YtcblbhjbocipbaaGreatDoorD1SC
set_option linter.unusedVariables false
set_option linter.unusedSimpArgs false
open Go Go.Proofs Go.Proofs.Tryz
namespace Go.Proofs.YtcblbhjbocipbaaGreatDoor.Ab
/-! loop example/g00886/impl IsCombatTable -/
noncomputable def Ki_IsCombatTable : Si_IsCombatTable → List Item
  | .h1 .. => nav 300 3 [false] [.code (bdy f121)]
  | .h2 .. => nav 300 5 [false, false] [.code (bdy f121)]
def Zi_IsCombatTable : Si_IsCombatTable → St
  | .h1 t0 t1 t2 b3 => ⟨sts 90 [(1, .ptr 0 3 0 0), (29, sl 2 gi_Odds t0), (30, I t1), (31, I t2)], [some ⟨false, true, 3, 1, [.agg [sl 2 gi_Odds b3.Columns, I b3.Dice, sl 1 (sl 1 I) b3.Results]]⟩]⟩
  | .h2 t0 t1 t2 b3 => ⟨sts 90 [(1, .ptr 0 3 0 0), (73, sl 1 (sl 1 I) t0), (74, I t1), (75, I t2)], [some ⟨false, true, 3, 1, [.agg [sl 2 gi_Odds b3.Columns, I b3.Dice, sl 1 (sl 1 I) b3.Results]]⟩]⟩
abbrev Qi_IsCombatTable := Nx X 121 0 Ki_IsCombatTable Zi_IsCombatTable RB (fun _ => [])
theorem ni_IsCombatTable : ∀ s o, Bi_IsCombatTable s = some o → Qi_IsCombatTable (Ki_IsCombatTable s) (Zi_IsCombatTable s) o
  | .h1 t0 t1 t2 b3, o, H =>
    eIf H (fun h1 H =>
      eCk H fun h2 H =>
      eBind H fun x3 hx3 H =>
      eBind H fun r4 hr4 H =>
      gN [rg [hT 0], rg [hE 2 (gi_Odds x3)]] (by kernel_rfl) (P2 ((decide (t2 < t1)) = true) (decide_eq_true h1) <| P1 h2 <| P1 (int_lt_of_at h2 hx3) <| P1 (at_map gi_Odds hx3) <| P0) <|
      eIf H (fun h5 H =>
        eBind H fun r6 hr6 H =>
        eIf H (fun h7 H =>
          gN [rg [{ i := 2, call := some { cl := true, auto := true, ins := [], res := (RB r4), G' := [] }, dec := some true }, { i := 7, call := some { cl := true, auto := true, ins := [], res := (RB r6), G' := [] }, dec := some true }]] (by kernel_rfl) (P1 (ci_inRange hr4) <| P2 (r4 = true) (h5) <| P1 (ci_inRange hr6) <| P2 (r6 = true) (h7) <| P0) <|
          eIf H (fun h8 H =>
            eCk H fun h9 H =>
            eBind H fun x10 hx10 H =>
            eCk H fun h11 H =>
            eBind H fun x12 hx12 H =>
            eIf H (fun h13 H =>
              eN H <| gE func121 [rg [hT 1, hE 9 (gi_Odds x10), hE 21 (gi_Odds x12), hT 23], r0] (by kernel_rfl) (P2 ((decide (t2 > 0)) = true) (decide_eq_true h8) <| P1 h9 <| P1 (int_lt_of_at h9 hx10) <| P1 (at_map gi_Odds hx10) <| P1 h11 <| P1 (int_lt_of_at h11 hx12) <| P1 (at_map gi_Odds hx12) <| P2 ((decide ((IntKind.wrap .i64 (x10.Num * x3.Den)) ≥ (IntKind.wrap .i64 (x3.Num * x12.Den)))) = true) (decide_eq_true h13) <| P0))
            (fun h13 H =>
              eN H fun r hn => gO [rg [hT 1, hE 9 (gi_Odds x10), hE 21 (gi_Odds x12), hF 23], r0, .canon [0] [1, 29, 30, 31]] (by kernel_rfl) (P2 ((decide (t2 > 0)) = true) (decide_eq_true h8) <| P1 h9 <| P1 (int_lt_of_at h9 hx10) <| P1 (at_map gi_Odds hx10) <| P1 h11 <| P1 (int_lt_of_at h11 hx12) <| P1 (at_map gi_Odds hx12) <| P2 ((decide ((IntKind.wrap .i64 (x10.Num * x3.Den)) ≥ (IntKind.wrap .i64 (x3.Num * x12.Den)))) = false) (decide_eq_false h13) <| P0) hn))
          (fun h8 H =>
            eN H fun r hn => gO [rg [hF 1], r0, .canon [0] [1, 29, 30, 31]] (by kernel_rfl) (P2 ((decide (t2 > 0)) = false) (decide_eq_false h8) <| P0) hn))
        (fun h7 H =>
          eN H <| gE func121 [rg [{ i := 2, call := some { cl := true, auto := true, ins := [], res := (RB r4), G' := [] }, dec := some true }, { i := 7, call := some { cl := true, auto := true, ins := [], res := (RB r6), G' := [] }, dec := some false }], r0] (by kernel_rfl) (P1 (ci_inRange hr4) <| P2 (r4 = true) (h5) <| P1 (ci_inRange hr6) <| P2 (r6 = false) (eqF h7) <| P0)))
      (fun h5 H =>
        eN H <| gE func121 [rg [{ i := 2, call := some { cl := true, auto := true, ins := [], res := (RB r4), G' := [] }, dec := some false }], r0] (by kernel_rfl) (P1 (ci_inRange hr4) <| P2 (r4 = false) (eqF h5) <| P0)))
    (fun h1 H =>
      eN H fun r hn => gO [rg [hF 0], r0, .canon [0] [1, 73, 74, 75]] (by kernel_rfl) (P2 ((decide (t2 < t1)) = false) (decide_eq_false h1) <| P0) hn)
  | .h2 t0 t1 t2 b3, o, H =>
    eIf H (fun h1 H =>
      eCk H fun h2 H =>
      eBind H fun x3 hx3 H =>
      gN [rg [hT 0], rg [hE 1 ((sl 1 I) x3)]] (by kernel_rfl) (P2 ((decide (t2 < t1)) = true) (decide_eq_true h1) <| P1 h2 <| P1 (int_lt_of_at h2 hx3) <| P1 (at_map (sl 1 I) hx3) <| P0) <|
      eIf H (fun h4 H =>
        eBind H fun r5 hr5 H =>
        eIf H (fun h6 H =>
          eN H <| gE func121 [rg [hF 5, { i := 8, call := some { cl := true, auto := true, ins := [], res := (RB r5), G' := [] }, dec := some true }], r0] (by kernel_rfl) (P2 (((((x3.length : Nat) : Int) : Int) != ((b3.Columns.length : Nat) : Int)) = false) (bneF h4) <| P1 (cslices_ContainsFunc_int_i_IsCombatTable_1 hr5) <| P2 (r5 = true) (h6) <| P0))
        (fun h6 H =>
          eN H fun r hn => gO [rg [hF 5, { i := 8, call := some { cl := true, auto := true, ins := [], res := (RB r5), G' := [] }, dec := some false }], r0, .canon [0] [1, 73, 74, 75]] (by kernel_rfl) (P2 (((((x3.length : Nat) : Int) : Int) != ((b3.Columns.length : Nat) : Int)) = false) (bneF h4) <| P1 (cslices_ContainsFunc_int_i_IsCombatTable_1 hr5) <| P2 (r5 = false) (eqF h6) <| P0) hn))
      (fun h4 H =>
        eN H <| gE func121 [rg [hT 5], r0] (by kernel_rfl) (P2 (((((x3.length : Nat) : Int) : Int) != ((b3.Columns.length : Nat) : Int)) = true) (bneT h4) <| P0)))
    (fun h1 H =>
      eN H <| gE func121 [rg [hF 0], r0] (by kernel_rfl) (P2 ((decide (t2 < t1)) = false) (decide_eq_false h1) <| P0))
theorem wi_IsCombatTable : ∀ s r, loop Bi_IsCombatTable s = some r → Wc X 121 0 (Ki_IsCombatTable s) (Zi_IsCombatTable s) (RB r) ((fun _ => []) r) := Nx.all (ni_IsCombatTable)
theorem ci_IsCombatTable {a0 : Gi_CombatTable} {r : Bool} (H : Di_IsCombatTable a0 = some r) : Ct X.P X.gl 121 [.agg [sl 2 gi_Odds a0.Columns, I a0.Dice, sl 1 (sl 1 I) a0.Results]] [] (RB r) [] :=
  Ct.of func121 (c := bdy f121) (by kernel_rfl) (by kernel_rfl) <|
  eBind H fun r1 hr1 H =>
  gS [r0] (by kernel_rfl) P0 <|
  eIf H (fun h2 H =>
    eBind H fun r3 hr3 H =>
    eIf H (fun h4 H =>
      eIf H (fun h5 H =>
        gO [rg [{ i := 3, call := some { cl := true, auto := true, ins := [], res := (RB r1), G' := [] }, dec := some true }, { i := 8, call := some { cl := true, auto := true, ins := [], res := (RB r3), G' := [] }, dec := some true }, hF 19], r0, .canon [0] [1, 29, 30, 31]] (by kernel_rfl) (P1 (ci_inRange hr1) <| P2 (r1 = true) (h2) <| P1 (ci_inRange hr3) <| P2 (r3 = true) (h4) <| P2 (((((a0.Results.length : Nat) : Int) : Int) != (IntKind.wrap .i64 ((IntKind.wrap .i64 (5 * a0.Dice)) + 1))) = false) (bneF h5) <| P0) (wi_IsCombatTable _ _ H))
      (fun h5 H =>
        eW RB (fun _ => []) H <| gE func121 [rg [{ i := 3, call := some { cl := true, auto := true, ins := [], res := (RB r1), G' := [] }, dec := some true }, { i := 8, call := some { cl := true, auto := true, ins := [], res := (RB r3), G' := [] }, dec := some true }, hT 19], r0] (by kernel_rfl) (P1 (ci_inRange hr1) <| P2 (r1 = true) (h2) <| P1 (ci_inRange hr3) <| P2 (r3 = true) (h4) <| P2 (((((a0.Results.length : Nat) : Int) : Int) != (IntKind.wrap .i64 ((IntKind.wrap .i64 (5 * a0.Dice)) + 1))) = true) (bneT h5) <| P0)))
    (fun h4 H =>
      eW RB (fun _ => []) H <| gE func121 [rg [{ i := 3, call := some { cl := true, auto := true, ins := [], res := (RB r1), G' := [] }, dec := some true }, { i := 8, call := some { cl := true, auto := true, ins := [], res := (RB r3), G' := [] }, dec := some false }], r0] (by kernel_rfl) (P1 (ci_inRange hr1) <| P2 (r1 = true) (h2) <| P1 (ci_inRange hr3) <| P2 (r3 = false) (eqF h4) <| P0)))
  (fun h2 H =>
    eW RB (fun _ => []) H <| gE func121 [rg [{ i := 3, call := some { cl := true, auto := true, ins := [], res := (RB r1), G' := [] }, dec := some false }], r0] (by kernel_rfl) (P1 (ci_inRange hr1) <| P2 (r1 = false) (eqF h2) <| P0))
/-! loop example/g00886/impl sizeOf -/
theorem ci_sizeOf {a0 : Gi_Board} {r : Int} (H : Di_sizeOf a0 = some r) : Ct X.P X.gl 161 [.agg [sl 5 gi_Terrain a0.Rules.Terrains, sl 6 gi_Kind a0.Rules.Kinds, I a0.Rules.Stack, I a0.Rules.River, I a0.Rules.Road, I a0.Rules.Supply, I a0.Rules.Turns, I a0.Map.Width, I a0.Map.Height, sl 1 I a0.Map.Terrain, sl 1 I a0.Map.Rivers, sl 1 I a0.Map.Roads]] [] (RI r) [] :=
  Ct.of func161 (c := bdy f161) (by kernel_rfl) (by kernel_rfl) <|
  eW RI (fun _ => []) H <| gE func161 [r0, r0] (by kernel_rfl) P0
/-! loop example/g00886/impl isSide -/
theorem ci_isSide {a0 : Int} {r : Bool} (H : Di_isSide a0 = some r) : Ct X.P X.gl 186 [I a0] [] (RB r) [] :=
  Ct.of func186 (c := bdy f186) (by kernel_rfl) (by kernel_rfl) <|
  eBind H fun r1 hr1 H =>
  eW RB (fun _ => []) H <| gE func186 [r0, rg [hC 1 true [] (RB r1) []]] (by kernel_rfl) (P1 (ci_inRange hr1) <| P0)
/-! loop example/g00886/impl terrainAt -/
def Ri_terrainAt (r : Gi_Terrain) : List D := [.agg [.str r.Name, sl 1 I r.Cost, I r.Shift, I r.Height, .bool r.Blocks]]
theorem ci_terrainAt {a0 : Gi_Board} {a1 : Int} {r : Gi_Terrain} (H : Di_terrainAt a0 a1 = some r) : Ct X.P X.gl 199 [.agg [sl 5 gi_Terrain a0.Rules.Terrains, sl 6 gi_Kind a0.Rules.Kinds, I a0.Rules.Stack, I a0.Rules.River, I a0.Rules.Road, I a0.Rules.Supply, I a0.Rules.Turns, I a0.Map.Width, I a0.Map.Height, sl 1 I a0.Map.Terrain, sl 1 I a0.Map.Rivers, sl 1 I a0.Map.Roads], I a1] [] (Ri_terrainAt r) [] :=
  Ct.of func199 (c := bdy f199) (by kernel_rfl) (by kernel_rfl) <|
  eCk H fun h1 H =>
  eBind H fun x2 hx2 H =>
  eCk H fun h3 H =>
  eBind H fun x4 hx4 H =>
  eW Ri_terrainAt (fun _ => []) H <| gE func199 [r0, rg [hE 8 (I x2), hE 10 (gi_Terrain x4)]] (by kernel_rfl) (P1 h1 <| P1 (int_lt_of_at h1 hx2) <| P1 (at_map I hx2) <| P1 h3 <| P1 (int_lt_of_at h3 hx4) <| P1 (at_map gi_Terrain hx4) <| P0)
/-! loop example/g00886/impl enterCost -/
theorem ci_enterCost {a0 : Gi_Board} {a1 : Int} {a2 : Int} {r : Int} (H : Di_enterCost a0 a1 a2 = some r) : Ct X.P X.gl 187 [.agg [sl 5 gi_Terrain a0.Rules.Terrains, sl 6 gi_Kind a0.Rules.Kinds, I a0.Rules.Stack, I a0.Rules.River, I a0.Rules.Road, I a0.Rules.Supply, I a0.Rules.Turns, I a0.Map.Width, I a0.Map.Height, sl 1 I a0.Map.Terrain, sl 1 I a0.Map.Rivers, sl 1 I a0.Map.Roads], I a1, I a2] [] (RI r) [] :=
  Ct.of func187 (c := bdy f187) (by kernel_rfl) (by kernel_rfl) <|
  eBind H fun r1 hr1 H =>
  eCk H fun h2 H =>
  eBind H fun x3 hx3 H =>
  eW RI (fun _ => []) H <| gE func187 [r0, rg [hC 2 true [] (Ri_terrainAt r1) [], hE 6 (I x3)]] (by kernel_rfl) (P1 (ci_terrainAt hr1) <| P1 h2 <| P1 (int_lt_of_at h2 hx3) <| P1 (at_map I hx3) <| P0)
/-! loop example/g00886/impl goodUnit -/
theorem ci_goodUnit {a0 : Gi_Board} {a1 : Gi_Unit} {r : Bool} (H : Di_goodUnit a0 a1 = some r) : Ct X.P X.gl 162 [.agg [sl 5 gi_Terrain a0.Rules.Terrains, sl 6 gi_Kind a0.Rules.Kinds, I a0.Rules.Stack, I a0.Rules.River, I a0.Rules.Road, I a0.Rules.Supply, I a0.Rules.Turns, I a0.Map.Width, I a0.Map.Height, sl 1 I a0.Map.Terrain, sl 1 I a0.Map.Rivers, sl 1 I a0.Map.Roads], .agg [I a1.Side, I a1.Kind, I a1.At, I a1.Steps]] [] (RB r) [] :=
  Ct.of func162 (c := bdy f162) (by kernel_rfl) (by kernel_rfl) <|
  eBind H fun r1 hr1 H =>
  gS [r0] (by kernel_rfl) P0 <|
  eIf H (fun h2 H =>
    eBind H fun r3 hr3 H =>
    eIf H (fun h4 H =>
      eCk H fun h5 H =>
      eBind H fun x6 hx6 H =>
      eBind H fun r7 hr7 H =>
      eIf H (fun h8 H =>
        gS [rg [{ i := 2, call := some { cl := true, auto := true, ins := [], res := (RB r1), G' := [] }, dec := some true }, { i := 11, call := some { cl := true, auto := true, ins := [], res := (RB r3), G' := [] }, dec := some true }, hE 24 (gi_Kind x6), { i := 25, call := some { cl := true, auto := true, ins := [], res := (RB r7), G' := [] }, dec := some true }]] (by kernel_rfl) (P1 (ci_isSide hr1) <| P2 (r1 = true) (h2) <| P1 (ci_isIndex hr3) <| P2 (r3 = true) (h4) <| P1 h5 <| P1 (int_lt_of_at h5 hx6) <| P1 (at_map gi_Kind hx6) <| P1 (ci_inRange hr7) <| P2 (r7 = true) (h8) <| P0) <|
        eIf H (fun h9 H =>
          eW RB (fun _ => []) H <| gE func162 [rg [hT 2], r0] (by kernel_rfl) (P2 (((a1.At : Int) == (-1)) = true) (beqT h9) <| P0))
        (fun h9 H =>
          gS [rg [hF 2]] (by kernel_rfl) (P2 (((a1.At : Int) == (-1)) = false) (beqF h9) <| P0) <|
          eIf H (fun h10 H =>
            eBind H fun r11 hr11 H =>
            eBind H fun r12 hr12 H =>
            eIf H (fun h13 H =>
              eBind H fun r14 hr14 H =>
              eW RB (fun _ => []) H <| gE func162 [rg [hT 2, hC 7 true [] (RI r11) [], { i := 8, call := some { cl := true, auto := true, ins := [], res := (RB r12), G' := [] }, dec := some true }, hC 16 true [] (RI r14) []]] (by kernel_rfl) (P2 ((decide (a1.Steps > 0)) = true) (decide_eq_true h10) <| P1 (ci_sizeOf hr11) <| P1 (ci_isIndex hr12) <| P2 (r12 = true) (h13) <| P1 (ci_enterCost hr14) <| P0))
            (fun h13 H =>
              eW RB (fun _ => []) H <| gE func162 [rg [hT 2, hC 7 true [] (RI r11) [], { i := 8, call := some { cl := true, auto := true, ins := [], res := (RB r12), G' := [] }, dec := some false }]] (by kernel_rfl) (P2 ((decide (a1.Steps > 0)) = true) (decide_eq_true h10) <| P1 (ci_sizeOf hr11) <| P1 (ci_isIndex hr12) <| P2 (r12 = false) (eqF h13) <| P0)))
          (fun h10 H =>
            eW RB (fun _ => []) H <| gE func162 [rg [hF 2]] (by kernel_rfl) (P2 ((decide (a1.Steps > 0)) = false) (decide_eq_false h10) <| P0))))
      (fun h8 H =>
        eW RB (fun _ => []) H <| gE func162 [rg [{ i := 2, call := some { cl := true, auto := true, ins := [], res := (RB r1), G' := [] }, dec := some true }, { i := 11, call := some { cl := true, auto := true, ins := [], res := (RB r3), G' := [] }, dec := some true }, hE 24 (gi_Kind x6), { i := 25, call := some { cl := true, auto := true, ins := [], res := (RB r7), G' := [] }, dec := some false }], r0] (by kernel_rfl) (P1 (ci_isSide hr1) <| P2 (r1 = true) (h2) <| P1 (ci_isIndex hr3) <| P2 (r3 = true) (h4) <| P1 h5 <| P1 (int_lt_of_at h5 hx6) <| P1 (at_map gi_Kind hx6) <| P1 (ci_inRange hr7) <| P2 (r7 = false) (eqF h8) <| P0)))
    (fun h4 H =>
      eW RB (fun _ => []) H <| gE func162 [rg [{ i := 2, call := some { cl := true, auto := true, ins := [], res := (RB r1), G' := [] }, dec := some true }, { i := 11, call := some { cl := true, auto := true, ins := [], res := (RB r3), G' := [] }, dec := some false }], r0] (by kernel_rfl) (P1 (ci_isSide hr1) <| P2 (r1 = true) (h2) <| P1 (ci_isIndex hr3) <| P2 (r3 = false) (eqF h4) <| P0)))
  (fun h2 H =>
    eW RB (fun _ => []) H <| gE func162 [rg [{ i := 2, call := some { cl := true, auto := true, ins := [], res := (RB r1), G' := [] }, dec := some false }], r0] (by kernel_rfl) (P1 (ci_isSide hr1) <| P2 (r1 = false) (eqF h2) <| P0))
/-! loop example/g00886/impl goodState -/
noncomputable def Ki_goodState : Si_goodState → List Item
  | .h1 .. => nav 300 4 [false] [.code (bdy f122)]
def Zi_goodState : Si_goodState → St
  | .h1 t0 t1 t2 b3 l4 => ⟨sts 80 [(2, .ptr 0 12 0 0), (5, .ref 1 2 none), (31, sl 4 gi_Unit t0), (32, I t1), (33, I t2)], [some ⟨false, true, 12, 1, [.agg [sl 5 gi_Terrain b3.Rules.Terrains, sl 6 gi_Kind b3.Rules.Kinds, I b3.Rules.Stack, I b3.Rules.River, I b3.Rules.Road, I b3.Rules.Supply, I b3.Rules.Turns, I b3.Map.Width, I b3.Map.Height, sl 1 I b3.Map.Terrain, sl 1 I b3.Map.Rivers, sl 1 I b3.Map.Roads]]⟩, some ⟨false, false, 2, l4.length, List.map gA2I l4⟩]⟩
abbrev Qi_goodState := Nx X 122 0 Ki_goodState Zi_goodState RB (fun _ => [])
theorem ni_goodState : ∀ s o, Bi_goodState s = some o → Qi_goodState (Ki_goodState s) (Zi_goodState s) o
  | .h1 t0 t1 t2 b3 l4, o, H =>
    eIf H (fun h1 H =>
      eCk H fun h2 H =>
      eBind H fun x3 hx3 H =>
      eBind H fun r4 hr4 H =>
      gN [rg [hT 0], rg [hE 1 (gi_Unit x3)]] (by kernel_rfl) (P2 ((decide (t2 < t1)) = true) (decide_eq_true h1) <| P1 h2 <| P1 (int_lt_of_at h2 hx3) <| P1 (at_map gi_Unit hx3) <| P0) <|
      eIf H (fun h5 H =>
        gN [rg [{ i := 2, call := some { cl := true, auto := true, ins := [], res := (RB r4), G' := [] }, dec := some true }]] (by kernel_rfl) (P1 (ci_goodUnit hr4) <| P2 (r4 = true) (h5) <| P0) <|
        eIf H (fun h6 H =>
          eN H fun r hn => gO [rg [hT 2], r0, .canon [0, 1] [2, 5, 31, 32, 33]] (by kernel_rfl) (P2 ((decide (x3.At < 0)) = true) (decide_eq_true h6) <| P0) hn)
        (fun h6 H =>
          eCk H fun h7 H =>
          eBind H fun x8 hx8 H =>
          gN [rg [hF 2]] (by kernel_rfl) (P2 ((decide (x3.At < 0)) = false) (decide_eq_false h6) <| P0) <|
          eIf H (fun h9 H =>
            eCk H fun h10 H =>
            eBind H fun x11 hx11 H =>
            eCk H fun h12 H =>
            eBind H fun x13 hx13 H =>
            gN [rg [{ i := 6, n := 0 }, hE 7 (gA2I x8), { i := 10, n := 0 }, hA 11 ((List.set l4 (Int.toNat x3.At) (GA2I.mk (IntKind.wrap .i64 (x8.c0 + 1)) x11.c1)).length) (List.map gA2I (List.set l4 (Int.toNat x3.At) (GA2I.mk (IntKind.wrap .i64 (x8.c0 + 1)) x11.c1)))]] (by kernel_rfl) (P1 h7 <| P1 (int_lt_of_at h7 hx8) <| P1 h9 <| P1 (at_map gA2I hx8) <| P1 h10 <| P1 (int_lt_of_at h10 hx11) <| P1 h9 <| P1 (lt_of_at hx11) <| P2 (setCells (List.map gA2I l4) (Int.toNat x3.At) 0 [I (IntKind.wrap .i64 (x8.c0 + 1))] = List.map gA2I (List.set l4 (Int.toNat x3.At) (GA2I.mk (IntKind.wrap .i64 (x8.c0 + 1)) x11.c1))) (setCells_map hx11 rfl) <| P1 (setLen l4 (Int.toNat x3.At) (GA2I.mk (IntKind.wrap .i64 (x8.c0 + 1)) x11.c1)) <| P0) <|
            eIf H (fun h14 H =>
              eIf H (fun h15 H =>
                eN H <| gE func122 [rg [{ i := 7, n := 0 }, hE 8 (gA2I x13), hT 9], r0] (by kernel_rfl) (P1 h12 <| P1 (int_lt_of_at h12 hx13) <| P1 h14 <| P1 (at_map gA2I hx13) <| P2 ((decide (x13.c0 > 0)) = true) (decide_eq_true h15) <| P0))
              (fun h15 H =>
                eCk H fun h16 H =>
                eBind H fun x17 hx17 H =>
                eIf H (fun h18 H =>
                  eN H <| gE func122 [rg [{ i := 7, n := 0 }, hE 8 (gA2I x13), hF 9, { i := 17, n := 0 }, hE 18 (gA2I x17), hT 22], r0] (by kernel_rfl) (P1 h12 <| P1 (int_lt_of_at h12 hx13) <| P1 h14 <| P1 (at_map gA2I hx13) <| P2 ((decide (x13.c0 > 0)) = false) (decide_eq_false h15) <| P1 h16 <| P1 (int_lt_of_at h16 hx17) <| P1 h9 <| P1 (at_map gA2I hx17) <| P2 ((decide (x17.c0 > b3.Rules.Stack)) = true) (decide_eq_true h18) <| P0))
                (fun h18 H =>
                  eN H fun r hn => gO [rg [{ i := 7, n := 0 }, hE 8 (gA2I x13), hF 9, { i := 17, n := 0 }, hE 18 (gA2I x17), hF 22], r0, .canon [0, 1] [2, 5, 31, 32, 33]] (by kernel_rfl) (P1 h12 <| P1 (int_lt_of_at h12 hx13) <| P1 h14 <| P1 (at_map gA2I hx13) <| P2 ((decide (x13.c0 > 0)) = false) (decide_eq_false h15) <| P1 h16 <| P1 (int_lt_of_at h16 hx17) <| P1 h9 <| P1 (at_map gA2I hx17) <| P2 ((decide (x17.c0 > b3.Rules.Stack)) = false) (decide_eq_false h18) <| P0) hn)))
            (fun h14 H =>
              eCk H fun h15 H =>
              eIf H (fun h16 H =>
                eN H <| gE func122 [rg [{ i := 7, n := 1 }, hE 8 (gA2I x13), hT 9], r0] (by kernel_rfl) (P1 h12 <| P1 (int_lt_of_at h12 hx13) <| P1 h15 <| P1 (at_map gA2I hx13) <| P2 ((decide (x13.c1 > 0)) = true) (decide_eq_true h16) <| P0))
              (fun h16 H =>
                eCk H fun h17 H =>
                eBind H fun x18 hx18 H =>
                eIf H (fun h19 H =>
                  eN H <| gE func122 [rg [{ i := 7, n := 1 }, hE 8 (gA2I x13), hF 9, { i := 17, n := 0 }, hE 18 (gA2I x18), hT 22], r0] (by kernel_rfl) (P1 h12 <| P1 (int_lt_of_at h12 hx13) <| P1 h15 <| P1 (at_map gA2I hx13) <| P2 ((decide (x13.c1 > 0)) = false) (decide_eq_false h16) <| P1 h17 <| P1 (int_lt_of_at h17 hx18) <| P1 h9 <| P1 (at_map gA2I hx18) <| P2 ((decide (x18.c0 > b3.Rules.Stack)) = true) (decide_eq_true h19) <| P0))
                (fun h19 H =>
                  eN H fun r hn => gO [rg [{ i := 7, n := 1 }, hE 8 (gA2I x13), hF 9, { i := 17, n := 0 }, hE 18 (gA2I x18), hF 22], r0, .canon [0, 1] [2, 5, 31, 32, 33]] (by kernel_rfl) (P1 h12 <| P1 (int_lt_of_at h12 hx13) <| P1 h15 <| P1 (at_map gA2I hx13) <| P2 ((decide (x13.c1 > 0)) = false) (decide_eq_false h16) <| P1 h17 <| P1 (int_lt_of_at h17 hx18) <| P1 h9 <| P1 (at_map gA2I hx18) <| P2 ((decide (x18.c0 > b3.Rules.Stack)) = false) (decide_eq_false h19) <| P0) hn))))
          (fun h9 H =>
            eCk H fun h10 H =>
            eCk H fun h11 H =>
            eBind H fun x12 hx12 H =>
            eCk H fun h13 H =>
            eBind H fun x14 hx14 H =>
            gN [rg [{ i := 6, n := 1 }, hE 7 (gA2I x8), { i := 10, n := 1 }, hA 11 ((List.set l4 (Int.toNat x3.At) (GA2I.mk x12.c0 (IntKind.wrap .i64 (x8.c1 + 1)))).length) (List.map gA2I (List.set l4 (Int.toNat x3.At) (GA2I.mk x12.c0 (IntKind.wrap .i64 (x8.c1 + 1)))))]] (by kernel_rfl) (P1 h7 <| P1 (int_lt_of_at h7 hx8) <| P1 h10 <| P1 (at_map gA2I hx8) <| P1 h11 <| P1 (int_lt_of_at h11 hx12) <| P1 h10 <| P1 (lt_of_at hx12) <| P2 (setCells (List.map gA2I l4) (Int.toNat x3.At) 1 [I (IntKind.wrap .i64 (x8.c1 + 1))] = List.map gA2I (List.set l4 (Int.toNat x3.At) (GA2I.mk x12.c0 (IntKind.wrap .i64 (x8.c1 + 1))))) (setCells_map hx12 rfl) <| P1 (setLen l4 (Int.toNat x3.At) (GA2I.mk x12.c0 (IntKind.wrap .i64 (x8.c1 + 1)))) <| P0) <|
            eIf H (fun h15 H =>
              eIf H (fun h16 H =>
                eN H <| gE func122 [rg [{ i := 7, n := 0 }, hE 8 (gA2I x14), hT 9], r0] (by kernel_rfl) (P1 h13 <| P1 (int_lt_of_at h13 hx14) <| P1 h15 <| P1 (at_map gA2I hx14) <| P2 ((decide (x14.c0 > 0)) = true) (decide_eq_true h16) <| P0))
              (fun h16 H =>
                eCk H fun h17 H =>
                eBind H fun x18 hx18 H =>
                eIf H (fun h19 H =>
                  eN H <| gE func122 [rg [{ i := 7, n := 0 }, hE 8 (gA2I x14), hF 9, { i := 17, n := 1 }, hE 18 (gA2I x18), hT 22], r0] (by kernel_rfl) (P1 h13 <| P1 (int_lt_of_at h13 hx14) <| P1 h15 <| P1 (at_map gA2I hx14) <| P2 ((decide (x14.c0 > 0)) = false) (decide_eq_false h16) <| P1 h17 <| P1 (int_lt_of_at h17 hx18) <| P1 h10 <| P1 (at_map gA2I hx18) <| P2 ((decide (x18.c1 > b3.Rules.Stack)) = true) (decide_eq_true h19) <| P0))
                (fun h19 H =>
                  eN H fun r hn => gO [rg [{ i := 7, n := 0 }, hE 8 (gA2I x14), hF 9, { i := 17, n := 1 }, hE 18 (gA2I x18), hF 22], r0, .canon [0, 1] [2, 5, 31, 32, 33]] (by kernel_rfl) (P1 h13 <| P1 (int_lt_of_at h13 hx14) <| P1 h15 <| P1 (at_map gA2I hx14) <| P2 ((decide (x14.c0 > 0)) = false) (decide_eq_false h16) <| P1 h17 <| P1 (int_lt_of_at h17 hx18) <| P1 h10 <| P1 (at_map gA2I hx18) <| P2 ((decide (x18.c1 > b3.Rules.Stack)) = false) (decide_eq_false h19) <| P0) hn)))
            (fun h15 H =>
              eCk H fun h16 H =>
              eIf H (fun h17 H =>
                eN H <| gE func122 [rg [{ i := 7, n := 1 }, hE 8 (gA2I x14), hT 9], r0] (by kernel_rfl) (P1 h13 <| P1 (int_lt_of_at h13 hx14) <| P1 h16 <| P1 (at_map gA2I hx14) <| P2 ((decide (x14.c1 > 0)) = true) (decide_eq_true h17) <| P0))
              (fun h17 H =>
                eCk H fun h18 H =>
                eBind H fun x19 hx19 H =>
                eIf H (fun h20 H =>
                  eN H <| gE func122 [rg [{ i := 7, n := 1 }, hE 8 (gA2I x14), hF 9, { i := 17, n := 1 }, hE 18 (gA2I x19), hT 22], r0] (by kernel_rfl) (P1 h13 <| P1 (int_lt_of_at h13 hx14) <| P1 h16 <| P1 (at_map gA2I hx14) <| P2 ((decide (x14.c1 > 0)) = false) (decide_eq_false h17) <| P1 h18 <| P1 (int_lt_of_at h18 hx19) <| P1 h10 <| P1 (at_map gA2I hx19) <| P2 ((decide (x19.c1 > b3.Rules.Stack)) = true) (decide_eq_true h20) <| P0))
                (fun h20 H =>
                  eN H fun r hn => gO [rg [{ i := 7, n := 1 }, hE 8 (gA2I x14), hF 9, { i := 17, n := 1 }, hE 18 (gA2I x19), hF 22], r0, .canon [0, 1] [2, 5, 31, 32, 33]] (by kernel_rfl) (P1 h13 <| P1 (int_lt_of_at h13 hx14) <| P1 h16 <| P1 (at_map gA2I hx14) <| P2 ((decide (x14.c1 > 0)) = false) (decide_eq_false h17) <| P1 h18 <| P1 (int_lt_of_at h18 hx19) <| P1 h10 <| P1 (at_map gA2I hx19) <| P2 ((decide (x19.c1 > b3.Rules.Stack)) = false) (decide_eq_false h20) <| P0) hn))))))
      (fun h5 H =>
        eN H <| gE func122 [rg [{ i := 2, call := some { cl := true, auto := true, ins := [], res := (RB r4), G' := [] }, dec := some false }], r0] (by kernel_rfl) (P1 (ci_goodUnit hr4) <| P2 (r4 = false) (eqF h5) <| P0)))
    (fun h1 H =>
      eN H <| gE func122 [rg [hF 0], r0] (by kernel_rfl) (P2 ((decide (t2 < t1)) = false) (decide_eq_false h1) <| P0))
theorem wi_goodState : ∀ s r, loop Bi_goodState s = some r → Wc X 122 0 (Ki_goodState s) (Zi_goodState s) (RB r) ((fun _ => []) r) := Nx.all (ni_goodState)
theorem ci_goodState {a0 : Gi_Board} {a1 : Gi_State} {r : Bool} (H : Di_goodState a0 a1 = some r) : Ct X.P X.gl 122 [.agg [sl 5 gi_Terrain a0.Rules.Terrains, sl 6 gi_Kind a0.Rules.Kinds, I a0.Rules.Stack, I a0.Rules.River, I a0.Rules.Road, I a0.Rules.Supply, I a0.Rules.Turns, I a0.Map.Width, I a0.Map.Height, sl 1 I a0.Map.Terrain, sl 1 I a0.Map.Rivers, sl 1 I a0.Map.Roads], .agg [I a1.Turn, I a1.Weather, sl 4 gi_Unit a1.Units]] [] (RB r) [] :=
  Ct.of func122 (c := bdy f122) (by kernel_rfl) (by kernel_rfl) <|
  eBind H fun r1 hr1 H =>
  gS [r0] (by kernel_rfl) P0 <|
  eIf H (fun h2 H =>
    eBind H fun r3 hr3 H =>
    eIf H (fun h4 H =>
      eIf H (fun h5 H =>
        eW RB (fun _ => []) H <| gE func122 [rg [{ i := 5, call := some { cl := true, auto := true, ins := [], res := (RB r1), G' := [] }, dec := some true }, { i := 10, call := some { cl := true, auto := true, ins := [], res := (RB r3), G' := [] }, dec := some true }, hT 17], r0] (by kernel_rfl) (P1 (ci_inRange hr1) <| P2 (r1 = true) (h2) <| P1 (ci_inRange hr3) <| P2 (r3 = true) (h4) <| P2 ((decide (((a1.Units.length : Nat) : Int) > 12)) = true) (decide_eq_true h5) <| P0))
      (fun h5 H =>
        eBind H fun r6 hr6 H =>
        eCk H fun h7 H =>
        eCk H fun h8 H =>
        gO [rg [{ i := 5, call := some { cl := true, auto := true, ins := [], res := (RB r1), G' := [] }, dec := some true }, { i := 10, call := some { cl := true, auto := true, ins := [], res := (RB r3), G' := [] }, dec := some true }, hF 17], rg [hC 1 true [] (RI r6) [], hA 2 ((List.replicate (Int.toNat r6) (GA2I.mk 0 0)).length) (List.map gA2I (List.replicate (Int.toNat r6) (GA2I.mk 0 0)))], r0, .canon [0, 2] [2, 5, 31, 32, 33]] (by kernel_rfl) (P1 (ci_inRange hr1) <| P2 (r1 = true) (h2) <| P1 (ci_inRange hr3) <| P2 (r3 = true) (h4) <| P2 ((decide (((a1.Units.length : Nat) : Int) > 12)) = false) (decide_eq_false h5) <| P1 (ci_sizeOf hr6) <| PI (r6 : Int) <| P2 ((0 : Int) ≤ r6) h7 <| P2 (Int.toNat r6 * 16 ≤ 140737488355328) h8 <| P1 (repLen (Int.toNat r6) (GA2I.mk 0 0)) <| P1 (repMap gA2I (Int.toNat r6) (GA2I.mk 0 0)) <| P0) (wi_goodState _ _ H)))
    (fun h4 H =>
      eW RB (fun _ => []) H <| gE func122 [rg [{ i := 5, call := some { cl := true, auto := true, ins := [], res := (RB r1), G' := [] }, dec := some true }, { i := 10, call := some { cl := true, auto := true, ins := [], res := (RB r3), G' := [] }, dec := some false }], r0] (by kernel_rfl) (P1 (ci_inRange hr1) <| P2 (r1 = true) (h2) <| P1 (ci_inRange hr3) <| P2 (r3 = false) (eqF h4) <| P0)))
  (fun h2 H =>
    eW RB (fun _ => []) H <| gE func122 [rg [{ i := 5, call := some { cl := true, auto := true, ins := [], res := (RB r1), G' := [] }, dec := some false }], r0] (by kernel_rfl) (P1 (ci_inRange hr1) <| P2 (r1 = false) (eqF h2) <| P0))
/-! loop example/g00886/impl goodConditions -/
noncomputable def Ki_goodConditions : Si_goodConditions → List Item
  | .h1 .. => nav 300 3 [false] [.code (bdy f123)]
def Zi_goodConditions : Si_goodConditions → St
  | .h1 t0 t1 t2 b3 b4 => ⟨sts 60 [(2, .ptr 0 12 0 0), (3, .ptr 1 3 0 0), (24, sl 2 gi_Goal t0), (25, I t1), (26, I t2)], [some ⟨false, true, 12, 1, [.agg [sl 5 gi_Terrain b3.Rules.Terrains, sl 6 gi_Kind b3.Rules.Kinds, I b3.Rules.Stack, I b3.Rules.River, I b3.Rules.Road, I b3.Rules.Supply, I b3.Rules.Turns, I b3.Map.Width, I b3.Map.Height, sl 1 I b3.Map.Terrain, sl 1 I b3.Map.Rivers, sl 1 I b3.Map.Roads]]⟩, some ⟨false, true, 3, 1, [.agg [sl 2 gi_Goal b4.Goals, I b4.Step, I b4.Margin]]⟩]⟩
abbrev Qi_goodConditions := Nx X 123 0 Ki_goodConditions Zi_goodConditions RB (fun _ => [])
theorem ni_goodConditions : ∀ s o, Bi_goodConditions s = some o → Qi_goodConditions (Ki_goodConditions s) (Zi_goodConditions s) o
  | .h1 t0 t1 t2 b3 b4, o, H =>
    eIf H (fun h1 H =>
      eCk H fun h2 H =>
      eBind H fun x3 hx3 H =>
      eBind H fun r4 hr4 H =>
      eBind H fun r5 hr5 H =>
      gN [rg [hT 0], rg [hE 2 (gi_Goal x3)]] (by kernel_rfl) (P2 ((decide (t2 < t1)) = true) (decide_eq_true h1) <| P1 h2 <| P1 (int_lt_of_at h2 hx3) <| P1 (at_map gi_Goal hx3) <| P0) <|
      eIf H (fun h6 H =>
        eBind H fun r7 hr7 H =>
        eIf H (fun h8 H =>
          eIf H (fun h9 H =>
            eCk H fun h10 H =>
            eBind H fun x11 hx11 H =>
            eIf H (fun h12 H =>
              eN H <| gE func123 [rg [hC 3 true [] (RI r4) [], { i := 4, call := some { cl := true, auto := true, ins := [], res := (RB r5), G' := [] }, dec := some true }, { i := 9, call := some { cl := true, auto := true, ins := [], res := (RB r7), G' := [] }, dec := some true }, hT 14, hE 22 (gi_Goal x11), hT 25], r0] (by kernel_rfl) (P1 (ci_sizeOf hr4) <| P1 (ci_isIndex hr5) <| P2 (r5 = true) (h6) <| P1 (ci_inRange hr7) <| P2 (r7 = true) (h8) <| P2 ((decide (t2 > 0)) = true) (decide_eq_true h9) <| P1 h10 <| P1 (int_lt_of_at h10 hx11) <| P1 (at_map gi_Goal hx11) <| P2 ((decide (x11.At ≥ x3.At)) = true) (decide_eq_true h12) <| P0))
            (fun h12 H =>
              eN H fun r hn => gO [rg [hC 3 true [] (RI r4) [], { i := 4, call := some { cl := true, auto := true, ins := [], res := (RB r5), G' := [] }, dec := some true }, { i := 9, call := some { cl := true, auto := true, ins := [], res := (RB r7), G' := [] }, dec := some true }, hT 14, hE 22 (gi_Goal x11), hF 25], r0, .canon [0, 1] [2, 3, 24, 25, 26]] (by kernel_rfl) (P1 (ci_sizeOf hr4) <| P1 (ci_isIndex hr5) <| P2 (r5 = true) (h6) <| P1 (ci_inRange hr7) <| P2 (r7 = true) (h8) <| P2 ((decide (t2 > 0)) = true) (decide_eq_true h9) <| P1 h10 <| P1 (int_lt_of_at h10 hx11) <| P1 (at_map gi_Goal hx11) <| P2 ((decide (x11.At ≥ x3.At)) = false) (decide_eq_false h12) <| P0) hn))
          (fun h9 H =>
            eN H fun r hn => gO [rg [hC 3 true [] (RI r4) [], { i := 4, call := some { cl := true, auto := true, ins := [], res := (RB r5), G' := [] }, dec := some true }, { i := 9, call := some { cl := true, auto := true, ins := [], res := (RB r7), G' := [] }, dec := some true }, hF 14], r0, .canon [0, 1] [2, 3, 24, 25, 26]] (by kernel_rfl) (P1 (ci_sizeOf hr4) <| P1 (ci_isIndex hr5) <| P2 (r5 = true) (h6) <| P1 (ci_inRange hr7) <| P2 (r7 = true) (h8) <| P2 ((decide (t2 > 0)) = false) (decide_eq_false h9) <| P0) hn))
        (fun h8 H =>
          eN H <| gE func123 [rg [hC 3 true [] (RI r4) [], { i := 4, call := some { cl := true, auto := true, ins := [], res := (RB r5), G' := [] }, dec := some true }, { i := 9, call := some { cl := true, auto := true, ins := [], res := (RB r7), G' := [] }, dec := some false }], r0] (by kernel_rfl) (P1 (ci_sizeOf hr4) <| P1 (ci_isIndex hr5) <| P2 (r5 = true) (h6) <| P1 (ci_inRange hr7) <| P2 (r7 = false) (eqF h8) <| P0)))
      (fun h6 H =>
        eN H <| gE func123 [rg [hC 3 true [] (RI r4) [], { i := 4, call := some { cl := true, auto := true, ins := [], res := (RB r5), G' := [] }, dec := some false }], r0] (by kernel_rfl) (P1 (ci_sizeOf hr4) <| P1 (ci_isIndex hr5) <| P2 (r5 = false) (eqF h6) <| P0)))
    (fun h1 H =>
      eN H <| gE func123 [rg [hF 0], r0] (by kernel_rfl) (P2 ((decide (t2 < t1)) = false) (decide_eq_false h1) <| P0))
theorem wi_goodConditions : ∀ s r, loop Bi_goodConditions s = some r → Wc X 123 0 (Ki_goodConditions s) (Zi_goodConditions s) (RB r) ((fun _ => []) r) := Nx.all (ni_goodConditions)
theorem ci_goodConditions {a0 : Gi_Board} {a1 : Gi_Conditions} {r : Bool} (H : Di_goodConditions a0 a1 = some r) : Ct X.P X.gl 123 [.agg [sl 5 gi_Terrain a0.Rules.Terrains, sl 6 gi_Kind a0.Rules.Kinds, I a0.Rules.Stack, I a0.Rules.River, I a0.Rules.Road, I a0.Rules.Supply, I a0.Rules.Turns, I a0.Map.Width, I a0.Map.Height, sl 1 I a0.Map.Terrain, sl 1 I a0.Map.Rivers, sl 1 I a0.Map.Roads], .agg [sl 2 gi_Goal a1.Goals, I a1.Step, I a1.Margin]] [] (RB r) [] :=
  Ct.of func123 (c := bdy f123) (by kernel_rfl) (by kernel_rfl) <|
  gS [r0] (by kernel_rfl) P0 <|
  eIf H (fun h1 H =>
    eW RB (fun _ => []) H <| gE func123 [rg [hT 3], r0] (by kernel_rfl) (P2 ((decide (((a1.Goals.length : Nat) : Int) > 12)) = true) (decide_eq_true h1) <| P0))
  (fun h1 H =>
    eBind H fun r2 hr2 H =>
    eIf H (fun h3 H =>
      eBind H fun r4 hr4 H =>
      eIf H (fun h5 H =>
        gO [rg [hF 3, { i := 7, call := some { cl := true, auto := true, ins := [], res := (RB r2), G' := [] }, dec := some true }, { i := 13, call := some { cl := true, auto := true, ins := [], res := (RB r4), G' := [] }, dec := some true }], r0, .canon [0, 1] [2, 3, 24, 25, 26]] (by kernel_rfl) (P2 ((decide (((a1.Goals.length : Nat) : Int) > 12)) = false) (decide_eq_false h1) <| P1 (ci_inRange hr2) <| P2 (r2 = true) (h3) <| P1 (ci_inRange hr4) <| P2 (r4 = true) (h5) <| P0) (wi_goodConditions _ _ H))
      (fun h5 H =>
        eW RB (fun _ => []) H <| gE func123 [rg [hF 3, { i := 7, call := some { cl := true, auto := true, ins := [], res := (RB r2), G' := [] }, dec := some true }, { i := 13, call := some { cl := true, auto := true, ins := [], res := (RB r4), G' := [] }, dec := some false }], r0] (by kernel_rfl) (P2 ((decide (((a1.Goals.length : Nat) : Int) > 12)) = false) (decide_eq_false h1) <| P1 (ci_inRange hr2) <| P2 (r2 = true) (h3) <| P1 (ci_inRange hr4) <| P2 (r4 = false) (eqF h5) <| P0)))
    (fun h3 H =>
      eW RB (fun _ => []) H <| gE func123 [rg [hF 3, { i := 7, call := some { cl := true, auto := true, ins := [], res := (RB r2), G' := [] }, dec := some false }], r0] (by kernel_rfl) (P2 ((decide (((a1.Goals.length : Nat) : Int) > 12)) = false) (decide_eq_false h1) <| P1 (ci_inRange hr2) <| P2 (r2 = false) (eqF h3) <| P0)))
/-! loop example/g00886/impl areSources 1 -/
theorem ci_areSources_1 {a0 : Int} {a1 : Gi_Board} {r : Bool} (H : Di_areSources_1 a0 a1 = some r) : Ct X.P X.gl 165 [I a0, .fptr 12 [.agg [sl 5 gi_Terrain a1.Rules.Terrains, sl 6 gi_Kind a1.Rules.Kinds, I a1.Rules.Stack, I a1.Rules.River, I a1.Rules.Road, I a1.Rules.Supply, I a1.Rules.Turns, I a1.Map.Width, I a1.Map.Height, sl 1 I a1.Map.Terrain, sl 1 I a1.Map.Rivers, sl 1 I a1.Map.Roads]] 0 0] [] (RB r) [] :=
  have H := (Di_areSources_1.eq_1 ..).symm.trans H
  Ct.of func165 (c := bdy f165) (by kernel_rfl) (by kernel_rfl) <|
  eBind H fun r1 hr1 H =>
  eBind H fun r2 hr2 H =>
  eW RB (fun _ => []) H <| gE func165 [r0, rg [hC 2 true [] (RI r1) [], hC 3 true [] (RB r2) []]] (by kernel_rfl) (P1 (ci_sizeOf hr1) <| P1 (ci_isIndex hr2) <| P0)
/-! slices IndexFunc   int int  -/
noncomputable def Kslices_IndexFunc_int_i_areSources_1 : Sslices_IndexFunc_int_i_areSources_1 → List Item
  | .h1 .. => nav 300 2 [] [.code (bdy f185)]
def Zslices_IndexFunc_int_i_areSources_1 : Sslices_IndexFunc_int_i_areSources_1 → St
  | .h1 s0 f1 t2 t3 => ⟨sts 19 [(0, sl 1 I s0), (1, .fn 165 [.fptr 12 [.agg [sl 5 gi_Terrain f1.Rules.Terrains, sl 6 gi_Kind f1.Rules.Kinds, I f1.Rules.Stack, I f1.Rules.River, I f1.Rules.Road, I f1.Rules.Supply, I f1.Rules.Turns, I f1.Map.Width, I f1.Map.Height, sl 1 I f1.Map.Terrain, sl 1 I f1.Map.Rivers, sl 1 I f1.Map.Roads]] 0 0]), (7, I t2), (8, I t3)], []⟩
abbrev Qslices_IndexFunc_int_i_areSources_1 := Nx X 185 0 Kslices_IndexFunc_int_i_areSources_1 Zslices_IndexFunc_int_i_areSources_1 RI (fun _ => [])
theorem nslices_IndexFunc_int_i_areSources_1 : ∀ s o, Bslices_IndexFunc_int_i_areSources_1 s = some o → Qslices_IndexFunc_int_i_areSources_1 (Kslices_IndexFunc_int_i_areSources_1 s) (Zslices_IndexFunc_int_i_areSources_1 s) o
  | .h1 s0 f1 t2 t3, o, H =>
    eIf H (fun h1 H =>
      eCk H fun h2 H =>
      eBind H fun x3 hx3 H =>
      eBind H fun r4 hr4 H =>
      gN [rg [hT 0], r0] (by kernel_rfl) (P2 ((decide (t3 < t2)) = true) (decide_eq_true h1) <| P0) <|
      eIf H (fun h5 H =>
        eN H <| gE func185 [rg [hE 4 (I x3), { i := 5, call := some { cl := true, auto := true, ins := [], res := (RB r4), G' := [] }, dec := some true }], r0] (by kernel_rfl) (P1 h2 <| P1 (int_lt_of_at h2 hx3) <| P1 (at_map I hx3) <| P1 (ci_areSources_1 hr4) <| P2 (r4 = true) (h5) <| P0))
      (fun h5 H =>
        eN H fun r hn => gO [rg [hE 4 (I x3), { i := 5, call := some { cl := true, auto := true, ins := [], res := (RB r4), G' := [] }, dec := some false }], r0, .canon [] [0, 1, 7, 8]] (by kernel_rfl) (P1 h2 <| P1 (int_lt_of_at h2 hx3) <| P1 (at_map I hx3) <| P1 (ci_areSources_1 hr4) <| P2 (r4 = false) (eqF h5) <| P0) hn))
    (fun h1 H =>
      eN H <| gE func185 [rg [hF 0], r0] (by kernel_rfl) (P2 ((decide (t3 < t2)) = false) (decide_eq_false h1) <| P0))
theorem wslices_IndexFunc_int_i_areSources_1 : ∀ s r, loop Bslices_IndexFunc_int_i_areSources_1 s = some r → Wc X 185 0 (Kslices_IndexFunc_int_i_areSources_1 s) (Zslices_IndexFunc_int_i_areSources_1 s) (RI r) ((fun _ => []) r) := Nx.all (nslices_IndexFunc_int_i_areSources_1)
theorem cslices_IndexFunc_int_i_areSources_1 {a0 : (List Int)} {a100 : Gi_Board} {r : Int} (H : Dslices_IndexFunc_int_i_areSources_1 a0 a100 = some r) : Ct X.P X.gl 185 [sl 1 I a0, .fn 165 [.fptr 12 [.agg [sl 5 gi_Terrain a100.Rules.Terrains, sl 6 gi_Kind a100.Rules.Kinds, I a100.Rules.Stack, I a100.Rules.River, I a100.Rules.Road, I a100.Rules.Supply, I a100.Rules.Turns, I a100.Map.Width, I a100.Map.Height, sl 1 I a100.Map.Terrain, sl 1 I a100.Map.Rivers, sl 1 I a100.Map.Roads]] 0 0]] [] (RI r) [] :=
  Ct.of func185 (c := bdy f185) (by kernel_rfl) (by kernel_rfl) <|
  gO [r0, r0, .canon [] [0, 1, 7, 8]] (by kernel_rfl) P0 (wslices_IndexFunc_int_i_areSources_1 _ _ H)
/-! slices ContainsFunc   int int  -/
theorem cslices_ContainsFunc_int_i_areSources_1 {a0 : (List Int)} {a100 : Gi_Board} {r : Bool} (H : Dslices_ContainsFunc_int_i_areSources_1 a0 a100 = some r) : Ct X.P X.gl 157 [sl 1 I a0, .fn 165 [.fptr 12 [.agg [sl 5 gi_Terrain a100.Rules.Terrains, sl 6 gi_Kind a100.Rules.Kinds, I a100.Rules.Stack, I a100.Rules.River, I a100.Rules.Road, I a100.Rules.Supply, I a100.Rules.Turns, I a100.Map.Width, I a100.Map.Height, sl 1 I a100.Map.Terrain, sl 1 I a100.Map.Rivers, sl 1 I a100.Map.Roads]] 0 0]] [] (RB r) [] :=
  Ct.of func157 (c := bdy f157) (by kernel_rfl) (by kernel_rfl) <|
  eBind H fun r1 hr1 H =>
  eW RB (fun _ => []) H <| gE func157 [r0, rg [hC 2 true [] (RI r1) []]] (by kernel_rfl) (P1 (cslices_IndexFunc_int_i_areSources_1 hr1) <| P0)
/-! loop example/g00886/impl areSources -/
theorem ci_areSources {a0 : Gi_Board} {a1 : (List Int)} {r : Bool} (H : Di_areSources a0 a1 = some r) : Ct X.P X.gl 124 [.agg [sl 5 gi_Terrain a0.Rules.Terrains, sl 6 gi_Kind a0.Rules.Kinds, I a0.Rules.Stack, I a0.Rules.River, I a0.Rules.Road, I a0.Rules.Supply, I a0.Rules.Turns, I a0.Map.Width, I a0.Map.Height, sl 1 I a0.Map.Terrain, sl 1 I a0.Map.Rivers, sl 1 I a0.Map.Roads], sl 1 I a1] [] (RB r) [] :=
  Ct.of func124 (c := bdy f124) (by kernel_rfl) (by kernel_rfl) <|
  gS [r0] (by kernel_rfl) P0 <|
  eIf H (fun h1 H =>
    eBind H fun r2 hr2 H =>
    eIf H (fun h3 H =>
      eBind H fun r4 hr4 H =>
      eW RB (fun _ => []) H <| gE func124 [rg [hT 2, { i := 5, call := some { cl := true, auto := true, ins := [], res := (RB r2), G' := [] }, dec := some true }, hC 10 false [] (RB r4) []]] (by kernel_rfl) (P2 ((decide (((a1.length : Nat) : Int) ≤ 6)) = true) (decide_eq_true h1) <| P1 (ci_increasing hr2) <| P2 (r2 = true) (h3) <| P1 (cslices_ContainsFunc_int_i_areSources_1 hr4) <| P0))
    (fun h3 H =>
      eW RB (fun _ => []) H <| gE func124 [rg [hT 2, { i := 5, call := some { cl := true, auto := true, ins := [], res := (RB r2), G' := [] }, dec := some false }]] (by kernel_rfl) (P2 ((decide (((a1.length : Nat) : Int) ≤ 6)) = true) (decide_eq_true h1) <| P1 (ci_increasing hr2) <| P2 (r2 = false) (eqF h3) <| P0)))
  (fun h1 H =>
    eW RB (fun _ => []) H <| gE func124 [rg [hF 2]] (by kernel_rfl) (P2 ((decide (((a1.length : Nat) : Int) ≤ 6)) = false) (decide_eq_false h1) <| P0))
/-! loop example/g00886/impl ScenarioFault -/
theorem ci_ScenarioFault {a0 : Gi_Scenario} {r : Int} (H : Di_ScenarioFault a0 = some r) : Ct X.P X.gl 81 [.agg [.str a0.Name, sl 5 gi_Terrain a0.Board.Rules.Terrains, sl 6 gi_Kind a0.Board.Rules.Kinds, I a0.Board.Rules.Stack, I a0.Board.Rules.River, I a0.Board.Rules.Road, I a0.Board.Rules.Supply, I a0.Board.Rules.Turns, I a0.Board.Map.Width, I a0.Board.Map.Height, sl 1 I a0.Board.Map.Terrain, sl 1 I a0.Board.Map.Rivers, sl 1 I a0.Board.Map.Roads, sl 2 gi_Odds a0.Table.Columns, I a0.Table.Dice, sl 1 (sl 1 I) a0.Table.Results, I a0.Start.Turn, I a0.Start.Weather, sl 4 gi_Unit a0.Start.Units, sl 2 gi_Goal a0.Conditions.Goals, I a0.Conditions.Step, I a0.Conditions.Margin, sl 1 I a0.First, sl 1 I a0.Other]] [] (RI r) [] :=
  Ct.of func81 (c := bdy f81) (by kernel_rfl) (by kernel_rfl) <|
  eBind H fun r1 hr1 H =>
  gS [r0] (by kernel_rfl) P0 <|
  eIf H (fun h2 H =>
    eBind H fun r3 hr3 H =>
    gS [rg [{ i := 2, call := some { cl := true, auto := true, ins := [], res := (RB r1), G' := [] }, dec := some true }]] (by kernel_rfl) (P1 (ci_isName hr1) <| P2 (r1 = true) (h2) <| P0) <|
    eIf H (fun h4 H =>
      eBind H fun r5 hr5 H =>
      gS [rg [{ i := 2, call := some { cl := true, auto := true, ins := [], res := (RB r3), G' := [] }, dec := some true }]] (by kernel_rfl) (P1 (ci_IsBoard hr3) <| P2 (r3 = true) (h4) <| P0) <|
      eIf H (fun h6 H =>
        eBind H fun r7 hr7 H =>
        gS [rg [{ i := 2, call := some { cl := true, auto := true, ins := [], res := (RB r5), G' := [] }, dec := some true }]] (by kernel_rfl) (P1 (ci_IsCombatTable hr5) <| P2 (r5 = true) (h6) <| P0) <|
        eIf H (fun h8 H =>
          eBind H fun r9 hr9 H =>
          gS [rg [{ i := 4, call := some { cl := true, auto := true, ins := [], res := (RB r7), G' := [] }, dec := some true }]] (by kernel_rfl) (P1 (ci_goodState hr7) <| P2 (r7 = true) (h8) <| P0) <|
          eIf H (fun h10 H =>
            eBind H fun r11 hr11 H =>
            gS [rg [{ i := 4, call := some { cl := true, auto := true, ins := [], res := (RB r9), G' := [] }, dec := some true }]] (by kernel_rfl) (P1 (ci_goodConditions hr9) <| P2 (r9 = true) (h10) <| P0) <|
            eIf H (fun h12 H =>
              eBind H fun r13 hr13 H =>
              eIf H (fun h14 H =>
                eW RI (fun _ => []) H <| gE func81 [rg [{ i := 4, call := some { cl := true, auto := true, ins := [], res := (RB r11), G' := [] }, dec := some true }, { i := 11, call := some { cl := true, auto := true, ins := [], res := (RB r13), G' := [] }, dec := some true }], r0] (by kernel_rfl) (P1 (ci_areSources hr11) <| P2 (r11 = true) (h12) <| P1 (ci_areSources hr13) <| P2 (r13 = true) (h14) <| P0))
              (fun h14 H =>
                eW RI (fun _ => []) H <| gE func81 [rg [{ i := 4, call := some { cl := true, auto := true, ins := [], res := (RB r11), G' := [] }, dec := some true }, { i := 11, call := some { cl := true, auto := true, ins := [], res := (RB r13), G' := [] }, dec := some false }], r0] (by kernel_rfl) (P1 (ci_areSources hr11) <| P2 (r11 = true) (h12) <| P1 (ci_areSources hr13) <| P2 (r13 = false) (eqF h14) <| P0)))
            (fun h12 H =>
              eW RI (fun _ => []) H <| gE func81 [rg [{ i := 4, call := some { cl := true, auto := true, ins := [], res := (RB r11), G' := [] }, dec := some false }], r0] (by kernel_rfl) (P1 (ci_areSources hr11) <| P2 (r11 = false) (eqF h12) <| P0)))
          (fun h10 H =>
            eW RI (fun _ => []) H <| gE func81 [rg [{ i := 4, call := some { cl := true, auto := true, ins := [], res := (RB r9), G' := [] }, dec := some false }], r0] (by kernel_rfl) (P1 (ci_goodConditions hr9) <| P2 (r9 = false) (eqF h10) <| P0)))
        (fun h8 H =>
          eW RI (fun _ => []) H <| gE func81 [rg [{ i := 4, call := some { cl := true, auto := true, ins := [], res := (RB r7), G' := [] }, dec := some false }], r0] (by kernel_rfl) (P1 (ci_goodState hr7) <| P2 (r7 = false) (eqF h8) <| P0)))
      (fun h6 H =>
        eW RI (fun _ => []) H <| gE func81 [rg [{ i := 2, call := some { cl := true, auto := true, ins := [], res := (RB r5), G' := [] }, dec := some false }], r0] (by kernel_rfl) (P1 (ci_IsCombatTable hr5) <| P2 (r5 = false) (eqF h6) <| P0)))
    (fun h4 H =>
      eW RI (fun _ => []) H <| gE func81 [rg [{ i := 2, call := some { cl := true, auto := true, ins := [], res := (RB r3), G' := [] }, dec := some false }], r0] (by kernel_rfl) (P1 (ci_IsBoard hr3) <| P2 (r3 = false) (eqF h4) <| P0)))
  (fun h2 H =>
    eW RI (fun _ => []) H <| gE func81 [rg [{ i := 2, call := some { cl := true, auto := true, ins := [], res := (RB r1), G' := [] }, dec := some false }], r0] (by kernel_rfl) (P1 (ci_isName hr1) <| P2 (r1 = false) (eqF h2) <| P0))
/-! loop example/g00886/impl IsScenario -/
theorem ci_IsScenario {a0 : Gi_Scenario} {r : Bool} (H : Di_IsScenario a0 = some r) : Ct X.P X.gl 39 [.agg [.str a0.Name, sl 5 gi_Terrain a0.Board.Rules.Terrains, sl 6 gi_Kind a0.Board.Rules.Kinds, I a0.Board.Rules.Stack, I a0.Board.Rules.River, I a0.Board.Rules.Road, I a0.Board.Rules.Supply, I a0.Board.Rules.Turns, I a0.Board.Map.Width, I a0.Board.Map.Height, sl 1 I a0.Board.Map.Terrain, sl 1 I a0.Board.Map.Rivers, sl 1 I a0.Board.Map.Roads, sl 2 gi_Odds a0.Table.Columns, I a0.Table.Dice, sl 1 (sl 1 I) a0.Table.Results, I a0.Start.Turn, I a0.Start.Weather, sl 4 gi_Unit a0.Start.Units, sl 2 gi_Goal a0.Conditions.Goals, I a0.Conditions.Step, I a0.Conditions.Margin, sl 1 I a0.First, sl 1 I a0.Other]] [] (RB r) [] :=
  Ct.of func39 (c := bdy f39) (by kernel_rfl) (by kernel_rfl) <|
  eBind H fun r1 hr1 H =>
  eW RB (fun _ => []) H <| gE func39 [r0, rg [hC 1 true [] (RI r1) []]] (by kernel_rfl) (P1 (ci_ScenarioFault hr1) <| P0)
/-! loop example/g00886/impl sumOf -/
noncomputable def Ki_sumOf : Si_sumOf → List Item
  | .h1 .. => nav 300 3 [] [.code (bdy f82)]
def Zi_sumOf : Si_sumOf → St
  | .h1 sum0 t1 t2 t3 => ⟨sts 17 [(3, I sum0), (6, sl 1 I t1), (7, I t2), (8, I t3)], []⟩
abbrev Qi_sumOf := Nx X 82 0 Ki_sumOf Zi_sumOf RI (fun _ => [])
theorem ni_sumOf : ∀ s o, Bi_sumOf s = some o → Qi_sumOf (Ki_sumOf s) (Zi_sumOf s) o
  | .h1 sum0 t1 t2 t3, o, H =>
    eIf H (fun h1 H =>
      eCk H fun h2 H =>
      eBind H fun x3 hx3 H =>
      eN H fun r hn => gO [rg [hT 0], rg [hE 1 (I x3)], r0, r0, .canon [] [3, 6, 7, 8]] (by kernel_rfl) (P2 ((decide (t3 < t2)) = true) (decide_eq_true h1) <| P1 h2 <| P1 (int_lt_of_at h2 hx3) <| P1 (at_map I hx3) <| P0) hn)
    (fun h1 H =>
      eN H <| gE func82 [rg [hF 0], r0] (by kernel_rfl) (P2 ((decide (t3 < t2)) = false) (decide_eq_false h1) <| P0))
theorem wi_sumOf : ∀ s r, loop Bi_sumOf s = some r → Wc X 82 0 (Ki_sumOf s) (Zi_sumOf s) (RI r) ((fun _ => []) r) := Nx.all (ni_sumOf)
theorem ci_sumOf {a0 : (List Int)} {r : Int} (H : Di_sumOf a0 = some r) : Ct X.P X.gl 82 [sl 1 I a0] [] (RI r) [] :=
  Ct.of func82 (c := bdy f82) (by kernel_rfl) (by kernel_rfl) <|
  gO [r0, r0, r0, .canon [] [3, 6, 7, 8]] (by kernel_rfl) P0 (wi_sumOf _ _ H)
/-! loop example/g00886/impl IsClimate -/
noncomputable def Ki_IsClimate : Si_IsClimate → List Item
  | .h1 .. => nav 300 3 [false] [.code (bdy f40)]
  | .h2 .. => nav 300 7 [false, true, false] [.code (bdy f40)]
def Zi_IsClimate : Si_IsClimate → St
  | .h1 t0 t1 t2 => ⟨sts 37 [(12, sl 1 (sl 1 I) t0), (13, I t1), (14, I t2)], []⟩
  | .h2 t0 t1 t2 t3 t4 t5 => ⟨sts 37 [(12, sl 1 (sl 1 I) t0), (13, I t1), (14, I t2), (26, sl 1 I t3), (27, I t4), (28, I t5)], []⟩
abbrev Qi_IsClimate := Nx X 40 0 Ki_IsClimate Zi_IsClimate RB (fun _ => [])
theorem ni_IsClimate : ∀ s o, Bi_IsClimate s = some o → Qi_IsClimate (Ki_IsClimate s) (Zi_IsClimate s) o
  | .h1 t0 t1 t2, o, H =>
    eIf H (fun h1 H =>
      eCk H fun h2 H =>
      eBind H fun x3 hx3 H =>
      gN [rg [hT 0], rg [hE 1 ((sl 1 I) x3)]] (by kernel_rfl) (P2 ((decide (t2 < t1)) = true) (decide_eq_true h1) <| P1 h2 <| P1 (int_lt_of_at h2 hx3) <| P1 (at_map (sl 1 I) hx3) <| P0) <|
      eIf H (fun h4 H =>
        eBind H fun r5 hr5 H =>
        eIf H (fun h6 H =>
          eN H fun r hn => gO [rg [hF 2, hC 5 true [] (RI r5) [], hF 6], r0, .canon [] [12, 13, 14, 26, 27, 28]] (by kernel_rfl) (P2 (((((x3.length : Nat) : Int) : Int) != 3) = false) (bneF h4) <| P1 (ci_sumOf hr5) <| P2 (((r5 : Int) != 36) = false) (bneF h6) <| P0) hn)
        (fun h6 H =>
          eN H <| gE func40 [rg [hF 2, hC 5 true [] (RI r5) [], hT 6], r0] (by kernel_rfl) (P2 (((((x3.length : Nat) : Int) : Int) != 3) = false) (bneF h4) <| P1 (ci_sumOf hr5) <| P2 (((r5 : Int) != 36) = true) (bneT h6) <| P0)))
      (fun h4 H =>
        eN H <| gE func40 [rg [hT 2], r0] (by kernel_rfl) (P2 (((((x3.length : Nat) : Int) : Int) != 3) = true) (bneT h4) <| P0)))
    (fun h1 H =>
      eN H <| gE func40 [rg [hF 0], r0] (by kernel_rfl) (P2 ((decide (t2 < t1)) = false) (decide_eq_false h1) <| P0))
  | .h2 t0 t1 t2 t3 t4 t5, o, H =>
    eIf H (fun h1 H =>
      eCk H fun h2 H =>
      eBind H fun x3 hx3 H =>
      eBind H fun r4 hr4 H =>
      gN [rg [hT 0], rg [hE 1 (I x3)]] (by kernel_rfl) (P2 ((decide (t5 < t4)) = true) (decide_eq_true h1) <| P1 h2 <| P1 (int_lt_of_at h2 hx3) <| P1 (at_map I hx3) <| P0) <|
      eIf H (fun h5 H =>
        eN H fun r hn => gO [rg [{ i := 1, call := some { cl := true, auto := true, ins := [], res := (RB r4), G' := [] }, dec := some true }], r0, .canon [] [12, 13, 14, 26, 27, 28]] (by kernel_rfl) (P1 (ci_inRange hr4) <| P2 (r4 = true) (h5) <| P0) hn)
      (fun h5 H =>
        eN H <| gE func40 [rg [{ i := 1, call := some { cl := true, auto := true, ins := [], res := (RB r4), G' := [] }, dec := some false }], r0] (by kernel_rfl) (P1 (ci_inRange hr4) <| P2 (r4 = false) (eqF h5) <| P0)))
    (fun h1 H =>
      eN H fun r hn => gO [rg [hF 0], r0, .canon [] [12, 13, 14]] (by kernel_rfl) (P2 ((decide (t5 < t4)) = false) (decide_eq_false h1) <| P0) hn)
theorem wi_IsClimate : ∀ s r, loop Bi_IsClimate s = some r → Wc X 40 0 (Ki_IsClimate s) (Zi_IsClimate s) (RB r) ((fun _ => []) r) := Nx.all (ni_IsClimate)
theorem ci_IsClimate {a0 : Gi_Climate} {r : Bool} (H : Di_IsClimate a0 = some r) : Ct X.P X.gl 40 [.agg [sl 1 (sl 1 I) a0.Weights]] [] (RB r) [] :=
  Ct.of func40 (c := bdy f40) (by kernel_rfl) (by kernel_rfl) <|
  gS [r0] (by kernel_rfl) P0 <|
  eIf H (fun h1 H =>
    gO [rg [hF 3], r0, .canon [] [12, 13, 14]] (by kernel_rfl) (P2 (((((a0.Weights.length : Nat) : Int) : Int) != 3) = false) (bneF h1) <| P0) (wi_IsClimate _ _ H))
  (fun h1 H =>
    eW RB (fun _ => []) H <| gE func40 [rg [hT 3], r0] (by kernel_rfl) (P2 (((((a0.Weights.length : Nat) : Int) : Int) != 3) = true) (bneT h1) <| P0))
/-! slices Clone -/
def Rslices_Clone_int (r : List Int) : List D := [ow 1 I r]
theorem cslices_Clone_int {l r : List Int} (H : Dslices_Clone_int l = some r) : Ct X.P X.gl 87 [sl 1 I l] [] (Rslices_Clone_int r) [] :=
  eCk H fun h H => eRet (P := fun r => Ct X.P X.gl 87 [sl 1 I l] [] (Rslices_Clone_int r) []) H <|
    Ct.of func87 (c := bdy f87) (by kernel_rfl) (by kernel_rfl) <| by
      by_cases h0 : 0 < l.length
      · exact gE func87 [r0, rg [{ i := 1, keep := true }], rg [{ i := 2, n := l.length, xs := List.map I l }]] (by kernel_rfl) (P1 h0 <| P1 (allFl_3 l) <| P2 (l.length = 0 + l.length) (by simp) <| P2 ((0 + l.length) * 8 ≤ 70368744177664) (by simpa using h) <| P2 (([] : List D) ++ List.map I l = List.map I l) rfl P0)
      · have e : l = [] := by cases l with | nil => rfl | cons x l => exact absurd (Nat.succ_pos _) h0
        subst e
        refine gO [r0, r0, .stop] (k' := nav 300 2 [] [.code (bdy f87)]) (σ' := ⟨sts 8 [(0, sl 1 I []), (2, .nil), (3, sl 1 I []), (4, .anyb)], []⟩) (by kernel_rfl) P0 (Wc.anyb 4 (by kernel_rfl) fun b => ?_)
        cases b with
        | true => exact gE func87 [r0] (by kernel_rfl) P0
        | false =>
          have h : ([] : List Int).length * 8 ≤ 70368744177664 := by decide
          have : Wc X 87 0 (nav 300 2 [] [.code (bdy f87)]) ⟨sts 8 [(0, sl 1 I []), (2, .nil), (3, sl 1 I []), (4, .bool false)], []⟩ (Rslices_Clone_int []) [] := by
            generalize hl : ([] : List Int) = l at h ⊢
            exact gE func87 [ rg [{ i := 2, n := l.length, xs := List.map I l }]] (by kernel_rfl) ( P1 (allFl_3 l) <| P2 (l.length = 0 + l.length) (by simp) <| P2 ((0 + l.length) * 8 ≤ 70368744177664) (by simpa using h) <| P2 (([] : List D) ++ List.map I l = List.map I l) rfl P0)
          exact this
/-! slices Clone -/
def Rslices_Clone_i_Kind (r : List Gi_Kind) : List D := [ow 6 gi_Kind r]
theorem cslices_Clone_i_Kind {l r : List Gi_Kind} (H : Dslices_Clone_i_Kind l = some r) : Ct X.P X.gl 166 [sl 6 gi_Kind l] [] (Rslices_Clone_i_Kind r) [] :=
  eCk H fun h H => eRet (P := fun r => Ct X.P X.gl 166 [sl 6 gi_Kind l] [] (Rslices_Clone_i_Kind r) []) H <|
    Ct.of func166 (c := bdy f166) (by kernel_rfl) (by kernel_rfl) <| by
      by_cases h0 : 0 < l.length
      · exact gE func166 [r0, rg [{ i := 1, keep := true }], rg [{ i := 2, n := l.length, xs := List.map gi_Kind l }]] (by kernel_rfl) (P1 h0 <| P1 (allFl_199 l) <| P2 (l.length = 0 + l.length) (by simp) <| P2 ((0 + l.length) * 56 ≤ 70368744177664) (by simpa using h) <| P2 (([] : List D) ++ List.map gi_Kind l = List.map gi_Kind l) rfl P0)
      · have e : l = [] := by cases l with | nil => rfl | cons x l => exact absurd (Nat.succ_pos _) h0
        subst e
        refine gO [r0, r0, .stop] (k' := nav 300 2 [] [.code (bdy f166)]) (σ' := ⟨sts 8 [(0, sl 6 gi_Kind []), (2, .nil), (3, sl 6 gi_Kind []), (4, .anyb)], []⟩) (by kernel_rfl) P0 (Wc.anyb 4 (by kernel_rfl) fun b => ?_)
        cases b with
        | true => exact gE func166 [r0] (by kernel_rfl) P0
        | false =>
          have h : ([] : List Gi_Kind).length * 56 ≤ 70368744177664 := by decide
          have : Wc X 166 0 (nav 300 2 [] [.code (bdy f166)]) ⟨sts 8 [(0, sl 6 gi_Kind []), (2, .nil), (3, sl 6 gi_Kind []), (4, .bool false)], []⟩ (Rslices_Clone_i_Kind []) [] := by
            generalize hl : ([] : List Gi_Kind) = l at h ⊢
            exact gE func166 [ rg [{ i := 2, n := l.length, xs := List.map gi_Kind l }]] (by kernel_rfl) ( P1 (allFl_199 l) <| P2 (l.length = 0 + l.length) (by simp) <| P2 ((0 + l.length) * 56 ≤ 70368744177664) (by simpa using h) <| P2 (([] : List D) ++ List.map gi_Kind l = List.map gi_Kind l) rfl P0)
          exact this
/-! loop example/g00886/impl cloneRules -/
def Ri_cloneRules (r : Gi_Rules) : List D := [.agg [ow 5 goi_Terrain r.Terrains, ow 6 gi_Kind r.Kinds, I r.Stack, I r.River, I r.Road, I r.Supply, I r.Turns]]
noncomputable def Ki_cloneRules : Si_cloneRules → List Item
  | .h1 .. => nav 300 3 [] [.code (bdy f125)]
def Zi_cloneRules : Si_cloneRules → St
  | .h1 t0 t1 t2 b3 b4 b5 b6 b7 b8 l9 => ⟨sts 30 [(1, .ptr 0 7 0 0), (2, .ptr 1 7 0 0), (3, .ref 2 5 none), (8, sl 5 gi_Terrain t0), (9, I t1), (10, I t2)], [some ⟨false, true, 7, 1, [.agg [sl 5 gi_Terrain b3.Terrains, sl 6 gi_Kind b3.Kinds, I b3.Stack, I b3.River, I b3.Road, I b3.Supply, I b3.Turns]]⟩, some ⟨false, true, 7, 1, [.agg [.nil, .nil, I b4, I b5, I b6, I b7, I b8]]⟩, some ⟨false, false, 5, l9.length, List.map goi_Terrain l9⟩]⟩
abbrev Qi_cloneRules := Nx X 125 0 Ki_cloneRules Zi_cloneRules Ri_cloneRules (fun _ => [])
theorem ni_cloneRules : ∀ s o, Bi_cloneRules s = some o → Qi_cloneRules (Ki_cloneRules s) (Zi_cloneRules s) o
  | .h1 t0 t1 t2 b3 b4 b5 b6 b7 b8 l9, o, H =>
    eIf H (fun h1 H =>
      eCk H fun h2 H =>
      eBind H fun x3 hx3 H =>
      eBind H fun r4 hr4 H =>
      eCk H fun h5 H =>
      eN H fun r hn => gO [rg [hT 0], rg [hE 1 (gi_Terrain x3)], rg [hC 2 true [] (Rslices_Clone_int r4) []], rg [{ i := 2, post := [.put 5 0 1 4 (List.map goi_Terrain [(Gi_Terrain.mk x3.Name r4 x3.Shift x3.Height x3.Blocks)]), .own 5 1] }, hA 3 ((l9 ++ [(Gi_Terrain.mk x3.Name r4 x3.Shift x3.Height x3.Blocks)]).length) (List.map goi_Terrain (l9 ++ [(Gi_Terrain.mk x3.Name r4 x3.Shift x3.Height x3.Blocks)]))], r0, .canon [0, 1, 6] [1, 2, 3, 8, 9, 10]] (by kernel_rfl) (P2 ((decide (t2 < t1)) = true) (decide_eq_true h1) <| P1 h2 <| P1 (int_lt_of_at h2 hx3) <| P1 (at_map gi_Terrain hx3) <| P1 (cslices_Clone_int hr4) <| P2 (getCells [.agg [.str x3.Name, .ref 4 1 none, I x3.Shift, I x3.Height, .bool x3.Blocks]] 0 1 1 = some [.ref 4 1 none]) rfl <| P2 (setCells [.agg [.str x3.Name, .ref 4 1 none, I x3.Shift, I x3.Height, .bool x3.Blocks]] 0 1 [ow 1 I r4] = List.map goi_Terrain [(Gi_Terrain.mk x3.Name r4 x3.Shift x3.Height x3.Blocks)]) rfl <| P1 (allOw_159 [(Gi_Terrain.mk x3.Name r4 x3.Shift x3.Height x3.Blocks)]) <| P2 ((1 : Nat) = 1) rfl <| P1 (apL l9 [(Gi_Terrain.mk x3.Name r4 x3.Shift x3.Height x3.Blocks)]) <| P1 (apB h5) <| P1 (apM goi_Terrain l9 [(Gi_Terrain.mk x3.Name r4 x3.Shift x3.Height x3.Blocks)]) <| P0) hn)
    (fun h1 H =>
      eBind H fun r2 hr2 H =>
      eN H <| gE func125 [rg [hF 0], rg [hC 3 true [] (Rslices_Clone_i_Kind r2) []], r0] (by kernel_rfl) (P2 ((decide (t2 < t1)) = false) (decide_eq_false h1) <| P1 (cslices_Clone_i_Kind hr2) <| P0))
theorem wi_cloneRules : ∀ s r, loop Bi_cloneRules s = some r → Wc X 125 0 (Ki_cloneRules s) (Zi_cloneRules s) (Ri_cloneRules r) ((fun _ => []) r) := Nx.all (ni_cloneRules)
theorem ci_cloneRules {a0 : Gi_Rules} {r : Gi_Rules} (H : Di_cloneRules a0 = some r) : Ct X.P X.gl 125 [.agg [sl 5 gi_Terrain a0.Terrains, sl 6 gi_Kind a0.Kinds, I a0.Stack, I a0.River, I a0.Road, I a0.Supply, I a0.Turns]] [] (Ri_cloneRules r) [] :=
  Ct.of func125 (c := bdy f125) (by kernel_rfl) (by kernel_rfl) <|
  gO [r0, r0, r0, .canon [0, 1, 2] [1, 2, 3, 8, 9, 10]] (by kernel_rfl) P0 (wi_cloneRules _ _ H)
/-! loop example/g00886/impl cloneMap -/
def Ri_cloneMap (r : Gi_Map) : List D := [.agg [I r.Width, I r.Height, ow 1 I r.Terrain, ow 1 I r.Rivers, ow 1 I r.Roads]]
theorem ci_cloneMap {a0 : Gi_Map} {r : Gi_Map} (H : Di_cloneMap a0 = some r) : Ct X.P X.gl 126 [.agg [I a0.Width, I a0.Height, sl 1 I a0.Terrain, sl 1 I a0.Rivers, sl 1 I a0.Roads]] [] (Ri_cloneMap r) [] :=
  Ct.of func126 (c := bdy f126) (by kernel_rfl) (by kernel_rfl) <|
  eBind H fun r1 hr1 H =>
  eBind H fun r2 hr2 H =>
  eBind H fun r3 hr3 H =>
  eW Ri_cloneMap (fun _ => []) H <| gE func126 [r0, rg [hC 2 true [] (Rslices_Clone_int r1) [], hC 5 true [] (Rslices_Clone_int r2) [], hC 8 true [] (Rslices_Clone_int r3) []], r0] (by kernel_rfl) (P1 (cslices_Clone_int hr1) <| P1 (cslices_Clone_int hr2) <| P1 (cslices_Clone_int hr3) <| P0)
/-! loop example/g00886/impl cloneBoard -/
def Ri_cloneBoard (r : Gi_Board) : List D := [.agg [ow 5 goi_Terrain r.Rules.Terrains, ow 6 gi_Kind r.Rules.Kinds, I r.Rules.Stack, I r.Rules.River, I r.Rules.Road, I r.Rules.Supply, I r.Rules.Turns, I r.Map.Width, I r.Map.Height, ow 1 I r.Map.Terrain, ow 1 I r.Map.Rivers, ow 1 I r.Map.Roads]]
theorem ci_cloneBoard {a0 : Gi_Board} {r : Gi_Board} (H : Di_cloneBoard a0 = some r) : Ct X.P X.gl 84 [.agg [sl 5 gi_Terrain a0.Rules.Terrains, sl 6 gi_Kind a0.Rules.Kinds, I a0.Rules.Stack, I a0.Rules.River, I a0.Rules.Road, I a0.Rules.Supply, I a0.Rules.Turns, I a0.Map.Width, I a0.Map.Height, sl 1 I a0.Map.Terrain, sl 1 I a0.Map.Rivers, sl 1 I a0.Map.Roads]] [] (Ri_cloneBoard r) [] :=
  Ct.of func84 (c := bdy f84) (by kernel_rfl) (by kernel_rfl) <|
  eBind H fun r1 hr1 H =>
  eBind H fun r2 hr2 H =>
  eW Ri_cloneBoard (fun _ => []) H <| gE func84 [r0, rg [hC 2 true [] (Ri_cloneRules r1) [], hC 5 true [] (Ri_cloneMap r2) []]] (by kernel_rfl) (P1 (ci_cloneRules hr1) <| P1 (ci_cloneMap hr2) <| P0)
/-! slices Clone -/
def Rslices_Clone_i_Odds (r : List Gi_Odds) : List D := [ow 2 gi_Odds r]
theorem cslices_Clone_i_Odds {l r : List Gi_Odds} (H : Dslices_Clone_i_Odds l = some r) : Ct X.P X.gl 127 [sl 2 gi_Odds l] [] (Rslices_Clone_i_Odds r) [] :=
  eCk H fun h H => eRet (P := fun r => Ct X.P X.gl 127 [sl 2 gi_Odds l] [] (Rslices_Clone_i_Odds r) []) H <|
    Ct.of func127 (c := bdy f127) (by kernel_rfl) (by kernel_rfl) <| by
      by_cases h0 : 0 < l.length
      · exact gE func127 [r0, rg [{ i := 1, keep := true }], rg [{ i := 2, n := l.length, xs := List.map gi_Odds l }]] (by kernel_rfl) (P1 h0 <| P1 (allFl_163 l) <| P2 (l.length = 0 + l.length) (by simp) <| P2 ((0 + l.length) * 16 ≤ 70368744177664) (by simpa using h) <| P2 (([] : List D) ++ List.map gi_Odds l = List.map gi_Odds l) rfl P0)
      · have e : l = [] := by cases l with | nil => rfl | cons x l => exact absurd (Nat.succ_pos _) h0
        subst e
        refine gO [r0, r0, .stop] (k' := nav 300 2 [] [.code (bdy f127)]) (σ' := ⟨sts 8 [(0, sl 2 gi_Odds []), (2, .nil), (3, sl 2 gi_Odds []), (4, .anyb)], []⟩) (by kernel_rfl) P0 (Wc.anyb 4 (by kernel_rfl) fun b => ?_)
        cases b with
        | true => exact gE func127 [r0] (by kernel_rfl) P0
        | false =>
          have h : ([] : List Gi_Odds).length * 16 ≤ 70368744177664 := by decide
          have : Wc X 127 0 (nav 300 2 [] [.code (bdy f127)]) ⟨sts 8 [(0, sl 2 gi_Odds []), (2, .nil), (3, sl 2 gi_Odds []), (4, .bool false)], []⟩ (Rslices_Clone_i_Odds []) [] := by
            generalize hl : ([] : List Gi_Odds) = l at h ⊢
            exact gE func127 [ rg [{ i := 2, n := l.length, xs := List.map gi_Odds l }]] (by kernel_rfl) ( P1 (allFl_163 l) <| P2 (l.length = 0 + l.length) (by simp) <| P2 ((0 + l.length) * 16 ≤ 70368744177664) (by simpa using h) <| P2 (([] : List D) ++ List.map gi_Odds l = List.map gi_Odds l) rfl P0)
          exact this
/-! loop example/g00886/impl cloneTable -/
def Ri_cloneTable (r : Gi_CombatTable) : List D := [.agg [ow 2 gi_Odds r.Columns, I r.Dice, ow 1 (ow 1 I) r.Results]]
noncomputable def Ki_cloneTable : Si_cloneTable → List Item
  | .h1 .. => nav 300 3 [] [.code (bdy f85)]
  | .h2 .. => nav 300 7 [true] [.code (bdy f85)]
def Zi_cloneTable : Si_cloneTable → St
  | .h1 t0 t1 t2 b3 b4 l5 => ⟨sts 28 [(2, .ptr 0 3 0 0), (3, .ptr 1 3 0 0), (13, sl 1 (sl 1 I) t0), (14, I t1), (15, I t2)], [some ⟨false, true, 3, 1, [.agg [.nil, I b3, .nil]]⟩, some ⟨false, true, 3, 1, [.agg [.ref 2 2 none, I b4, .nil]]⟩, some ⟨false, false, 2, l5.length, List.map gi_Odds l5⟩]⟩
  | .h2 t0 t1 t2 b3 b4 l5 l6 => ⟨sts 28 [(2, .ptr 0 3 0 0), (3, .ptr 1 3 0 0), (13, sl 1 (sl 1 I) t0), (14, I t1), (15, I t2)], [some ⟨false, true, 3, 1, [.agg [.nil, I b3, .nil]]⟩, some ⟨false, true, 3, 1, [.agg [.ref 2 2 none, I b4, .ref 3 1 none]]⟩, some ⟨false, false, 2, l5.length, List.map gi_Odds l5⟩, some ⟨false, false, 1, l6.length, List.map (ow 1 I) l6⟩]⟩
abbrev Qi_cloneTable := Nx X 85 0 Ki_cloneTable Zi_cloneTable Ri_cloneTable (fun _ => [])
theorem ni_cloneTable : ∀ s o, Bi_cloneTable s = some o → Qi_cloneTable (Ki_cloneTable s) (Zi_cloneTable s) o
  | .h1 t0 t1 t2 b3 b4 l5, o, H =>
    eIf H (fun h1 H =>
      eCk H fun h2 H =>
      eBind H fun x3 hx3 H =>
      eBind H fun r4 hr4 H =>
      eCk H fun h5 H =>
      eN H fun r hn => gO [rg [hT 0], rg [hE 1 ((sl 1 I) x3)], rg [hC 3 true [] (Rslices_Clone_int r4) [], { i := 4, post := [.put 4 0 0 3 (List.map (ow 1 I) [r4]), .own 4 1] }, hA 5 ([r4].length) (List.map (ow 1 I) [r4])], r0, .canon [0, 1, 2, 5] [2, 3, 13, 14, 15]] (by kernel_rfl) (P2 ((decide (t2 < t1)) = true) (decide_eq_true h1) <| P1 h2 <| P1 (int_lt_of_at h2 hx3) <| P1 (at_map (sl 1 I) hx3) <| P1 (cslices_Clone_int hr4) <| P2 (getCells [.ref 3 1 none] 0 0 1 = some [.ref 3 1 none]) rfl <| P2 (setCells [.ref 3 1 none] 0 0 [ow 1 I r4] = List.map (ow 1 I) [r4]) rfl <| P1 (allOw_26 [r4]) <| P2 ((1 : Nat) = 1) rfl <| P2 ([r4].length = 0 + [r4].length) (by simp <;> omega) <| P2 ((0 + [r4].length) * 24 ≤ 70368744177664) (by have := h5; simp at this ⊢ <;> omega) <| P2 (([] : List D) ++ List.map (ow 1 I) [r4] = List.map (ow 1 I) [r4]) (by simp) <| P0) hn)
    (fun h1 H =>
      eN H <| gE func85 [rg [hF 0], r0] (by kernel_rfl) (P2 ((decide (t2 < t1)) = false) (decide_eq_false h1) <| P0))
  | .h2 t0 t1 t2 b3 b4 l5 l6, o, H =>
    eIf H (fun h1 H =>
      eCk H fun h2 H =>
      eBind H fun x3 hx3 H =>
      eBind H fun r4 hr4 H =>
      eCk H fun h5 H =>
      eN H fun r hn => gO [rg [hT 0], rg [hE 1 ((sl 1 I) x3)], rg [hC 3 true [] (Rslices_Clone_int r4) [], { i := 4, post := [.put 5 0 0 4 (List.map (ow 1 I) [r4]), .own 5 1] }, hA 5 ((l6 ++ [r4]).length) (List.map (ow 1 I) (l6 ++ [r4]))], r0, .canon [0, 1, 2, 6] [2, 3, 13, 14, 15]] (by kernel_rfl) (P2 ((decide (t2 < t1)) = true) (decide_eq_true h1) <| P1 h2 <| P1 (int_lt_of_at h2 hx3) <| P1 (at_map (sl 1 I) hx3) <| P1 (cslices_Clone_int hr4) <| P2 (getCells [.ref 4 1 none] 0 0 1 = some [.ref 4 1 none]) rfl <| P2 (setCells [.ref 4 1 none] 0 0 [ow 1 I r4] = List.map (ow 1 I) [r4]) rfl <| P1 (allOw_26 [r4]) <| P2 ((1 : Nat) = 1) rfl <| P1 (apL l6 [r4]) <| P1 (apB h5) <| P1 (apM (ow 1 I) l6 [r4]) <| P0) hn)
    (fun h1 H =>
      eN H <| gE func85 [rg [hF 0], r0] (by kernel_rfl) (P2 ((decide (t2 < t1)) = false) (decide_eq_false h1) <| P0))
theorem wi_cloneTable : ∀ s r, loop Bi_cloneTable s = some r → Wc X 85 0 (Ki_cloneTable s) (Zi_cloneTable s) (Ri_cloneTable r) ((fun _ => []) r) := Nx.all (ni_cloneTable)
theorem ci_cloneTable {a0 : Gi_CombatTable} {r : Gi_CombatTable} (H : Di_cloneTable a0 = some r) : Ct X.P X.gl 85 [.agg [sl 2 gi_Odds a0.Columns, I a0.Dice, sl 1 (sl 1 I) a0.Results]] [] (Ri_cloneTable r) [] :=
  Ct.of func85 (c := bdy f85) (by kernel_rfl) (by kernel_rfl) <|
  eBind H fun r1 hr1 H =>
  gO [r0, rg [hC 2 true [] (Rslices_Clone_i_Odds r1) []], r0, .canon [1, 3, 2] [2, 3, 13, 14, 15]] (by kernel_rfl) (P1 (cslices_Clone_i_Odds hr1) <| P0) (wi_cloneTable _ _ H)
/-! loop example/g00886/impl cloneClimate -/
def Ri_cloneClimate (r : Gi_Climate) : List D := [.agg [ow 1 (ow 1 I) r.Weights]]
noncomputable def Ki_cloneClimate : Si_cloneClimate → List Item
  | .h1 .. => nav 300 3 [] [.code (bdy f86)]
  | .h2 .. => nav 300 7 [true] [.code (bdy f86)]
def Zi_cloneClimate : Si_cloneClimate → St
  | .h1 t0 t1 t2 => ⟨sts 23 [(2, .ptr 0 1 0 0), (3, .ptr 1 1 0 0), (8, sl 1 (sl 1 I) t0), (9, I t1), (10, I t2)], [some ⟨false, true, 1, 1, [.agg [.nil]]⟩, some ⟨false, true, 1, 1, [.agg [.nil]]⟩]⟩
  | .h2 t0 t1 t2 l3 => ⟨sts 23 [(2, .ptr 0 1 0 0), (3, .ptr 1 1 0 0), (8, sl 1 (sl 1 I) t0), (9, I t1), (10, I t2)], [some ⟨false, true, 1, 1, [.agg [.nil]]⟩, some ⟨false, true, 1, 1, [.agg [.ref 2 1 none]]⟩, some ⟨false, false, 1, l3.length, List.map (ow 1 I) l3⟩]⟩
abbrev Qi_cloneClimate := Nx X 86 0 Ki_cloneClimate Zi_cloneClimate Ri_cloneClimate (fun _ => [])
theorem ni_cloneClimate : ∀ s o, Bi_cloneClimate s = some o → Qi_cloneClimate (Ki_cloneClimate s) (Zi_cloneClimate s) o
  | .h1 t0 t1 t2, o, H =>
    eIf H (fun h1 H =>
      eCk H fun h2 H =>
      eBind H fun x3 hx3 H =>
      eBind H fun r4 hr4 H =>
      eCk H fun h5 H =>
      eN H fun r hn => gO [rg [hT 0], rg [hE 1 ((sl 1 I) x3)], rg [hC 3 true [] (Rslices_Clone_int r4) [], { i := 4, post := [.put 3 0 0 2 (List.map (ow 1 I) [r4]), .own 3 1] }, hA 5 ([r4].length) (List.map (ow 1 I) [r4])], r0, .canon [0, 1, 4] [2, 3, 8, 9, 10]] (by kernel_rfl) (P2 ((decide (t2 < t1)) = true) (decide_eq_true h1) <| P1 h2 <| P1 (int_lt_of_at h2 hx3) <| P1 (at_map (sl 1 I) hx3) <| P1 (cslices_Clone_int hr4) <| P2 (getCells [.ref 2 1 none] 0 0 1 = some [.ref 2 1 none]) rfl <| P2 (setCells [.ref 2 1 none] 0 0 [ow 1 I r4] = List.map (ow 1 I) [r4]) rfl <| P1 (allOw_26 [r4]) <| P2 ((1 : Nat) = 1) rfl <| P2 ([r4].length = 0 + [r4].length) (by simp <;> omega) <| P2 ((0 + [r4].length) * 24 ≤ 70368744177664) (by have := h5; simp at this ⊢ <;> omega) <| P2 (([] : List D) ++ List.map (ow 1 I) [r4] = List.map (ow 1 I) [r4]) (by simp) <| P0) hn)
    (fun h1 H =>
      eN H <| gE func86 [rg [hF 0], r0] (by kernel_rfl) (P2 ((decide (t2 < t1)) = false) (decide_eq_false h1) <| P0))
  | .h2 t0 t1 t2 l3, o, H =>
    eIf H (fun h1 H =>
      eCk H fun h2 H =>
      eBind H fun x3 hx3 H =>
      eBind H fun r4 hr4 H =>
      eCk H fun h5 H =>
      eN H fun r hn => gO [rg [hT 0], rg [hE 1 ((sl 1 I) x3)], rg [hC 3 true [] (Rslices_Clone_int r4) [], { i := 4, post := [.put 4 0 0 3 (List.map (ow 1 I) [r4]), .own 4 1] }, hA 5 ((l3 ++ [r4]).length) (List.map (ow 1 I) (l3 ++ [r4]))], r0, .canon [0, 1, 5] [2, 3, 8, 9, 10]] (by kernel_rfl) (P2 ((decide (t2 < t1)) = true) (decide_eq_true h1) <| P1 h2 <| P1 (int_lt_of_at h2 hx3) <| P1 (at_map (sl 1 I) hx3) <| P1 (cslices_Clone_int hr4) <| P2 (getCells [.ref 3 1 none] 0 0 1 = some [.ref 3 1 none]) rfl <| P2 (setCells [.ref 3 1 none] 0 0 [ow 1 I r4] = List.map (ow 1 I) [r4]) rfl <| P1 (allOw_26 [r4]) <| P2 ((1 : Nat) = 1) rfl <| P1 (apL l3 [r4]) <| P1 (apB h5) <| P1 (apM (ow 1 I) l3 [r4]) <| P0) hn)
    (fun h1 H =>
      eN H <| gE func86 [rg [hF 0], r0] (by kernel_rfl) (P2 ((decide (t2 < t1)) = false) (decide_eq_false h1) <| P0))
theorem wi_cloneClimate : ∀ s r, loop Bi_cloneClimate s = some r → Wc X 86 0 (Ki_cloneClimate s) (Zi_cloneClimate s) (Ri_cloneClimate r) ((fun _ => []) r) := Nx.all (ni_cloneClimate)
theorem ci_cloneClimate {a0 : Gi_Climate} {r : Gi_Climate} (H : Di_cloneClimate a0 = some r) : Ct X.P X.gl 86 [.agg [sl 1 (sl 1 I) a0.Weights]] [] (Ri_cloneClimate r) [] :=
  Ct.of func86 (c := bdy f86) (by kernel_rfl) (by kernel_rfl) <|
  gO [r0, r0, r0, .canon [1, 2] [2, 3, 8, 9, 10]] (by kernel_rfl) P0 (wi_cloneClimate _ _ H)
/-! loop example/g00886/impl setupOf -/
def Ri_setupOf (r : Gi_Setup) : List D := [.agg [ow 5 goi_Terrain r.Board.Rules.Terrains, ow 6 gi_Kind r.Board.Rules.Kinds, I r.Board.Rules.Stack, I r.Board.Rules.River, I r.Board.Rules.Road, I r.Board.Rules.Supply, I r.Board.Rules.Turns, I r.Board.Map.Width, I r.Board.Map.Height, ow 1 I r.Board.Map.Terrain, ow 1 I r.Board.Map.Rivers, ow 1 I r.Board.Map.Roads, ow 2 gi_Odds r.Table.Columns, I r.Table.Dice, ow 1 (ow 1 I) r.Table.Results, ow 1 (ow 1 I) r.Climate.Weights, ow 1 (ow 1 I) r.Sources]]
theorem ci_setupOf {a0 : Gi_Scenario} {a1 : Gi_Climate} {r : Gi_Setup} (H : Di_setupOf a0 a1 = some r) : Ct X.P X.gl 41 [.agg [.str a0.Name, sl 5 gi_Terrain a0.Board.Rules.Terrains, sl 6 gi_Kind a0.Board.Rules.Kinds, I a0.Board.Rules.Stack, I a0.Board.Rules.River, I a0.Board.Rules.Road, I a0.Board.Rules.Supply, I a0.Board.Rules.Turns, I a0.Board.Map.Width, I a0.Board.Map.Height, sl 1 I a0.Board.Map.Terrain, sl 1 I a0.Board.Map.Rivers, sl 1 I a0.Board.Map.Roads, sl 2 gi_Odds a0.Table.Columns, I a0.Table.Dice, sl 1 (sl 1 I) a0.Table.Results, I a0.Start.Turn, I a0.Start.Weather, sl 4 gi_Unit a0.Start.Units, sl 2 gi_Goal a0.Conditions.Goals, I a0.Conditions.Step, I a0.Conditions.Margin, sl 1 I a0.First, sl 1 I a0.Other], .agg [sl 1 (sl 1 I) a1.Weights]] [] (Ri_setupOf r) [] :=
  Ct.of func41 (c := bdy f41) (by kernel_rfl) (by kernel_rfl) <|
  eBind H fun r1 hr1 H =>
  eBind H fun r2 hr2 H =>
  eBind H fun r3 hr3 H =>
  eBind H fun r4 hr4 H =>
  eBind H fun r5 hr5 H =>
  eW Ri_setupOf (fun _ => []) H <| gE func41 [r0, rg [hC 2 true [] (Ri_cloneBoard r1) [], hC 5 true [] (Ri_cloneTable r2) [], hC 7 true [] (Ri_cloneClimate r3) [], hC 10 true [] (Rslices_Clone_int r4) [], hC 13 true [] (Rslices_Clone_int r5) [], { i := 14, post := [.put 21 0 0 19 ([ow 1 I r4, .ref 20 1 none]), .put 21 1 0 20 (List.map (ow 1 I) [r4, r5]), .own 21 2] }]] (by kernel_rfl) (P1 (ci_cloneBoard hr1) <| P1 (ci_cloneTable hr2) <| P1 (ci_cloneClimate hr3) <| P1 (cslices_Clone_int hr4) <| P1 (cslices_Clone_int hr5) <| P2 (getCells [.ref 19 1 none, .ref 20 1 none] 0 0 1 = some [.ref 19 1 none]) rfl <| P2 (setCells [.ref 19 1 none, .ref 20 1 none] 0 0 [ow 1 I r4] = [ow 1 I r4, .ref 20 1 none]) rfl <| P2 (getCells [ow 1 I r4, .ref 20 1 none] 1 0 1 = some [.ref 20 1 none]) rfl <| P2 (setCells [ow 1 I r4, .ref 20 1 none] 1 0 [ow 1 I r5] = List.map (ow 1 I) [r4, r5]) rfl <| P1 (allOw_26 [r4, r5]) <| P2 ((2 : Nat) = 2) rfl <| P0)
/-! loop example/g00886/impl SetupOf -/
def Ri_SetupOf (r : Gi_Setup × Bool) : List D := [.agg [ow 5 goi_Terrain r.1.Board.Rules.Terrains, ow 6 gi_Kind r.1.Board.Rules.Kinds, I r.1.Board.Rules.Stack, I r.1.Board.Rules.River, I r.1.Board.Rules.Road, I r.1.Board.Rules.Supply, I r.1.Board.Rules.Turns, I r.1.Board.Map.Width, I r.1.Board.Map.Height, ow 1 I r.1.Board.Map.Terrain, ow 1 I r.1.Board.Map.Rivers, ow 1 I r.1.Board.Map.Roads, ow 2 gi_Odds r.1.Table.Columns, I r.1.Table.Dice, ow 1 (ow 1 I) r.1.Table.Results, ow 1 (ow 1 I) r.1.Climate.Weights, ow 1 (ow 1 I) r.1.Sources], .bool r.2]
theorem ci_SetupOf {a0 : Gi_Scenario} {a1 : Gi_Climate} {r : Gi_Setup × Bool} (H : Di_SetupOf a0 a1 = some r) : Ct X.P X.gl 10 [.agg [.str a0.Name, sl 5 gi_Terrain a0.Board.Rules.Terrains, sl 6 gi_Kind a0.Board.Rules.Kinds, I a0.Board.Rules.Stack, I a0.Board.Rules.River, I a0.Board.Rules.Road, I a0.Board.Rules.Supply, I a0.Board.Rules.Turns, I a0.Board.Map.Width, I a0.Board.Map.Height, sl 1 I a0.Board.Map.Terrain, sl 1 I a0.Board.Map.Rivers, sl 1 I a0.Board.Map.Roads, sl 2 gi_Odds a0.Table.Columns, I a0.Table.Dice, sl 1 (sl 1 I) a0.Table.Results, I a0.Start.Turn, I a0.Start.Weather, sl 4 gi_Unit a0.Start.Units, sl 2 gi_Goal a0.Conditions.Goals, I a0.Conditions.Step, I a0.Conditions.Margin, sl 1 I a0.First, sl 1 I a0.Other], .agg [sl 1 (sl 1 I) a1.Weights]] [] (Ri_SetupOf r) [] :=
  Ct.of func10 (c := bdy f10) (by kernel_rfl) (by kernel_rfl) <|
  eBind H fun r1 hr1 H =>
  gS [r0] (by kernel_rfl) P0 <|
  eIf H (fun h2 H =>
    eBind H fun r3 hr3 H =>
    eIf H (fun h4 H =>
      eBind H fun r5 hr5 H =>
      eW Ri_SetupOf (fun _ => []) H <| gE func10 [rg [{ i := 1, call := some { cl := true, auto := true, ins := [], res := (RB r1), G' := [] }, dec := some true }, { i := 5, call := some { cl := true, auto := true, ins := [], res := (RB r3), G' := [] }, dec := some true }], rg [hC 2 true [] (Ri_setupOf r5) []]] (by kernel_rfl) (P1 (ci_IsScenario hr1) <| P2 (r1 = true) (h2) <| P1 (ci_IsClimate hr3) <| P2 (r3 = true) (h4) <| P1 (ci_setupOf hr5) <| P0))
    (fun h4 H =>
      eW Ri_SetupOf (fun _ => []) H <| gE func10 [rg [{ i := 1, call := some { cl := true, auto := true, ins := [], res := (RB r1), G' := [] }, dec := some true }, { i := 5, call := some { cl := true, auto := true, ins := [], res := (RB r3), G' := [] }, dec := some false }], r0] (by kernel_rfl) (P1 (ci_IsScenario hr1) <| P2 (r1 = true) (h2) <| P1 (ci_IsClimate hr3) <| P2 (r3 = false) (eqF h4) <| P0)))
  (fun h2 H =>
    eW Ri_SetupOf (fun _ => []) H <| gE func10 [rg [{ i := 1, call := some { cl := true, auto := true, ins := [], res := (RB r1), G' := [] }, dec := some false }], r0] (by kernel_rfl) (P1 (ci_IsScenario hr1) <| P2 (r1 = false) (eqF h2) <| P0))
/-! loop example/g00886/laws eqIntS -/
noncomputable def Kw_eqIntS : Sw_eqIntS → List Item
  | .h1 .. => nav 300 3 [false] [.code (bdy f47)]
def Zw_eqIntS : Sw_eqIntS → St
  | .h1 va0 b1 i2 => ⟨sts 26 [(0, sl 1 I va0), (1, sl 1 I b1), (5, I i2)], []⟩
abbrev Qw_eqIntS := Nx X 47 0 Kw_eqIntS Zw_eqIntS RB (fun _ => [])
theorem nw_eqIntS : ∀ s o, Bw_eqIntS s = some o → Qw_eqIntS (Kw_eqIntS s) (Zw_eqIntS s) o
  | .h1 va0 b1 i2, o, H =>
    eIf H (fun h1 H =>
      eCk H fun h2 H =>
      eBind H fun x3 hx3 H =>
      eCk H fun h4 H =>
      eBind H fun x5 hx5 H =>
      gN [rg [hT 3]] (by kernel_rfl) (P2 ((decide (i2 < ((va0.length : Nat) : Int))) = true) (decide_eq_true h1) <| P0) <|
      eIf H (fun h6 H =>
        eN H fun r hn => gO [rg [hE 3 (I x3), hE 7 (I x5), hF 8], r0, .canon [] [0, 1, 5]] (by kernel_rfl) (P1 h2 <| P1 (int_lt_of_at h2 hx3) <| P1 (at_map I hx3) <| P1 h4 <| P1 (int_lt_of_at h4 hx5) <| P1 (at_map I hx5) <| P2 (((x3 : Int) != x5) = false) (bneF h6) <| P0) hn)
      (fun h6 H =>
        eN H <| gE func47 [rg [hE 3 (I x3), hE 7 (I x5), hT 8], r0] (by kernel_rfl) (P1 h2 <| P1 (int_lt_of_at h2 hx3) <| P1 (at_map I hx3) <| P1 h4 <| P1 (int_lt_of_at h4 hx5) <| P1 (at_map I hx5) <| P2 (((x3 : Int) != x5) = true) (bneT h6) <| P0)))
    (fun h1 H =>
      eN H <| gE func47 [rg [hF 3], r0] (by kernel_rfl) (P2 ((decide (i2 < ((va0.length : Nat) : Int))) = false) (decide_eq_false h1) <| P0))
theorem ww_eqIntS : ∀ s r, loop Bw_eqIntS s = some r → Wc X 47 0 (Kw_eqIntS s) (Zw_eqIntS s) (RB r) ((fun _ => []) r) := Nx.all (nw_eqIntS)
theorem cw_eqIntS {a0 : (List Int)} {a1 : (List Int)} {r : Bool} (H : Dw_eqIntS a0 a1 = some r) : Ct X.P X.gl 47 [sl 1 I a0, sl 1 I a1] [] (RB r) [] :=
  Ct.of func47 (c := bdy f47) (by kernel_rfl) (by kernel_rfl) <|
  gS [r0] (by kernel_rfl) P0 <|
  eIf H (fun h1 H =>
    gO [rg [hF 4], r0, .canon [] [0, 1, 5]] (by kernel_rfl) (P2 (((((a0.length : Nat) : Int) : Int) != ((a1.length : Nat) : Int)) = false) (bneF h1) <| P0) (ww_eqIntS _ _ H))
  (fun h1 H =>
    eW RB (fun _ => []) H <| gE func47 [rg [hT 4], r0] (by kernel_rfl) (P2 (((((a0.length : Nat) : Int) : Int) != ((a1.length : Nat) : Int)) = true) (bneT h1) <| P0))
/-! loop example/g00886/laws eqTerrain -/
theorem cw_eqTerrain {a0 : Gi_Terrain} {a1 : Gi_Terrain} {r : Bool} (H : Dw_eqTerrain a0 a1 = some r) : Ct X.P X.gl 167 [.agg [.str a0.Name, sl 1 I a0.Cost, I a0.Shift, I a0.Height, .bool a0.Blocks], .agg [.str a1.Name, sl 1 I a1.Cost, I a1.Shift, I a1.Height, .bool a1.Blocks]] [] (RB r) [] :=
  Ct.of func167 (c := bdy f167) (by kernel_rfl) (by kernel_rfl) <|
  gS [r0] (by kernel_rfl) P0 <|
  eIf H (fun h1 H =>
    eBind H fun r2 hr2 H =>
    gS [rg [hF 4]] (by kernel_rfl) (P2 ((!(a0.Name == a1.Name)) = false) (nbeqF h1) <| P0) <|
    eIf H (fun h3 H =>
      gS [rg [{ i := 4, call := some { cl := true, auto := true, ins := [], res := (RB r2), G' := [] }, dec := some true }]] (by kernel_rfl) (P1 (cw_eqIntS hr2) <| P2 (r2 = true) (h3) <| P0) <|
      eIf H (fun h4 H =>
        gS [rg [hF 4]] (by kernel_rfl) (P2 (((a0.Shift : Int) != a1.Shift) = false) (bneF h4) <| P0) <|
        eIf H (fun h5 H =>
          gS [rg [hF 4]] (by kernel_rfl) (P2 (((a0.Height : Int) != a1.Height) = false) (bneF h5) <| P0) <|
          eIf H (fun h6 H =>
            eW RB (fun _ => []) H <| gE func167 [rg [hT 4], r0] (by kernel_rfl) (P2 ((!(a0.Blocks == a1.Blocks)) = true) (h6) <| P0))
          (fun h6 H =>
            eW RB (fun _ => []) H <| gE func167 [rg [hF 4], r0] (by kernel_rfl) (P2 ((!(a0.Blocks == a1.Blocks)) = false) (eqF h6) <| P0)))
        (fun h5 H =>
          eW RB (fun _ => []) H <| gE func167 [rg [hT 4], r0] (by kernel_rfl) (P2 (((a0.Height : Int) != a1.Height) = true) (bneT h5) <| P0)))
      (fun h4 H =>
        eW RB (fun _ => []) H <| gE func167 [rg [hT 4], r0] (by kernel_rfl) (P2 (((a0.Shift : Int) != a1.Shift) = true) (bneT h4) <| P0)))
    (fun h3 H =>
      eW RB (fun _ => []) H <| gE func167 [rg [{ i := 4, call := some { cl := true, auto := true, ins := [], res := (RB r2), G' := [] }, dec := some false }], r0] (by kernel_rfl) (P1 (cw_eqIntS hr2) <| P2 (r2 = false) (eqF h3) <| P0)))
  (fun h1 H =>
    eW RB (fun _ => []) H <| gE func167 [rg [hT 4], r0] (by kernel_rfl) (P2 ((!(a0.Name == a1.Name)) = true) (nbeqT h1) <| P0))
/-! loop example/g00886/laws eqTerrainS -/
noncomputable def Kw_eqTerrainS : Sw_eqTerrainS → List Item
  | .h1 .. => nav 300 3 [false] [.code (bdy f128)]
def Zw_eqTerrainS : Sw_eqTerrainS → St
  | .h1 va0 b1 i2 => ⟨sts 27 [(0, sl 5 gi_Terrain va0), (1, sl 5 gi_Terrain b1), (5, I i2)], []⟩
abbrev Qw_eqTerrainS := Nx X 128 0 Kw_eqTerrainS Zw_eqTerrainS RB (fun _ => [])
theorem nw_eqTerrainS : ∀ s o, Bw_eqTerrainS s = some o → Qw_eqTerrainS (Kw_eqTerrainS s) (Zw_eqTerrainS s) o
  | .h1 va0 b1 i2, o, H =>
    eIf H (fun h1 H =>
      eCk H fun h2 H =>
      eBind H fun x3 hx3 H =>
      eCk H fun h4 H =>
      eBind H fun x5 hx5 H =>
      eBind H fun r6 hr6 H =>
      gN [rg [hT 3]] (by kernel_rfl) (P2 ((decide (i2 < ((va0.length : Nat) : Int))) = true) (decide_eq_true h1) <| P0) <|
      eIf H (fun h7 H =>
        eN H fun r hn => gO [rg [hE 3 (gi_Terrain x3), hE 7 (gi_Terrain x5), { i := 8, call := some { cl := true, auto := true, ins := [], res := (RB r6), G' := [] }, dec := some true }], r0, .canon [] [0, 1, 5]] (by kernel_rfl) (P1 h2 <| P1 (int_lt_of_at h2 hx3) <| P1 (at_map gi_Terrain hx3) <| P1 h4 <| P1 (int_lt_of_at h4 hx5) <| P1 (at_map gi_Terrain hx5) <| P1 (cw_eqTerrain hr6) <| P2 (r6 = true) (h7) <| P0) hn)
      (fun h7 H =>
        eN H <| gE func128 [rg [hE 3 (gi_Terrain x3), hE 7 (gi_Terrain x5), { i := 8, call := some { cl := true, auto := true, ins := [], res := (RB r6), G' := [] }, dec := some false }], r0] (by kernel_rfl) (P1 h2 <| P1 (int_lt_of_at h2 hx3) <| P1 (at_map gi_Terrain hx3) <| P1 h4 <| P1 (int_lt_of_at h4 hx5) <| P1 (at_map gi_Terrain hx5) <| P1 (cw_eqTerrain hr6) <| P2 (r6 = false) (eqF h7) <| P0)))
    (fun h1 H =>
      eN H <| gE func128 [rg [hF 3], r0] (by kernel_rfl) (P2 ((decide (i2 < ((va0.length : Nat) : Int))) = false) (decide_eq_false h1) <| P0))
theorem ww_eqTerrainS : ∀ s r, loop Bw_eqTerrainS s = some r → Wc X 128 0 (Kw_eqTerrainS s) (Zw_eqTerrainS s) (RB r) ((fun _ => []) r) := Nx.all (nw_eqTerrainS)
theorem cw_eqTerrainS {a0 : (List Gi_Terrain)} {a1 : (List Gi_Terrain)} {r : Bool} (H : Dw_eqTerrainS a0 a1 = some r) : Ct X.P X.gl 128 [sl 5 gi_Terrain a0, sl 5 gi_Terrain a1] [] (RB r) [] :=
  Ct.of func128 (c := bdy f128) (by kernel_rfl) (by kernel_rfl) <|
  gS [r0] (by kernel_rfl) P0 <|
  eIf H (fun h1 H =>
    gO [rg [hF 4], r0, .canon [] [0, 1, 5]] (by kernel_rfl) (P2 (((((a0.length : Nat) : Int) : Int) != ((a1.length : Nat) : Int)) = false) (bneF h1) <| P0) (ww_eqTerrainS _ _ H))
  (fun h1 H =>
    eW RB (fun _ => []) H <| gE func128 [rg [hT 4], r0] (by kernel_rfl) (P2 (((((a0.length : Nat) : Int) : Int) != ((a1.length : Nat) : Int)) = true) (bneT h1) <| P0))
/-! loop example/g00886/laws eqKind -/
theorem cw_eqKind {a0 : Gi_Kind} {a1 : Gi_Kind} {r : Bool} (H : Dw_eqKind a0 a1 = some r) : Ct X.P X.gl 168 [.agg [.str a0.Name, I a0.Strength, I a0.Moves, I a0.Steps, .bool a0.Zone, I a0.View], .agg [.str a1.Name, I a1.Strength, I a1.Moves, I a1.Steps, .bool a1.Zone, I a1.View]] [] (RB r) [] :=
  Ct.of func168 (c := bdy f168) (by kernel_rfl) (by kernel_rfl) <|
  gS [r0] (by kernel_rfl) P0 <|
  eIf H (fun h1 H =>
    gS [rg [hF 4]] (by kernel_rfl) (P2 ((!(a0.Name == a1.Name)) = false) (nbeqF h1) <| P0) <|
    eIf H (fun h2 H =>
      gS [rg [hF 4]] (by kernel_rfl) (P2 (((a0.Strength : Int) != a1.Strength) = false) (bneF h2) <| P0) <|
      eIf H (fun h3 H =>
        gS [rg [hF 4]] (by kernel_rfl) (P2 (((a0.Moves : Int) != a1.Moves) = false) (bneF h3) <| P0) <|
        eIf H (fun h4 H =>
          gS [rg [hF 4]] (by kernel_rfl) (P2 (((a0.Steps : Int) != a1.Steps) = false) (bneF h4) <| P0) <|
          eIf H (fun h5 H =>
            eW RB (fun _ => []) H <| gE func168 [rg [hT 4], r0] (by kernel_rfl) (P2 ((!(a0.Zone == a1.Zone)) = true) (h5) <| P0))
          (fun h5 H =>
            gS [rg [hF 4]] (by kernel_rfl) (P2 ((!(a0.Zone == a1.Zone)) = false) (eqF h5) <| P0) <|
            eIf H (fun h6 H =>
              eW RB (fun _ => []) H <| gE func168 [rg [hF 4], r0] (by kernel_rfl) (P2 (((a0.View : Int) != a1.View) = false) (bneF h6) <| P0))
            (fun h6 H =>
              eW RB (fun _ => []) H <| gE func168 [rg [hT 4], r0] (by kernel_rfl) (P2 (((a0.View : Int) != a1.View) = true) (bneT h6) <| P0))))
        (fun h4 H =>
          eW RB (fun _ => []) H <| gE func168 [rg [hT 4], r0] (by kernel_rfl) (P2 (((a0.Steps : Int) != a1.Steps) = true) (bneT h4) <| P0)))
      (fun h3 H =>
        eW RB (fun _ => []) H <| gE func168 [rg [hT 4], r0] (by kernel_rfl) (P2 (((a0.Moves : Int) != a1.Moves) = true) (bneT h3) <| P0)))
    (fun h2 H =>
      eW RB (fun _ => []) H <| gE func168 [rg [hT 4], r0] (by kernel_rfl) (P2 (((a0.Strength : Int) != a1.Strength) = true) (bneT h2) <| P0)))
  (fun h1 H =>
    eW RB (fun _ => []) H <| gE func168 [rg [hT 4], r0] (by kernel_rfl) (P2 ((!(a0.Name == a1.Name)) = true) (nbeqT h1) <| P0))
/-! loop example/g00886/laws eqKindS -/
noncomputable def Kw_eqKindS : Sw_eqKindS → List Item
  | .h1 .. => nav 300 3 [false] [.code (bdy f129)]
def Zw_eqKindS : Sw_eqKindS → St
  | .h1 va0 b1 i2 => ⟨sts 27 [(0, sl 6 gi_Kind va0), (1, sl 6 gi_Kind b1), (5, I i2)], []⟩
abbrev Qw_eqKindS := Nx X 129 0 Kw_eqKindS Zw_eqKindS RB (fun _ => [])
theorem nw_eqKindS : ∀ s o, Bw_eqKindS s = some o → Qw_eqKindS (Kw_eqKindS s) (Zw_eqKindS s) o
  | .h1 va0 b1 i2, o, H =>
    eIf H (fun h1 H =>
      eCk H fun h2 H =>
      eBind H fun x3 hx3 H =>
      eCk H fun h4 H =>
      eBind H fun x5 hx5 H =>
      eBind H fun r6 hr6 H =>
      gN [rg [hT 3]] (by kernel_rfl) (P2 ((decide (i2 < ((va0.length : Nat) : Int))) = true) (decide_eq_true h1) <| P0) <|
      eIf H (fun h7 H =>
        eN H fun r hn => gO [rg [hE 3 (gi_Kind x3), hE 7 (gi_Kind x5), { i := 8, call := some { cl := true, auto := true, ins := [], res := (RB r6), G' := [] }, dec := some true }], r0, .canon [] [0, 1, 5]] (by kernel_rfl) (P1 h2 <| P1 (int_lt_of_at h2 hx3) <| P1 (at_map gi_Kind hx3) <| P1 h4 <| P1 (int_lt_of_at h4 hx5) <| P1 (at_map gi_Kind hx5) <| P1 (cw_eqKind hr6) <| P2 (r6 = true) (h7) <| P0) hn)
      (fun h7 H =>
        eN H <| gE func129 [rg [hE 3 (gi_Kind x3), hE 7 (gi_Kind x5), { i := 8, call := some { cl := true, auto := true, ins := [], res := (RB r6), G' := [] }, dec := some false }], r0] (by kernel_rfl) (P1 h2 <| P1 (int_lt_of_at h2 hx3) <| P1 (at_map gi_Kind hx3) <| P1 h4 <| P1 (int_lt_of_at h4 hx5) <| P1 (at_map gi_Kind hx5) <| P1 (cw_eqKind hr6) <| P2 (r6 = false) (eqF h7) <| P0)))
    (fun h1 H =>
      eN H <| gE func129 [rg [hF 3], r0] (by kernel_rfl) (P2 ((decide (i2 < ((va0.length : Nat) : Int))) = false) (decide_eq_false h1) <| P0))
theorem ww_eqKindS : ∀ s r, loop Bw_eqKindS s = some r → Wc X 129 0 (Kw_eqKindS s) (Zw_eqKindS s) (RB r) ((fun _ => []) r) := Nx.all (nw_eqKindS)
theorem cw_eqKindS {a0 : (List Gi_Kind)} {a1 : (List Gi_Kind)} {r : Bool} (H : Dw_eqKindS a0 a1 = some r) : Ct X.P X.gl 129 [sl 6 gi_Kind a0, sl 6 gi_Kind a1] [] (RB r) [] :=
  Ct.of func129 (c := bdy f129) (by kernel_rfl) (by kernel_rfl) <|
  gS [r0] (by kernel_rfl) P0 <|
  eIf H (fun h1 H =>
    gO [rg [hF 4], r0, .canon [] [0, 1, 5]] (by kernel_rfl) (P2 (((((a0.length : Nat) : Int) : Int) != ((a1.length : Nat) : Int)) = false) (bneF h1) <| P0) (ww_eqKindS _ _ H))
  (fun h1 H =>
    eW RB (fun _ => []) H <| gE func129 [rg [hT 4], r0] (by kernel_rfl) (P2 (((((a0.length : Nat) : Int) : Int) != ((a1.length : Nat) : Int)) = true) (bneT h1) <| P0))
/-! loop example/g00886/laws eqRules -/
theorem cw_eqRules {a0 : Gi_Rules} {a1 : Gi_Rules} {r : Bool} (H : Dw_eqRules a0 a1 = some r) : Ct X.P X.gl 88 [.agg [sl 5 gi_Terrain a0.Terrains, sl 6 gi_Kind a0.Kinds, I a0.Stack, I a0.River, I a0.Road, I a0.Supply, I a0.Turns], .agg [sl 5 gi_Terrain a1.Terrains, sl 6 gi_Kind a1.Kinds, I a1.Stack, I a1.River, I a1.Road, I a1.Supply, I a1.Turns]] [] (RB r) [] :=
  Ct.of func88 (c := bdy f88) (by kernel_rfl) (by kernel_rfl) <|
  eBind H fun r1 hr1 H =>
  gS [r0] (by kernel_rfl) P0 <|
  eIf H (fun h2 H =>
    eBind H fun r3 hr3 H =>
    gS [rg [{ i := 4, call := some { cl := true, auto := true, ins := [], res := (RB r1), G' := [] }, dec := some true }]] (by kernel_rfl) (P1 (cw_eqTerrainS hr1) <| P2 (r1 = true) (h2) <| P0) <|
    eIf H (fun h4 H =>
      gS [rg [{ i := 4, call := some { cl := true, auto := true, ins := [], res := (RB r3), G' := [] }, dec := some true }]] (by kernel_rfl) (P1 (cw_eqKindS hr3) <| P2 (r3 = true) (h4) <| P0) <|
      eIf H (fun h5 H =>
        gS [rg [hF 4]] (by kernel_rfl) (P2 (((a0.Stack : Int) != a1.Stack) = false) (bneF h5) <| P0) <|
        eIf H (fun h6 H =>
          gS [rg [hF 4]] (by kernel_rfl) (P2 (((a0.River : Int) != a1.River) = false) (bneF h6) <| P0) <|
          eIf H (fun h7 H =>
            gS [rg [hF 4]] (by kernel_rfl) (P2 (((a0.Road : Int) != a1.Road) = false) (bneF h7) <| P0) <|
            eIf H (fun h8 H =>
              gS [rg [hF 4]] (by kernel_rfl) (P2 (((a0.Supply : Int) != a1.Supply) = false) (bneF h8) <| P0) <|
              eIf H (fun h9 H =>
                eW RB (fun _ => []) H <| gE func88 [rg [hF 4], r0] (by kernel_rfl) (P2 (((a0.Turns : Int) != a1.Turns) = false) (bneF h9) <| P0))
              (fun h9 H =>
                eW RB (fun _ => []) H <| gE func88 [rg [hT 4], r0] (by kernel_rfl) (P2 (((a0.Turns : Int) != a1.Turns) = true) (bneT h9) <| P0)))
            (fun h8 H =>
              eW RB (fun _ => []) H <| gE func88 [rg [hT 4], r0] (by kernel_rfl) (P2 (((a0.Supply : Int) != a1.Supply) = true) (bneT h8) <| P0)))
          (fun h7 H =>
            eW RB (fun _ => []) H <| gE func88 [rg [hT 4], r0] (by kernel_rfl) (P2 (((a0.Road : Int) != a1.Road) = true) (bneT h7) <| P0)))
        (fun h6 H =>
          eW RB (fun _ => []) H <| gE func88 [rg [hT 4], r0] (by kernel_rfl) (P2 (((a0.River : Int) != a1.River) = true) (bneT h6) <| P0)))
      (fun h5 H =>
        eW RB (fun _ => []) H <| gE func88 [rg [hT 4], r0] (by kernel_rfl) (P2 (((a0.Stack : Int) != a1.Stack) = true) (bneT h5) <| P0)))
    (fun h4 H =>
      eW RB (fun _ => []) H <| gE func88 [rg [{ i := 4, call := some { cl := true, auto := true, ins := [], res := (RB r3), G' := [] }, dec := some false }], r0] (by kernel_rfl) (P1 (cw_eqKindS hr3) <| P2 (r3 = false) (eqF h4) <| P0)))
  (fun h2 H =>
    eW RB (fun _ => []) H <| gE func88 [rg [{ i := 4, call := some { cl := true, auto := true, ins := [], res := (RB r1), G' := [] }, dec := some false }], r0] (by kernel_rfl) (P1 (cw_eqTerrainS hr1) <| P2 (r1 = false) (eqF h2) <| P0))
/-! loop example/g00886/laws eqMap -/
theorem cw_eqMap {a0 : Gi_Map} {a1 : Gi_Map} {r : Bool} (H : Dw_eqMap a0 a1 = some r) : Ct X.P X.gl 89 [.agg [I a0.Width, I a0.Height, sl 1 I a0.Terrain, sl 1 I a0.Rivers, sl 1 I a0.Roads], .agg [I a1.Width, I a1.Height, sl 1 I a1.Terrain, sl 1 I a1.Rivers, sl 1 I a1.Roads]] [] (RB r) [] :=
  Ct.of func89 (c := bdy f89) (by kernel_rfl) (by kernel_rfl) <|
  gS [r0] (by kernel_rfl) P0 <|
  eIf H (fun h1 H =>
    gS [rg [hF 4]] (by kernel_rfl) (P2 (((a0.Width : Int) != a1.Width) = false) (bneF h1) <| P0) <|
    eIf H (fun h2 H =>
      eBind H fun r3 hr3 H =>
      gS [rg [hF 4]] (by kernel_rfl) (P2 (((a0.Height : Int) != a1.Height) = false) (bneF h2) <| P0) <|
      eIf H (fun h4 H =>
        eBind H fun r5 hr5 H =>
        gS [rg [{ i := 4, call := some { cl := true, auto := true, ins := [], res := (RB r3), G' := [] }, dec := some true }]] (by kernel_rfl) (P1 (cw_eqIntS hr3) <| P2 (r3 = true) (h4) <| P0) <|
        eIf H (fun h6 H =>
          eBind H fun r7 hr7 H =>
          gS [rg [{ i := 4, call := some { cl := true, auto := true, ins := [], res := (RB r5), G' := [] }, dec := some true }]] (by kernel_rfl) (P1 (cw_eqIntS hr5) <| P2 (r5 = true) (h6) <| P0) <|
          eIf H (fun h8 H =>
            eW RB (fun _ => []) H <| gE func89 [rg [{ i := 4, call := some { cl := true, auto := true, ins := [], res := (RB r7), G' := [] }, dec := some true }], r0] (by kernel_rfl) (P1 (cw_eqIntS hr7) <| P2 (r7 = true) (h8) <| P0))
          (fun h8 H =>
            eW RB (fun _ => []) H <| gE func89 [rg [{ i := 4, call := some { cl := true, auto := true, ins := [], res := (RB r7), G' := [] }, dec := some false }], r0] (by kernel_rfl) (P1 (cw_eqIntS hr7) <| P2 (r7 = false) (eqF h8) <| P0)))
        (fun h6 H =>
          eW RB (fun _ => []) H <| gE func89 [rg [{ i := 4, call := some { cl := true, auto := true, ins := [], res := (RB r5), G' := [] }, dec := some false }], r0] (by kernel_rfl) (P1 (cw_eqIntS hr5) <| P2 (r5 = false) (eqF h6) <| P0)))
      (fun h4 H =>
        eW RB (fun _ => []) H <| gE func89 [rg [{ i := 4, call := some { cl := true, auto := true, ins := [], res := (RB r3), G' := [] }, dec := some false }], r0] (by kernel_rfl) (P1 (cw_eqIntS hr3) <| P2 (r3 = false) (eqF h4) <| P0)))
    (fun h2 H =>
      eW RB (fun _ => []) H <| gE func89 [rg [hT 4], r0] (by kernel_rfl) (P2 (((a0.Height : Int) != a1.Height) = true) (bneT h2) <| P0)))
  (fun h1 H =>
    eW RB (fun _ => []) H <| gE func89 [rg [hT 4], r0] (by kernel_rfl) (P2 (((a0.Width : Int) != a1.Width) = true) (bneT h1) <| P0))
/-! loop example/g00886/laws eqBoard -/
theorem cw_eqBoard {a0 : Gi_Board} {a1 : Gi_Board} {r : Bool} (H : Dw_eqBoard a0 a1 = some r) : Ct X.P X.gl 42 [.agg [sl 5 gi_Terrain a0.Rules.Terrains, sl 6 gi_Kind a0.Rules.Kinds, I a0.Rules.Stack, I a0.Rules.River, I a0.Rules.Road, I a0.Rules.Supply, I a0.Rules.Turns, I a0.Map.Width, I a0.Map.Height, sl 1 I a0.Map.Terrain, sl 1 I a0.Map.Rivers, sl 1 I a0.Map.Roads], .agg [sl 5 gi_Terrain a1.Rules.Terrains, sl 6 gi_Kind a1.Rules.Kinds, I a1.Rules.Stack, I a1.Rules.River, I a1.Rules.Road, I a1.Rules.Supply, I a1.Rules.Turns, I a1.Map.Width, I a1.Map.Height, sl 1 I a1.Map.Terrain, sl 1 I a1.Map.Rivers, sl 1 I a1.Map.Roads]] [] (RB r) [] :=
  Ct.of func42 (c := bdy f42) (by kernel_rfl) (by kernel_rfl) <|
  eBind H fun r1 hr1 H =>
  gS [r0] (by kernel_rfl) P0 <|
  eIf H (fun h2 H =>
    eBind H fun r3 hr3 H =>
    gS [rg [{ i := 4, call := some { cl := true, auto := true, ins := [], res := (RB r1), G' := [] }, dec := some true }]] (by kernel_rfl) (P1 (cw_eqRules hr1) <| P2 (r1 = true) (h2) <| P0) <|
    eIf H (fun h4 H =>
      eW RB (fun _ => []) H <| gE func42 [rg [{ i := 4, call := some { cl := true, auto := true, ins := [], res := (RB r3), G' := [] }, dec := some true }], r0] (by kernel_rfl) (P1 (cw_eqMap hr3) <| P2 (r3 = true) (h4) <| P0))
    (fun h4 H =>
      eW RB (fun _ => []) H <| gE func42 [rg [{ i := 4, call := some { cl := true, auto := true, ins := [], res := (RB r3), G' := [] }, dec := some false }], r0] (by kernel_rfl) (P1 (cw_eqMap hr3) <| P2 (r3 = false) (eqF h4) <| P0)))
  (fun h2 H =>
    eW RB (fun _ => []) H <| gE func42 [rg [{ i := 4, call := some { cl := true, auto := true, ins := [], res := (RB r1), G' := [] }, dec := some false }], r0] (by kernel_rfl) (P1 (cw_eqRules hr1) <| P2 (r1 = false) (eqF h2) <| P0))
/-! loop example/g00886/laws eqOdds -/
theorem cw_eqOdds {a0 : Gi_Odds} {a1 : Gi_Odds} {r : Bool} (H : Dw_eqOdds a0 a1 = some r) : Ct X.P X.gl 130 [.agg [I a0.Num, I a0.Den], .agg [I a1.Num, I a1.Den]] [] (RB r) [] :=
  Ct.of func130 (c := bdy f130) (by kernel_rfl) (by kernel_rfl) <|
  gS [r0] (by kernel_rfl) P0 <|
  eIf H (fun h1 H =>
    gS [rg [hF 4]] (by kernel_rfl) (P2 (((a0.Num : Int) != a1.Num) = false) (bneF h1) <| P0) <|
    eIf H (fun h2 H =>
      eW RB (fun _ => []) H <| gE func130 [rg [hF 4], r0] (by kernel_rfl) (P2 (((a0.Den : Int) != a1.Den) = false) (bneF h2) <| P0))
    (fun h2 H =>
      eW RB (fun _ => []) H <| gE func130 [rg [hT 4], r0] (by kernel_rfl) (P2 (((a0.Den : Int) != a1.Den) = true) (bneT h2) <| P0)))
  (fun h1 H =>
    eW RB (fun _ => []) H <| gE func130 [rg [hT 4], r0] (by kernel_rfl) (P2 (((a0.Num : Int) != a1.Num) = true) (bneT h1) <| P0))
/-! loop example/g00886/laws eqOddsS -/
noncomputable def Kw_eqOddsS : Sw_eqOddsS → List Item
  | .h1 .. => nav 300 3 [false] [.code (bdy f90)]
def Zw_eqOddsS : Sw_eqOddsS → St
  | .h1 va0 b1 i2 => ⟨sts 27 [(0, sl 2 gi_Odds va0), (1, sl 2 gi_Odds b1), (5, I i2)], []⟩
abbrev Qw_eqOddsS := Nx X 90 0 Kw_eqOddsS Zw_eqOddsS RB (fun _ => [])
theorem nw_eqOddsS : ∀ s o, Bw_eqOddsS s = some o → Qw_eqOddsS (Kw_eqOddsS s) (Zw_eqOddsS s) o
  | .h1 va0 b1 i2, o, H =>
    eIf H (fun h1 H =>
      eCk H fun h2 H =>
      eBind H fun x3 hx3 H =>
      eCk H fun h4 H =>
      eBind H fun x5 hx5 H =>
      eBind H fun r6 hr6 H =>
      gN [rg [hT 3]] (by kernel_rfl) (P2 ((decide (i2 < ((va0.length : Nat) : Int))) = true) (decide_eq_true h1) <| P0) <|
      eIf H (fun h7 H =>
        eN H fun r hn => gO [rg [hE 3 (gi_Odds x3), hE 7 (gi_Odds x5), { i := 8, call := some { cl := true, auto := true, ins := [], res := (RB r6), G' := [] }, dec := some true }], r0, .canon [] [0, 1, 5]] (by kernel_rfl) (P1 h2 <| P1 (int_lt_of_at h2 hx3) <| P1 (at_map gi_Odds hx3) <| P1 h4 <| P1 (int_lt_of_at h4 hx5) <| P1 (at_map gi_Odds hx5) <| P1 (cw_eqOdds hr6) <| P2 (r6 = true) (h7) <| P0) hn)
      (fun h7 H =>
        eN H <| gE func90 [rg [hE 3 (gi_Odds x3), hE 7 (gi_Odds x5), { i := 8, call := some { cl := true, auto := true, ins := [], res := (RB r6), G' := [] }, dec := some false }], r0] (by kernel_rfl) (P1 h2 <| P1 (int_lt_of_at h2 hx3) <| P1 (at_map gi_Odds hx3) <| P1 h4 <| P1 (int_lt_of_at h4 hx5) <| P1 (at_map gi_Odds hx5) <| P1 (cw_eqOdds hr6) <| P2 (r6 = false) (eqF h7) <| P0)))
    (fun h1 H =>
      eN H <| gE func90 [rg [hF 3], r0] (by kernel_rfl) (P2 ((decide (i2 < ((va0.length : Nat) : Int))) = false) (decide_eq_false h1) <| P0))
theorem ww_eqOddsS : ∀ s r, loop Bw_eqOddsS s = some r → Wc X 90 0 (Kw_eqOddsS s) (Zw_eqOddsS s) (RB r) ((fun _ => []) r) := Nx.all (nw_eqOddsS)
theorem cw_eqOddsS {a0 : (List Gi_Odds)} {a1 : (List Gi_Odds)} {r : Bool} (H : Dw_eqOddsS a0 a1 = some r) : Ct X.P X.gl 90 [sl 2 gi_Odds a0, sl 2 gi_Odds a1] [] (RB r) [] :=
  Ct.of func90 (c := bdy f90) (by kernel_rfl) (by kernel_rfl) <|
  gS [r0] (by kernel_rfl) P0 <|
  eIf H (fun h1 H =>
    gO [rg [hF 4], r0, .canon [] [0, 1, 5]] (by kernel_rfl) (P2 (((((a0.length : Nat) : Int) : Int) != ((a1.length : Nat) : Int)) = false) (bneF h1) <| P0) (ww_eqOddsS _ _ H))
  (fun h1 H =>
    eW RB (fun _ => []) H <| gE func90 [rg [hT 4], r0] (by kernel_rfl) (P2 (((((a0.length : Nat) : Int) : Int) != ((a1.length : Nat) : Int)) = true) (bneT h1) <| P0))
/-! loop example/g00886/laws eqIntSS -/
noncomputable def Kw_eqIntSS : Sw_eqIntSS → List Item
  | .h1 .. => nav 300 3 [false] [.code (bdy f44)]
def Zw_eqIntSS : Sw_eqIntSS → St
  | .h1 va0 b1 i2 => ⟨sts 27 [(0, sl 1 (sl 1 I) va0), (1, sl 1 (sl 1 I) b1), (5, I i2)], []⟩
abbrev Qw_eqIntSS := Nx X 44 0 Kw_eqIntSS Zw_eqIntSS RB (fun _ => [])
theorem nw_eqIntSS : ∀ s o, Bw_eqIntSS s = some o → Qw_eqIntSS (Kw_eqIntSS s) (Zw_eqIntSS s) o
  | .h1 va0 b1 i2, o, H =>
    eIf H (fun h1 H =>
      eCk H fun h2 H =>
      eBind H fun x3 hx3 H =>
      eCk H fun h4 H =>
      eBind H fun x5 hx5 H =>
      eBind H fun r6 hr6 H =>
      gN [rg [hT 3]] (by kernel_rfl) (P2 ((decide (i2 < ((va0.length : Nat) : Int))) = true) (decide_eq_true h1) <| P0) <|
      eIf H (fun h7 H =>
        eN H fun r hn => gO [rg [hE 3 ((sl 1 I) x3), hE 7 ((sl 1 I) x5), { i := 8, call := some { cl := true, auto := true, ins := [], res := (RB r6), G' := [] }, dec := some true }], r0, .canon [] [0, 1, 5]] (by kernel_rfl) (P1 h2 <| P1 (int_lt_of_at h2 hx3) <| P1 (at_map (sl 1 I) hx3) <| P1 h4 <| P1 (int_lt_of_at h4 hx5) <| P1 (at_map (sl 1 I) hx5) <| P1 (cw_eqIntS hr6) <| P2 (r6 = true) (h7) <| P0) hn)
      (fun h7 H =>
        eN H <| gE func44 [rg [hE 3 ((sl 1 I) x3), hE 7 ((sl 1 I) x5), { i := 8, call := some { cl := true, auto := true, ins := [], res := (RB r6), G' := [] }, dec := some false }], r0] (by kernel_rfl) (P1 h2 <| P1 (int_lt_of_at h2 hx3) <| P1 (at_map (sl 1 I) hx3) <| P1 h4 <| P1 (int_lt_of_at h4 hx5) <| P1 (at_map (sl 1 I) hx5) <| P1 (cw_eqIntS hr6) <| P2 (r6 = false) (eqF h7) <| P0)))
    (fun h1 H =>
      eN H <| gE func44 [rg [hF 3], r0] (by kernel_rfl) (P2 ((decide (i2 < ((va0.length : Nat) : Int))) = false) (decide_eq_false h1) <| P0))
theorem ww_eqIntSS : ∀ s r, loop Bw_eqIntSS s = some r → Wc X 44 0 (Kw_eqIntSS s) (Zw_eqIntSS s) (RB r) ((fun _ => []) r) := Nx.all (nw_eqIntSS)
theorem cw_eqIntSS {a0 : (List (List Int))} {a1 : (List (List Int))} {r : Bool} (H : Dw_eqIntSS a0 a1 = some r) : Ct X.P X.gl 44 [sl 1 (sl 1 I) a0, sl 1 (sl 1 I) a1] [] (RB r) [] :=
  Ct.of func44 (c := bdy f44) (by kernel_rfl) (by kernel_rfl) <|
  gS [r0] (by kernel_rfl) P0 <|
  eIf H (fun h1 H =>
    gO [rg [hF 4], r0, .canon [] [0, 1, 5]] (by kernel_rfl) (P2 (((((a0.length : Nat) : Int) : Int) != ((a1.length : Nat) : Int)) = false) (bneF h1) <| P0) (ww_eqIntSS _ _ H))
  (fun h1 H =>
    eW RB (fun _ => []) H <| gE func44 [rg [hT 4], r0] (by kernel_rfl) (P2 (((((a0.length : Nat) : Int) : Int) != ((a1.length : Nat) : Int)) = true) (bneT h1) <| P0))
/-! loop example/g00886/laws eqCombatTable -/
theorem cw_eqCombatTable {a0 : Gi_CombatTable} {a1 : Gi_CombatTable} {r : Bool} (H : Dw_eqCombatTable a0 a1 = some r) : Ct X.P X.gl 43 [.agg [sl 2 gi_Odds a0.Columns, I a0.Dice, sl 1 (sl 1 I) a0.Results], .agg [sl 2 gi_Odds a1.Columns, I a1.Dice, sl 1 (sl 1 I) a1.Results]] [] (RB r) [] :=
  Ct.of func43 (c := bdy f43) (by kernel_rfl) (by kernel_rfl) <|
  eBind H fun r1 hr1 H =>
  gS [r0] (by kernel_rfl) P0 <|
  eIf H (fun h2 H =>
    gS [rg [{ i := 4, call := some { cl := true, auto := true, ins := [], res := (RB r1), G' := [] }, dec := some true }]] (by kernel_rfl) (P1 (cw_eqOddsS hr1) <| P2 (r1 = true) (h2) <| P0) <|
    eIf H (fun h3 H =>
      eBind H fun r4 hr4 H =>
      gS [rg [hF 4]] (by kernel_rfl) (P2 (((a0.Dice : Int) != a1.Dice) = false) (bneF h3) <| P0) <|
      eIf H (fun h5 H =>
        eW RB (fun _ => []) H <| gE func43 [rg [{ i := 4, call := some { cl := true, auto := true, ins := [], res := (RB r4), G' := [] }, dec := some true }], r0] (by kernel_rfl) (P1 (cw_eqIntSS hr4) <| P2 (r4 = true) (h5) <| P0))
      (fun h5 H =>
        eW RB (fun _ => []) H <| gE func43 [rg [{ i := 4, call := some { cl := true, auto := true, ins := [], res := (RB r4), G' := [] }, dec := some false }], r0] (by kernel_rfl) (P1 (cw_eqIntSS hr4) <| P2 (r4 = false) (eqF h5) <| P0)))
    (fun h3 H =>
      eW RB (fun _ => []) H <| gE func43 [rg [hT 4], r0] (by kernel_rfl) (P2 (((a0.Dice : Int) != a1.Dice) = true) (bneT h3) <| P0)))
  (fun h2 H =>
    eW RB (fun _ => []) H <| gE func43 [rg [{ i := 4, call := some { cl := true, auto := true, ins := [], res := (RB r1), G' := [] }, dec := some false }], r0] (by kernel_rfl) (P1 (cw_eqOddsS hr1) <| P2 (r1 = false) (eqF h2) <| P0))
/-! loop example/g00886/laws eqClimate -/
theorem cw_eqClimate {a0 : Gi_Climate} {a1 : Gi_Climate} {r : Bool} (H : Dw_eqClimate a0 a1 = some r) : Ct X.P X.gl 13 [.agg [sl 1 (sl 1 I) a0.Weights], .agg [sl 1 (sl 1 I) a1.Weights]] [] (RB r) [] :=
  Ct.of func13 (c := bdy f13) (by kernel_rfl) (by kernel_rfl) <|
  eBind H fun r1 hr1 H =>
  gS [r0] (by kernel_rfl) P0 <|
  eIf H (fun h2 H =>
    eW RB (fun _ => []) H <| gE func13 [rg [{ i := 4, call := some { cl := true, auto := true, ins := [], res := (RB r1), G' := [] }, dec := some true }], r0] (by kernel_rfl) (P1 (cw_eqIntSS hr1) <| P2 (r1 = true) (h2) <| P0))
  (fun h2 H =>
    eW RB (fun _ => []) H <| gE func13 [rg [{ i := 4, call := some { cl := true, auto := true, ins := [], res := (RB r1), G' := [] }, dec := some false }], r0] (by kernel_rfl) (P1 (cw_eqIntSS hr1) <| P2 (r1 = false) (eqF h2) <| P0))
/-! loop example/g00886/laws eqSetup -/
theorem cw_eqSetup {a0 : Gi_Setup} {a1 : Gi_Setup} {r : Bool} (H : Dw_eqSetup a0 a1 = some r) : Ct X.P X.gl 11 [.agg [sl 5 gi_Terrain a0.Board.Rules.Terrains, sl 6 gi_Kind a0.Board.Rules.Kinds, I a0.Board.Rules.Stack, I a0.Board.Rules.River, I a0.Board.Rules.Road, I a0.Board.Rules.Supply, I a0.Board.Rules.Turns, I a0.Board.Map.Width, I a0.Board.Map.Height, sl 1 I a0.Board.Map.Terrain, sl 1 I a0.Board.Map.Rivers, sl 1 I a0.Board.Map.Roads, sl 2 gi_Odds a0.Table.Columns, I a0.Table.Dice, sl 1 (sl 1 I) a0.Table.Results, sl 1 (sl 1 I) a0.Climate.Weights, sl 1 (sl 1 I) a0.Sources], .agg [sl 5 gi_Terrain a1.Board.Rules.Terrains, sl 6 gi_Kind a1.Board.Rules.Kinds, I a1.Board.Rules.Stack, I a1.Board.Rules.River, I a1.Board.Rules.Road, I a1.Board.Rules.Supply, I a1.Board.Rules.Turns, I a1.Board.Map.Width, I a1.Board.Map.Height, sl 1 I a1.Board.Map.Terrain, sl 1 I a1.Board.Map.Rivers, sl 1 I a1.Board.Map.Roads, sl 2 gi_Odds a1.Table.Columns, I a1.Table.Dice, sl 1 (sl 1 I) a1.Table.Results, sl 1 (sl 1 I) a1.Climate.Weights, sl 1 (sl 1 I) a1.Sources]] [] (RB r) [] :=
  Ct.of func11 (c := bdy f11) (by kernel_rfl) (by kernel_rfl) <|
  eBind H fun r1 hr1 H =>
  gS [r0] (by kernel_rfl) P0 <|
  eIf H (fun h2 H =>
    eBind H fun r3 hr3 H =>
    gS [rg [{ i := 4, call := some { cl := true, auto := true, ins := [], res := (RB r1), G' := [] }, dec := some true }]] (by kernel_rfl) (P1 (cw_eqBoard hr1) <| P2 (r1 = true) (h2) <| P0) <|
    eIf H (fun h4 H =>
      eBind H fun r5 hr5 H =>
      gS [rg [{ i := 4, call := some { cl := true, auto := true, ins := [], res := (RB r3), G' := [] }, dec := some true }]] (by kernel_rfl) (P1 (cw_eqCombatTable hr3) <| P2 (r3 = true) (h4) <| P0) <|
      eIf H (fun h6 H =>
        eBind H fun r7 hr7 H =>
        gS [rg [{ i := 4, call := some { cl := true, auto := true, ins := [], res := (RB r5), G' := [] }, dec := some true }]] (by kernel_rfl) (P1 (cw_eqClimate hr5) <| P2 (r5 = true) (h6) <| P0) <|
        eIf H (fun h8 H =>
          eW RB (fun _ => []) H <| gE func11 [rg [{ i := 4, call := some { cl := true, auto := true, ins := [], res := (RB r7), G' := [] }, dec := some true }], r0] (by kernel_rfl) (P1 (cw_eqIntSS hr7) <| P2 (r7 = true) (h8) <| P0))
        (fun h8 H =>
          eW RB (fun _ => []) H <| gE func11 [rg [{ i := 4, call := some { cl := true, auto := true, ins := [], res := (RB r7), G' := [] }, dec := some false }], r0] (by kernel_rfl) (P1 (cw_eqIntSS hr7) <| P2 (r7 = false) (eqF h8) <| P0)))
      (fun h6 H =>
        eW RB (fun _ => []) H <| gE func11 [rg [{ i := 4, call := some { cl := true, auto := true, ins := [], res := (RB r5), G' := [] }, dec := some false }], r0] (by kernel_rfl) (P1 (cw_eqClimate hr5) <| P2 (r5 = false) (eqF h6) <| P0)))
    (fun h4 H =>
      eW RB (fun _ => []) H <| gE func11 [rg [{ i := 4, call := some { cl := true, auto := true, ins := [], res := (RB r3), G' := [] }, dec := some false }], r0] (by kernel_rfl) (P1 (cw_eqCombatTable hr3) <| P2 (r3 = false) (eqF h4) <| P0)))
  (fun h2 H =>
    eW RB (fun _ => []) H <| gE func11 [rg [{ i := 4, call := some { cl := true, auto := true, ins := [], res := (RB r1), G' := [] }, dec := some false }], r0] (by kernel_rfl) (P1 (cw_eqBoard hr1) <| P2 (r1 = false) (eqF h2) <| P0))
/-! loop example/g00886/laws eqUnit -/
theorem cw_eqUnit {a0 : Gi_Unit} {a1 : Gi_Unit} {r : Bool} (H : Dw_eqUnit a0 a1 = some r) : Ct X.P X.gl 131 [.agg [I a0.Side, I a0.Kind, I a0.At, I a0.Steps], .agg [I a1.Side, I a1.Kind, I a1.At, I a1.Steps]] [] (RB r) [] :=
  Ct.of func131 (c := bdy f131) (by kernel_rfl) (by kernel_rfl) <|
  gS [r0] (by kernel_rfl) P0 <|
  eIf H (fun h1 H =>
    gS [rg [hF 4]] (by kernel_rfl) (P2 (((a0.Side : Int) != a1.Side) = false) (bneF h1) <| P0) <|
    eIf H (fun h2 H =>
      gS [rg [hF 4]] (by kernel_rfl) (P2 (((a0.Kind : Int) != a1.Kind) = false) (bneF h2) <| P0) <|
      eIf H (fun h3 H =>
        gS [rg [hF 4]] (by kernel_rfl) (P2 (((a0.At : Int) != a1.At) = false) (bneF h3) <| P0) <|
        eIf H (fun h4 H =>
          eW RB (fun _ => []) H <| gE func131 [rg [hF 4], r0] (by kernel_rfl) (P2 (((a0.Steps : Int) != a1.Steps) = false) (bneF h4) <| P0))
        (fun h4 H =>
          eW RB (fun _ => []) H <| gE func131 [rg [hT 4], r0] (by kernel_rfl) (P2 (((a0.Steps : Int) != a1.Steps) = true) (bneT h4) <| P0)))
      (fun h3 H =>
        eW RB (fun _ => []) H <| gE func131 [rg [hT 4], r0] (by kernel_rfl) (P2 (((a0.At : Int) != a1.At) = true) (bneT h3) <| P0)))
    (fun h2 H =>
      eW RB (fun _ => []) H <| gE func131 [rg [hT 4], r0] (by kernel_rfl) (P2 (((a0.Kind : Int) != a1.Kind) = true) (bneT h2) <| P0)))
  (fun h1 H =>
    eW RB (fun _ => []) H <| gE func131 [rg [hT 4], r0] (by kernel_rfl) (P2 (((a0.Side : Int) != a1.Side) = true) (bneT h1) <| P0))
/-! loop example/g00886/laws eqUnitS -/
noncomputable def Kw_eqUnitS : Sw_eqUnitS → List Item
  | .h1 .. => nav 300 3 [false] [.code (bdy f91)]
def Zw_eqUnitS : Sw_eqUnitS → St
  | .h1 va0 b1 i2 => ⟨sts 27 [(0, sl 4 gi_Unit va0), (1, sl 4 gi_Unit b1), (5, I i2)], []⟩
abbrev Qw_eqUnitS := Nx X 91 0 Kw_eqUnitS Zw_eqUnitS RB (fun _ => [])
theorem nw_eqUnitS : ∀ s o, Bw_eqUnitS s = some o → Qw_eqUnitS (Kw_eqUnitS s) (Zw_eqUnitS s) o
  | .h1 va0 b1 i2, o, H =>
    eIf H (fun h1 H =>
      eCk H fun h2 H =>
      eBind H fun x3 hx3 H =>
      eCk H fun h4 H =>
      eBind H fun x5 hx5 H =>
      eBind H fun r6 hr6 H =>
      gN [rg [hT 3]] (by kernel_rfl) (P2 ((decide (i2 < ((va0.length : Nat) : Int))) = true) (decide_eq_true h1) <| P0) <|
      eIf H (fun h7 H =>
        eN H fun r hn => gO [rg [hE 3 (gi_Unit x3), hE 7 (gi_Unit x5), { i := 8, call := some { cl := true, auto := true, ins := [], res := (RB r6), G' := [] }, dec := some true }], r0, .canon [] [0, 1, 5]] (by kernel_rfl) (P1 h2 <| P1 (int_lt_of_at h2 hx3) <| P1 (at_map gi_Unit hx3) <| P1 h4 <| P1 (int_lt_of_at h4 hx5) <| P1 (at_map gi_Unit hx5) <| P1 (cw_eqUnit hr6) <| P2 (r6 = true) (h7) <| P0) hn)
      (fun h7 H =>
        eN H <| gE func91 [rg [hE 3 (gi_Unit x3), hE 7 (gi_Unit x5), { i := 8, call := some { cl := true, auto := true, ins := [], res := (RB r6), G' := [] }, dec := some false }], r0] (by kernel_rfl) (P1 h2 <| P1 (int_lt_of_at h2 hx3) <| P1 (at_map gi_Unit hx3) <| P1 h4 <| P1 (int_lt_of_at h4 hx5) <| P1 (at_map gi_Unit hx5) <| P1 (cw_eqUnit hr6) <| P2 (r6 = false) (eqF h7) <| P0)))
    (fun h1 H =>
      eN H <| gE func91 [rg [hF 3], r0] (by kernel_rfl) (P2 ((decide (i2 < ((va0.length : Nat) : Int))) = false) (decide_eq_false h1) <| P0))
theorem ww_eqUnitS : ∀ s r, loop Bw_eqUnitS s = some r → Wc X 91 0 (Kw_eqUnitS s) (Zw_eqUnitS s) (RB r) ((fun _ => []) r) := Nx.all (nw_eqUnitS)
theorem cw_eqUnitS {a0 : (List Gi_Unit)} {a1 : (List Gi_Unit)} {r : Bool} (H : Dw_eqUnitS a0 a1 = some r) : Ct X.P X.gl 91 [sl 4 gi_Unit a0, sl 4 gi_Unit a1] [] (RB r) [] :=
  Ct.of func91 (c := bdy f91) (by kernel_rfl) (by kernel_rfl) <|
  gS [r0] (by kernel_rfl) P0 <|
  eIf H (fun h1 H =>
    gO [rg [hF 4], r0, .canon [] [0, 1, 5]] (by kernel_rfl) (P2 (((((a0.length : Nat) : Int) : Int) != ((a1.length : Nat) : Int)) = false) (bneF h1) <| P0) (ww_eqUnitS _ _ H))
  (fun h1 H =>
    eW RB (fun _ => []) H <| gE func91 [rg [hT 4], r0] (by kernel_rfl) (P2 (((((a0.length : Nat) : Int) : Int) != ((a1.length : Nat) : Int)) = true) (bneT h1) <| P0))
/-! loop example/g00886/laws eqState -/
theorem cw_eqState {a0 : Gi_State} {a1 : Gi_State} {r : Bool} (H : Dw_eqState a0 a1 = some r) : Ct X.P X.gl 45 [.agg [I a0.Turn, I a0.Weather, sl 4 gi_Unit a0.Units], .agg [I a1.Turn, I a1.Weather, sl 4 gi_Unit a1.Units]] [] (RB r) [] :=
  Ct.of func45 (c := bdy f45) (by kernel_rfl) (by kernel_rfl) <|
  gS [r0] (by kernel_rfl) P0 <|
  eIf H (fun h1 H =>
    gS [rg [hF 4]] (by kernel_rfl) (P2 (((a0.Turn : Int) != a1.Turn) = false) (bneF h1) <| P0) <|
    eIf H (fun h2 H =>
      eBind H fun r3 hr3 H =>
      gS [rg [hF 4]] (by kernel_rfl) (P2 (((a0.Weather : Int) != a1.Weather) = false) (bneF h2) <| P0) <|
      eIf H (fun h4 H =>
        eW RB (fun _ => []) H <| gE func45 [rg [{ i := 4, call := some { cl := true, auto := true, ins := [], res := (RB r3), G' := [] }, dec := some true }], r0] (by kernel_rfl) (P1 (cw_eqUnitS hr3) <| P2 (r3 = true) (h4) <| P0))
      (fun h4 H =>
        eW RB (fun _ => []) H <| gE func45 [rg [{ i := 4, call := some { cl := true, auto := true, ins := [], res := (RB r3), G' := [] }, dec := some false }], r0] (by kernel_rfl) (P1 (cw_eqUnitS hr3) <| P2 (r3 = false) (eqF h4) <| P0)))
    (fun h2 H =>
      eW RB (fun _ => []) H <| gE func45 [rg [hT 4], r0] (by kernel_rfl) (P2 (((a0.Weather : Int) != a1.Weather) = true) (bneT h2) <| P0)))
  (fun h1 H =>
    eW RB (fun _ => []) H <| gE func45 [rg [hT 4], r0] (by kernel_rfl) (P2 (((a0.Turn : Int) != a1.Turn) = true) (bneT h1) <| P0))
/-! loop example/g00886/laws eqGoal -/
theorem cw_eqGoal {a0 : Gi_Goal} {a1 : Gi_Goal} {r : Bool} (H : Dw_eqGoal a0 a1 = some r) : Ct X.P X.gl 132 [.agg [I a0.At, I a0.Points], .agg [I a1.At, I a1.Points]] [] (RB r) [] :=
  Ct.of func132 (c := bdy f132) (by kernel_rfl) (by kernel_rfl) <|
  gS [r0] (by kernel_rfl) P0 <|
  eIf H (fun h1 H =>
    gS [rg [hF 4]] (by kernel_rfl) (P2 (((a0.At : Int) != a1.At) = false) (bneF h1) <| P0) <|
    eIf H (fun h2 H =>
      eW RB (fun _ => []) H <| gE func132 [rg [hF 4], r0] (by kernel_rfl) (P2 (((a0.Points : Int) != a1.Points) = false) (bneF h2) <| P0))
    (fun h2 H =>
      eW RB (fun _ => []) H <| gE func132 [rg [hT 4], r0] (by kernel_rfl) (P2 (((a0.Points : Int) != a1.Points) = true) (bneT h2) <| P0)))
  (fun h1 H =>
    eW RB (fun _ => []) H <| gE func132 [rg [hT 4], r0] (by kernel_rfl) (P2 (((a0.At : Int) != a1.At) = true) (bneT h1) <| P0))
/-! loop example/g00886/laws eqGoalS -/
noncomputable def Kw_eqGoalS : Sw_eqGoalS → List Item
  | .h1 .. => nav 300 3 [false] [.code (bdy f92)]
def Zw_eqGoalS : Sw_eqGoalS → St
  | .h1 va0 b1 i2 => ⟨sts 27 [(0, sl 2 gi_Goal va0), (1, sl 2 gi_Goal b1), (5, I i2)], []⟩
abbrev Qw_eqGoalS := Nx X 92 0 Kw_eqGoalS Zw_eqGoalS RB (fun _ => [])
theorem nw_eqGoalS : ∀ s o, Bw_eqGoalS s = some o → Qw_eqGoalS (Kw_eqGoalS s) (Zw_eqGoalS s) o
  | .h1 va0 b1 i2, o, H =>
    eIf H (fun h1 H =>
      eCk H fun h2 H =>
      eBind H fun x3 hx3 H =>
      eCk H fun h4 H =>
      eBind H fun x5 hx5 H =>
      eBind H fun r6 hr6 H =>
      gN [rg [hT 3]] (by kernel_rfl) (P2 ((decide (i2 < ((va0.length : Nat) : Int))) = true) (decide_eq_true h1) <| P0) <|
      eIf H (fun h7 H =>
        eN H fun r hn => gO [rg [hE 3 (gi_Goal x3), hE 7 (gi_Goal x5), { i := 8, call := some { cl := true, auto := true, ins := [], res := (RB r6), G' := [] }, dec := some true }], r0, .canon [] [0, 1, 5]] (by kernel_rfl) (P1 h2 <| P1 (int_lt_of_at h2 hx3) <| P1 (at_map gi_Goal hx3) <| P1 h4 <| P1 (int_lt_of_at h4 hx5) <| P1 (at_map gi_Goal hx5) <| P1 (cw_eqGoal hr6) <| P2 (r6 = true) (h7) <| P0) hn)
      (fun h7 H =>
        eN H <| gE func92 [rg [hE 3 (gi_Goal x3), hE 7 (gi_Goal x5), { i := 8, call := some { cl := true, auto := true, ins := [], res := (RB r6), G' := [] }, dec := some false }], r0] (by kernel_rfl) (P1 h2 <| P1 (int_lt_of_at h2 hx3) <| P1 (at_map gi_Goal hx3) <| P1 h4 <| P1 (int_lt_of_at h4 hx5) <| P1 (at_map gi_Goal hx5) <| P1 (cw_eqGoal hr6) <| P2 (r6 = false) (eqF h7) <| P0)))
    (fun h1 H =>
      eN H <| gE func92 [rg [hF 3], r0] (by kernel_rfl) (P2 ((decide (i2 < ((va0.length : Nat) : Int))) = false) (decide_eq_false h1) <| P0))
theorem ww_eqGoalS : ∀ s r, loop Bw_eqGoalS s = some r → Wc X 92 0 (Kw_eqGoalS s) (Zw_eqGoalS s) (RB r) ((fun _ => []) r) := Nx.all (nw_eqGoalS)
theorem cw_eqGoalS {a0 : (List Gi_Goal)} {a1 : (List Gi_Goal)} {r : Bool} (H : Dw_eqGoalS a0 a1 = some r) : Ct X.P X.gl 92 [sl 2 gi_Goal a0, sl 2 gi_Goal a1] [] (RB r) [] :=
  Ct.of func92 (c := bdy f92) (by kernel_rfl) (by kernel_rfl) <|
  gS [r0] (by kernel_rfl) P0 <|
  eIf H (fun h1 H =>
    gO [rg [hF 4], r0, .canon [] [0, 1, 5]] (by kernel_rfl) (P2 (((((a0.length : Nat) : Int) : Int) != ((a1.length : Nat) : Int)) = false) (bneF h1) <| P0) (ww_eqGoalS _ _ H))
  (fun h1 H =>
    eW RB (fun _ => []) H <| gE func92 [rg [hT 4], r0] (by kernel_rfl) (P2 (((((a0.length : Nat) : Int) : Int) != ((a1.length : Nat) : Int)) = true) (bneT h1) <| P0))
/-! loop example/g00886/laws eqConditions -/
theorem cw_eqConditions {a0 : Gi_Conditions} {a1 : Gi_Conditions} {r : Bool} (H : Dw_eqConditions a0 a1 = some r) : Ct X.P X.gl 46 [.agg [sl 2 gi_Goal a0.Goals, I a0.Step, I a0.Margin], .agg [sl 2 gi_Goal a1.Goals, I a1.Step, I a1.Margin]] [] (RB r) [] :=
  Ct.of func46 (c := bdy f46) (by kernel_rfl) (by kernel_rfl) <|
  eBind H fun r1 hr1 H =>
  gS [r0] (by kernel_rfl) P0 <|
  eIf H (fun h2 H =>
    gS [rg [{ i := 4, call := some { cl := true, auto := true, ins := [], res := (RB r1), G' := [] }, dec := some true }]] (by kernel_rfl) (P1 (cw_eqGoalS hr1) <| P2 (r1 = true) (h2) <| P0) <|
    eIf H (fun h3 H =>
      gS [rg [hF 4]] (by kernel_rfl) (P2 (((a0.Step : Int) != a1.Step) = false) (bneF h3) <| P0) <|
      eIf H (fun h4 H =>
        eW RB (fun _ => []) H <| gE func46 [rg [hF 4], r0] (by kernel_rfl) (P2 (((a0.Margin : Int) != a1.Margin) = false) (bneF h4) <| P0))
      (fun h4 H =>
        eW RB (fun _ => []) H <| gE func46 [rg [hT 4], r0] (by kernel_rfl) (P2 (((a0.Margin : Int) != a1.Margin) = true) (bneT h4) <| P0)))
    (fun h3 H =>
      eW RB (fun _ => []) H <| gE func46 [rg [hT 4], r0] (by kernel_rfl) (P2 (((a0.Step : Int) != a1.Step) = true) (bneT h3) <| P0)))
  (fun h2 H =>
    eW RB (fun _ => []) H <| gE func46 [rg [{ i := 4, call := some { cl := true, auto := true, ins := [], res := (RB r1), G' := [] }, dec := some false }], r0] (by kernel_rfl) (P1 (cw_eqGoalS hr1) <| P2 (r1 = false) (eqF h2) <| P0))
/-! loop example/g00886/laws eqScenario -/
theorem cw_eqScenario {a0 : Gi_Scenario} {a1 : Gi_Scenario} {r : Bool} (H : Dw_eqScenario a0 a1 = some r) : Ct X.P X.gl 12 [.agg [.str a0.Name, sl 5 gi_Terrain a0.Board.Rules.Terrains, sl 6 gi_Kind a0.Board.Rules.Kinds, I a0.Board.Rules.Stack, I a0.Board.Rules.River, I a0.Board.Rules.Road, I a0.Board.Rules.Supply, I a0.Board.Rules.Turns, I a0.Board.Map.Width, I a0.Board.Map.Height, sl 1 I a0.Board.Map.Terrain, sl 1 I a0.Board.Map.Rivers, sl 1 I a0.Board.Map.Roads, sl 2 gi_Odds a0.Table.Columns, I a0.Table.Dice, sl 1 (sl 1 I) a0.Table.Results, I a0.Start.Turn, I a0.Start.Weather, sl 4 gi_Unit a0.Start.Units, sl 2 gi_Goal a0.Conditions.Goals, I a0.Conditions.Step, I a0.Conditions.Margin, sl 1 I a0.First, sl 1 I a0.Other], .agg [.str a1.Name, sl 5 gi_Terrain a1.Board.Rules.Terrains, sl 6 gi_Kind a1.Board.Rules.Kinds, I a1.Board.Rules.Stack, I a1.Board.Rules.River, I a1.Board.Rules.Road, I a1.Board.Rules.Supply, I a1.Board.Rules.Turns, I a1.Board.Map.Width, I a1.Board.Map.Height, sl 1 I a1.Board.Map.Terrain, sl 1 I a1.Board.Map.Rivers, sl 1 I a1.Board.Map.Roads, sl 2 gi_Odds a1.Table.Columns, I a1.Table.Dice, sl 1 (sl 1 I) a1.Table.Results, I a1.Start.Turn, I a1.Start.Weather, sl 4 gi_Unit a1.Start.Units, sl 2 gi_Goal a1.Conditions.Goals, I a1.Conditions.Step, I a1.Conditions.Margin, sl 1 I a1.First, sl 1 I a1.Other]] [] (RB r) [] :=
  Ct.of func12 (c := bdy f12) (by kernel_rfl) (by kernel_rfl) <|
  gS [r0] (by kernel_rfl) P0 <|
  eIf H (fun h1 H =>
    eBind H fun r2 hr2 H =>
    gS [rg [hF 4]] (by kernel_rfl) (P2 ((!(a0.Name == a1.Name)) = false) (nbeqF h1) <| P0) <|
    eIf H (fun h3 H =>
      eBind H fun r4 hr4 H =>
      gS [rg [{ i := 4, call := some { cl := true, auto := true, ins := [], res := (RB r2), G' := [] }, dec := some true }]] (by kernel_rfl) (P1 (cw_eqBoard hr2) <| P2 (r2 = true) (h3) <| P0) <|
      eIf H (fun h5 H =>
        eBind H fun r6 hr6 H =>
        gS [rg [{ i := 4, call := some { cl := true, auto := true, ins := [], res := (RB r4), G' := [] }, dec := some true }]] (by kernel_rfl) (P1 (cw_eqCombatTable hr4) <| P2 (r4 = true) (h5) <| P0) <|
        eIf H (fun h7 H =>
          eBind H fun r8 hr8 H =>
          gS [rg [{ i := 4, call := some { cl := true, auto := true, ins := [], res := (RB r6), G' := [] }, dec := some true }]] (by kernel_rfl) (P1 (cw_eqState hr6) <| P2 (r6 = true) (h7) <| P0) <|
          eIf H (fun h9 H =>
            eBind H fun r10 hr10 H =>
            gS [rg [{ i := 4, call := some { cl := true, auto := true, ins := [], res := (RB r8), G' := [] }, dec := some true }]] (by kernel_rfl) (P1 (cw_eqConditions hr8) <| P2 (r8 = true) (h9) <| P0) <|
            eIf H (fun h11 H =>
              eBind H fun r12 hr12 H =>
              gS [rg [{ i := 4, call := some { cl := true, auto := true, ins := [], res := (RB r10), G' := [] }, dec := some true }]] (by kernel_rfl) (P1 (cw_eqIntS hr10) <| P2 (r10 = true) (h11) <| P0) <|
              eIf H (fun h13 H =>
                eW RB (fun _ => []) H <| gE func12 [rg [{ i := 4, call := some { cl := true, auto := true, ins := [], res := (RB r12), G' := [] }, dec := some true }], r0] (by kernel_rfl) (P1 (cw_eqIntS hr12) <| P2 (r12 = true) (h13) <| P0))
              (fun h13 H =>
                eW RB (fun _ => []) H <| gE func12 [rg [{ i := 4, call := some { cl := true, auto := true, ins := [], res := (RB r12), G' := [] }, dec := some false }], r0] (by kernel_rfl) (P1 (cw_eqIntS hr12) <| P2 (r12 = false) (eqF h13) <| P0)))
            (fun h11 H =>
              eW RB (fun _ => []) H <| gE func12 [rg [{ i := 4, call := some { cl := true, auto := true, ins := [], res := (RB r10), G' := [] }, dec := some false }], r0] (by kernel_rfl) (P1 (cw_eqIntS hr10) <| P2 (r10 = false) (eqF h11) <| P0)))
          (fun h9 H =>
            eW RB (fun _ => []) H <| gE func12 [rg [{ i := 4, call := some { cl := true, auto := true, ins := [], res := (RB r8), G' := [] }, dec := some false }], r0] (by kernel_rfl) (P1 (cw_eqConditions hr8) <| P2 (r8 = false) (eqF h9) <| P0)))
        (fun h7 H =>
          eW RB (fun _ => []) H <| gE func12 [rg [{ i := 4, call := some { cl := true, auto := true, ins := [], res := (RB r6), G' := [] }, dec := some false }], r0] (by kernel_rfl) (P1 (cw_eqState hr6) <| P2 (r6 = false) (eqF h7) <| P0)))
      (fun h5 H =>
        eW RB (fun _ => []) H <| gE func12 [rg [{ i := 4, call := some { cl := true, auto := true, ins := [], res := (RB r4), G' := [] }, dec := some false }], r0] (by kernel_rfl) (P1 (cw_eqCombatTable hr4) <| P2 (r4 = false) (eqF h5) <| P0)))
    (fun h3 H =>
      eW RB (fun _ => []) H <| gE func12 [rg [{ i := 4, call := some { cl := true, auto := true, ins := [], res := (RB r2), G' := [] }, dec := some false }], r0] (by kernel_rfl) (P1 (cw_eqBoard hr2) <| P2 (r2 = false) (eqF h3) <| P0)))
  (fun h1 H =>
    eW RB (fun _ => []) H <| gE func12 [rg [hT 4], r0] (by kernel_rfl) (P2 ((!(a0.Name == a1.Name)) = true) (nbeqT h1) <| P0))
/-! loop example/g00886/laws markText -/
def Rw_markText (r : ByteArray) : List D := [.str r]
noncomputable def Kw_markText : Sw_markText → List Item
  | .h1 .. => nav 300 3 [false] [.code (bdy f169)]
def Zw_markText : Sw_markText → St
  | .h1 k0 out1 => ⟨sts 20 [(0, I k0), (3, .str out1)], []⟩
abbrev Qw_markText := Nx X 169 0 Kw_markText Zw_markText Rw_markText (fun _ => [])
theorem nw_markText : ∀ s o, Bw_markText s = some o → Qw_markText (Kw_markText s) (Zw_markText s) o
  | .h1 k0 out1, o, H =>
    eIf H (fun h1 H =>
      eCk H fun h2 H =>
      eCk H fun h3 H =>
      eN H fun r hn => gO [rg [hT 1], rg [{ i := 5, s := (bytesOf [(IntKind.wrap .u8 (IntKind.wrap .i64 (48 + (Int.tmod k0 10))))]) }], r0, .canon [] [0, 3]] (by kernel_rfl) (P2 ((decide (k0 > 0)) = true) (decide_eq_true h1) <| P2 (¬ (10 : Int) = 0) (by decide) <| P1 (bytesD_of h2) <| P1 h3 <| P2 (¬ (10 : Int) = 0) (by decide) <| P0) hn)
    (fun h1 H =>
      eCk H fun h2 H =>
      eN H <| gE func169 [rg [hF 1], r0] (by kernel_rfl) (P2 ((decide (k0 > 0)) = false) (decide_eq_false h1) <| P1 h2 <| P0))
theorem ww_markText : ∀ s r, loop Bw_markText s = some r → Wc X 169 0 (Kw_markText s) (Zw_markText s) (Rw_markText r) ((fun _ => []) r) := Nx.all (nw_markText)
theorem cw_markText {a0 : Int} {r : ByteArray} (H : Dw_markText a0 = some r) : Ct X.P X.gl 169 [I a0] [] (Rw_markText r) [] :=
  Ct.of func169 (c := bdy f169) (by kernel_rfl) (by kernel_rfl) <|
  gS [r0] (by kernel_rfl) P0 <|
  eIf H (fun h1 H =>
    eW Rw_markText (fun _ => []) H <| gE func169 [rg [hT 1], r0] (by kernel_rfl) (P2 ((decide (a0 ≤ 0)) = true) (decide_eq_true h1) <| P0))
  (fun h1 H =>
    gO [rg [hF 1], r0, .canon [] [0, 3]] (by kernel_rfl) (P2 ((decide (a0 ≤ 0)) = false) (decide_eq_false h1) <| P0) (ww_markText _ _ H))
/-! loop example/g00886/laws markIntS -/
def Rw_markIntS (r : Int × (List Int)) : List D := [I r.1]
def Nw_markIntS (r : Int × (List Int)) : List Root := [⟨false, false, 1, r.2.length, List.map I r.2⟩]
noncomputable def Kw_markIntS : Sw_markIntS → List Item
  | .h1 .. => nav 300 2 [] [.code (bdy f52)]
def Zw_markIntS : Sw_markIntS → St
  | .h1 k0 i1 l2 => ⟨sts 19 [(0, .ref 0 1 none), (1, I k0), (5, I i1)], [some ⟨false, false, 1, l2.length, List.map I l2⟩]⟩
abbrev Qw_markIntS := Nx X 52 1 Kw_markIntS Zw_markIntS Rw_markIntS Nw_markIntS
theorem nw_markIntS : ∀ s o, Bw_markIntS s = some o → Qw_markIntS (Kw_markIntS s) (Zw_markIntS s) o
  | .h1 k0 i1 l2, o, H =>
    eIf H (fun h1 H =>
      eCk H fun h2 H =>
      eBind H fun x3 hx3 H =>
      eN H fun r hn => gO [rg [hT 3], rg [hA 4 ((List.set l2 (Int.toNat i1) k0).length) (List.map I (List.set l2 (Int.toNat i1) k0))], r0, r0, .canon [0] [0, 1, 5]] (by kernel_rfl) (P2 ((decide (i1 < ((l2.length : Nat) : Int))) = true) (decide_eq_true h1) <| P1 h2 <| P1 (int_lt_of_at h2 hx3) <| P1 (lt_of_at hx3) <| P2 (setCells (List.map I l2) (Int.toNat i1) 0 [I k0] = List.map I (List.set l2 (Int.toNat i1) k0)) (setCells_map hx3 rfl) <| P1 (setLen l2 (Int.toNat i1) k0) <| P0) hn)
    (fun h1 H =>
      eN H <| gE func52 [rg [hF 3], r0] (by kernel_rfl) (P2 ((decide (i1 < ((l2.length : Nat) : Int))) = false) (decide_eq_false h1) <| P0))
theorem ww_markIntS : ∀ s r, loop Bw_markIntS s = some r → Wc X 52 1 (Kw_markIntS s) (Zw_markIntS s) (Rw_markIntS r) (Nw_markIntS r) := Nx.all (nw_markIntS)
theorem cw_markIntS {a0 : (List Int)} {a1 : Int} {r : Int × (List Int)} (H : Dw_markIntS a0 a1 = some r) : Ct X.P X.gl 52 [.ref 0 1 none, I a1] [⟨false, false, 1, a0.length, List.map I a0⟩] (Rw_markIntS r) (Nw_markIntS r) :=
  Ct.of func52 (c := bdy f52) (by kernel_rfl) (by kernel_rfl) <|
  gO [r0, r0, .canon [0] [0, 1, 5]] (by kernel_rfl) P0 (ww_markIntS _ _ H)
/-! loop example/g00886/laws markTerrainS -/
def Rw_markTerrainS (r : Int × (List Gi_Terrain)) : List D := [I r.1]
def Nw_markTerrainS (r : Int × (List Gi_Terrain)) : List Root := [⟨false, false, 5, r.2.length, List.map goi_Terrain r.2⟩]
noncomputable def Kw_markTerrainS : Sw_markTerrainS → List Item
  | .h1 .. => nav 300 2 [] [.code (bdy f133)]
def Zw_markTerrainS : Sw_markTerrainS → St
  | .h1 k0 i1 l2 => ⟨sts 51 [(0, .ref 0 5 none), (1, I k0), (5, I i1)], [some ⟨false, false, 5, l2.length, List.map goi_Terrain l2⟩]⟩
abbrev Qw_markTerrainS := Nx X 133 1 Kw_markTerrainS Zw_markTerrainS Rw_markTerrainS Nw_markTerrainS
theorem nw_markTerrainS : ∀ s o, Bw_markTerrainS s = some o → Qw_markTerrainS (Kw_markTerrainS s) (Zw_markTerrainS s) o
  | .h1 k0 i1 l2, o, H =>
    eIf H (fun h1 H =>
      eBind H fun r2 hr2 H =>
      eCk H fun h3 H =>
      eBind H fun x4 hx4 H =>
      eCk H fun h5 H =>
      eBind H fun x6 hx6 H =>
      eBind H fun r7 hr7 H =>
      eCk H fun h8 H =>
      eCk H fun h9 H =>
      eBind H fun x10 hx10 H =>
      eCk H fun h11 H =>
      eBind H fun x12 hx12 H =>
      eCk H fun h13 H =>
      eBind H fun x14 hx14 H =>
      eN H fun r hn => gO [rg [hT 3], rg [hC 3 true [] (Rw_markText r2) [], hA 6 ((List.set l2 (Int.toNat i1) (Gi_Terrain.mk r2 x4.Cost x4.Shift x4.Height x4.Blocks)).length) (List.map goi_Terrain (List.set l2 (Int.toNat i1) (Gi_Terrain.mk r2 x4.Cost x4.Shift x4.Height x4.Blocks)))], r0, rg [{ i := 4, pre := [.take 0 (Int.toNat i1) 1 1 x6.Cost.length (List.map I x6.Cost) (List.set (List.map goi_Terrain (List.set l2 (Int.toNat i1) (Gi_Terrain.mk r2 x4.Cost x4.Shift x4.Height x4.Blocks))) (Int.toNat i1) (.agg [.str x6.Name, .ref 1 1 none, I x6.Shift, I x6.Height, .bool x6.Blocks]))], el := some (.agg [.str x6.Name, .ref 1 1 none, I x6.Shift, I x6.Height, .bool x6.Blocks]) }, { i := 6, call := some { cl := true, auto := true, ins := [1], res := (Rw_markIntS r7), G' := (Nw_markIntS r7) }, post := [.put 0 (Int.toNat i1) 1 1 (List.map goi_Terrain (List.set (List.set l2 (Int.toNat i1) (Gi_Terrain.mk r2 x4.Cost x4.Shift x4.Height x4.Blocks)) (Int.toNat i1) (Gi_Terrain.mk x6.Name r7.2 x6.Shift x6.Height x6.Blocks))), .own 0 (List.set (List.set l2 (Int.toNat i1) (Gi_Terrain.mk r2 x4.Cost x4.Shift x4.Height x4.Blocks)) (Int.toNat i1) (Gi_Terrain.mk x6.Name r7.2 x6.Shift x6.Height x6.Blocks)).length], xtra := [0] }], rg [hA 5 ((List.set (List.set (List.set l2 (Int.toNat i1) (Gi_Terrain.mk r2 x4.Cost x4.Shift x4.Height x4.Blocks)) (Int.toNat i1) (Gi_Terrain.mk x6.Name r7.2 x6.Shift x6.Height x6.Blocks)) (Int.toNat i1) (Gi_Terrain.mk x10.Name x10.Cost r7.1 x10.Height x10.Blocks)).length) (List.map goi_Terrain (List.set (List.set (List.set l2 (Int.toNat i1) (Gi_Terrain.mk r2 x4.Cost x4.Shift x4.Height x4.Blocks)) (Int.toNat i1) (Gi_Terrain.mk x6.Name r7.2 x6.Shift x6.Height x6.Blocks)) (Int.toNat i1) (Gi_Terrain.mk x10.Name x10.Cost r7.1 x10.Height x10.Blocks)))], r0, rg [hA 5 ((List.set (List.set (List.set (List.set l2 (Int.toNat i1) (Gi_Terrain.mk r2 x4.Cost x4.Shift x4.Height x4.Blocks)) (Int.toNat i1) (Gi_Terrain.mk x6.Name r7.2 x6.Shift x6.Height x6.Blocks)) (Int.toNat i1) (Gi_Terrain.mk x10.Name x10.Cost r7.1 x10.Height x10.Blocks)) (Int.toNat i1) (Gi_Terrain.mk x12.Name x12.Cost x12.Shift (IntKind.wrap .i64 (r7.1 + 1)) x12.Blocks)).length) (List.map goi_Terrain (List.set (List.set (List.set (List.set l2 (Int.toNat i1) (Gi_Terrain.mk r2 x4.Cost x4.Shift x4.Height x4.Blocks)) (Int.toNat i1) (Gi_Terrain.mk x6.Name r7.2 x6.Shift x6.Height x6.Blocks)) (Int.toNat i1) (Gi_Terrain.mk x10.Name x10.Cost r7.1 x10.Height x10.Blocks)) (Int.toNat i1) (Gi_Terrain.mk x12.Name x12.Cost x12.Shift (IntKind.wrap .i64 (r7.1 + 1)) x12.Blocks)))], r0, rg [hA 7 ((List.set (List.set (List.set (List.set (List.set l2 (Int.toNat i1) (Gi_Terrain.mk r2 x4.Cost x4.Shift x4.Height x4.Blocks)) (Int.toNat i1) (Gi_Terrain.mk x6.Name r7.2 x6.Shift x6.Height x6.Blocks)) (Int.toNat i1) (Gi_Terrain.mk x10.Name x10.Cost r7.1 x10.Height x10.Blocks)) (Int.toNat i1) (Gi_Terrain.mk x12.Name x12.Cost x12.Shift (IntKind.wrap .i64 (r7.1 + 1)) x12.Blocks)) (Int.toNat i1) (Gi_Terrain.mk x14.Name x14.Cost x14.Shift x14.Height (((Int.tmod (IntKind.wrap .i64 ((IntKind.wrap .i64 (r7.1 + 1)) + 1)) 3) : Int) == 0))).length) (List.map goi_Terrain (List.set (List.set (List.set (List.set (List.set l2 (Int.toNat i1) (Gi_Terrain.mk r2 x4.Cost x4.Shift x4.Height x4.Blocks)) (Int.toNat i1) (Gi_Terrain.mk x6.Name r7.2 x6.Shift x6.Height x6.Blocks)) (Int.toNat i1) (Gi_Terrain.mk x10.Name x10.Cost r7.1 x10.Height x10.Blocks)) (Int.toNat i1) (Gi_Terrain.mk x12.Name x12.Cost x12.Shift (IntKind.wrap .i64 (r7.1 + 1)) x12.Blocks)) (Int.toNat i1) (Gi_Terrain.mk x14.Name x14.Cost x14.Shift x14.Height (((Int.tmod (IntKind.wrap .i64 ((IntKind.wrap .i64 (r7.1 + 1)) + 1)) 3) : Int) == 0))))], r0, r0, .canon [0] [0, 1, 5]] (by kernel_rfl) (P2 ((decide (i1 < ((l2.length : Nat) : Int))) = true) (decide_eq_true h1) <| P1 (cw_markText hr2) <| P1 h3 <| P1 (int_lt_of_at h3 hx4) <| P1 (lt_of_at hx4) <| P2 (setCells (List.map goi_Terrain l2) (Int.toNat i1) 0 [.str r2] = List.map goi_Terrain (List.set l2 (Int.toNat i1) (Gi_Terrain.mk r2 x4.Cost x4.Shift x4.Height x4.Blocks))) (setCells_map hx4 rfl) <| P1 (setLen l2 (Int.toNat i1) (Gi_Terrain.mk r2 x4.Cost x4.Shift x4.Height x4.Blocks)) <| P1 h5 <| P1 (int_lt_of_at h5 hx6) <| P2 (getCells (List.map goi_Terrain (List.set l2 (Int.toNat i1) (Gi_Terrain.mk r2 x4.Cost x4.Shift x4.Height x4.Blocks))) (Int.toNat i1) 1 1 = some [ow 1 I x6.Cost]) (getCells_at hx6 rfl) <| P2 (setCells (List.map goi_Terrain (List.set l2 (Int.toNat i1) (Gi_Terrain.mk r2 x4.Cost x4.Shift x4.Height x4.Blocks))) (Int.toNat i1) 1 [.ref 1 1 none] = List.set (List.map goi_Terrain (List.set l2 (Int.toNat i1) (Gi_Terrain.mk r2 x4.Cost x4.Shift x4.Height x4.Blocks))) (Int.toNat i1) (.agg [.str x6.Name, .ref 1 1 none, I x6.Shift, I x6.Height, .bool x6.Blocks])) (setCells_mapD hx6 rfl) <| P1 (at_set (f := goi_Terrain) (.agg [.str x6.Name, .ref 1 1 none, I x6.Shift, I x6.Height, .bool x6.Blocks]) hx6) <| P1 h8 <| P1 (cw_markIntS hr7) <| P2 (getCells (List.set (List.map goi_Terrain (List.set l2 (Int.toNat i1) (Gi_Terrain.mk r2 x4.Cost x4.Shift x4.Height x4.Blocks))) (Int.toNat i1) (.agg [.str x6.Name, .ref 1 1 none, I x6.Shift, I x6.Height, .bool x6.Blocks])) (Int.toNat i1) 1 1 = some [.ref 1 1 none]) (getCells_set hx6 rfl) <| P2 (setCells (List.set (List.map goi_Terrain (List.set l2 (Int.toNat i1) (Gi_Terrain.mk r2 x4.Cost x4.Shift x4.Height x4.Blocks))) (Int.toNat i1) (.agg [.str x6.Name, .ref 1 1 none, I x6.Shift, I x6.Height, .bool x6.Blocks])) (Int.toNat i1) 1 [ow 1 I r7.2] = List.map goi_Terrain (List.set (List.set l2 (Int.toNat i1) (Gi_Terrain.mk r2 x4.Cost x4.Shift x4.Height x4.Blocks)) (Int.toNat i1) (Gi_Terrain.mk x6.Name r7.2 x6.Shift x6.Height x6.Blocks))) (setCells_set hx6 rfl) <| P1 (allOw_159 (List.set (List.set l2 (Int.toNat i1) (Gi_Terrain.mk r2 x4.Cost x4.Shift x4.Height x4.Blocks)) (Int.toNat i1) (Gi_Terrain.mk x6.Name r7.2 x6.Shift x6.Height x6.Blocks))) <| P1 (setLen (List.set l2 (Int.toNat i1) (Gi_Terrain.mk r2 x4.Cost x4.Shift x4.Height x4.Blocks)) (Int.toNat i1) (Gi_Terrain.mk x6.Name r7.2 x6.Shift x6.Height x6.Blocks)) <| P1 h9 <| P1 (int_lt_of_at h9 hx10) <| P1 (lt_of_at hx10) <| P2 (setCells (List.map goi_Terrain (List.set (List.set l2 (Int.toNat i1) (Gi_Terrain.mk r2 x4.Cost x4.Shift x4.Height x4.Blocks)) (Int.toNat i1) (Gi_Terrain.mk x6.Name r7.2 x6.Shift x6.Height x6.Blocks))) (Int.toNat i1) 2 [I r7.1] = List.map goi_Terrain (List.set (List.set (List.set l2 (Int.toNat i1) (Gi_Terrain.mk r2 x4.Cost x4.Shift x4.Height x4.Blocks)) (Int.toNat i1) (Gi_Terrain.mk x6.Name r7.2 x6.Shift x6.Height x6.Blocks)) (Int.toNat i1) (Gi_Terrain.mk x10.Name x10.Cost r7.1 x10.Height x10.Blocks))) (setCells_map hx10 rfl) <| P1 (setLen (List.set (List.set l2 (Int.toNat i1) (Gi_Terrain.mk r2 x4.Cost x4.Shift x4.Height x4.Blocks)) (Int.toNat i1) (Gi_Terrain.mk x6.Name r7.2 x6.Shift x6.Height x6.Blocks)) (Int.toNat i1) (Gi_Terrain.mk x10.Name x10.Cost r7.1 x10.Height x10.Blocks)) <| P1 h11 <| P1 (int_lt_of_at h11 hx12) <| P1 (lt_of_at hx12) <| P2 (setCells (List.map goi_Terrain (List.set (List.set (List.set l2 (Int.toNat i1) (Gi_Terrain.mk r2 x4.Cost x4.Shift x4.Height x4.Blocks)) (Int.toNat i1) (Gi_Terrain.mk x6.Name r7.2 x6.Shift x6.Height x6.Blocks)) (Int.toNat i1) (Gi_Terrain.mk x10.Name x10.Cost r7.1 x10.Height x10.Blocks))) (Int.toNat i1) 3 [I (IntKind.wrap .i64 (r7.1 + 1))] = List.map goi_Terrain (List.set (List.set (List.set (List.set l2 (Int.toNat i1) (Gi_Terrain.mk r2 x4.Cost x4.Shift x4.Height x4.Blocks)) (Int.toNat i1) (Gi_Terrain.mk x6.Name r7.2 x6.Shift x6.Height x6.Blocks)) (Int.toNat i1) (Gi_Terrain.mk x10.Name x10.Cost r7.1 x10.Height x10.Blocks)) (Int.toNat i1) (Gi_Terrain.mk x12.Name x12.Cost x12.Shift (IntKind.wrap .i64 (r7.1 + 1)) x12.Blocks))) (setCells_map hx12 rfl) <| P1 (setLen (List.set (List.set (List.set l2 (Int.toNat i1) (Gi_Terrain.mk r2 x4.Cost x4.Shift x4.Height x4.Blocks)) (Int.toNat i1) (Gi_Terrain.mk x6.Name r7.2 x6.Shift x6.Height x6.Blocks)) (Int.toNat i1) (Gi_Terrain.mk x10.Name x10.Cost r7.1 x10.Height x10.Blocks)) (Int.toNat i1) (Gi_Terrain.mk x12.Name x12.Cost x12.Shift (IntKind.wrap .i64 (r7.1 + 1)) x12.Blocks)) <| P2 (¬ (3 : Int) = 0) (by decide) <| P1 h13 <| P1 (int_lt_of_at h13 hx14) <| P1 (lt_of_at hx14) <| P2 (setCells (List.map goi_Terrain (List.set (List.set (List.set (List.set l2 (Int.toNat i1) (Gi_Terrain.mk r2 x4.Cost x4.Shift x4.Height x4.Blocks)) (Int.toNat i1) (Gi_Terrain.mk x6.Name r7.2 x6.Shift x6.Height x6.Blocks)) (Int.toNat i1) (Gi_Terrain.mk x10.Name x10.Cost r7.1 x10.Height x10.Blocks)) (Int.toNat i1) (Gi_Terrain.mk x12.Name x12.Cost x12.Shift (IntKind.wrap .i64 (r7.1 + 1)) x12.Blocks))) (Int.toNat i1) 4 [.bool (((Int.tmod (IntKind.wrap .i64 ((IntKind.wrap .i64 (r7.1 + 1)) + 1)) 3) : Int) == 0)] = List.map goi_Terrain (List.set (List.set (List.set (List.set (List.set l2 (Int.toNat i1) (Gi_Terrain.mk r2 x4.Cost x4.Shift x4.Height x4.Blocks)) (Int.toNat i1) (Gi_Terrain.mk x6.Name r7.2 x6.Shift x6.Height x6.Blocks)) (Int.toNat i1) (Gi_Terrain.mk x10.Name x10.Cost r7.1 x10.Height x10.Blocks)) (Int.toNat i1) (Gi_Terrain.mk x12.Name x12.Cost x12.Shift (IntKind.wrap .i64 (r7.1 + 1)) x12.Blocks)) (Int.toNat i1) (Gi_Terrain.mk x14.Name x14.Cost x14.Shift x14.Height (((Int.tmod (IntKind.wrap .i64 ((IntKind.wrap .i64 (r7.1 + 1)) + 1)) 3) : Int) == 0)))) (setCells_map hx14 rfl) <| P1 (setLen (List.set (List.set (List.set (List.set l2 (Int.toNat i1) (Gi_Terrain.mk r2 x4.Cost x4.Shift x4.Height x4.Blocks)) (Int.toNat i1) (Gi_Terrain.mk x6.Name r7.2 x6.Shift x6.Height x6.Blocks)) (Int.toNat i1) (Gi_Terrain.mk x10.Name x10.Cost r7.1 x10.Height x10.Blocks)) (Int.toNat i1) (Gi_Terrain.mk x12.Name x12.Cost x12.Shift (IntKind.wrap .i64 (r7.1 + 1)) x12.Blocks)) (Int.toNat i1) (Gi_Terrain.mk x14.Name x14.Cost x14.Shift x14.Height (((Int.tmod (IntKind.wrap .i64 ((IntKind.wrap .i64 (r7.1 + 1)) + 1)) 3) : Int) == 0))) <| P0) hn)
    (fun h1 H =>
      eN H <| gE func133 [rg [hF 3], r0] (by kernel_rfl) (P2 ((decide (i1 < ((l2.length : Nat) : Int))) = false) (decide_eq_false h1) <| P0))
theorem ww_markTerrainS : ∀ s r, loop Bw_markTerrainS s = some r → Wc X 133 1 (Kw_markTerrainS s) (Zw_markTerrainS s) (Rw_markTerrainS r) (Nw_markTerrainS r) := Nx.all (nw_markTerrainS)
theorem cw_markTerrainS {a0 : (List Gi_Terrain)} {a1 : Int} {r : Int × (List Gi_Terrain)} (H : Dw_markTerrainS a0 a1 = some r) : Ct X.P X.gl 133 [.ref 0 5 none, I a1] [⟨false, false, 5, a0.length, List.map goi_Terrain a0⟩] (Rw_markTerrainS r) (Nw_markTerrainS r) :=
  Ct.of func133 (c := bdy f133) (by kernel_rfl) (by kernel_rfl) <|
  gO [r0, r0, .canon [0] [0, 1, 5]] (by kernel_rfl) P0 (ww_markTerrainS _ _ H)
/-! loop example/g00886/laws markKindS -/
def Rw_markKindS (r : Int × (List Gi_Kind)) : List D := [I r.1]
def Nw_markKindS (r : Int × (List Gi_Kind)) : List Root := [⟨false, false, 6, r.2.length, List.map gi_Kind r.2⟩]
noncomputable def Kw_markKindS : Sw_markKindS → List Item
  | .h1 .. => nav 300 2 [] [.code (bdy f134)]
def Zw_markKindS : Sw_markKindS → St
  | .h1 k0 i1 l2 => ⟨sts 58 [(0, .ref 0 6 none), (1, I k0), (5, I i1)], [some ⟨false, false, 6, l2.length, List.map gi_Kind l2⟩]⟩
abbrev Qw_markKindS := Nx X 134 1 Kw_markKindS Zw_markKindS Rw_markKindS Nw_markKindS
theorem nw_markKindS : ∀ s o, Bw_markKindS s = some o → Qw_markKindS (Kw_markKindS s) (Zw_markKindS s) o
  | .h1 k0 i1 l2, o, H =>
    eIf H (fun h1 H =>
      eBind H fun r2 hr2 H =>
      eCk H fun h3 H =>
      eBind H fun x4 hx4 H =>
      eCk H fun h5 H =>
      eBind H fun x6 hx6 H =>
      eCk H fun h7 H =>
      eBind H fun x8 hx8 H =>
      eCk H fun h9 H =>
      eBind H fun x10 hx10 H =>
      eCk H fun h11 H =>
      eBind H fun x12 hx12 H =>
      eCk H fun h13 H =>
      eBind H fun x14 hx14 H =>
      eN H fun r hn => gO [rg [hT 3], rg [hC 3 true [] (Rw_markText r2) [], hA 6 ((List.set l2 (Int.toNat i1) (Gi_Kind.mk r2 x4.Strength x4.Moves x4.Steps x4.Zone x4.View)).length) (List.map gi_Kind (List.set l2 (Int.toNat i1) (Gi_Kind.mk r2 x4.Strength x4.Moves x4.Steps x4.Zone x4.View)))], r0, rg [hA 5 ((List.set (List.set l2 (Int.toNat i1) (Gi_Kind.mk r2 x4.Strength x4.Moves x4.Steps x4.Zone x4.View)) (Int.toNat i1) (Gi_Kind.mk x6.Name (IntKind.wrap .i64 (k0 + 1)) x6.Moves x6.Steps x6.Zone x6.View)).length) (List.map gi_Kind (List.set (List.set l2 (Int.toNat i1) (Gi_Kind.mk r2 x4.Strength x4.Moves x4.Steps x4.Zone x4.View)) (Int.toNat i1) (Gi_Kind.mk x6.Name (IntKind.wrap .i64 (k0 + 1)) x6.Moves x6.Steps x6.Zone x6.View)))], r0, rg [hA 5 ((List.set (List.set (List.set l2 (Int.toNat i1) (Gi_Kind.mk r2 x4.Strength x4.Moves x4.Steps x4.Zone x4.View)) (Int.toNat i1) (Gi_Kind.mk x6.Name (IntKind.wrap .i64 (k0 + 1)) x6.Moves x6.Steps x6.Zone x6.View)) (Int.toNat i1) (Gi_Kind.mk x8.Name x8.Strength (IntKind.wrap .i64 ((IntKind.wrap .i64 (k0 + 1)) + 1)) x8.Steps x8.Zone x8.View)).length) (List.map gi_Kind (List.set (List.set (List.set l2 (Int.toNat i1) (Gi_Kind.mk r2 x4.Strength x4.Moves x4.Steps x4.Zone x4.View)) (Int.toNat i1) (Gi_Kind.mk x6.Name (IntKind.wrap .i64 (k0 + 1)) x6.Moves x6.Steps x6.Zone x6.View)) (Int.toNat i1) (Gi_Kind.mk x8.Name x8.Strength (IntKind.wrap .i64 ((IntKind.wrap .i64 (k0 + 1)) + 1)) x8.Steps x8.Zone x8.View)))], r0, rg [hA 5 ((List.set (List.set (List.set (List.set l2 (Int.toNat i1) (Gi_Kind.mk r2 x4.Strength x4.Moves x4.Steps x4.Zone x4.View)) (Int.toNat i1) (Gi_Kind.mk x6.Name (IntKind.wrap .i64 (k0 + 1)) x6.Moves x6.Steps x6.Zone x6.View)) (Int.toNat i1) (Gi_Kind.mk x8.Name x8.Strength (IntKind.wrap .i64 ((IntKind.wrap .i64 (k0 + 1)) + 1)) x8.Steps x8.Zone x8.View)) (Int.toNat i1) (Gi_Kind.mk x10.Name x10.Strength x10.Moves (IntKind.wrap .i64 ((IntKind.wrap .i64 ((IntKind.wrap .i64 (k0 + 1)) + 1)) + 1)) x10.Zone x10.View)).length) (List.map gi_Kind (List.set (List.set (List.set (List.set l2 (Int.toNat i1) (Gi_Kind.mk r2 x4.Strength x4.Moves x4.Steps x4.Zone x4.View)) (Int.toNat i1) (Gi_Kind.mk x6.Name (IntKind.wrap .i64 (k0 + 1)) x6.Moves x6.Steps x6.Zone x6.View)) (Int.toNat i1) (Gi_Kind.mk x8.Name x8.Strength (IntKind.wrap .i64 ((IntKind.wrap .i64 (k0 + 1)) + 1)) x8.Steps x8.Zone x8.View)) (Int.toNat i1) (Gi_Kind.mk x10.Name x10.Strength x10.Moves (IntKind.wrap .i64 ((IntKind.wrap .i64 ((IntKind.wrap .i64 (k0 + 1)) + 1)) + 1)) x10.Zone x10.View)))], r0, rg [hA 7 ((List.set (List.set (List.set (List.set (List.set l2 (Int.toNat i1) (Gi_Kind.mk r2 x4.Strength x4.Moves x4.Steps x4.Zone x4.View)) (Int.toNat i1) (Gi_Kind.mk x6.Name (IntKind.wrap .i64 (k0 + 1)) x6.Moves x6.Steps x6.Zone x6.View)) (Int.toNat i1) (Gi_Kind.mk x8.Name x8.Strength (IntKind.wrap .i64 ((IntKind.wrap .i64 (k0 + 1)) + 1)) x8.Steps x8.Zone x8.View)) (Int.toNat i1) (Gi_Kind.mk x10.Name x10.Strength x10.Moves (IntKind.wrap .i64 ((IntKind.wrap .i64 ((IntKind.wrap .i64 (k0 + 1)) + 1)) + 1)) x10.Zone x10.View)) (Int.toNat i1) (Gi_Kind.mk x12.Name x12.Strength x12.Moves x12.Steps (((Int.tmod (IntKind.wrap .i64 ((IntKind.wrap .i64 ((IntKind.wrap .i64 ((IntKind.wrap .i64 (k0 + 1)) + 1)) + 1)) + 1)) 3) : Int) == 0) x12.View)).length) (List.map gi_Kind (List.set (List.set (List.set (List.set (List.set l2 (Int.toNat i1) (Gi_Kind.mk r2 x4.Strength x4.Moves x4.Steps x4.Zone x4.View)) (Int.toNat i1) (Gi_Kind.mk x6.Name (IntKind.wrap .i64 (k0 + 1)) x6.Moves x6.Steps x6.Zone x6.View)) (Int.toNat i1) (Gi_Kind.mk x8.Name x8.Strength (IntKind.wrap .i64 ((IntKind.wrap .i64 (k0 + 1)) + 1)) x8.Steps x8.Zone x8.View)) (Int.toNat i1) (Gi_Kind.mk x10.Name x10.Strength x10.Moves (IntKind.wrap .i64 ((IntKind.wrap .i64 ((IntKind.wrap .i64 (k0 + 1)) + 1)) + 1)) x10.Zone x10.View)) (Int.toNat i1) (Gi_Kind.mk x12.Name x12.Strength x12.Moves x12.Steps (((Int.tmod (IntKind.wrap .i64 ((IntKind.wrap .i64 ((IntKind.wrap .i64 ((IntKind.wrap .i64 (k0 + 1)) + 1)) + 1)) + 1)) 3) : Int) == 0) x12.View)))], r0, rg [hA 5 ((List.set (List.set (List.set (List.set (List.set (List.set l2 (Int.toNat i1) (Gi_Kind.mk r2 x4.Strength x4.Moves x4.Steps x4.Zone x4.View)) (Int.toNat i1) (Gi_Kind.mk x6.Name (IntKind.wrap .i64 (k0 + 1)) x6.Moves x6.Steps x6.Zone x6.View)) (Int.toNat i1) (Gi_Kind.mk x8.Name x8.Strength (IntKind.wrap .i64 ((IntKind.wrap .i64 (k0 + 1)) + 1)) x8.Steps x8.Zone x8.View)) (Int.toNat i1) (Gi_Kind.mk x10.Name x10.Strength x10.Moves (IntKind.wrap .i64 ((IntKind.wrap .i64 ((IntKind.wrap .i64 (k0 + 1)) + 1)) + 1)) x10.Zone x10.View)) (Int.toNat i1) (Gi_Kind.mk x12.Name x12.Strength x12.Moves x12.Steps (((Int.tmod (IntKind.wrap .i64 ((IntKind.wrap .i64 ((IntKind.wrap .i64 ((IntKind.wrap .i64 (k0 + 1)) + 1)) + 1)) + 1)) 3) : Int) == 0) x12.View)) (Int.toNat i1) (Gi_Kind.mk x14.Name x14.Strength x14.Moves x14.Steps x14.Zone (IntKind.wrap .i64 ((IntKind.wrap .i64 ((IntKind.wrap .i64 ((IntKind.wrap .i64 ((IntKind.wrap .i64 (k0 + 1)) + 1)) + 1)) + 1)) + 1)))).length) (List.map gi_Kind (List.set (List.set (List.set (List.set (List.set (List.set l2 (Int.toNat i1) (Gi_Kind.mk r2 x4.Strength x4.Moves x4.Steps x4.Zone x4.View)) (Int.toNat i1) (Gi_Kind.mk x6.Name (IntKind.wrap .i64 (k0 + 1)) x6.Moves x6.Steps x6.Zone x6.View)) (Int.toNat i1) (Gi_Kind.mk x8.Name x8.Strength (IntKind.wrap .i64 ((IntKind.wrap .i64 (k0 + 1)) + 1)) x8.Steps x8.Zone x8.View)) (Int.toNat i1) (Gi_Kind.mk x10.Name x10.Strength x10.Moves (IntKind.wrap .i64 ((IntKind.wrap .i64 ((IntKind.wrap .i64 (k0 + 1)) + 1)) + 1)) x10.Zone x10.View)) (Int.toNat i1) (Gi_Kind.mk x12.Name x12.Strength x12.Moves x12.Steps (((Int.tmod (IntKind.wrap .i64 ((IntKind.wrap .i64 ((IntKind.wrap .i64 ((IntKind.wrap .i64 (k0 + 1)) + 1)) + 1)) + 1)) 3) : Int) == 0) x12.View)) (Int.toNat i1) (Gi_Kind.mk x14.Name x14.Strength x14.Moves x14.Steps x14.Zone (IntKind.wrap .i64 ((IntKind.wrap .i64 ((IntKind.wrap .i64 ((IntKind.wrap .i64 ((IntKind.wrap .i64 (k0 + 1)) + 1)) + 1)) + 1)) + 1)))))], r0, r0, .canon [0] [0, 1, 5]] (by kernel_rfl) (P2 ((decide (i1 < ((l2.length : Nat) : Int))) = true) (decide_eq_true h1) <| P1 (cw_markText hr2) <| P1 h3 <| P1 (int_lt_of_at h3 hx4) <| P1 (lt_of_at hx4) <| P2 (setCells (List.map gi_Kind l2) (Int.toNat i1) 0 [.str r2] = List.map gi_Kind (List.set l2 (Int.toNat i1) (Gi_Kind.mk r2 x4.Strength x4.Moves x4.Steps x4.Zone x4.View))) (setCells_map hx4 rfl) <| P1 (setLen l2 (Int.toNat i1) (Gi_Kind.mk r2 x4.Strength x4.Moves x4.Steps x4.Zone x4.View)) <| P1 h5 <| P1 (int_lt_of_at h5 hx6) <| P1 (lt_of_at hx6) <| P2 (setCells (List.map gi_Kind (List.set l2 (Int.toNat i1) (Gi_Kind.mk r2 x4.Strength x4.Moves x4.Steps x4.Zone x4.View))) (Int.toNat i1) 1 [I (IntKind.wrap .i64 (k0 + 1))] = List.map gi_Kind (List.set (List.set l2 (Int.toNat i1) (Gi_Kind.mk r2 x4.Strength x4.Moves x4.Steps x4.Zone x4.View)) (Int.toNat i1) (Gi_Kind.mk x6.Name (IntKind.wrap .i64 (k0 + 1)) x6.Moves x6.Steps x6.Zone x6.View))) (setCells_map hx6 rfl) <| P1 (setLen (List.set l2 (Int.toNat i1) (Gi_Kind.mk r2 x4.Strength x4.Moves x4.Steps x4.Zone x4.View)) (Int.toNat i1) (Gi_Kind.mk x6.Name (IntKind.wrap .i64 (k0 + 1)) x6.Moves x6.Steps x6.Zone x6.View)) <| P1 h7 <| P1 (int_lt_of_at h7 hx8) <| P1 (lt_of_at hx8) <| P2 (setCells (List.map gi_Kind (List.set (List.set l2 (Int.toNat i1) (Gi_Kind.mk r2 x4.Strength x4.Moves x4.Steps x4.Zone x4.View)) (Int.toNat i1) (Gi_Kind.mk x6.Name (IntKind.wrap .i64 (k0 + 1)) x6.Moves x6.Steps x6.Zone x6.View))) (Int.toNat i1) 2 [I (IntKind.wrap .i64 ((IntKind.wrap .i64 (k0 + 1)) + 1))] = List.map gi_Kind (List.set (List.set (List.set l2 (Int.toNat i1) (Gi_Kind.mk r2 x4.Strength x4.Moves x4.Steps x4.Zone x4.View)) (Int.toNat i1) (Gi_Kind.mk x6.Name (IntKind.wrap .i64 (k0 + 1)) x6.Moves x6.Steps x6.Zone x6.View)) (Int.toNat i1) (Gi_Kind.mk x8.Name x8.Strength (IntKind.wrap .i64 ((IntKind.wrap .i64 (k0 + 1)) + 1)) x8.Steps x8.Zone x8.View))) (setCells_map hx8 rfl) <| P1 (setLen (List.set (List.set l2 (Int.toNat i1) (Gi_Kind.mk r2 x4.Strength x4.Moves x4.Steps x4.Zone x4.View)) (Int.toNat i1) (Gi_Kind.mk x6.Name (IntKind.wrap .i64 (k0 + 1)) x6.Moves x6.Steps x6.Zone x6.View)) (Int.toNat i1) (Gi_Kind.mk x8.Name x8.Strength (IntKind.wrap .i64 ((IntKind.wrap .i64 (k0 + 1)) + 1)) x8.Steps x8.Zone x8.View)) <| P1 h9 <| P1 (int_lt_of_at h9 hx10) <| P1 (lt_of_at hx10) <| P2 (setCells (List.map gi_Kind (List.set (List.set (List.set l2 (Int.toNat i1) (Gi_Kind.mk r2 x4.Strength x4.Moves x4.Steps x4.Zone x4.View)) (Int.toNat i1) (Gi_Kind.mk x6.Name (IntKind.wrap .i64 (k0 + 1)) x6.Moves x6.Steps x6.Zone x6.View)) (Int.toNat i1) (Gi_Kind.mk x8.Name x8.Strength (IntKind.wrap .i64 ((IntKind.wrap .i64 (k0 + 1)) + 1)) x8.Steps x8.Zone x8.View))) (Int.toNat i1) 3 [I (IntKind.wrap .i64 ((IntKind.wrap .i64 ((IntKind.wrap .i64 (k0 + 1)) + 1)) + 1))] = List.map gi_Kind (List.set (List.set (List.set (List.set l2 (Int.toNat i1) (Gi_Kind.mk r2 x4.Strength x4.Moves x4.Steps x4.Zone x4.View)) (Int.toNat i1) (Gi_Kind.mk x6.Name (IntKind.wrap .i64 (k0 + 1)) x6.Moves x6.Steps x6.Zone x6.View)) (Int.toNat i1) (Gi_Kind.mk x8.Name x8.Strength (IntKind.wrap .i64 ((IntKind.wrap .i64 (k0 + 1)) + 1)) x8.Steps x8.Zone x8.View)) (Int.toNat i1) (Gi_Kind.mk x10.Name x10.Strength x10.Moves (IntKind.wrap .i64 ((IntKind.wrap .i64 ((IntKind.wrap .i64 (k0 + 1)) + 1)) + 1)) x10.Zone x10.View))) (setCells_map hx10 rfl) <| P1 (setLen (List.set (List.set (List.set l2 (Int.toNat i1) (Gi_Kind.mk r2 x4.Strength x4.Moves x4.Steps x4.Zone x4.View)) (Int.toNat i1) (Gi_Kind.mk x6.Name (IntKind.wrap .i64 (k0 + 1)) x6.Moves x6.Steps x6.Zone x6.View)) (Int.toNat i1) (Gi_Kind.mk x8.Name x8.Strength (IntKind.wrap .i64 ((IntKind.wrap .i64 (k0 + 1)) + 1)) x8.Steps x8.Zone x8.View)) (Int.toNat i1) (Gi_Kind.mk x10.Name x10.Strength x10.Moves (IntKind.wrap .i64 ((IntKind.wrap .i64 ((IntKind.wrap .i64 (k0 + 1)) + 1)) + 1)) x10.Zone x10.View)) <| P2 (¬ (3 : Int) = 0) (by decide) <| P1 h11 <| P1 (int_lt_of_at h11 hx12) <| P1 (lt_of_at hx12) <| P2 (setCells (List.map gi_Kind (List.set (List.set (List.set (List.set l2 (Int.toNat i1) (Gi_Kind.mk r2 x4.Strength x4.Moves x4.Steps x4.Zone x4.View)) (Int.toNat i1) (Gi_Kind.mk x6.Name (IntKind.wrap .i64 (k0 + 1)) x6.Moves x6.Steps x6.Zone x6.View)) (Int.toNat i1) (Gi_Kind.mk x8.Name x8.Strength (IntKind.wrap .i64 ((IntKind.wrap .i64 (k0 + 1)) + 1)) x8.Steps x8.Zone x8.View)) (Int.toNat i1) (Gi_Kind.mk x10.Name x10.Strength x10.Moves (IntKind.wrap .i64 ((IntKind.wrap .i64 ((IntKind.wrap .i64 (k0 + 1)) + 1)) + 1)) x10.Zone x10.View))) (Int.toNat i1) 4 [.bool (((Int.tmod (IntKind.wrap .i64 ((IntKind.wrap .i64 ((IntKind.wrap .i64 ((IntKind.wrap .i64 (k0 + 1)) + 1)) + 1)) + 1)) 3) : Int) == 0)] = List.map gi_Kind (List.set (List.set (List.set (List.set (List.set l2 (Int.toNat i1) (Gi_Kind.mk r2 x4.Strength x4.Moves x4.Steps x4.Zone x4.View)) (Int.toNat i1) (Gi_Kind.mk x6.Name (IntKind.wrap .i64 (k0 + 1)) x6.Moves x6.Steps x6.Zone x6.View)) (Int.toNat i1) (Gi_Kind.mk x8.Name x8.Strength (IntKind.wrap .i64 ((IntKind.wrap .i64 (k0 + 1)) + 1)) x8.Steps x8.Zone x8.View)) (Int.toNat i1) (Gi_Kind.mk x10.Name x10.Strength x10.Moves (IntKind.wrap .i64 ((IntKind.wrap .i64 ((IntKind.wrap .i64 (k0 + 1)) + 1)) + 1)) x10.Zone x10.View)) (Int.toNat i1) (Gi_Kind.mk x12.Name x12.Strength x12.Moves x12.Steps (((Int.tmod (IntKind.wrap .i64 ((IntKind.wrap .i64 ((IntKind.wrap .i64 ((IntKind.wrap .i64 (k0 + 1)) + 1)) + 1)) + 1)) 3) : Int) == 0) x12.View))) (setCells_map hx12 rfl) <| P1 (setLen (List.set (List.set (List.set (List.set l2 (Int.toNat i1) (Gi_Kind.mk r2 x4.Strength x4.Moves x4.Steps x4.Zone x4.View)) (Int.toNat i1) (Gi_Kind.mk x6.Name (IntKind.wrap .i64 (k0 + 1)) x6.Moves x6.Steps x6.Zone x6.View)) (Int.toNat i1) (Gi_Kind.mk x8.Name x8.Strength (IntKind.wrap .i64 ((IntKind.wrap .i64 (k0 + 1)) + 1)) x8.Steps x8.Zone x8.View)) (Int.toNat i1) (Gi_Kind.mk x10.Name x10.Strength x10.Moves (IntKind.wrap .i64 ((IntKind.wrap .i64 ((IntKind.wrap .i64 (k0 + 1)) + 1)) + 1)) x10.Zone x10.View)) (Int.toNat i1) (Gi_Kind.mk x12.Name x12.Strength x12.Moves x12.Steps (((Int.tmod (IntKind.wrap .i64 ((IntKind.wrap .i64 ((IntKind.wrap .i64 ((IntKind.wrap .i64 (k0 + 1)) + 1)) + 1)) + 1)) 3) : Int) == 0) x12.View)) <| P1 h13 <| P1 (int_lt_of_at h13 hx14) <| P1 (lt_of_at hx14) <| P2 (setCells (List.map gi_Kind (List.set (List.set (List.set (List.set (List.set l2 (Int.toNat i1) (Gi_Kind.mk r2 x4.Strength x4.Moves x4.Steps x4.Zone x4.View)) (Int.toNat i1) (Gi_Kind.mk x6.Name (IntKind.wrap .i64 (k0 + 1)) x6.Moves x6.Steps x6.Zone x6.View)) (Int.toNat i1) (Gi_Kind.mk x8.Name x8.Strength (IntKind.wrap .i64 ((IntKind.wrap .i64 (k0 + 1)) + 1)) x8.Steps x8.Zone x8.View)) (Int.toNat i1) (Gi_Kind.mk x10.Name x10.Strength x10.Moves (IntKind.wrap .i64 ((IntKind.wrap .i64 ((IntKind.wrap .i64 (k0 + 1)) + 1)) + 1)) x10.Zone x10.View)) (Int.toNat i1) (Gi_Kind.mk x12.Name x12.Strength x12.Moves x12.Steps (((Int.tmod (IntKind.wrap .i64 ((IntKind.wrap .i64 ((IntKind.wrap .i64 ((IntKind.wrap .i64 (k0 + 1)) + 1)) + 1)) + 1)) 3) : Int) == 0) x12.View))) (Int.toNat i1) 5 [I (IntKind.wrap .i64 ((IntKind.wrap .i64 ((IntKind.wrap .i64 ((IntKind.wrap .i64 ((IntKind.wrap .i64 (k0 + 1)) + 1)) + 1)) + 1)) + 1))] = List.map gi_Kind (List.set (List.set (List.set (List.set (List.set (List.set l2 (Int.toNat i1) (Gi_Kind.mk r2 x4.Strength x4.Moves x4.Steps x4.Zone x4.View)) (Int.toNat i1) (Gi_Kind.mk x6.Name (IntKind.wrap .i64 (k0 + 1)) x6.Moves x6.Steps x6.Zone x6.View)) (Int.toNat i1) (Gi_Kind.mk x8.Name x8.Strength (IntKind.wrap .i64 ((IntKind.wrap .i64 (k0 + 1)) + 1)) x8.Steps x8.Zone x8.View)) (Int.toNat i1) (Gi_Kind.mk x10.Name x10.Strength x10.Moves (IntKind.wrap .i64 ((IntKind.wrap .i64 ((IntKind.wrap .i64 (k0 + 1)) + 1)) + 1)) x10.Zone x10.View)) (Int.toNat i1) (Gi_Kind.mk x12.Name x12.Strength x12.Moves x12.Steps (((Int.tmod (IntKind.wrap .i64 ((IntKind.wrap .i64 ((IntKind.wrap .i64 ((IntKind.wrap .i64 (k0 + 1)) + 1)) + 1)) + 1)) 3) : Int) == 0) x12.View)) (Int.toNat i1) (Gi_Kind.mk x14.Name x14.Strength x14.Moves x14.Steps x14.Zone (IntKind.wrap .i64 ((IntKind.wrap .i64 ((IntKind.wrap .i64 ((IntKind.wrap .i64 ((IntKind.wrap .i64 (k0 + 1)) + 1)) + 1)) + 1)) + 1))))) (setCells_map hx14 rfl) <| P1 (setLen (List.set (List.set (List.set (List.set (List.set l2 (Int.toNat i1) (Gi_Kind.mk r2 x4.Strength x4.Moves x4.Steps x4.Zone x4.View)) (Int.toNat i1) (Gi_Kind.mk x6.Name (IntKind.wrap .i64 (k0 + 1)) x6.Moves x6.Steps x6.Zone x6.View)) (Int.toNat i1) (Gi_Kind.mk x8.Name x8.Strength (IntKind.wrap .i64 ((IntKind.wrap .i64 (k0 + 1)) + 1)) x8.Steps x8.Zone x8.View)) (Int.toNat i1) (Gi_Kind.mk x10.Name x10.Strength x10.Moves (IntKind.wrap .i64 ((IntKind.wrap .i64 ((IntKind.wrap .i64 (k0 + 1)) + 1)) + 1)) x10.Zone x10.View)) (Int.toNat i1) (Gi_Kind.mk x12.Name x12.Strength x12.Moves x12.Steps (((Int.tmod (IntKind.wrap .i64 ((IntKind.wrap .i64 ((IntKind.wrap .i64 ((IntKind.wrap .i64 (k0 + 1)) + 1)) + 1)) + 1)) 3) : Int) == 0) x12.View)) (Int.toNat i1) (Gi_Kind.mk x14.Name x14.Strength x14.Moves x14.Steps x14.Zone (IntKind.wrap .i64 ((IntKind.wrap .i64 ((IntKind.wrap .i64 ((IntKind.wrap .i64 ((IntKind.wrap .i64 (k0 + 1)) + 1)) + 1)) + 1)) + 1)))) <| P0) hn)
    (fun h1 H =>
      eN H <| gE func134 [rg [hF 3], r0] (by kernel_rfl) (P2 ((decide (i1 < ((l2.length : Nat) : Int))) = false) (decide_eq_false h1) <| P0))
theorem ww_markKindS : ∀ s r, loop Bw_markKindS s = some r → Wc X 134 1 (Kw_markKindS s) (Zw_markKindS s) (Rw_markKindS r) (Nw_markKindS r) := Nx.all (nw_markKindS)
theorem cw_markKindS {a0 : (List Gi_Kind)} {a1 : Int} {r : Int × (List Gi_Kind)} (H : Dw_markKindS a0 a1 = some r) : Ct X.P X.gl 134 [.ref 0 6 none, I a1] [⟨false, false, 6, a0.length, List.map gi_Kind a0⟩] (Rw_markKindS r) (Nw_markKindS r) :=
  Ct.of func134 (c := bdy f134) (by kernel_rfl) (by kernel_rfl) <|
  gO [r0, r0, .canon [0] [0, 1, 5]] (by kernel_rfl) P0 (ww_markKindS _ _ H)
/-! loop example/g00886/laws markRules -/
def Rw_markRules (r : Int × (List Gi_Terrain) × (List Gi_Kind)) : List D := [I r.1]
def Nw_markRules (r : Int × (List Gi_Terrain) × (List Gi_Kind)) : List Root := [⟨false, false, 5, r.2.1.length, List.map goi_Terrain r.2.1⟩, ⟨false, false, 6, r.2.2.length, List.map gi_Kind r.2.2⟩]
theorem cw_markRules {a0 : Gi_Rules} {a1 : Int} {r : Int × (List Gi_Terrain) × (List Gi_Kind)} (H : Dw_markRules a0 a1 = some r) : Ct X.P X.gl 93 [.agg [.ref 0 5 none, .ref 1 6 none, I a0.Stack, I a0.River, I a0.Road, I a0.Supply, I a0.Turns], I a1] [⟨false, false, 5, a0.Terrains.length, List.map goi_Terrain a0.Terrains⟩, ⟨false, false, 6, a0.Kinds.length, List.map gi_Kind a0.Kinds⟩] (Rw_markRules r) (Nw_markRules r) :=
  Ct.of func93 (c := bdy f93) (by kernel_rfl) (by kernel_rfl) <|
  eBind H fun r1 hr1 H =>
  eCk H fun h2 H =>
  eBind H fun r3 hr3 H =>
  eCk H fun h4 H =>
  eW Rw_markRules Nw_markRules H <| gE func93 [r0, rg [{ i := 3, call := some { cl := true, ins := [0], args := [.ref 0 5 none, I a1], res := Rw_markTerrainS r1, G' := Nw_markTerrainS r1 } }], rg [hC 3 true [1] (Rw_markKindS r3) (Nw_markKindS r3)], r0] (by kernel_rfl) (PI (none : Option (Nat × Nat)) <| PI (a1 : Int) <| P1 h2 <| P1 (cw_markTerrainS hr1) <| P1 h4 <| P1 (cw_markKindS hr3) <| P0)
/-! loop example/g00886/laws markMap -/
def Rw_markMap (r : Int × (List Int) × (List Int) × (List Int)) : List D := [I r.1]
def Nw_markMap (r : Int × (List Int) × (List Int) × (List Int)) : List Root := [⟨false, false, 1, r.2.1.length, List.map I r.2.1⟩, ⟨false, false, 1, r.2.2.1.length, List.map I r.2.2.1⟩, ⟨false, false, 1, r.2.2.2.length, List.map I r.2.2.2⟩]
theorem cw_markMap {a0 : Gi_Map} {a1 : Int} {r : Int × (List Int) × (List Int) × (List Int)} (H : Dw_markMap a0 a1 = some r) : Ct X.P X.gl 94 [.agg [I a0.Width, I a0.Height, .ref 0 1 none, .ref 1 1 none, .ref 2 1 none], I a1] [⟨false, false, 1, a0.Terrain.length, List.map I a0.Terrain⟩, ⟨false, false, 1, a0.Rivers.length, List.map I a0.Rivers⟩, ⟨false, false, 1, a0.Roads.length, List.map I a0.Roads⟩] (Rw_markMap r) (Nw_markMap r) :=
  Ct.of func94 (c := bdy f94) (by kernel_rfl) (by kernel_rfl) <|
  eBind H fun r1 hr1 H =>
  eCk H fun h2 H =>
  eBind H fun r3 hr3 H =>
  eCk H fun h4 H =>
  eBind H fun r5 hr5 H =>
  eCk H fun h6 H =>
  eW Rw_markMap Nw_markMap H <| gE func94 [r0, rg [hC 3 true [0] (Rw_markIntS r1) (Nw_markIntS r1)], rg [hC 3 true [1] (Rw_markIntS r3) (Nw_markIntS r3)], rg [hC 3 true [2] (Rw_markIntS r5) (Nw_markIntS r5)], r0] (by kernel_rfl) (P1 h2 <| P1 (cw_markIntS hr1) <| P1 h4 <| P1 (cw_markIntS hr3) <| P1 h6 <| P1 (cw_markIntS hr5) <| P0)
/-! loop example/g00886/laws markBoard -/
def Rw_markBoard (r : Int × (List Gi_Terrain) × (List Gi_Kind) × (List Int) × (List Int) × (List Int)) : List D := [I r.1]
def Nw_markBoard (r : Int × (List Gi_Terrain) × (List Gi_Kind) × (List Int) × (List Int) × (List Int)) : List Root := [⟨false, false, 5, r.2.1.length, List.map goi_Terrain r.2.1⟩, ⟨false, false, 6, r.2.2.1.length, List.map gi_Kind r.2.2.1⟩, ⟨false, false, 1, r.2.2.2.1.length, List.map I r.2.2.2.1⟩, ⟨false, false, 1, r.2.2.2.2.1.length, List.map I r.2.2.2.2.1⟩, ⟨false, false, 1, r.2.2.2.2.2.length, List.map I r.2.2.2.2.2⟩]
theorem cw_markBoard {a0 : Gi_Board} {a1 : Int} {r : Int × (List Gi_Terrain) × (List Gi_Kind) × (List Int) × (List Int) × (List Int)} (H : Dw_markBoard a0 a1 = some r) : Ct X.P X.gl 48 [.agg [.ref 0 5 none, .ref 1 6 none, I a0.Rules.Stack, I a0.Rules.River, I a0.Rules.Road, I a0.Rules.Supply, I a0.Rules.Turns, I a0.Map.Width, I a0.Map.Height, .ref 2 1 none, .ref 3 1 none, .ref 4 1 none], I a1] [⟨false, false, 5, a0.Rules.Terrains.length, List.map goi_Terrain a0.Rules.Terrains⟩, ⟨false, false, 6, a0.Rules.Kinds.length, List.map gi_Kind a0.Rules.Kinds⟩, ⟨false, false, 1, a0.Map.Terrain.length, List.map I a0.Map.Terrain⟩, ⟨false, false, 1, a0.Map.Rivers.length, List.map I a0.Map.Rivers⟩, ⟨false, false, 1, a0.Map.Roads.length, List.map I a0.Map.Roads⟩] (Rw_markBoard r) (Nw_markBoard r) :=
  Ct.of func48 (c := bdy f48) (by kernel_rfl) (by kernel_rfl) <|
  eBind H fun r1 hr1 H =>
  eCk H fun h2 H =>
  eCk H fun h3 H =>
  eBind H fun r4 hr4 H =>
  eCk H fun h5 H =>
  eCk H fun h6 H =>
  eCk H fun h7 H =>
  eW Rw_markBoard Nw_markBoard H <| gE func48 [r0, rg [{ i := 3, call := some { cl := true, ins := [0, 1], args := [.agg [.ref 0 5 none, .ref 1 6 none, I a0.Rules.Stack, I a0.Rules.River, I a0.Rules.Road, I a0.Rules.Supply, I a0.Rules.Turns], I a1], res := Rw_markRules r1, G' := Nw_markRules r1 } }], rg [hC 3 true [2, 3, 4] (Rw_markMap r4) (Nw_markMap r4)], r0] (by kernel_rfl) (PI (none : Option (Nat × Nat)) <| PI (none : Option (Nat × Nat)) <| PI (a0.Rules.Stack : Int) <| PI (a0.Rules.River : Int) <| PI (a0.Rules.Road : Int) <| PI (a0.Rules.Supply : Int) <| PI (a0.Rules.Turns : Int) <| PI (a1 : Int) <| P1 h2 <| P1 h3 <| P1 (cw_markRules hr1) <| P1 h5 <| P1 h6 <| P1 h7 <| P1 (cw_markMap hr4) <| P0)
/-! loop example/g00886/laws markOddsS -/
def Rw_markOddsS (r : Int × (List Gi_Odds)) : List D := [I r.1]
def Nw_markOddsS (r : Int × (List Gi_Odds)) : List Root := [⟨false, false, 2, r.2.length, List.map gi_Odds r.2⟩]
noncomputable def Kw_markOddsS : Sw_markOddsS → List Item
  | .h1 .. => nav 300 2 [] [.code (bdy f95)]
def Zw_markOddsS : Sw_markOddsS → St
  | .h1 k0 i1 l2 => ⟨sts 27 [(0, .ref 0 2 none), (1, I k0), (5, I i1)], [some ⟨false, false, 2, l2.length, List.map gi_Odds l2⟩]⟩
abbrev Qw_markOddsS := Nx X 95 1 Kw_markOddsS Zw_markOddsS Rw_markOddsS Nw_markOddsS
theorem nw_markOddsS : ∀ s o, Bw_markOddsS s = some o → Qw_markOddsS (Kw_markOddsS s) (Zw_markOddsS s) o
  | .h1 k0 i1 l2, o, H =>
    eIf H (fun h1 H =>
      eCk H fun h2 H =>
      eBind H fun x3 hx3 H =>
      eCk H fun h4 H =>
      eBind H fun x5 hx5 H =>
      eN H fun r hn => gO [rg [hT 3], rg [hA 5 ((List.set l2 (Int.toNat i1) (Gi_Odds.mk k0 x3.Den)).length) (List.map gi_Odds (List.set l2 (Int.toNat i1) (Gi_Odds.mk k0 x3.Den)))], r0, rg [hA 5 ((List.set (List.set l2 (Int.toNat i1) (Gi_Odds.mk k0 x3.Den)) (Int.toNat i1) (Gi_Odds.mk x5.Num (IntKind.wrap .i64 (k0 + 1)))).length) (List.map gi_Odds (List.set (List.set l2 (Int.toNat i1) (Gi_Odds.mk k0 x3.Den)) (Int.toNat i1) (Gi_Odds.mk x5.Num (IntKind.wrap .i64 (k0 + 1)))))], r0, r0, .canon [0] [0, 1, 5]] (by kernel_rfl) (P2 ((decide (i1 < ((l2.length : Nat) : Int))) = true) (decide_eq_true h1) <| P1 h2 <| P1 (int_lt_of_at h2 hx3) <| P1 (lt_of_at hx3) <| P2 (setCells (List.map gi_Odds l2) (Int.toNat i1) 0 [I k0] = List.map gi_Odds (List.set l2 (Int.toNat i1) (Gi_Odds.mk k0 x3.Den))) (setCells_map hx3 rfl) <| P1 (setLen l2 (Int.toNat i1) (Gi_Odds.mk k0 x3.Den)) <| P1 h4 <| P1 (int_lt_of_at h4 hx5) <| P1 (lt_of_at hx5) <| P2 (setCells (List.map gi_Odds (List.set l2 (Int.toNat i1) (Gi_Odds.mk k0 x3.Den))) (Int.toNat i1) 1 [I (IntKind.wrap .i64 (k0 + 1))] = List.map gi_Odds (List.set (List.set l2 (Int.toNat i1) (Gi_Odds.mk k0 x3.Den)) (Int.toNat i1) (Gi_Odds.mk x5.Num (IntKind.wrap .i64 (k0 + 1))))) (setCells_map hx5 rfl) <| P1 (setLen (List.set l2 (Int.toNat i1) (Gi_Odds.mk k0 x3.Den)) (Int.toNat i1) (Gi_Odds.mk x5.Num (IntKind.wrap .i64 (k0 + 1)))) <| P0) hn)
    (fun h1 H =>
      eN H <| gE func95 [rg [hF 3], r0] (by kernel_rfl) (P2 ((decide (i1 < ((l2.length : Nat) : Int))) = false) (decide_eq_false h1) <| P0))
theorem ww_markOddsS : ∀ s r, loop Bw_markOddsS s = some r → Wc X 95 1 (Kw_markOddsS s) (Zw_markOddsS s) (Rw_markOddsS r) (Nw_markOddsS r) := Nx.all (nw_markOddsS)
theorem cw_markOddsS {a0 : (List Gi_Odds)} {a1 : Int} {r : Int × (List Gi_Odds)} (H : Dw_markOddsS a0 a1 = some r) : Ct X.P X.gl 95 [.ref 0 2 none, I a1] [⟨false, false, 2, a0.length, List.map gi_Odds a0⟩] (Rw_markOddsS r) (Nw_markOddsS r) :=
  Ct.of func95 (c := bdy f95) (by kernel_rfl) (by kernel_rfl) <|
  gO [r0, r0, .canon [0] [0, 1, 5]] (by kernel_rfl) P0 (ww_markOddsS _ _ H)
/-! loop example/g00886/laws markIntSS -/
def Rw_markIntSS (r : Int × (List (List Int))) : List D := [I r.1]
def Nw_markIntSS (r : Int × (List (List Int))) : List Root := [⟨false, false, 1, r.2.length, List.map (ow 1 I) r.2⟩]
noncomputable def Kw_markIntSS : Sw_markIntSS → List Item
  | .h1 .. => nav 300 2 [] [.code (bdy f53)]
def Zw_markIntSS : Sw_markIntSS → St
  | .h1 k0 i1 l2 => ⟨sts 19 [(0, .ref 0 1 none), (1, I k0), (5, I i1)], [some ⟨false, false, 1, l2.length, List.map (ow 1 I) l2⟩]⟩
abbrev Qw_markIntSS := Nx X 53 1 Kw_markIntSS Zw_markIntSS Rw_markIntSS Nw_markIntSS
theorem nw_markIntSS : ∀ s o, Bw_markIntSS s = some o → Qw_markIntSS (Kw_markIntSS s) (Zw_markIntSS s) o
  | .h1 k0 i1 l2, o, H =>
    eIf H (fun h1 H =>
      eCk H fun h2 H =>
      eBind H fun x3 hx3 H =>
      eBind H fun r4 hr4 H =>
      eCk H fun h5 H =>
      eN H fun r hn => gO [rg [hT 3], rg [{ i := 3, pre := [.take 0 (Int.toNat i1) 0 1 x3.length (List.map I x3) (List.set (List.map (ow 1 I) l2) (Int.toNat i1) (.ref 1 1 none))], el := some (.ref 1 1 none) }, { i := 5, call := some { cl := true, auto := true, ins := [1], res := (Rw_markIntS r4), G' := (Nw_markIntS r4) }, post := [.put 0 (Int.toNat i1) 0 1 (List.map (ow 1 I) (List.set l2 (Int.toNat i1) r4.2)), .own 0 (List.set l2 (Int.toNat i1) r4.2).length], xtra := [0] }], r0, .canon [0] [0, 1, 5]] (by kernel_rfl) (P2 ((decide (i1 < ((l2.length : Nat) : Int))) = true) (decide_eq_true h1) <| P1 h2 <| P1 (int_lt_of_at h2 hx3) <| P2 (getCells (List.map (ow 1 I) l2) (Int.toNat i1) 0 1 = some [ow 1 I x3]) (getCells_at hx3 rfl) <| P2 (setCells (List.map (ow 1 I) l2) (Int.toNat i1) 0 [.ref 1 1 none] = List.set (List.map (ow 1 I) l2) (Int.toNat i1) (.ref 1 1 none)) (setCells_mapD hx3 rfl) <| P1 (at_set (f := (ow 1 I)) (.ref 1 1 none) hx3) <| P1 h5 <| P1 (cw_markIntS hr4) <| P2 (getCells (List.set (List.map (ow 1 I) l2) (Int.toNat i1) (.ref 1 1 none)) (Int.toNat i1) 0 1 = some [.ref 1 1 none]) (getCells_set hx3 rfl) <| P2 (setCells (List.set (List.map (ow 1 I) l2) (Int.toNat i1) (.ref 1 1 none)) (Int.toNat i1) 0 [ow 1 I r4.2] = List.map (ow 1 I) (List.set l2 (Int.toNat i1) r4.2)) (setCells_set hx3 rfl) <| P1 (allOw_26 (List.set l2 (Int.toNat i1) r4.2)) <| P1 (setLen l2 (Int.toNat i1) r4.2) <| P0) hn)
    (fun h1 H =>
      eN H <| gE func53 [rg [hF 3], r0] (by kernel_rfl) (P2 ((decide (i1 < ((l2.length : Nat) : Int))) = false) (decide_eq_false h1) <| P0))
theorem ww_markIntSS : ∀ s r, loop Bw_markIntSS s = some r → Wc X 53 1 (Kw_markIntSS s) (Zw_markIntSS s) (Rw_markIntSS r) (Nw_markIntSS r) := Nx.all (nw_markIntSS)
theorem cw_markIntSS {a0 : (List (List Int))} {a1 : Int} {r : Int × (List (List Int))} (H : Dw_markIntSS a0 a1 = some r) : Ct X.P X.gl 53 [.ref 0 1 none, I a1] [⟨false, false, 1, a0.length, List.map (ow 1 I) a0⟩] (Rw_markIntSS r) (Nw_markIntSS r) :=
  Ct.of func53 (c := bdy f53) (by kernel_rfl) (by kernel_rfl) <|
  gO [r0, r0, .canon [0] [0, 1, 5]] (by kernel_rfl) P0 (ww_markIntSS _ _ H)
/-! loop example/g00886/laws markCombatTable -/
def Rw_markCombatTable (r : Int × (List Gi_Odds) × (List (List Int))) : List D := [I r.1]
def Nw_markCombatTable (r : Int × (List Gi_Odds) × (List (List Int))) : List Root := [⟨false, false, 2, r.2.1.length, List.map gi_Odds r.2.1⟩, ⟨false, false, 1, r.2.2.length, List.map (ow 1 I) r.2.2⟩]
theorem cw_markCombatTable {a0 : Gi_CombatTable} {a1 : Int} {r : Int × (List Gi_Odds) × (List (List Int))} (H : Dw_markCombatTable a0 a1 = some r) : Ct X.P X.gl 49 [.agg [.ref 0 2 none, I a0.Dice, .ref 1 1 none], I a1] [⟨false, false, 2, a0.Columns.length, List.map gi_Odds a0.Columns⟩, ⟨false, false, 1, a0.Results.length, List.map (ow 1 I) a0.Results⟩] (Rw_markCombatTable r) (Nw_markCombatTable r) :=
  Ct.of func49 (c := bdy f49) (by kernel_rfl) (by kernel_rfl) <|
  eBind H fun r1 hr1 H =>
  eCk H fun h2 H =>
  eBind H fun r3 hr3 H =>
  eCk H fun h4 H =>
  eW Rw_markCombatTable Nw_markCombatTable H <| gE func49 [r0, rg [hC 3 true [0] (Rw_markOddsS r1) (Nw_markOddsS r1)], rg [{ i := 3, call := some { cl := true, ins := [1], args := [.ref 0 1 none, I r1.1], res := Rw_markIntSS r3, G' := Nw_markIntSS r3 } }], r0] (by kernel_rfl) (P1 h2 <| P1 (cw_markOddsS hr1) <| PI (none : Option (Nat × Nat)) <| PI (r1.1 : Int) <| P1 h4 <| P1 (cw_markIntSS hr3) <| P0)
/-! loop example/g00886/laws markUnitS -/
def Rw_markUnitS (r : Int × (List Gi_Unit)) : List D := [I r.1]
def Nw_markUnitS (r : Int × (List Gi_Unit)) : List Root := [⟨false, false, 4, r.2.length, List.map gi_Unit r.2⟩]
noncomputable def Kw_markUnitS : Sw_markUnitS → List Item
  | .h1 .. => nav 300 2 [] [.code (bdy f96)]
def Zw_markUnitS : Sw_markUnitS → St
  | .h1 k0 i1 l2 => ⟨sts 41 [(0, .ref 0 4 none), (1, I k0), (5, I i1)], [some ⟨false, false, 4, l2.length, List.map gi_Unit l2⟩]⟩
abbrev Qw_markUnitS := Nx X 96 1 Kw_markUnitS Zw_markUnitS Rw_markUnitS Nw_markUnitS
theorem nw_markUnitS : ∀ s o, Bw_markUnitS s = some o → Qw_markUnitS (Kw_markUnitS s) (Zw_markUnitS s) o
  | .h1 k0 i1 l2, o, H =>
    eIf H (fun h1 H =>
      eCk H fun h2 H =>
      eBind H fun x3 hx3 H =>
      eCk H fun h4 H =>
      eBind H fun x5 hx5 H =>
      eCk H fun h6 H =>
      eBind H fun x7 hx7 H =>
      eCk H fun h8 H =>
      eBind H fun x9 hx9 H =>
      eN H fun r hn => gO [rg [hT 3], rg [hA 5 ((List.set l2 (Int.toNat i1) (Gi_Unit.mk k0 x3.Kind x3.At x3.Steps)).length) (List.map gi_Unit (List.set l2 (Int.toNat i1) (Gi_Unit.mk k0 x3.Kind x3.At x3.Steps)))], r0, rg [hA 5 ((List.set (List.set l2 (Int.toNat i1) (Gi_Unit.mk k0 x3.Kind x3.At x3.Steps)) (Int.toNat i1) (Gi_Unit.mk x5.Side (IntKind.wrap .i64 (k0 + 1)) x5.At x5.Steps)).length) (List.map gi_Unit (List.set (List.set l2 (Int.toNat i1) (Gi_Unit.mk k0 x3.Kind x3.At x3.Steps)) (Int.toNat i1) (Gi_Unit.mk x5.Side (IntKind.wrap .i64 (k0 + 1)) x5.At x5.Steps)))], r0, rg [hA 5 ((List.set (List.set (List.set l2 (Int.toNat i1) (Gi_Unit.mk k0 x3.Kind x3.At x3.Steps)) (Int.toNat i1) (Gi_Unit.mk x5.Side (IntKind.wrap .i64 (k0 + 1)) x5.At x5.Steps)) (Int.toNat i1) (Gi_Unit.mk x7.Side x7.Kind (IntKind.wrap .i64 ((IntKind.wrap .i64 (k0 + 1)) + 1)) x7.Steps)).length) (List.map gi_Unit (List.set (List.set (List.set l2 (Int.toNat i1) (Gi_Unit.mk k0 x3.Kind x3.At x3.Steps)) (Int.toNat i1) (Gi_Unit.mk x5.Side (IntKind.wrap .i64 (k0 + 1)) x5.At x5.Steps)) (Int.toNat i1) (Gi_Unit.mk x7.Side x7.Kind (IntKind.wrap .i64 ((IntKind.wrap .i64 (k0 + 1)) + 1)) x7.Steps)))], r0, rg [hA 5 ((List.set (List.set (List.set (List.set l2 (Int.toNat i1) (Gi_Unit.mk k0 x3.Kind x3.At x3.Steps)) (Int.toNat i1) (Gi_Unit.mk x5.Side (IntKind.wrap .i64 (k0 + 1)) x5.At x5.Steps)) (Int.toNat i1) (Gi_Unit.mk x7.Side x7.Kind (IntKind.wrap .i64 ((IntKind.wrap .i64 (k0 + 1)) + 1)) x7.Steps)) (Int.toNat i1) (Gi_Unit.mk x9.Side x9.Kind x9.At (IntKind.wrap .i64 ((IntKind.wrap .i64 ((IntKind.wrap .i64 (k0 + 1)) + 1)) + 1)))).length) (List.map gi_Unit (List.set (List.set (List.set (List.set l2 (Int.toNat i1) (Gi_Unit.mk k0 x3.Kind x3.At x3.Steps)) (Int.toNat i1) (Gi_Unit.mk x5.Side (IntKind.wrap .i64 (k0 + 1)) x5.At x5.Steps)) (Int.toNat i1) (Gi_Unit.mk x7.Side x7.Kind (IntKind.wrap .i64 ((IntKind.wrap .i64 (k0 + 1)) + 1)) x7.Steps)) (Int.toNat i1) (Gi_Unit.mk x9.Side x9.Kind x9.At (IntKind.wrap .i64 ((IntKind.wrap .i64 ((IntKind.wrap .i64 (k0 + 1)) + 1)) + 1)))))], r0, r0, .canon [0] [0, 1, 5]] (by kernel_rfl) (P2 ((decide (i1 < ((l2.length : Nat) : Int))) = true) (decide_eq_true h1) <| P1 h2 <| P1 (int_lt_of_at h2 hx3) <| P1 (lt_of_at hx3) <| P2 (setCells (List.map gi_Unit l2) (Int.toNat i1) 0 [I k0] = List.map gi_Unit (List.set l2 (Int.toNat i1) (Gi_Unit.mk k0 x3.Kind x3.At x3.Steps))) (setCells_map hx3 rfl) <| P1 (setLen l2 (Int.toNat i1) (Gi_Unit.mk k0 x3.Kind x3.At x3.Steps)) <| P1 h4 <| P1 (int_lt_of_at h4 hx5) <| P1 (lt_of_at hx5) <| P2 (setCells (List.map gi_Unit (List.set l2 (Int.toNat i1) (Gi_Unit.mk k0 x3.Kind x3.At x3.Steps))) (Int.toNat i1) 1 [I (IntKind.wrap .i64 (k0 + 1))] = List.map gi_Unit (List.set (List.set l2 (Int.toNat i1) (Gi_Unit.mk k0 x3.Kind x3.At x3.Steps)) (Int.toNat i1) (Gi_Unit.mk x5.Side (IntKind.wrap .i64 (k0 + 1)) x5.At x5.Steps))) (setCells_map hx5 rfl) <| P1 (setLen (List.set l2 (Int.toNat i1) (Gi_Unit.mk k0 x3.Kind x3.At x3.Steps)) (Int.toNat i1) (Gi_Unit.mk x5.Side (IntKind.wrap .i64 (k0 + 1)) x5.At x5.Steps)) <| P1 h6 <| P1 (int_lt_of_at h6 hx7) <| P1 (lt_of_at hx7) <| P2 (setCells (List.map gi_Unit (List.set (List.set l2 (Int.toNat i1) (Gi_Unit.mk k0 x3.Kind x3.At x3.Steps)) (Int.toNat i1) (Gi_Unit.mk x5.Side (IntKind.wrap .i64 (k0 + 1)) x5.At x5.Steps))) (Int.toNat i1) 2 [I (IntKind.wrap .i64 ((IntKind.wrap .i64 (k0 + 1)) + 1))] = List.map gi_Unit (List.set (List.set (List.set l2 (Int.toNat i1) (Gi_Unit.mk k0 x3.Kind x3.At x3.Steps)) (Int.toNat i1) (Gi_Unit.mk x5.Side (IntKind.wrap .i64 (k0 + 1)) x5.At x5.Steps)) (Int.toNat i1) (Gi_Unit.mk x7.Side x7.Kind (IntKind.wrap .i64 ((IntKind.wrap .i64 (k0 + 1)) + 1)) x7.Steps))) (setCells_map hx7 rfl) <| P1 (setLen (List.set (List.set l2 (Int.toNat i1) (Gi_Unit.mk k0 x3.Kind x3.At x3.Steps)) (Int.toNat i1) (Gi_Unit.mk x5.Side (IntKind.wrap .i64 (k0 + 1)) x5.At x5.Steps)) (Int.toNat i1) (Gi_Unit.mk x7.Side x7.Kind (IntKind.wrap .i64 ((IntKind.wrap .i64 (k0 + 1)) + 1)) x7.Steps)) <| P1 h8 <| P1 (int_lt_of_at h8 hx9) <| P1 (lt_of_at hx9) <| P2 (setCells (List.map gi_Unit (List.set (List.set (List.set l2 (Int.toNat i1) (Gi_Unit.mk k0 x3.Kind x3.At x3.Steps)) (Int.toNat i1) (Gi_Unit.mk x5.Side (IntKind.wrap .i64 (k0 + 1)) x5.At x5.Steps)) (Int.toNat i1) (Gi_Unit.mk x7.Side x7.Kind (IntKind.wrap .i64 ((IntKind.wrap .i64 (k0 + 1)) + 1)) x7.Steps))) (Int.toNat i1) 3 [I (IntKind.wrap .i64 ((IntKind.wrap .i64 ((IntKind.wrap .i64 (k0 + 1)) + 1)) + 1))] = List.map gi_Unit (List.set (List.set (List.set (List.set l2 (Int.toNat i1) (Gi_Unit.mk k0 x3.Kind x3.At x3.Steps)) (Int.toNat i1) (Gi_Unit.mk x5.Side (IntKind.wrap .i64 (k0 + 1)) x5.At x5.Steps)) (Int.toNat i1) (Gi_Unit.mk x7.Side x7.Kind (IntKind.wrap .i64 ((IntKind.wrap .i64 (k0 + 1)) + 1)) x7.Steps)) (Int.toNat i1) (Gi_Unit.mk x9.Side x9.Kind x9.At (IntKind.wrap .i64 ((IntKind.wrap .i64 ((IntKind.wrap .i64 (k0 + 1)) + 1)) + 1))))) (setCells_map hx9 rfl) <| P1 (setLen (List.set (List.set (List.set l2 (Int.toNat i1) (Gi_Unit.mk k0 x3.Kind x3.At x3.Steps)) (Int.toNat i1) (Gi_Unit.mk x5.Side (IntKind.wrap .i64 (k0 + 1)) x5.At x5.Steps)) (Int.toNat i1) (Gi_Unit.mk x7.Side x7.Kind (IntKind.wrap .i64 ((IntKind.wrap .i64 (k0 + 1)) + 1)) x7.Steps)) (Int.toNat i1) (Gi_Unit.mk x9.Side x9.Kind x9.At (IntKind.wrap .i64 ((IntKind.wrap .i64 ((IntKind.wrap .i64 (k0 + 1)) + 1)) + 1)))) <| P0) hn)
    (fun h1 H =>
      eN H <| gE func96 [rg [hF 3], r0] (by kernel_rfl) (P2 ((decide (i1 < ((l2.length : Nat) : Int))) = false) (decide_eq_false h1) <| P0))
theorem ww_markUnitS : ∀ s r, loop Bw_markUnitS s = some r → Wc X 96 1 (Kw_markUnitS s) (Zw_markUnitS s) (Rw_markUnitS r) (Nw_markUnitS r) := Nx.all (nw_markUnitS)
theorem cw_markUnitS {a0 : (List Gi_Unit)} {a1 : Int} {r : Int × (List Gi_Unit)} (H : Dw_markUnitS a0 a1 = some r) : Ct X.P X.gl 96 [.ref 0 4 none, I a1] [⟨false, false, 4, a0.length, List.map gi_Unit a0⟩] (Rw_markUnitS r) (Nw_markUnitS r) :=
  Ct.of func96 (c := bdy f96) (by kernel_rfl) (by kernel_rfl) <|
  gO [r0, r0, .canon [0] [0, 1, 5]] (by kernel_rfl) P0 (ww_markUnitS _ _ H)
/-! loop example/g00886/laws markState -/
def Rw_markState (r : Int × (List Gi_Unit)) : List D := [I r.1]
def Nw_markState (r : Int × (List Gi_Unit)) : List Root := [⟨false, false, 4, r.2.length, List.map gi_Unit r.2⟩]
theorem cw_markState {a0 : Gi_State} {a1 : Int} {r : Int × (List Gi_Unit)} (H : Dw_markState a0 a1 = some r) : Ct X.P X.gl 50 [.agg [I a0.Turn, I a0.Weather, .ref 0 4 none], I a1] [⟨false, false, 4, a0.Units.length, List.map gi_Unit a0.Units⟩] (Rw_markState r) (Nw_markState r) :=
  Ct.of func50 (c := bdy f50) (by kernel_rfl) (by kernel_rfl) <|
  eBind H fun r1 hr1 H =>
  eCk H fun h2 H =>
  eW Rw_markState Nw_markState H <| gE func50 [r0, rg [hC 3 true [0] (Rw_markUnitS r1) (Nw_markUnitS r1)], r0] (by kernel_rfl) (P1 h2 <| P1 (cw_markUnitS hr1) <| P0)
/-! loop example/g00886/laws markGoalS -/
def Rw_markGoalS (r : Int × (List Gi_Goal)) : List D := [I r.1]
def Nw_markGoalS (r : Int × (List Gi_Goal)) : List Root := [⟨false, false, 2, r.2.length, List.map gi_Goal r.2⟩]
noncomputable def Kw_markGoalS : Sw_markGoalS → List Item
  | .h1 .. => nav 300 2 [] [.code (bdy f97)]
def Zw_markGoalS : Sw_markGoalS → St
  | .h1 k0 i1 l2 => ⟨sts 27 [(0, .ref 0 2 none), (1, I k0), (5, I i1)], [some ⟨false, false, 2, l2.length, List.map gi_Goal l2⟩]⟩
abbrev Qw_markGoalS := Nx X 97 1 Kw_markGoalS Zw_markGoalS Rw_markGoalS Nw_markGoalS
theorem nw_markGoalS : ∀ s o, Bw_markGoalS s = some o → Qw_markGoalS (Kw_markGoalS s) (Zw_markGoalS s) o
  | .h1 k0 i1 l2, o, H =>
    eIf H (fun h1 H =>
      eCk H fun h2 H =>
      eBind H fun x3 hx3 H =>
      eCk H fun h4 H =>
      eBind H fun x5 hx5 H =>
      eN H fun r hn => gO [rg [hT 3], rg [hA 5 ((List.set l2 (Int.toNat i1) (Gi_Goal.mk k0 x3.Points)).length) (List.map gi_Goal (List.set l2 (Int.toNat i1) (Gi_Goal.mk k0 x3.Points)))], r0, rg [hA 5 ((List.set (List.set l2 (Int.toNat i1) (Gi_Goal.mk k0 x3.Points)) (Int.toNat i1) (Gi_Goal.mk x5.At (IntKind.wrap .i64 (k0 + 1)))).length) (List.map gi_Goal (List.set (List.set l2 (Int.toNat i1) (Gi_Goal.mk k0 x3.Points)) (Int.toNat i1) (Gi_Goal.mk x5.At (IntKind.wrap .i64 (k0 + 1)))))], r0, r0, .canon [0] [0, 1, 5]] (by kernel_rfl) (P2 ((decide (i1 < ((l2.length : Nat) : Int))) = true) (decide_eq_true h1) <| P1 h2 <| P1 (int_lt_of_at h2 hx3) <| P1 (lt_of_at hx3) <| P2 (setCells (List.map gi_Goal l2) (Int.toNat i1) 0 [I k0] = List.map gi_Goal (List.set l2 (Int.toNat i1) (Gi_Goal.mk k0 x3.Points))) (setCells_map hx3 rfl) <| P1 (setLen l2 (Int.toNat i1) (Gi_Goal.mk k0 x3.Points)) <| P1 h4 <| P1 (int_lt_of_at h4 hx5) <| P1 (lt_of_at hx5) <| P2 (setCells (List.map gi_Goal (List.set l2 (Int.toNat i1) (Gi_Goal.mk k0 x3.Points))) (Int.toNat i1) 1 [I (IntKind.wrap .i64 (k0 + 1))] = List.map gi_Goal (List.set (List.set l2 (Int.toNat i1) (Gi_Goal.mk k0 x3.Points)) (Int.toNat i1) (Gi_Goal.mk x5.At (IntKind.wrap .i64 (k0 + 1))))) (setCells_map hx5 rfl) <| P1 (setLen (List.set l2 (Int.toNat i1) (Gi_Goal.mk k0 x3.Points)) (Int.toNat i1) (Gi_Goal.mk x5.At (IntKind.wrap .i64 (k0 + 1)))) <| P0) hn)
    (fun h1 H =>
      eN H <| gE func97 [rg [hF 3], r0] (by kernel_rfl) (P2 ((decide (i1 < ((l2.length : Nat) : Int))) = false) (decide_eq_false h1) <| P0))
theorem ww_markGoalS : ∀ s r, loop Bw_markGoalS s = some r → Wc X 97 1 (Kw_markGoalS s) (Zw_markGoalS s) (Rw_markGoalS r) (Nw_markGoalS r) := Nx.all (nw_markGoalS)
theorem cw_markGoalS {a0 : (List Gi_Goal)} {a1 : Int} {r : Int × (List Gi_Goal)} (H : Dw_markGoalS a0 a1 = some r) : Ct X.P X.gl 97 [.ref 0 2 none, I a1] [⟨false, false, 2, a0.length, List.map gi_Goal a0⟩] (Rw_markGoalS r) (Nw_markGoalS r) :=
  Ct.of func97 (c := bdy f97) (by kernel_rfl) (by kernel_rfl) <|
  gO [r0, r0, .canon [0] [0, 1, 5]] (by kernel_rfl) P0 (ww_markGoalS _ _ H)
/-! loop example/g00886/laws markConditions -/
def Rw_markConditions (r : Int × (List Gi_Goal)) : List D := [I r.1]
def Nw_markConditions (r : Int × (List Gi_Goal)) : List Root := [⟨false, false, 2, r.2.length, List.map gi_Goal r.2⟩]
theorem cw_markConditions {a0 : Gi_Conditions} {a1 : Int} {r : Int × (List Gi_Goal)} (H : Dw_markConditions a0 a1 = some r) : Ct X.P X.gl 51 [.agg [.ref 0 2 none, I a0.Step, I a0.Margin], I a1] [⟨false, false, 2, a0.Goals.length, List.map gi_Goal a0.Goals⟩] (Rw_markConditions r) (Nw_markConditions r) :=
  Ct.of func51 (c := bdy f51) (by kernel_rfl) (by kernel_rfl) <|
  eBind H fun r1 hr1 H =>
  eCk H fun h2 H =>
  eW Rw_markConditions Nw_markConditions H <| gE func51 [r0, rg [hC 3 true [0] (Rw_markGoalS r1) (Nw_markGoalS r1)], r0] (by kernel_rfl) (P1 h2 <| P1 (cw_markGoalS hr1) <| P0)
/-! loop example/g00886/laws markScenario -/
def Rw_markScenario (r : Int × (List Gi_Terrain) × (List Gi_Kind) × (List Int) × (List Int) × (List Int) × (List Gi_Odds) × (List (List Int)) × (List Gi_Unit) × (List Gi_Goal) × (List Int) × (List Int)) : List D := [I r.1]
def Nw_markScenario (r : Int × (List Gi_Terrain) × (List Gi_Kind) × (List Int) × (List Int) × (List Int) × (List Gi_Odds) × (List (List Int)) × (List Gi_Unit) × (List Gi_Goal) × (List Int) × (List Int)) : List Root := [⟨false, false, 5, r.2.1.length, List.map goi_Terrain r.2.1⟩, ⟨false, false, 6, r.2.2.1.length, List.map gi_Kind r.2.2.1⟩, ⟨false, false, 1, r.2.2.2.1.length, List.map I r.2.2.2.1⟩, ⟨false, false, 1, r.2.2.2.2.1.length, List.map I r.2.2.2.2.1⟩, ⟨false, false, 1, r.2.2.2.2.2.1.length, List.map I r.2.2.2.2.2.1⟩, ⟨false, false, 2, r.2.2.2.2.2.2.1.length, List.map gi_Odds r.2.2.2.2.2.2.1⟩, ⟨false, false, 1, r.2.2.2.2.2.2.2.1.length, List.map (ow 1 I) r.2.2.2.2.2.2.2.1⟩, ⟨false, false, 4, r.2.2.2.2.2.2.2.2.1.length, List.map gi_Unit r.2.2.2.2.2.2.2.2.1⟩, ⟨false, false, 2, r.2.2.2.2.2.2.2.2.2.1.length, List.map gi_Goal r.2.2.2.2.2.2.2.2.2.1⟩, ⟨false, false, 1, r.2.2.2.2.2.2.2.2.2.2.1.length, List.map I r.2.2.2.2.2.2.2.2.2.2.1⟩, ⟨false, false, 1, r.2.2.2.2.2.2.2.2.2.2.2.length, List.map I r.2.2.2.2.2.2.2.2.2.2.2⟩]
theorem cw_markScenario {a0 : Gi_Scenario} {a1 : Int} {r : Int × (List Gi_Terrain) × (List Gi_Kind) × (List Int) × (List Int) × (List Int) × (List Gi_Odds) × (List (List Int)) × (List Gi_Unit) × (List Gi_Goal) × (List Int) × (List Int)} (H : Dw_markScenario a0 a1 = some r) : Ct X.P X.gl 14 [.agg [.str a0.Name, .ref 0 5 none, .ref 1 6 none, I a0.Board.Rules.Stack, I a0.Board.Rules.River, I a0.Board.Rules.Road, I a0.Board.Rules.Supply, I a0.Board.Rules.Turns, I a0.Board.Map.Width, I a0.Board.Map.Height, .ref 2 1 none, .ref 3 1 none, .ref 4 1 none, .ref 5 2 none, I a0.Table.Dice, .ref 6 1 none, I a0.Start.Turn, I a0.Start.Weather, .ref 7 4 none, .ref 8 2 none, I a0.Conditions.Step, I a0.Conditions.Margin, .ref 9 1 none, .ref 10 1 none], I a1] [⟨false, false, 5, a0.Board.Rules.Terrains.length, List.map goi_Terrain a0.Board.Rules.Terrains⟩, ⟨false, false, 6, a0.Board.Rules.Kinds.length, List.map gi_Kind a0.Board.Rules.Kinds⟩, ⟨false, false, 1, a0.Board.Map.Terrain.length, List.map I a0.Board.Map.Terrain⟩, ⟨false, false, 1, a0.Board.Map.Rivers.length, List.map I a0.Board.Map.Rivers⟩, ⟨false, false, 1, a0.Board.Map.Roads.length, List.map I a0.Board.Map.Roads⟩, ⟨false, false, 2, a0.Table.Columns.length, List.map gi_Odds a0.Table.Columns⟩, ⟨false, false, 1, a0.Table.Results.length, List.map (ow 1 I) a0.Table.Results⟩, ⟨false, false, 4, a0.Start.Units.length, List.map gi_Unit a0.Start.Units⟩, ⟨false, false, 2, a0.Conditions.Goals.length, List.map gi_Goal a0.Conditions.Goals⟩, ⟨false, false, 1, a0.First.length, List.map I a0.First⟩, ⟨false, false, 1, a0.Other.length, List.map I a0.Other⟩] (Rw_markScenario r) (Nw_markScenario r) :=
  Ct.of func14 (c := bdy f14) (by kernel_rfl) (by kernel_rfl) <|
  eBind H fun r1 hr1 H =>
  eCk H fun h2 H =>
  eCk H fun h3 H =>
  eCk H fun h4 H =>
  eCk H fun h5 H =>
  eCk H fun h6 H =>
  eBind H fun r7 hr7 H =>
  eCk H fun h8 H =>
  eCk H fun h9 H =>
  eBind H fun r10 hr10 H =>
  eCk H fun h11 H =>
  eBind H fun r12 hr12 H =>
  eCk H fun h13 H =>
  eBind H fun r14 hr14 H =>
  eCk H fun h15 H =>
  eBind H fun r16 hr16 H =>
  eCk H fun h17 H =>
  eW Rw_markScenario Nw_markScenario H <| gE func14 [r0, rg [{ i := 3, call := some { cl := true, ins := [0, 1, 2, 3, 4], args := [.agg [.ref 0 5 none, .ref 1 6 none, I a0.Board.Rules.Stack, I a0.Board.Rules.River, I a0.Board.Rules.Road, I a0.Board.Rules.Supply, I a0.Board.Rules.Turns, I a0.Board.Map.Width, I a0.Board.Map.Height, .ref 2 1 none, .ref 3 1 none, .ref 4 1 none], I a1], res := Rw_markBoard r1, G' := Nw_markBoard r1 } }], rg [{ i := 3, call := some { cl := true, ins := [5, 6], args := [.agg [.ref 0 2 none, I a0.Table.Dice, .ref 1 1 none], I r1.1], res := Rw_markCombatTable r7, G' := Nw_markCombatTable r7 } }], rg [hC 3 true [7] (Rw_markState r10) (Nw_markState r10)], rg [hC 3 true [8] (Rw_markConditions r12) (Nw_markConditions r12)], rg [hC 3 true [9] (Rw_markIntS r14) (Nw_markIntS r14)], rg [hC 3 true [10] (Rw_markIntS r16) (Nw_markIntS r16)], r0] (by kernel_rfl) (PI (none : Option (Nat × Nat)) <| PI (none : Option (Nat × Nat)) <| PI (a0.Board.Rules.Stack : Int) <| PI (a0.Board.Rules.River : Int) <| PI (a0.Board.Rules.Road : Int) <| PI (a0.Board.Rules.Supply : Int) <| PI (a0.Board.Rules.Turns : Int) <| PI (a0.Board.Map.Width : Int) <| PI (a0.Board.Map.Height : Int) <| PI (none : Option (Nat × Nat)) <| PI (none : Option (Nat × Nat)) <| PI (none : Option (Nat × Nat)) <| PI (a1 : Int) <| P1 h2 <| P1 h3 <| P1 h4 <| P1 h5 <| P1 h6 <| P1 (cw_markBoard hr1) <| PI (none : Option (Nat × Nat)) <| PI (a0.Table.Dice : Int) <| PI (none : Option (Nat × Nat)) <| PI (r1.1 : Int) <| P1 h8 <| P1 h9 <| P1 (cw_markCombatTable hr7) <| P1 h11 <| P1 (cw_markState hr10) <| P1 h13 <| P1 (cw_markConditions hr12) <| P1 h15 <| P1 (cw_markIntS hr14) <| P1 h17 <| P1 (cw_markIntS hr16) <| P0)
/-! loop example/g00886/laws markClimate -/
def Rw_markClimate (r : Int × (List (List Int))) : List D := [I r.1]
def Nw_markClimate (r : Int × (List (List Int))) : List Root := [⟨false, false, 1, r.2.length, List.map (ow 1 I) r.2⟩]
theorem cw_markClimate {a0 : Gi_Climate} {a1 : Int} {r : Int × (List (List Int))} (H : Dw_markClimate a0 a1 = some r) : Ct X.P X.gl 15 [.agg [.ref 0 1 none], I a1] [⟨false, false, 1, a0.Weights.length, List.map (ow 1 I) a0.Weights⟩] (Rw_markClimate r) (Nw_markClimate r) :=
  Ct.of func15 (c := bdy f15) (by kernel_rfl) (by kernel_rfl) <|
  eBind H fun r1 hr1 H =>
  eCk H fun h2 H =>
  eW Rw_markClimate Nw_markClimate H <| gE func15 [r0, rg [{ i := 3, call := some { cl := true, ins := [0], args := [.ref 0 1 none, I a1], res := Rw_markIntSS r1, G' := Nw_markIntSS r1 } }], r0] (by kernel_rfl) (PI (none : Option (Nat × Nat)) <| PI (a1 : Int) <| P1 h2 <| P1 (cw_markIntSS hr1) <| P0)
/-! loop example/g00886/laws markSetup -/
def Rw_markSetup (r : Int × (List Gi_Terrain) × (List Gi_Kind) × (List Int) × (List Int) × (List Int) × (List Gi_Odds) × (List (List Int)) × (List (List Int)) × (List (List Int))) : List D := [I r.1]
def Nw_markSetup (r : Int × (List Gi_Terrain) × (List Gi_Kind) × (List Int) × (List Int) × (List Int) × (List Gi_Odds) × (List (List Int)) × (List (List Int)) × (List (List Int))) : List Root := [⟨false, false, 5, r.2.1.length, List.map goi_Terrain r.2.1⟩, ⟨false, false, 6, r.2.2.1.length, List.map gi_Kind r.2.2.1⟩, ⟨false, false, 1, r.2.2.2.1.length, List.map I r.2.2.2.1⟩, ⟨false, false, 1, r.2.2.2.2.1.length, List.map I r.2.2.2.2.1⟩, ⟨false, false, 1, r.2.2.2.2.2.1.length, List.map I r.2.2.2.2.2.1⟩, ⟨false, false, 2, r.2.2.2.2.2.2.1.length, List.map gi_Odds r.2.2.2.2.2.2.1⟩, ⟨false, false, 1, r.2.2.2.2.2.2.2.1.length, List.map (ow 1 I) r.2.2.2.2.2.2.2.1⟩, ⟨false, false, 1, r.2.2.2.2.2.2.2.2.1.length, List.map (ow 1 I) r.2.2.2.2.2.2.2.2.1⟩, ⟨false, false, 1, r.2.2.2.2.2.2.2.2.2.length, List.map (ow 1 I) r.2.2.2.2.2.2.2.2.2⟩]
theorem cw_markSetup {a0 : Gi_Setup} {a1 : Int} {r : Int × (List Gi_Terrain) × (List Gi_Kind) × (List Int) × (List Int) × (List Int) × (List Gi_Odds) × (List (List Int)) × (List (List Int)) × (List (List Int))} (H : Dw_markSetup a0 a1 = some r) : Ct X.P X.gl 16 [.agg [.ref 0 5 none, .ref 1 6 none, I a0.Board.Rules.Stack, I a0.Board.Rules.River, I a0.Board.Rules.Road, I a0.Board.Rules.Supply, I a0.Board.Rules.Turns, I a0.Board.Map.Width, I a0.Board.Map.Height, .ref 2 1 none, .ref 3 1 none, .ref 4 1 none, .ref 5 2 none, I a0.Table.Dice, .ref 6 1 none, .ref 7 1 none, .ref 8 1 none], I a1] [⟨false, false, 5, a0.Board.Rules.Terrains.length, List.map goi_Terrain a0.Board.Rules.Terrains⟩, ⟨false, false, 6, a0.Board.Rules.Kinds.length, List.map gi_Kind a0.Board.Rules.Kinds⟩, ⟨false, false, 1, a0.Board.Map.Terrain.length, List.map I a0.Board.Map.Terrain⟩, ⟨false, false, 1, a0.Board.Map.Rivers.length, List.map I a0.Board.Map.Rivers⟩, ⟨false, false, 1, a0.Board.Map.Roads.length, List.map I a0.Board.Map.Roads⟩, ⟨false, false, 2, a0.Table.Columns.length, List.map gi_Odds a0.Table.Columns⟩, ⟨false, false, 1, a0.Table.Results.length, List.map (ow 1 I) a0.Table.Results⟩, ⟨false, false, 1, a0.Climate.Weights.length, List.map (ow 1 I) a0.Climate.Weights⟩, ⟨false, false, 1, a0.Sources.length, List.map (ow 1 I) a0.Sources⟩] (Rw_markSetup r) (Nw_markSetup r) :=
  Ct.of func16 (c := bdy f16) (by kernel_rfl) (by kernel_rfl) <|
  eBind H fun r1 hr1 H =>
  eCk H fun h2 H =>
  eCk H fun h3 H =>
  eCk H fun h4 H =>
  eCk H fun h5 H =>
  eCk H fun h6 H =>
  eBind H fun r7 hr7 H =>
  eCk H fun h8 H =>
  eCk H fun h9 H =>
  eBind H fun r10 hr10 H =>
  eCk H fun h11 H =>
  eBind H fun r12 hr12 H =>
  eCk H fun h13 H =>
  eW Rw_markSetup Nw_markSetup H <| gE func16 [r0, rg [{ i := 3, call := some { cl := true, ins := [0, 1, 2, 3, 4], args := [.agg [.ref 0 5 none, .ref 1 6 none, I a0.Board.Rules.Stack, I a0.Board.Rules.River, I a0.Board.Rules.Road, I a0.Board.Rules.Supply, I a0.Board.Rules.Turns, I a0.Board.Map.Width, I a0.Board.Map.Height, .ref 2 1 none, .ref 3 1 none, .ref 4 1 none], I a1], res := Rw_markBoard r1, G' := Nw_markBoard r1 } }], rg [{ i := 3, call := some { cl := true, ins := [5, 6], args := [.agg [.ref 0 2 none, I a0.Table.Dice, .ref 1 1 none], I r1.1], res := Rw_markCombatTable r7, G' := Nw_markCombatTable r7 } }], rg [{ i := 3, call := some { cl := true, ins := [7], args := [.agg [.ref 0 1 none], I r7.1], res := Rw_markClimate r10, G' := Nw_markClimate r10 } }], rg [{ i := 3, call := some { cl := true, ins := [8], args := [.ref 0 1 none, I r10.1], res := Rw_markIntSS r12, G' := Nw_markIntSS r12 } }], r0] (by kernel_rfl) (PI (none : Option (Nat × Nat)) <| PI (none : Option (Nat × Nat)) <| PI (a0.Board.Rules.Stack : Int) <| PI (a0.Board.Rules.River : Int) <| PI (a0.Board.Rules.Road : Int) <| PI (a0.Board.Rules.Supply : Int) <| PI (a0.Board.Rules.Turns : Int) <| PI (a0.Board.Map.Width : Int) <| PI (a0.Board.Map.Height : Int) <| PI (none : Option (Nat × Nat)) <| PI (none : Option (Nat × Nat)) <| PI (none : Option (Nat × Nat)) <| PI (a1 : Int) <| P1 h2 <| P1 h3 <| P1 h4 <| P1 h5 <| P1 h6 <| P1 (cw_markBoard hr1) <| PI (none : Option (Nat × Nat)) <| PI (a0.Table.Dice : Int) <| PI (none : Option (Nat × Nat)) <| PI (r1.1 : Int) <| P1 h8 <| P1 h9 <| P1 (cw_markCombatTable hr7) <| PI (none : Option (Nat × Nat)) <| PI (r7.1 : Int) <| P1 h11 <| P1 (cw_markClimate hr10) <| PI (none : Option (Nat × Nat)) <| PI (r10.1 : Int) <| P1 h13 <| P1 (cw_markIntSS hr12) <| P0)
/-! loop example/g00886/laws heldIntS -/
noncomputable def Kw_heldIntS : Sw_heldIntS → List Item
  | .h1 .. => nav 300 2 [] [.code (bdy f101)]
def Zw_heldIntS : Sw_heldIntS → St
  | .h1 va0 k1 i2 => ⟨sts 21 [(0, sl 1 I va0), (1, I k1), (5, I i2)], []⟩
abbrev Qw_heldIntS := Nx X 101 0 Kw_heldIntS Zw_heldIntS RI (fun _ => [])
theorem nw_heldIntS : ∀ s o, Bw_heldIntS s = some o → Qw_heldIntS (Kw_heldIntS s) (Zw_heldIntS s) o
  | .h1 va0 k1 i2, o, H =>
    eIf H (fun h1 H =>
      eCk H fun h2 H =>
      eBind H fun x3 hx3 H =>
      gN [rg [hT 3]] (by kernel_rfl) (P2 ((decide (i2 < ((va0.length : Nat) : Int))) = true) (decide_eq_true h1) <| P0) <|
      eIf H (fun h4 H =>
        eN H fun r hn => gO [rg [hE 3 (I x3), hF 5], r0, r0, .canon [] [0, 1, 5]] (by kernel_rfl) (P1 h2 <| P1 (int_lt_of_at h2 hx3) <| P1 (at_map I hx3) <| P2 (((x3 : Int) != k1) = false) (bneF h4) <| P0) hn)
      (fun h4 H =>
        eN H <| gE func101 [rg [hE 3 (I x3), hT 5], r0] (by kernel_rfl) (P1 h2 <| P1 (int_lt_of_at h2 hx3) <| P1 (at_map I hx3) <| P2 (((x3 : Int) != k1) = true) (bneT h4) <| P0)))
    (fun h1 H =>
      eN H <| gE func101 [rg [hF 3], r0] (by kernel_rfl) (P2 ((decide (i2 < ((va0.length : Nat) : Int))) = false) (decide_eq_false h1) <| P0))
theorem ww_heldIntS : ∀ s r, loop Bw_heldIntS s = some r → Wc X 101 0 (Kw_heldIntS s) (Zw_heldIntS s) (RI r) ((fun _ => []) r) := Nx.all (nw_heldIntS)
theorem cw_heldIntS {a0 : (List Int)} {a1 : Int} {r : Int} (H : Dw_heldIntS a0 a1 = some r) : Ct X.P X.gl 101 [sl 1 I a0, I a1] [] (RI r) [] :=
  Ct.of func101 (c := bdy f101) (by kernel_rfl) (by kernel_rfl) <|
  gO [r0, r0, .canon [] [0, 1, 5]] (by kernel_rfl) P0 (ww_heldIntS _ _ H)
/-! loop example/g00886/laws heldTerrainS -/
noncomputable def Kw_heldTerrainS : Sw_heldTerrainS → List Item
  | .h1 .. => nav 300 2 [] [.code (bdy f135)]
def Zw_heldTerrainS : Sw_heldTerrainS → St
  | .h1 va0 k1 i2 => ⟨sts 61 [(0, sl 5 gi_Terrain va0), (1, I k1), (5, I i2)], []⟩
abbrev Qw_heldTerrainS := Nx X 135 0 Kw_heldTerrainS Zw_heldTerrainS RI (fun _ => [])
theorem nw_heldTerrainS : ∀ s o, Bw_heldTerrainS s = some o → Qw_heldTerrainS (Kw_heldTerrainS s) (Zw_heldTerrainS s) o
  | .h1 va0 k1 i2, o, H =>
    eIf H (fun h1 H =>
      eCk H fun h2 H =>
      eBind H fun x3 hx3 H =>
      eBind H fun r4 hr4 H =>
      gN [rg [hT 3]] (by kernel_rfl) (P2 ((decide (i2 < ((va0.length : Nat) : Int))) = true) (decide_eq_true h1) <| P0) <|
      eIf H (fun h5 H =>
        eCk H fun h6 H =>
        eBind H fun x7 hx7 H =>
        eBind H fun r8 hr8 H =>
        gN [rg [hE 4 (gi_Terrain x3), hC 6 true [] (Rw_markText r4) [], hF 7], r0, rg [hE 4 (gi_Terrain x7), hC 6 true [] (RI r8) []]] (by kernel_rfl) (P1 h2 <| P1 (int_lt_of_at h2 hx3) <| P1 (at_map gi_Terrain hx3) <| P1 (cw_markText hr4) <| P2 ((!(x3.Name == r4)) = false) (nbeqF h5) <| P1 h6 <| P1 (int_lt_of_at h6 hx7) <| P1 (at_map gi_Terrain hx7) <| P1 (cw_heldIntS hr8) <| P0) <|
        eIf H (fun h9 H =>
          eN H <| gE func135 [rg [hT 1], r0] (by kernel_rfl) (P2 ((decide (r8 < 0)) = true) (decide_eq_true h9) <| P0))
        (fun h9 H =>
          eCk H fun h10 H =>
          eBind H fun x11 hx11 H =>
          gN [rg [hF 1]] (by kernel_rfl) (P2 ((decide (r8 < 0)) = false) (decide_eq_false h9) <| P0) <|
          eIf H (fun h12 H =>
            eCk H fun h13 H =>
            eBind H fun x14 hx14 H =>
            gN [rg [hE 4 (gi_Terrain x11), hF 6], r0] (by kernel_rfl) (P1 h10 <| P1 (int_lt_of_at h10 hx11) <| P1 (at_map gi_Terrain hx11) <| P2 (((x11.Shift : Int) != r8) = false) (bneF h12) <| P0) <|
            eIf H (fun h15 H =>
              eCk H fun h16 H =>
              eBind H fun x17 hx17 H =>
              gN [rg [hE 4 (gi_Terrain x14), hF 6], r0] (by kernel_rfl) (P1 h13 <| P1 (int_lt_of_at h13 hx14) <| P1 (at_map gi_Terrain hx14) <| P2 (((x14.Height : Int) != (IntKind.wrap .i64 (r8 + 1))) = false) (bneF h15) <| P0) <|
              eIf H (fun h18 H =>
                eN H <| gE func135 [rg [hE 4 (gi_Terrain x17), hT 8], r0] (by kernel_rfl) (P1 h16 <| P1 (int_lt_of_at h16 hx17) <| P1 (at_map gi_Terrain hx17) <| P2 (¬ (3 : Int) = 0) (by decide) <| P2 ((!(x17.Blocks == (((Int.tmod (IntKind.wrap .i64 ((IntKind.wrap .i64 (r8 + 1)) + 1)) 3) : Int) == 0))) = true) (h18) <| P0))
              (fun h18 H =>
                eN H fun r hn => gO [rg [hE 4 (gi_Terrain x17), hF 8], r0, r0, .canon [] [0, 1, 5]] (by kernel_rfl) (P1 h16 <| P1 (int_lt_of_at h16 hx17) <| P1 (at_map gi_Terrain hx17) <| P2 (¬ (3 : Int) = 0) (by decide) <| P2 ((!(x17.Blocks == (((Int.tmod (IntKind.wrap .i64 ((IntKind.wrap .i64 (r8 + 1)) + 1)) 3) : Int) == 0))) = false) (eqF h18) <| P0) hn))
            (fun h15 H =>
              eN H <| gE func135 [rg [hE 4 (gi_Terrain x14), hT 6], r0] (by kernel_rfl) (P1 h13 <| P1 (int_lt_of_at h13 hx14) <| P1 (at_map gi_Terrain hx14) <| P2 (((x14.Height : Int) != (IntKind.wrap .i64 (r8 + 1))) = true) (bneT h15) <| P0)))
          (fun h12 H =>
            eN H <| gE func135 [rg [hE 4 (gi_Terrain x11), hT 6], r0] (by kernel_rfl) (P1 h10 <| P1 (int_lt_of_at h10 hx11) <| P1 (at_map gi_Terrain hx11) <| P2 (((x11.Shift : Int) != r8) = true) (bneT h12) <| P0))))
      (fun h5 H =>
        eN H <| gE func135 [rg [hE 4 (gi_Terrain x3), hC 6 true [] (Rw_markText r4) [], hT 7], r0] (by kernel_rfl) (P1 h2 <| P1 (int_lt_of_at h2 hx3) <| P1 (at_map gi_Terrain hx3) <| P1 (cw_markText hr4) <| P2 ((!(x3.Name == r4)) = true) (nbeqT h5) <| P0)))
    (fun h1 H =>
      eN H <| gE func135 [rg [hF 3], r0] (by kernel_rfl) (P2 ((decide (i2 < ((va0.length : Nat) : Int))) = false) (decide_eq_false h1) <| P0))
theorem ww_heldTerrainS : ∀ s r, loop Bw_heldTerrainS s = some r → Wc X 135 0 (Kw_heldTerrainS s) (Zw_heldTerrainS s) (RI r) ((fun _ => []) r) := Nx.all (nw_heldTerrainS)
theorem cw_heldTerrainS {a0 : (List Gi_Terrain)} {a1 : Int} {r : Int} (H : Dw_heldTerrainS a0 a1 = some r) : Ct X.P X.gl 135 [sl 5 gi_Terrain a0, I a1] [] (RI r) [] :=
  Ct.of func135 (c := bdy f135) (by kernel_rfl) (by kernel_rfl) <|
  gO [r0, r0, .canon [] [0, 1, 5]] (by kernel_rfl) P0 (ww_heldTerrainS _ _ H)
/-! loop example/g00886/laws heldKindS -/
noncomputable def Kw_heldKindS : Sw_heldKindS → List Item
  | .h1 .. => nav 300 2 [] [.code (bdy f136)]
def Zw_heldKindS : Sw_heldKindS → St
  | .h1 va0 k1 i2 => ⟨sts 70 [(0, sl 6 gi_Kind va0), (1, I k1), (5, I i2)], []⟩
abbrev Qw_heldKindS := Nx X 136 0 Kw_heldKindS Zw_heldKindS RI (fun _ => [])
theorem nw_heldKindS : ∀ s o, Bw_heldKindS s = some o → Qw_heldKindS (Kw_heldKindS s) (Zw_heldKindS s) o
  | .h1 va0 k1 i2, o, H =>
    eIf H (fun h1 H =>
      eCk H fun h2 H =>
      eBind H fun x3 hx3 H =>
      eBind H fun r4 hr4 H =>
      gN [rg [hT 3]] (by kernel_rfl) (P2 ((decide (i2 < ((va0.length : Nat) : Int))) = true) (decide_eq_true h1) <| P0) <|
      eIf H (fun h5 H =>
        eCk H fun h6 H =>
        eBind H fun x7 hx7 H =>
        gN [rg [hE 4 (gi_Kind x3), hC 6 true [] (Rw_markText r4) [], hF 7], r0] (by kernel_rfl) (P1 h2 <| P1 (int_lt_of_at h2 hx3) <| P1 (at_map gi_Kind hx3) <| P1 (cw_markText hr4) <| P2 ((!(x3.Name == r4)) = false) (nbeqF h5) <| P0) <|
        eIf H (fun h8 H =>
          eCk H fun h9 H =>
          eBind H fun x10 hx10 H =>
          gN [rg [hE 4 (gi_Kind x7), hF 6], r0] (by kernel_rfl) (P1 h6 <| P1 (int_lt_of_at h6 hx7) <| P1 (at_map gi_Kind hx7) <| P2 (((x7.Strength : Int) != (IntKind.wrap .i64 (k1 + 1))) = false) (bneF h8) <| P0) <|
          eIf H (fun h11 H =>
            eCk H fun h12 H =>
            eBind H fun x13 hx13 H =>
            gN [rg [hE 4 (gi_Kind x10), hF 6], r0] (by kernel_rfl) (P1 h9 <| P1 (int_lt_of_at h9 hx10) <| P1 (at_map gi_Kind hx10) <| P2 (((x10.Moves : Int) != (IntKind.wrap .i64 ((IntKind.wrap .i64 (k1 + 1)) + 1))) = false) (bneF h11) <| P0) <|
            eIf H (fun h14 H =>
              eCk H fun h15 H =>
              eBind H fun x16 hx16 H =>
              gN [rg [hE 4 (gi_Kind x13), hF 6], r0] (by kernel_rfl) (P1 h12 <| P1 (int_lt_of_at h12 hx13) <| P1 (at_map gi_Kind hx13) <| P2 (((x13.Steps : Int) != (IntKind.wrap .i64 ((IntKind.wrap .i64 ((IntKind.wrap .i64 (k1 + 1)) + 1)) + 1))) = false) (bneF h14) <| P0) <|
              eIf H (fun h17 H =>
                eN H <| gE func136 [rg [hE 4 (gi_Kind x16), hT 8], r0] (by kernel_rfl) (P1 h15 <| P1 (int_lt_of_at h15 hx16) <| P1 (at_map gi_Kind hx16) <| P2 (¬ (3 : Int) = 0) (by decide) <| P2 ((!(x16.Zone == (((Int.tmod (IntKind.wrap .i64 ((IntKind.wrap .i64 ((IntKind.wrap .i64 ((IntKind.wrap .i64 (k1 + 1)) + 1)) + 1)) + 1)) 3) : Int) == 0))) = true) (h17) <| P0))
              (fun h17 H =>
                eCk H fun h18 H =>
                eBind H fun x19 hx19 H =>
                gN [rg [hE 4 (gi_Kind x16), hF 8], r0] (by kernel_rfl) (P1 h15 <| P1 (int_lt_of_at h15 hx16) <| P1 (at_map gi_Kind hx16) <| P2 (¬ (3 : Int) = 0) (by decide) <| P2 ((!(x16.Zone == (((Int.tmod (IntKind.wrap .i64 ((IntKind.wrap .i64 ((IntKind.wrap .i64 ((IntKind.wrap .i64 (k1 + 1)) + 1)) + 1)) + 1)) 3) : Int) == 0))) = false) (eqF h17) <| P0) <|
                eIf H (fun h20 H =>
                  eN H fun r hn => gO [rg [hE 4 (gi_Kind x19), hF 6], r0, r0, .canon [] [0, 1, 5]] (by kernel_rfl) (P1 h18 <| P1 (int_lt_of_at h18 hx19) <| P1 (at_map gi_Kind hx19) <| P2 (((x19.View : Int) != (IntKind.wrap .i64 ((IntKind.wrap .i64 ((IntKind.wrap .i64 ((IntKind.wrap .i64 ((IntKind.wrap .i64 (k1 + 1)) + 1)) + 1)) + 1)) + 1))) = false) (bneF h20) <| P0) hn)
                (fun h20 H =>
                  eN H <| gE func136 [rg [hE 4 (gi_Kind x19), hT 6], r0] (by kernel_rfl) (P1 h18 <| P1 (int_lt_of_at h18 hx19) <| P1 (at_map gi_Kind hx19) <| P2 (((x19.View : Int) != (IntKind.wrap .i64 ((IntKind.wrap .i64 ((IntKind.wrap .i64 ((IntKind.wrap .i64 ((IntKind.wrap .i64 (k1 + 1)) + 1)) + 1)) + 1)) + 1))) = true) (bneT h20) <| P0))))
            (fun h14 H =>
              eN H <| gE func136 [rg [hE 4 (gi_Kind x13), hT 6], r0] (by kernel_rfl) (P1 h12 <| P1 (int_lt_of_at h12 hx13) <| P1 (at_map gi_Kind hx13) <| P2 (((x13.Steps : Int) != (IntKind.wrap .i64 ((IntKind.wrap .i64 ((IntKind.wrap .i64 (k1 + 1)) + 1)) + 1))) = true) (bneT h14) <| P0)))
          (fun h11 H =>
            eN H <| gE func136 [rg [hE 4 (gi_Kind x10), hT 6], r0] (by kernel_rfl) (P1 h9 <| P1 (int_lt_of_at h9 hx10) <| P1 (at_map gi_Kind hx10) <| P2 (((x10.Moves : Int) != (IntKind.wrap .i64 ((IntKind.wrap .i64 (k1 + 1)) + 1))) = true) (bneT h11) <| P0)))
        (fun h8 H =>
          eN H <| gE func136 [rg [hE 4 (gi_Kind x7), hT 6], r0] (by kernel_rfl) (P1 h6 <| P1 (int_lt_of_at h6 hx7) <| P1 (at_map gi_Kind hx7) <| P2 (((x7.Strength : Int) != (IntKind.wrap .i64 (k1 + 1))) = true) (bneT h8) <| P0)))
      (fun h5 H =>
        eN H <| gE func136 [rg [hE 4 (gi_Kind x3), hC 6 true [] (Rw_markText r4) [], hT 7], r0] (by kernel_rfl) (P1 h2 <| P1 (int_lt_of_at h2 hx3) <| P1 (at_map gi_Kind hx3) <| P1 (cw_markText hr4) <| P2 ((!(x3.Name == r4)) = true) (nbeqT h5) <| P0)))
    (fun h1 H =>
      eN H <| gE func136 [rg [hF 3], r0] (by kernel_rfl) (P2 ((decide (i2 < ((va0.length : Nat) : Int))) = false) (decide_eq_false h1) <| P0))
theorem ww_heldKindS : ∀ s r, loop Bw_heldKindS s = some r → Wc X 136 0 (Kw_heldKindS s) (Zw_heldKindS s) (RI r) ((fun _ => []) r) := Nx.all (nw_heldKindS)
theorem cw_heldKindS {a0 : (List Gi_Kind)} {a1 : Int} {r : Int} (H : Dw_heldKindS a0 a1 = some r) : Ct X.P X.gl 136 [sl 6 gi_Kind a0, I a1] [] (RI r) [] :=
  Ct.of func136 (c := bdy f136) (by kernel_rfl) (by kernel_rfl) <|
  gO [r0, r0, .canon [] [0, 1, 5]] (by kernel_rfl) P0 (ww_heldKindS _ _ H)
/-! loop example/g00886/laws heldRules -/
theorem cw_heldRules {a0 : Gi_Rules} {a1 : Int} {r : Int} (H : Dw_heldRules a0 a1 = some r) : Ct X.P X.gl 98 [.agg [sl 5 gi_Terrain a0.Terrains, sl 6 gi_Kind a0.Kinds, I a0.Stack, I a0.River, I a0.Road, I a0.Supply, I a0.Turns], I a1] [] (RI r) [] :=
  Ct.of func98 (c := bdy f98) (by kernel_rfl) (by kernel_rfl) <|
  eBind H fun r1 hr1 H =>
  gS [r0, rg [hC 3 true [] (RI r1) []]] (by kernel_rfl) (P1 (cw_heldTerrainS hr1) <| P0) <|
  eIf H (fun h2 H =>
    eW RI (fun _ => []) H <| gE func98 [rg [hT 1], r0] (by kernel_rfl) (P2 ((decide (r1 < 0)) = true) (decide_eq_true h2) <| P0))
  (fun h2 H =>
    eBind H fun r3 hr3 H =>
    gS [rg [hF 1], rg [hC 3 true [] (RI r3) []]] (by kernel_rfl) (P2 ((decide (r1 < 0)) = false) (decide_eq_false h2) <| P1 (cw_heldKindS hr3) <| P0) <|
    eIf H (fun h4 H =>
      eW RI (fun _ => []) H <| gE func98 [rg [hT 1], r0] (by kernel_rfl) (P2 ((decide (r3 < 0)) = true) (decide_eq_true h4) <| P0))
    (fun h4 H =>
      eW RI (fun _ => []) H <| gE func98 [rg [hF 1], r0] (by kernel_rfl) (P2 ((decide (r3 < 0)) = false) (decide_eq_false h4) <| P0)))
/-! loop example/g00886/laws heldMap -/
theorem cw_heldMap {a0 : Gi_Map} {a1 : Int} {r : Int} (H : Dw_heldMap a0 a1 = some r) : Ct X.P X.gl 99 [.agg [I a0.Width, I a0.Height, sl 1 I a0.Terrain, sl 1 I a0.Rivers, sl 1 I a0.Roads], I a1] [] (RI r) [] :=
  Ct.of func99 (c := bdy f99) (by kernel_rfl) (by kernel_rfl) <|
  eBind H fun r1 hr1 H =>
  gS [r0, rg [hC 3 true [] (RI r1) []]] (by kernel_rfl) (P1 (cw_heldIntS hr1) <| P0) <|
  eIf H (fun h2 H =>
    eW RI (fun _ => []) H <| gE func99 [rg [hT 1], r0] (by kernel_rfl) (P2 ((decide (r1 < 0)) = true) (decide_eq_true h2) <| P0))
  (fun h2 H =>
    eBind H fun r3 hr3 H =>
    gS [rg [hF 1], rg [hC 3 true [] (RI r3) []]] (by kernel_rfl) (P2 ((decide (r1 < 0)) = false) (decide_eq_false h2) <| P1 (cw_heldIntS hr3) <| P0) <|
    eIf H (fun h4 H =>
      eW RI (fun _ => []) H <| gE func99 [rg [hT 1], r0] (by kernel_rfl) (P2 ((decide (r3 < 0)) = true) (decide_eq_true h4) <| P0))
    (fun h4 H =>
      eBind H fun r5 hr5 H =>
      gS [rg [hF 1], rg [hC 3 true [] (RI r5) []]] (by kernel_rfl) (P2 ((decide (r3 < 0)) = false) (decide_eq_false h4) <| P1 (cw_heldIntS hr5) <| P0) <|
      eIf H (fun h6 H =>
        eW RI (fun _ => []) H <| gE func99 [rg [hT 1], r0] (by kernel_rfl) (P2 ((decide (r5 < 0)) = true) (decide_eq_true h6) <| P0))
      (fun h6 H =>
        eW RI (fun _ => []) H <| gE func99 [rg [hF 1], r0] (by kernel_rfl) (P2 ((decide (r5 < 0)) = false) (decide_eq_false h6) <| P0))))
/-! loop example/g00886/laws heldBoard -/
theorem cw_heldBoard {a0 : Gi_Board} {a1 : Int} {r : Int} (H : Dw_heldBoard a0 a1 = some r) : Ct X.P X.gl 54 [.agg [sl 5 gi_Terrain a0.Rules.Terrains, sl 6 gi_Kind a0.Rules.Kinds, I a0.Rules.Stack, I a0.Rules.River, I a0.Rules.Road, I a0.Rules.Supply, I a0.Rules.Turns, I a0.Map.Width, I a0.Map.Height, sl 1 I a0.Map.Terrain, sl 1 I a0.Map.Rivers, sl 1 I a0.Map.Roads], I a1] [] (RI r) [] :=
  Ct.of func54 (c := bdy f54) (by kernel_rfl) (by kernel_rfl) <|
  eBind H fun r1 hr1 H =>
  gS [r0, rg [hC 3 true [] (RI r1) []]] (by kernel_rfl) (P1 (cw_heldRules hr1) <| P0) <|
  eIf H (fun h2 H =>
    eW RI (fun _ => []) H <| gE func54 [rg [hT 1], r0] (by kernel_rfl) (P2 ((decide (r1 < 0)) = true) (decide_eq_true h2) <| P0))
  (fun h2 H =>
    eBind H fun r3 hr3 H =>
    gS [rg [hF 1], rg [hC 3 true [] (RI r3) []]] (by kernel_rfl) (P2 ((decide (r1 < 0)) = false) (decide_eq_false h2) <| P1 (cw_heldMap hr3) <| P0) <|
    eIf H (fun h4 H =>
      eW RI (fun _ => []) H <| gE func54 [rg [hT 1], r0] (by kernel_rfl) (P2 ((decide (r3 < 0)) = true) (decide_eq_true h4) <| P0))
    (fun h4 H =>
      eW RI (fun _ => []) H <| gE func54 [rg [hF 1], r0] (by kernel_rfl) (P2 ((decide (r3 < 0)) = false) (decide_eq_false h4) <| P0)))
/-! loop example/g00886/laws heldOddsS -/
noncomputable def Kw_heldOddsS : Sw_heldOddsS → List Item
  | .h1 .. => nav 300 2 [] [.code (bdy f100)]
def Zw_heldOddsS : Sw_heldOddsS → St
  | .h1 va0 k1 i2 => ⟨sts 31 [(0, sl 2 gi_Odds va0), (1, I k1), (5, I i2)], []⟩
abbrev Qw_heldOddsS := Nx X 100 0 Kw_heldOddsS Zw_heldOddsS RI (fun _ => [])
theorem nw_heldOddsS : ∀ s o, Bw_heldOddsS s = some o → Qw_heldOddsS (Kw_heldOddsS s) (Zw_heldOddsS s) o
  | .h1 va0 k1 i2, o, H =>
    eIf H (fun h1 H =>
      eCk H fun h2 H =>
      eBind H fun x3 hx3 H =>
      gN [rg [hT 3]] (by kernel_rfl) (P2 ((decide (i2 < ((va0.length : Nat) : Int))) = true) (decide_eq_true h1) <| P0) <|
      eIf H (fun h4 H =>
        eCk H fun h5 H =>
        eBind H fun x6 hx6 H =>
        gN [rg [hE 4 (gi_Odds x3), hF 6], r0] (by kernel_rfl) (P1 h2 <| P1 (int_lt_of_at h2 hx3) <| P1 (at_map gi_Odds hx3) <| P2 (((x3.Num : Int) != k1) = false) (bneF h4) <| P0) <|
        eIf H (fun h7 H =>
          eN H fun r hn => gO [rg [hE 4 (gi_Odds x6), hF 6], r0, r0, .canon [] [0, 1, 5]] (by kernel_rfl) (P1 h5 <| P1 (int_lt_of_at h5 hx6) <| P1 (at_map gi_Odds hx6) <| P2 (((x6.Den : Int) != (IntKind.wrap .i64 (k1 + 1))) = false) (bneF h7) <| P0) hn)
        (fun h7 H =>
          eN H <| gE func100 [rg [hE 4 (gi_Odds x6), hT 6], r0] (by kernel_rfl) (P1 h5 <| P1 (int_lt_of_at h5 hx6) <| P1 (at_map gi_Odds hx6) <| P2 (((x6.Den : Int) != (IntKind.wrap .i64 (k1 + 1))) = true) (bneT h7) <| P0)))
      (fun h4 H =>
        eN H <| gE func100 [rg [hE 4 (gi_Odds x3), hT 6], r0] (by kernel_rfl) (P1 h2 <| P1 (int_lt_of_at h2 hx3) <| P1 (at_map gi_Odds hx3) <| P2 (((x3.Num : Int) != k1) = true) (bneT h4) <| P0)))
    (fun h1 H =>
      eN H <| gE func100 [rg [hF 3], r0] (by kernel_rfl) (P2 ((decide (i2 < ((va0.length : Nat) : Int))) = false) (decide_eq_false h1) <| P0))
theorem ww_heldOddsS : ∀ s r, loop Bw_heldOddsS s = some r → Wc X 100 0 (Kw_heldOddsS s) (Zw_heldOddsS s) (RI r) ((fun _ => []) r) := Nx.all (nw_heldOddsS)
theorem cw_heldOddsS {a0 : (List Gi_Odds)} {a1 : Int} {r : Int} (H : Dw_heldOddsS a0 a1 = some r) : Ct X.P X.gl 100 [sl 2 gi_Odds a0, I a1] [] (RI r) [] :=
  Ct.of func100 (c := bdy f100) (by kernel_rfl) (by kernel_rfl) <|
  gO [r0, r0, .canon [] [0, 1, 5]] (by kernel_rfl) P0 (ww_heldOddsS _ _ H)
/-! loop example/g00886/laws heldIntSS -/
noncomputable def Kw_heldIntSS : Sw_heldIntSS → List Item
  | .h1 .. => nav 300 2 [] [.code (bdy f57)]
def Zw_heldIntSS : Sw_heldIntSS → St
  | .h1 va0 k1 i2 => ⟨sts 21 [(0, sl 1 (sl 1 I) va0), (1, I k1), (5, I i2)], []⟩
abbrev Qw_heldIntSS := Nx X 57 0 Kw_heldIntSS Zw_heldIntSS RI (fun _ => [])
theorem nw_heldIntSS : ∀ s o, Bw_heldIntSS s = some o → Qw_heldIntSS (Kw_heldIntSS s) (Zw_heldIntSS s) o
  | .h1 va0 k1 i2, o, H =>
    eIf H (fun h1 H =>
      eCk H fun h2 H =>
      eBind H fun x3 hx3 H =>
      eBind H fun r4 hr4 H =>
      gN [rg [hT 3], rg [hE 3 ((sl 1 I) x3), hC 5 true [] (RI r4) []]] (by kernel_rfl) (P2 ((decide (i2 < ((va0.length : Nat) : Int))) = true) (decide_eq_true h1) <| P1 h2 <| P1 (int_lt_of_at h2 hx3) <| P1 (at_map (sl 1 I) hx3) <| P1 (cw_heldIntS hr4) <| P0) <|
      eIf H (fun h5 H =>
        eN H <| gE func57 [rg [hT 1], r0] (by kernel_rfl) (P2 ((decide (r4 < 0)) = true) (decide_eq_true h5) <| P0))
      (fun h5 H =>
        eN H fun r hn => gO [rg [hF 1], r0, .canon [] [0, 1, 5]] (by kernel_rfl) (P2 ((decide (r4 < 0)) = false) (decide_eq_false h5) <| P0) hn))
    (fun h1 H =>
      eN H <| gE func57 [rg [hF 3], r0] (by kernel_rfl) (P2 ((decide (i2 < ((va0.length : Nat) : Int))) = false) (decide_eq_false h1) <| P0))
theorem ww_heldIntSS : ∀ s r, loop Bw_heldIntSS s = some r → Wc X 57 0 (Kw_heldIntSS s) (Zw_heldIntSS s) (RI r) ((fun _ => []) r) := Nx.all (nw_heldIntSS)
theorem cw_heldIntSS {a0 : (List (List Int))} {a1 : Int} {r : Int} (H : Dw_heldIntSS a0 a1 = some r) : Ct X.P X.gl 57 [sl 1 (sl 1 I) a0, I a1] [] (RI r) [] :=
  Ct.of func57 (c := bdy f57) (by kernel_rfl) (by kernel_rfl) <|
  gO [r0, r0, .canon [] [0, 1, 5]] (by kernel_rfl) P0 (ww_heldIntSS _ _ H)
/-! loop example/g00886/laws heldCombatTable -/
theorem cw_heldCombatTable {a0 : Gi_CombatTable} {a1 : Int} {r : Int} (H : Dw_heldCombatTable a0 a1 = some r) : Ct X.P X.gl 55 [.agg [sl 2 gi_Odds a0.Columns, I a0.Dice, sl 1 (sl 1 I) a0.Results], I a1] [] (RI r) [] :=
  Ct.of func55 (c := bdy f55) (by kernel_rfl) (by kernel_rfl) <|
  eBind H fun r1 hr1 H =>
  gS [r0, rg [hC 3 true [] (RI r1) []]] (by kernel_rfl) (P1 (cw_heldOddsS hr1) <| P0) <|
  eIf H (fun h2 H =>
    eW RI (fun _ => []) H <| gE func55 [rg [hT 1], r0] (by kernel_rfl) (P2 ((decide (r1 < 0)) = true) (decide_eq_true h2) <| P0))
  (fun h2 H =>
    eBind H fun r3 hr3 H =>
    gS [rg [hF 1], rg [hC 3 true [] (RI r3) []]] (by kernel_rfl) (P2 ((decide (r1 < 0)) = false) (decide_eq_false h2) <| P1 (cw_heldIntSS hr3) <| P0) <|
    eIf H (fun h4 H =>
      eW RI (fun _ => []) H <| gE func55 [rg [hT 1], r0] (by kernel_rfl) (P2 ((decide (r3 < 0)) = true) (decide_eq_true h4) <| P0))
    (fun h4 H =>
      eW RI (fun _ => []) H <| gE func55 [rg [hF 1], r0] (by kernel_rfl) (P2 ((decide (r3 < 0)) = false) (decide_eq_false h4) <| P0)))
/-! loop example/g00886/laws heldClimate -/
theorem cw_heldClimate {a0 : Gi_Climate} {a1 : Int} {r : Int} (H : Dw_heldClimate a0 a1 = some r) : Ct X.P X.gl 56 [.agg [sl 1 (sl 1 I) a0.Weights], I a1] [] (RI r) [] :=
  Ct.of func56 (c := bdy f56) (by kernel_rfl) (by kernel_rfl) <|
  eBind H fun r1 hr1 H =>
  gS [r0, rg [hC 3 true [] (RI r1) []]] (by kernel_rfl) (P1 (cw_heldIntSS hr1) <| P0) <|
  eIf H (fun h2 H =>
    eW RI (fun _ => []) H <| gE func56 [rg [hT 1], r0] (by kernel_rfl) (P2 ((decide (r1 < 0)) = true) (decide_eq_true h2) <| P0))
  (fun h2 H =>
    eW RI (fun _ => []) H <| gE func56 [rg [hF 1], r0] (by kernel_rfl) (P2 ((decide (r1 < 0)) = false) (decide_eq_false h2) <| P0))
/-! loop example/g00886/laws heldSetup -/
theorem cw_heldSetup {a0 : Gi_Setup} {a1 : Int} {r : Int} (H : Dw_heldSetup a0 a1 = some r) : Ct X.P X.gl 17 [.agg [sl 5 gi_Terrain a0.Board.Rules.Terrains, sl 6 gi_Kind a0.Board.Rules.Kinds, I a0.Board.Rules.Stack, I a0.Board.Rules.River, I a0.Board.Rules.Road, I a0.Board.Rules.Supply, I a0.Board.Rules.Turns, I a0.Board.Map.Width, I a0.Board.Map.Height, sl 1 I a0.Board.Map.Terrain, sl 1 I a0.Board.Map.Rivers, sl 1 I a0.Board.Map.Roads, sl 2 gi_Odds a0.Table.Columns, I a0.Table.Dice, sl 1 (sl 1 I) a0.Table.Results, sl 1 (sl 1 I) a0.Climate.Weights, sl 1 (sl 1 I) a0.Sources], I a1] [] (RI r) [] :=
  Ct.of func17 (c := bdy f17) (by kernel_rfl) (by kernel_rfl) <|
  eBind H fun r1 hr1 H =>
  gS [r0, rg [hC 3 true [] (RI r1) []]] (by kernel_rfl) (P1 (cw_heldBoard hr1) <| P0) <|
  eIf H (fun h2 H =>
    eW RI (fun _ => []) H <| gE func17 [rg [hT 1], r0] (by kernel_rfl) (P2 ((decide (r1 < 0)) = true) (decide_eq_true h2) <| P0))
  (fun h2 H =>
    eBind H fun r3 hr3 H =>
    gS [rg [hF 1], rg [hC 3 true [] (RI r3) []]] (by kernel_rfl) (P2 ((decide (r1 < 0)) = false) (decide_eq_false h2) <| P1 (cw_heldCombatTable hr3) <| P0) <|
    eIf H (fun h4 H =>
      eW RI (fun _ => []) H <| gE func17 [rg [hT 1], r0] (by kernel_rfl) (P2 ((decide (r3 < 0)) = true) (decide_eq_true h4) <| P0))
    (fun h4 H =>
      eBind H fun r5 hr5 H =>
      gS [rg [hF 1], rg [hC 3 true [] (RI r5) []]] (by kernel_rfl) (P2 ((decide (r3 < 0)) = false) (decide_eq_false h4) <| P1 (cw_heldClimate hr5) <| P0) <|
      eIf H (fun h6 H =>
        eW RI (fun _ => []) H <| gE func17 [rg [hT 1], r0] (by kernel_rfl) (P2 ((decide (r5 < 0)) = true) (decide_eq_true h6) <| P0))
      (fun h6 H =>
        eBind H fun r7 hr7 H =>
        gS [rg [hF 1], rg [hC 3 true [] (RI r7) []]] (by kernel_rfl) (P2 ((decide (r5 < 0)) = false) (decide_eq_false h6) <| P1 (cw_heldIntSS hr7) <| P0) <|
        eIf H (fun h8 H =>
          eW RI (fun _ => []) H <| gE func17 [rg [hT 1], r0] (by kernel_rfl) (P2 ((decide (r7 < 0)) = true) (decide_eq_true h8) <| P0))
        (fun h8 H =>
          eW RI (fun _ => []) H <| gE func17 [rg [hF 1], r0] (by kernel_rfl) (P2 ((decide (r7 < 0)) = false) (decide_eq_false h8) <| P0)))))
end Go.Proofs.YtcblbhjbocipbaaGreatDoor.Ab
