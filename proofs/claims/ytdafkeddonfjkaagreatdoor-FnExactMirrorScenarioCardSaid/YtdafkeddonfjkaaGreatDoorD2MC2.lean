/- Part of the proof of FnExactMirrorScenarioCard: no condition of its own. -/
import Derived.Test.YtdafkeddonfjkaaGreatDoorD2MC1
set_option linter.unusedVariables false
set_option linter.unusedSimpArgs false
open Go Go.Proofs Go.Proofs.Tryz
namespace Go.Proofs.YtdafkeddonfjkaaGreatDoor.Ab
noncomputable def Kw_heldIntSS : Sw_heldIntSS → List Item
 | .h1 .. => nav 300 2 [] [.code (bdy f98)]
def Zw_heldIntSS : Sw_heldIntSS → St
 | .h1 va0 k1 i2 => ⟨sts 21 [(0, sl 1 (sl 1 I) va0), (1, I k1), (5, I i2)], []⟩
abbrev Qw_heldIntSS := Nx X 98 0 Kw_heldIntSS Zw_heldIntSS RI (fun _ => [])
theorem nw_heldIntSS : ∀ s o, Bw_heldIntSS s = some o → Qw_heldIntSS (Kw_heldIntSS s) (Zw_heldIntSS s) o
 | .h1 va0 k1 i2, o, H =>
  eIf H (fun h1 H =>
  eCk H fun h2 H =>
  eBind H fun x3 hx3 H =>
  eBind H fun r4 hr4 H =>
  gN [rg [hT 3], rg [hE 3 ((sl 1 I) x3), hC 5 true [] (RI r4) []]] (by kernel_rfl) (P2 ((decide (i2 < ((va0.length : Nat) : Int))) = true) (decide_eq_true h1)<|P1 h2<|P1 (int_lt_of_at h2 hx3)<|P1 (at_map (sl 1 I) hx3)<|P1 (cw_heldIntS hr4)<|P0) <|
  eIf H (fun h5 H =>
  eN H<|gE func98 [rg [hT 1], r0] (by kernel_rfl) (P2 ((decide (r4 < 0)) = true) (decide_eq_true h5)<|P0))
  (fun h5 H =>
  eN H fun r hn => gO [rg [hF 1], r0, .canon [] [0, 1, 5]] (by kernel_rfl) (P2 ((decide (r4 < 0)) = false) (decide_eq_false h5)<|P0) hn))
  (fun h1 H =>
  eN H<|gE func98 [rg [hF 3], r0] (by kernel_rfl) (P2 ((decide (i2 < ((va0.length : Nat) : Int))) = false) (decide_eq_false h1)<|P0))
theorem ww_heldIntSS : ∀ s r, loop Bw_heldIntSS s = some r → Wc X 98 0 (Kw_heldIntSS s) (Zw_heldIntSS s) (RI r) ((fun _ => []) r) := Nx.all (nw_heldIntSS)
theorem cw_heldIntSS {a0 : (List (List Int))} {a1 : Int} {r : Int} (H : Dw_heldIntSS a0 a1 = some r) : Ct X.P X.gl 98 [sl 1 (sl 1 I) a0, I a1] [] (RI r) [] :=
 Ct.of func98 (c := bdy f98) (by kernel_rfl) (by kernel_rfl) <|
 gO [r0, r0, .canon [] [0, 1, 5]] (by kernel_rfl) P0 (ww_heldIntSS _ _ H)
theorem cw_heldCombatTable {a0 : Gi_CombatTable} {a1 : Int} {r : Int} (H : Dw_heldCombatTable a0 a1 = some r) : Ct X.P X.gl 47 [gi_CombatTable a0, I a1] [] (RI r) [] :=
 Ct.of func47 (c := bdy f47) (by kernel_rfl) (by kernel_rfl) <|
 eBind H fun r1 hr1 H =>
 gS [r0, rg [hC 3 true [] (RI r1) []]] (by kernel_rfl) (P1 (cw_heldOddsS hr1)<|P0) <|
 eIf H (fun h2 H =>
 eW RI (fun _ => []) H<|gE func47 [rg [hT 1], r0] (by kernel_rfl) (P2 ((decide (r1 < 0)) = true) (decide_eq_true h2)<|P0))
 (fun h2 H =>
 eBind H fun r3 hr3 H =>
 gS [rg [hF 1], rg [hC 3 true [] (RI r3) []]] (by kernel_rfl) (P2 ((decide (r1 < 0)) = false) (decide_eq_false h2)<|P1 (cw_heldIntSS hr3)<|P0) <|
 eIf H (fun h4 H =>
 eW RI (fun _ => []) H<|gE func47 [rg [hT 1], r0] (by kernel_rfl) (P2 ((decide (r3 < 0)) = true) (decide_eq_true h4)<|P0))
 (fun h4 H =>
 eW RI (fun _ => []) H<|gE func47 [rg [hF 1], r0] (by kernel_rfl) (P2 ((decide (r3 < 0)) = false) (decide_eq_false h4)<|P0)))
noncomputable def Kw_heldUnitS : Sw_heldUnitS → List Item
 | .h1 .. => nav 300 2 [] [.code (bdy f99)]
def Zw_heldUnitS : Sw_heldUnitS → St
 | .h1 va0 k1 i2 => ⟨sts 49 [(0, sl 4 gi_Unit va0), (1, I k1), (5, I i2)], []⟩
abbrev Qw_heldUnitS := Nx X 99 0 Kw_heldUnitS Zw_heldUnitS RI (fun _ => [])
theorem nw_heldUnitS : ∀ s o, Bw_heldUnitS s = some o → Qw_heldUnitS (Kw_heldUnitS s) (Zw_heldUnitS s) o
 | .h1 va0 k1 i2, o, H =>
  eIf H (fun h1 H =>
  eCk H fun h2 H =>
  eBind H fun x3 hx3 H =>
  gN [rg [hT 3]] (by kernel_rfl) (P2 ((decide (i2 < ((va0.length : Nat) : Int))) = true) (decide_eq_true h1)<|P0) <|
  eIf H (fun h4 H =>
  eCk H fun h5 H =>
  eBind H fun x6 hx6 H =>
  gN [rg [hE 4 (gi_Unit x3), hF 6], r0] (by kernel_rfl) (P1 h2<|P1 (int_lt_of_at h2 hx3)<|P1 (at_map gi_Unit hx3)<|P2 (((x3.Side : Int) != k1) = false) (bneF h4)<|P0) <|
  eIf H (fun h7 H =>
  eCk H fun h8 H =>
  eBind H fun x9 hx9 H =>
  gN [rg [hE 4 (gi_Unit x6), hF 6], r0] (by kernel_rfl) (P1 h5<|P1 (int_lt_of_at h5 hx6)<|P1 (at_map gi_Unit hx6)<|P2 (((x6.Kind : Int) != (IntKind.wrap .i64 (k1 + 1))) = false) (bneF h7)<|P0) <|
  eIf H (fun h10 H =>
  eCk H fun h11 H =>
  eBind H fun x12 hx12 H =>
  gN [rg [hE 4 (gi_Unit x9), hF 6], r0] (by kernel_rfl) (P1 h8<|P1 (int_lt_of_at h8 hx9)<|P1 (at_map gi_Unit hx9)<|P2 (((x9.At : Int) != (IntKind.wrap .i64 ((IntKind.wrap .i64 (k1 + 1)) + 1))) = false) (bneF h10)<|P0) <|
  eIf H (fun h13 H =>
  eN H fun r hn => gO [rg [hE 4 (gi_Unit x12), hF 6], r0, r0, .canon [] [0, 1, 5]] (by kernel_rfl) (P1 h11<|P1 (int_lt_of_at h11 hx12)<|P1 (at_map gi_Unit hx12)<|P2 (((x12.Steps : Int) != (IntKind.wrap .i64 ((IntKind.wrap .i64 ((IntKind.wrap .i64 (k1 + 1)) + 1)) + 1))) = false) (bneF h13)<|P0) hn)
  (fun h13 H =>
  eN H<|gE func99 [rg [hE 4 (gi_Unit x12), hT 6], r0] (by kernel_rfl) (P1 h11<|P1 (int_lt_of_at h11 hx12)<|P1 (at_map gi_Unit hx12)<|P2 (((x12.Steps : Int) != (IntKind.wrap .i64 ((IntKind.wrap .i64 ((IntKind.wrap .i64 (k1 + 1)) + 1)) + 1))) = true) (bneT h13)<|P0)))
  (fun h10 H =>
  eN H<|gE func99 [rg [hE 4 (gi_Unit x9), hT 6], r0] (by kernel_rfl) (P1 h8<|P1 (int_lt_of_at h8 hx9)<|P1 (at_map gi_Unit hx9)<|P2 (((x9.At : Int) != (IntKind.wrap .i64 ((IntKind.wrap .i64 (k1 + 1)) + 1))) = true) (bneT h10)<|P0)))
  (fun h7 H =>
  eN H<|gE func99 [rg [hE 4 (gi_Unit x6), hT 6], r0] (by kernel_rfl) (P1 h5<|P1 (int_lt_of_at h5 hx6)<|P1 (at_map gi_Unit hx6)<|P2 (((x6.Kind : Int) != (IntKind.wrap .i64 (k1 + 1))) = true) (bneT h7)<|P0)))
  (fun h4 H =>
  eN H<|gE func99 [rg [hE 4 (gi_Unit x3), hT 6], r0] (by kernel_rfl) (P1 h2<|P1 (int_lt_of_at h2 hx3)<|P1 (at_map gi_Unit hx3)<|P2 (((x3.Side : Int) != k1) = true) (bneT h4)<|P0)))
  (fun h1 H =>
  eN H<|gE func99 [rg [hF 3], r0] (by kernel_rfl) (P2 ((decide (i2 < ((va0.length : Nat) : Int))) = false) (decide_eq_false h1)<|P0))
theorem ww_heldUnitS : ∀ s r, loop Bw_heldUnitS s = some r → Wc X 99 0 (Kw_heldUnitS s) (Zw_heldUnitS s) (RI r) ((fun _ => []) r) := Nx.all (nw_heldUnitS)
theorem cw_heldUnitS {a0 : (List Gi_Unit)} {a1 : Int} {r : Int} (H : Dw_heldUnitS a0 a1 = some r) : Ct X.P X.gl 99 [sl 4 gi_Unit a0, I a1] [] (RI r) [] :=
 Ct.of func99 (c := bdy f99) (by kernel_rfl) (by kernel_rfl) <|
 gO [r0, r0, .canon [] [0, 1, 5]] (by kernel_rfl) P0 (ww_heldUnitS _ _ H)
theorem cw_heldState {a0 : Gi_State} {a1 : Int} {r : Int} (H : Dw_heldState a0 a1 = some r) : Ct X.P X.gl 48 [gi_State a0, I a1] [] (RI r) [] :=
 Ct.of func48 (c := bdy f48) (by kernel_rfl) (by kernel_rfl) <|
 eBind H fun r1 hr1 H =>
 gS [r0, rg [hC 3 true [] (RI r1) []]] (by kernel_rfl) (P1 (cw_heldUnitS hr1)<|P0) <|
 eIf H (fun h2 H =>
 eW RI (fun _ => []) H<|gE func48 [rg [hT 1], r0] (by kernel_rfl) (P2 ((decide (r1 < 0)) = true) (decide_eq_true h2)<|P0))
 (fun h2 H =>
 eW RI (fun _ => []) H<|gE func48 [rg [hF 1], r0] (by kernel_rfl) (P2 ((decide (r1 < 0)) = false) (decide_eq_false h2)<|P0))
noncomputable def Kw_heldGoalS : Sw_heldGoalS → List Item
 | .h1 .. => nav 300 2 [] [.code (bdy f100)]
def Zw_heldGoalS : Sw_heldGoalS → St
 | .h1 va0 k1 i2 => ⟨sts 31 [(0, sl 2 gi_Goal va0), (1, I k1), (5, I i2)], []⟩
abbrev Qw_heldGoalS := Nx X 100 0 Kw_heldGoalS Zw_heldGoalS RI (fun _ => [])
theorem nw_heldGoalS : ∀ s o, Bw_heldGoalS s = some o → Qw_heldGoalS (Kw_heldGoalS s) (Zw_heldGoalS s) o
 | .h1 va0 k1 i2, o, H =>
  eIf H (fun h1 H =>
  eCk H fun h2 H =>
  eBind H fun x3 hx3 H =>
  gN [rg [hT 3]] (by kernel_rfl) (P2 ((decide (i2 < ((va0.length : Nat) : Int))) = true) (decide_eq_true h1)<|P0) <|
  eIf H (fun h4 H =>
  eCk H fun h5 H =>
  eBind H fun x6 hx6 H =>
  gN [rg [hE 4 (gi_Goal x3), hF 6], r0] (by kernel_rfl) (P1 h2<|P1 (int_lt_of_at h2 hx3)<|P1 (at_map gi_Goal hx3)<|P2 (((x3.At : Int) != k1) = false) (bneF h4)<|P0) <|
  eIf H (fun h7 H =>
  eN H fun r hn => gO [rg [hE 4 (gi_Goal x6), hF 6], r0, r0, .canon [] [0, 1, 5]] (by kernel_rfl) (P1 h5<|P1 (int_lt_of_at h5 hx6)<|P1 (at_map gi_Goal hx6)<|P2 (((x6.Points : Int) != (IntKind.wrap .i64 (k1 + 1))) = false) (bneF h7)<|P0) hn)
  (fun h7 H =>
  eN H<|gE func100 [rg [hE 4 (gi_Goal x6), hT 6], r0] (by kernel_rfl) (P1 h5<|P1 (int_lt_of_at h5 hx6)<|P1 (at_map gi_Goal hx6)<|P2 (((x6.Points : Int) != (IntKind.wrap .i64 (k1 + 1))) = true) (bneT h7)<|P0)))
  (fun h4 H =>
  eN H<|gE func100 [rg [hE 4 (gi_Goal x3), hT 6], r0] (by kernel_rfl) (P1 h2<|P1 (int_lt_of_at h2 hx3)<|P1 (at_map gi_Goal hx3)<|P2 (((x3.At : Int) != k1) = true) (bneT h4)<|P0)))
  (fun h1 H =>
  eN H<|gE func100 [rg [hF 3], r0] (by kernel_rfl) (P2 ((decide (i2 < ((va0.length : Nat) : Int))) = false) (decide_eq_false h1)<|P0))
theorem ww_heldGoalS : ∀ s r, loop Bw_heldGoalS s = some r → Wc X 100 0 (Kw_heldGoalS s) (Zw_heldGoalS s) (RI r) ((fun _ => []) r) := Nx.all (nw_heldGoalS)
theorem cw_heldGoalS {a0 : (List Gi_Goal)} {a1 : Int} {r : Int} (H : Dw_heldGoalS a0 a1 = some r) : Ct X.P X.gl 100 [sl 2 gi_Goal a0, I a1] [] (RI r) [] :=
 Ct.of func100 (c := bdy f100) (by kernel_rfl) (by kernel_rfl) <|
 gO [r0, r0, .canon [] [0, 1, 5]] (by kernel_rfl) P0 (ww_heldGoalS _ _ H)
theorem cw_heldConditions {a0 : Gi_Conditions} {a1 : Int} {r : Int} (H : Dw_heldConditions a0 a1 = some r) : Ct X.P X.gl 49 [gi_Conditions a0, I a1] [] (RI r) [] :=
 Ct.of func49 (c := bdy f49) (by kernel_rfl) (by kernel_rfl) <|
 eBind H fun r1 hr1 H =>
 gS [r0, rg [hC 3 true [] (RI r1) []]] (by kernel_rfl) (P1 (cw_heldGoalS hr1)<|P0) <|
 eIf H (fun h2 H =>
 eW RI (fun _ => []) H<|gE func49 [rg [hT 1], r0] (by kernel_rfl) (P2 ((decide (r1 < 0)) = true) (decide_eq_true h2)<|P0))
 (fun h2 H =>
 eW RI (fun _ => []) H<|gE func49 [rg [hF 1], r0] (by kernel_rfl) (P2 ((decide (r1 < 0)) = false) (decide_eq_false h2)<|P0))
theorem cw_heldScenario {a0 : Gi_Scenario} {a1 : Int} {r : Int} (H : Dw_heldScenario a0 a1 = some r) : Ct X.P X.gl 16 [gi_Scenario a0, I a1] [] (RI r) [] :=
 Ct.of func16 (c := bdy f16) (by kernel_rfl) (by kernel_rfl) <|
 eBind H fun r1 hr1 H =>
 gS [r0, rg [hC 3 true [] (RI r1) []]] (by kernel_rfl) (P1 (cw_heldBoard hr1)<|P0) <|
 eIf H (fun h2 H =>
 eW RI (fun _ => []) H<|gE func16 [rg [hT 1], r0] (by kernel_rfl) (P2 ((decide (r1 < 0)) = true) (decide_eq_true h2)<|P0))
 (fun h2 H =>
 eBind H fun r3 hr3 H =>
 gS [rg [hF 1], rg [hC 3 true [] (RI r3) []]] (by kernel_rfl) (P2 ((decide (r1 < 0)) = false) (decide_eq_false h2)<|P1 (cw_heldCombatTable hr3)<|P0) <|
 eIf H (fun h4 H =>
 eW RI (fun _ => []) H<|gE func16 [rg [hT 1], r0] (by kernel_rfl) (P2 ((decide (r3 < 0)) = true) (decide_eq_true h4)<|P0))
 (fun h4 H =>
 eBind H fun r5 hr5 H =>
 gS [rg [hF 1], rg [hC 3 true [] (RI r5) []]] (by kernel_rfl) (P2 ((decide (r3 < 0)) = false) (decide_eq_false h4)<|P1 (cw_heldState hr5)<|P0) <|
 eIf H (fun h6 H =>
 eW RI (fun _ => []) H<|gE func16 [rg [hT 1], r0] (by kernel_rfl) (P2 ((decide (r5 < 0)) = true) (decide_eq_true h6)<|P0))
 (fun h6 H =>
 eBind H fun r7 hr7 H =>
 gS [rg [hF 1], rg [hC 3 true [] (RI r7) []]] (by kernel_rfl) (P2 ((decide (r5 < 0)) = false) (decide_eq_false h6)<|P1 (cw_heldConditions hr7)<|P0) <|
 eIf H (fun h8 H =>
 eW RI (fun _ => []) H<|gE func16 [rg [hT 1], r0] (by kernel_rfl) (P2 ((decide (r7 < 0)) = true) (decide_eq_true h8)<|P0))
 (fun h8 H =>
 eBind H fun r9 hr9 H =>
 gS [rg [hF 1], rg [hC 3 true [] (RI r9) []]] (by kernel_rfl) (P2 ((decide (r7 < 0)) = false) (decide_eq_false h8)<|P1 (cw_heldIntS hr9)<|P0) <|
 eIf H (fun h10 H =>
 eW RI (fun _ => []) H<|gE func16 [rg [hT 1], r0] (by kernel_rfl) (P2 ((decide (r9 < 0)) = true) (decide_eq_true h10)<|P0))
 (fun h10 H =>
 eBind H fun r11 hr11 H =>
 gS [rg [hF 1], rg [hC 3 true [] (RI r11) []]] (by kernel_rfl) (P2 ((decide (r9 < 0)) = false) (decide_eq_false h10)<|P1 (cw_heldIntS hr11)<|P0) <|
 eIf H (fun h12 H =>
 eW RI (fun _ => []) H<|gE func16 [rg [hT 1], r0] (by kernel_rfl) (P2 ((decide (r11 < 0)) = true) (decide_eq_true h12)<|P0))
 (fun h12 H =>
 eW RI (fun _ => []) H<|gE func16 [rg [hF 1], r0] (by kernel_rfl) (P2 ((decide (r11 < 0)) = false) (decide_eq_false h12)<|P0)))))))
theorem cw_FnExactMirrorScenario {a0 : Gw_Scenario} {r : Bool} (H : Dw_FnExactMirrorScenario a0 = some r) : Ct X.P X.gl 4 [gw_Scenario a0] [] (RB r) [] :=
 Ct.of func4 (c := bdy f4) (by kernel_rfl) (by kernel_rfl) <|
 eBind H fun r1 hr1 H =>
 gS [r0, r0, rg [hC 2 true [] (RI r1) []]] (by kernel_rfl) (P1 (cw_szScenario hr1)<|P0) <|
 eIf H (fun h2 H =>
 eW RB (fun _ => []) H<|gE func4 [rg [hT 1], r0] (by kernel_rfl) (P2 ((decide (r1 < 0)) = true) (decide_eq_true h2)<|P0))
 (fun h2 H =>
 eBind H fun r3 hr3 H =>
 eBind H fun r4 hr4 H =>
 eBind H fun r5 hr5 H =>
 eBind H fun r6 hr6 H =>
 eBind H fun r7 hr7 H =>
 gS [rg [hF 1], rg [hC 1 true [] (Rw_toScenario r3) [], { i := 2, call := some { cl := false, ins := [], args := [gi_Scenario r3], res := Rs_MirrorScenario r4, G' := [] } }], rg [hC 1 true [] (Rw_toScenario r5) []], rg [{ i := 1, call := some { cl := false, ins := [], args := [gi_Scenario r5], res := Ri_MirrorScenario r6, G' := [] } }]] (by kernel_rfl) (P2 ((decide (r1 < 0)) = false) (decide_eq_false h2)<|P1 (cw_toScenario hr3)<|PI r3.Name<|PE ero_152 r3.Board.Rules.Terrains<|PL gi_Kind r3.Board.Rules.Kinds<|PI r3.Board.Rules.Stack<|PI r3.Board.Rules.River<|PI r3.Board.Rules.Road<|PI r3.Board.Rules.Supply<|PI r3.Board.Rules.Turns<|PI r3.Board.Map.Width<|PI r3.Board.Map.Height<|PL I r3.Board.Map.Terrain<|PL I r3.Board.Map.Rivers<|PL I r3.Board.Map.Roads<|PL gi_Odds r3.Table.Columns<|PI r3.Table.Dice<|PE ero_26 r3.Table.Results<|PI r3.Start.Turn<|PI r3.Start.Weather<|PL gi_Unit r3.Start.Units<|PL gi_Goal r3.Conditions.Goals<|PI r3.Conditions.Step<|PI r3.Conditions.Margin<|PL I r3.First<|PL I r3.Other<|P2 (nfL (List.flatMap D.cells (Rs_MirrorScenario r4))) ⟨trivial, nfL_map nfo_152 _, nfL_map nf_197 _, trivial, trivial, trivial, trivial, trivial, trivial, trivial, nfL_map nf_3 _, nfL_map nf_3 _, nfL_map nf_3 _, nfL_map nf_157 _, trivial, nfL_map nfo_26 _, trivial, trivial, nfL_map nf_83 _, nfL_map nf_80 _, trivial, trivial, nfL_map nf_3 _, nfL_map nf_3 _, trivial, trivial⟩<|P2 (nfG []) trivial<|P1 (cs_MirrorScenario hr4)<|P1 (cw_toScenario hr5)<|PI r5.Name<|PE ero_152 r5.Board.Rules.Terrains<|PL gi_Kind r5.Board.Rules.Kinds<|PI r5.Board.Rules.Stack<|PI r5.Board.Rules.River<|PI r5.Board.Rules.Road<|PI r5.Board.Rules.Supply<|PI r5.Board.Rules.Turns<|PI r5.Board.Map.Width<|PI r5.Board.Map.Height<|PL I r5.Board.Map.Terrain<|PL I r5.Board.Map.Rivers<|PL I r5.Board.Map.Roads<|PL gi_Odds r5.Table.Columns<|PI r5.Table.Dice<|PE ero_26 r5.Table.Results<|PI r5.Start.Turn<|PI r5.Start.Weather<|PL gi_Unit r5.Start.Units<|PL gi_Goal r5.Conditions.Goals<|PI r5.Conditions.Step<|PI r5.Conditions.Margin<|PL I r5.First<|PL I r5.Other<|P2 (nfL (List.flatMap D.cells (Ri_MirrorScenario r6))) ⟨trivial, nfL_map nfo_152 _, nfL_map nf_197 _, trivial, trivial, trivial, trivial, trivial, trivial, trivial, nfL_map nf_3 _, nfL_map nf_3 _, nfL_map nf_3 _, nfL_map nf_157 _, trivial, nfL_map nfo_26 _, trivial, trivial, nfL_map nf_83 _, nfL_map nf_80 _, trivial, trivial, nfL_map nf_3 _, nfL_map nf_3 _, trivial, trivial⟩<|P2 (nfG []) trivial<|P1 (ci_MirrorScenario hr6)<|P0) <|
 eIf H (fun h8 H =>
 eIf H (fun h9 H =>
 eW RB (fun _ => []) H<|gE func4 [rg [{ i := 2, call := some { cl := false, ins := [], args := [gi_Scenario r6.1, gi_Scenario r4.1], res := RB r7, G' := [] }, dec := some true }, hT 7], r0] (by kernel_rfl) (PI r6.1.Name<|PE ero_152 r6.1.Board.Rules.Terrains<|PL gi_Kind r6.1.Board.Rules.Kinds<|PI r6.1.Board.Rules.Stack<|PI r6.1.Board.Rules.River<|PI r6.1.Board.Rules.Road<|PI r6.1.Board.Rules.Supply<|PI r6.1.Board.Rules.Turns<|PI r6.1.Board.Map.Width<|PI r6.1.Board.Map.Height<|PL I r6.1.Board.Map.Terrain<|PL I r6.1.Board.Map.Rivers<|PL I r6.1.Board.Map.Roads<|PL gi_Odds r6.1.Table.Columns<|PI r6.1.Table.Dice<|PE ero_26 r6.1.Table.Results<|PI r6.1.Start.Turn<|PI r6.1.Start.Weather<|PL gi_Unit r6.1.Start.Units<|PL gi_Goal r6.1.Conditions.Goals<|PI r6.1.Conditions.Step<|PI r6.1.Conditions.Margin<|PL I r6.1.First<|PL I r6.1.Other<|PI r4.1.Name<|PE ero_152 r4.1.Board.Rules.Terrains<|PL gi_Kind r4.1.Board.Rules.Kinds<|PI r4.1.Board.Rules.Stack<|PI r4.1.Board.Rules.River<|PI r4.1.Board.Rules.Road<|PI r4.1.Board.Rules.Supply<|PI r4.1.Board.Rules.Turns<|PI r4.1.Board.Map.Width<|PI r4.1.Board.Map.Height<|PL I r4.1.Board.Map.Terrain<|PL I r4.1.Board.Map.Rivers<|PL I r4.1.Board.Map.Roads<|PL gi_Odds r4.1.Table.Columns<|PI r4.1.Table.Dice<|PE ero_26 r4.1.Table.Results<|PI r4.1.Start.Turn<|PI r4.1.Start.Weather<|PL gi_Unit r4.1.Start.Units<|PL gi_Goal r4.1.Conditions.Goals<|PI r4.1.Conditions.Step<|PI r4.1.Conditions.Margin<|PL I r4.1.First<|PL I r4.1.Other<|P1 (cw_eqScenario hr7)<|P2 (r7 = true) (h8)<|P2 ((!(r6.2 == r4.2)) = true) (h9)<|P0))
 (fun h9 H =>
 eBind H fun r10 hr10 H =>
 eBind H fun r11 hr11 H =>
 gS [rg [{ i := 2, call := some { cl := false, ins := [], args := [gi_Scenario r6.1, gi_Scenario r4.1], res := RB r7, G' := [] }, dec := some true }, hF 7]] (by kernel_rfl) (PI r6.1.Name<|PE ero_152 r6.1.Board.Rules.Terrains<|PL gi_Kind r6.1.Board.Rules.Kinds<|PI r6.1.Board.Rules.Stack<|PI r6.1.Board.Rules.River<|PI r6.1.Board.Rules.Road<|PI r6.1.Board.Rules.Supply<|PI r6.1.Board.Rules.Turns<|PI r6.1.Board.Map.Width<|PI r6.1.Board.Map.Height<|PL I r6.1.Board.Map.Terrain<|PL I r6.1.Board.Map.Rivers<|PL I r6.1.Board.Map.Roads<|PL gi_Odds r6.1.Table.Columns<|PI r6.1.Table.Dice<|PE ero_26 r6.1.Table.Results<|PI r6.1.Start.Turn<|PI r6.1.Start.Weather<|PL gi_Unit r6.1.Start.Units<|PL gi_Goal r6.1.Conditions.Goals<|PI r6.1.Conditions.Step<|PI r6.1.Conditions.Margin<|PL I r6.1.First<|PL I r6.1.Other<|PI r4.1.Name<|PE ero_152 r4.1.Board.Rules.Terrains<|PL gi_Kind r4.1.Board.Rules.Kinds<|PI r4.1.Board.Rules.Stack<|PI r4.1.Board.Rules.River<|PI r4.1.Board.Rules.Road<|PI r4.1.Board.Rules.Supply<|PI r4.1.Board.Rules.Turns<|PI r4.1.Board.Map.Width<|PI r4.1.Board.Map.Height<|PL I r4.1.Board.Map.Terrain<|PL I r4.1.Board.Map.Rivers<|PL I r4.1.Board.Map.Roads<|PL gi_Odds r4.1.Table.Columns<|PI r4.1.Table.Dice<|PE ero_26 r4.1.Table.Results<|PI r4.1.Start.Turn<|PI r4.1.Start.Weather<|PL gi_Unit r4.1.Start.Units<|PL gi_Goal r4.1.Conditions.Goals<|PI r4.1.Conditions.Step<|PI r4.1.Conditions.Margin<|PL I r4.1.First<|PL I r4.1.Other<|P1 (cw_eqScenario hr7)<|P2 (r7 = true) (h8)<|P2 ((!(r6.2 == r4.2)) = false) (eqF h9)<|P0) <|
 eIf H (fun h12 H =>
 eBind H fun r13 hr13 H =>
 eCk H fun h14 H =>
 eCk H fun h15 H =>
 eCk H fun h16 H =>
 eCk H fun h17 H =>
 eCk H fun h18 H =>
 eCk H fun h19 H =>
 eCk H fun h20 H =>
 eCk H fun h21 H =>
 eCk H fun h22 H =>
 eCk H fun h23 H =>
 eCk H fun h24 H =>
 gS [rg [hC 2 true [] (Rw_toScenario r10) [], { i := 3, call := some { cl := false, ins := [], args := [gi_Scenario r5, gi_Scenario r10], res := RB r11, G' := [] }, dec := some true }], r0, rg [{ i := 2, call := some { cl := true, ins := [51, 52, 60, 61, 62, 63, 65, 68, 69, 72, 73], args := [.agg [.str r5.Name, .ref 0 5 none, .ref 1 6 none, I r5.Board.Rules.Stack, I r5.Board.Rules.River, I r5.Board.Rules.Road, I r5.Board.Rules.Supply, I r5.Board.Rules.Turns, I r5.Board.Map.Width, I r5.Board.Map.Height, .ref 2 1 none, .ref 3 1 none, .ref 4 1 none, .ref 5 2 none, I r5.Table.Dice, .ref 6 1 none, I r5.Start.Turn, I r5.Start.Weather, .ref 7 4 none, .ref 8 2 none, I r5.Conditions.Step, I r5.Conditions.Margin, .ref 9 1 none, .ref 10 1 none], I 1], res := Rw_markScenario r13, G' := Nw_markScenario r13 } }]] (by kernel_rfl) (P1 (cw_toScenario hr10)<|PI r5.Name<|PE ero_152 r5.Board.Rules.Terrains<|PL gi_Kind r5.Board.Rules.Kinds<|PI r5.Board.Rules.Stack<|PI r5.Board.Rules.River<|PI r5.Board.Rules.Road<|PI r5.Board.Rules.Supply<|PI r5.Board.Rules.Turns<|PI r5.Board.Map.Width<|PI r5.Board.Map.Height<|PL I r5.Board.Map.Terrain<|PL I r5.Board.Map.Rivers<|PL I r5.Board.Map.Roads<|PL gi_Odds r5.Table.Columns<|PI r5.Table.Dice<|PE ero_26 r5.Table.Results<|PI r5.Start.Turn<|PI r5.Start.Weather<|PL gi_Unit r5.Start.Units<|PL gi_Goal r5.Conditions.Goals<|PI r5.Conditions.Step<|PI r5.Conditions.Margin<|PL I r5.First<|PL I r5.Other<|PI r10.Name<|PE ero_152 r10.Board.Rules.Terrains<|PL gi_Kind r10.Board.Rules.Kinds<|PI r10.Board.Rules.Stack<|PI r10.Board.Rules.River<|PI r10.Board.Rules.Road<|PI r10.Board.Rules.Supply<|PI r10.Board.Rules.Turns<|PI r10.Board.Map.Width<|PI r10.Board.Map.Height<|PL I r10.Board.Map.Terrain<|PL I r10.Board.Map.Rivers<|PL I r10.Board.Map.Roads<|PL gi_Odds r10.Table.Columns<|PI r10.Table.Dice<|PE ero_26 r10.Table.Results<|PI r10.Start.Turn<|PI r10.Start.Weather<|PL gi_Unit r10.Start.Units<|PL gi_Goal r10.Conditions.Goals<|PI r10.Conditions.Step<|PI r10.Conditions.Margin<|PL I r10.First<|PL I r10.Other<|P1 (cw_eqScenario hr11)<|P2 (r11 = true) (h12)<|PI r5.Name<|PN<|PN<|PI r5.Board.Rules.Stack<|PI r5.Board.Rules.River<|PI r5.Board.Rules.Road<|PI r5.Board.Rules.Supply<|PI r5.Board.Rules.Turns<|PI r5.Board.Map.Width<|PI r5.Board.Map.Height<|PN<|PN<|PN<|PN<|PI r5.Table.Dice<|PN<|PI r5.Start.Turn<|PI r5.Start.Weather<|PN<|PN<|PI r5.Conditions.Step<|PI r5.Conditions.Margin<|PN<|PN<|PI (1 : Int)<|P1 h14<|P1 h15<|P1 h16<|P1 h17<|P1 h18<|P1 h19<|P1 h20<|P1 h21<|P1 h22<|P1 h23<|P1 h24<|P1 (cw_markScenario hr13)<|P0) <|
 eIf H (fun h25 H =>
 eW RB (fun _ => []) H<|gE func4 [rg [hT 1], r0] (by kernel_rfl) (P2 ((decide (r13.1 < 0)) = true) (decide_eq_true h25)<|P0))
 (fun h25 H =>
 eBind H fun r26 hr26 H =>
 eIf H (fun h27 H =>
 eIf H (fun h28 H =>
 eW RB (fun _ => []) H<|gE func4 [rg [hF 1, { i := 5, call := some { cl := false, ins := [], args := [gi_Scenario r6.1, gi_Scenario r4.1], res := RB r26, G' := [] }, dec := some true }, hT 11], r0] (by kernel_rfl) (P2 ((decide (r13.1 < 0)) = false) (decide_eq_false h25)<|PI r6.1.Name<|PE ero_152 r6.1.Board.Rules.Terrains<|PL gi_Kind r6.1.Board.Rules.Kinds<|PI r6.1.Board.Rules.Stack<|PI r6.1.Board.Rules.River<|PI r6.1.Board.Rules.Road<|PI r6.1.Board.Rules.Supply<|PI r6.1.Board.Rules.Turns<|PI r6.1.Board.Map.Width<|PI r6.1.Board.Map.Height<|PL I r6.1.Board.Map.Terrain<|PL I r6.1.Board.Map.Rivers<|PL I r6.1.Board.Map.Roads<|PL gi_Odds r6.1.Table.Columns<|PI r6.1.Table.Dice<|PE ero_26 r6.1.Table.Results<|PI r6.1.Start.Turn<|PI r6.1.Start.Weather<|PL gi_Unit r6.1.Start.Units<|PL gi_Goal r6.1.Conditions.Goals<|PI r6.1.Conditions.Step<|PI r6.1.Conditions.Margin<|PL I r6.1.First<|PL I r6.1.Other<|PI r4.1.Name<|PE ero_152 r4.1.Board.Rules.Terrains<|PL gi_Kind r4.1.Board.Rules.Kinds<|PI r4.1.Board.Rules.Stack<|PI r4.1.Board.Rules.River<|PI r4.1.Board.Rules.Road<|PI r4.1.Board.Rules.Supply<|PI r4.1.Board.Rules.Turns<|PI r4.1.Board.Map.Width<|PI r4.1.Board.Map.Height<|PL I r4.1.Board.Map.Terrain<|PL I r4.1.Board.Map.Rivers<|PL I r4.1.Board.Map.Roads<|PL gi_Odds r4.1.Table.Columns<|PI r4.1.Table.Dice<|PE ero_26 r4.1.Table.Results<|PI r4.1.Start.Turn<|PI r4.1.Start.Weather<|PL gi_Unit r4.1.Start.Units<|PL gi_Goal r4.1.Conditions.Goals<|PI r4.1.Conditions.Step<|PI r4.1.Conditions.Margin<|PL I r4.1.First<|PL I r4.1.Other<|P1 (cw_eqScenario hr26)<|P2 (r26 = true) (h27)<|P2 ((!(r6.2 == r4.2)) = true) (h28)<|P0))
 (fun h28 H =>
 eBind H fun r29 hr29 H =>
 eCk H fun h30 H =>
 eCk H fun h31 H =>
 eCk H fun h32 H =>
 eCk H fun h33 H =>
 eCk H fun h34 H =>
 eCk H fun h35 H =>
 eCk H fun h36 H =>
 eCk H fun h37 H =>
 eCk H fun h38 H =>
 eCk H fun h39 H =>
 eCk H fun h40 H =>
 eBind H fun r41 hr41 H =>
 gS [rg [hF 1, { i := 5, call := some { cl := false, ins := [], args := [gi_Scenario r6.1, gi_Scenario r4.1], res := RB r26, G' := [] }, dec := some true }, hF 11], r0, rg [{ i := 2, call := some { cl := true, ins := [76, 77, 85, 86, 87, 88, 90, 93, 94, 97, 98], args := [.agg [.str r6.1.Name, .ref 0 5 none, .ref 1 6 none, I r6.1.Board.Rules.Stack, I r6.1.Board.Rules.River, I r6.1.Board.Rules.Road, I r6.1.Board.Rules.Supply, I r6.1.Board.Rules.Turns, I r6.1.Board.Map.Width, I r6.1.Board.Map.Height, .ref 2 1 none, .ref 3 1 none, .ref 4 1 none, .ref 5 2 none, I r6.1.Table.Dice, .ref 6 1 none, I r6.1.Start.Turn, I r6.1.Start.Weather, .ref 7 4 none, .ref 8 2 none, I r6.1.Conditions.Step, I r6.1.Conditions.Margin, .ref 9 1 none, .ref 10 1 none], I 1], res := Rw_markScenario r29, G' := Nw_markScenario r29 } }], r0, rg [{ i := 2, call := some { cl := false, ins := [], args := [.agg [.str r6.1.Name, sl 5 gi_Terrain r29.2.1, sl 6 gi_Kind r29.2.2.1, I r6.1.Board.Rules.Stack, I r6.1.Board.Rules.River, I r6.1.Board.Rules.Road, I r6.1.Board.Rules.Supply, I r6.1.Board.Rules.Turns, I r6.1.Board.Map.Width, I r6.1.Board.Map.Height, sl 1 I r29.2.2.2.1, sl 1 I r29.2.2.2.2.1, sl 1 I r29.2.2.2.2.2.1, sl 2 gi_Odds r29.2.2.2.2.2.2.1, I r6.1.Table.Dice, sl 1 (sl 1 I) r29.2.2.2.2.2.2.2.1, I r6.1.Start.Turn, I r6.1.Start.Weather, sl 4 gi_Unit r29.2.2.2.2.2.2.2.2.1, sl 2 gi_Goal r29.2.2.2.2.2.2.2.2.2.1, I r6.1.Conditions.Step, I r6.1.Conditions.Margin, sl 1 I r29.2.2.2.2.2.2.2.2.2.2.1, sl 1 I r29.2.2.2.2.2.2.2.2.2.2.2], I 1], res := RI r41, G' := [] } }]] (by kernel_rfl) (P2 ((decide (r13.1 < 0)) = false) (decide_eq_false h25)<|PI r6.1.Name<|PE ero_152 r6.1.Board.Rules.Terrains<|PL gi_Kind r6.1.Board.Rules.Kinds<|PI r6.1.Board.Rules.Stack<|PI r6.1.Board.Rules.River<|PI r6.1.Board.Rules.Road<|PI r6.1.Board.Rules.Supply<|PI r6.1.Board.Rules.Turns<|PI r6.1.Board.Map.Width<|PI r6.1.Board.Map.Height<|PL I r6.1.Board.Map.Terrain<|PL I r6.1.Board.Map.Rivers<|PL I r6.1.Board.Map.Roads<|PL gi_Odds r6.1.Table.Columns<|PI r6.1.Table.Dice<|PE ero_26 r6.1.Table.Results<|PI r6.1.Start.Turn<|PI r6.1.Start.Weather<|PL gi_Unit r6.1.Start.Units<|PL gi_Goal r6.1.Conditions.Goals<|PI r6.1.Conditions.Step<|PI r6.1.Conditions.Margin<|PL I r6.1.First<|PL I r6.1.Other<|PI r4.1.Name<|PE ero_152 r4.1.Board.Rules.Terrains<|PL gi_Kind r4.1.Board.Rules.Kinds<|PI r4.1.Board.Rules.Stack<|PI r4.1.Board.Rules.River<|PI r4.1.Board.Rules.Road<|PI r4.1.Board.Rules.Supply<|PI r4.1.Board.Rules.Turns<|PI r4.1.Board.Map.Width<|PI r4.1.Board.Map.Height<|PL I r4.1.Board.Map.Terrain<|PL I r4.1.Board.Map.Rivers<|PL I r4.1.Board.Map.Roads<|PL gi_Odds r4.1.Table.Columns<|PI r4.1.Table.Dice<|PE ero_26 r4.1.Table.Results<|PI r4.1.Start.Turn<|PI r4.1.Start.Weather<|PL gi_Unit r4.1.Start.Units<|PL gi_Goal r4.1.Conditions.Goals<|PI r4.1.Conditions.Step<|PI r4.1.Conditions.Margin<|PL I r4.1.First<|PL I r4.1.Other<|P1 (cw_eqScenario hr26)<|P2 (r26 = true) (h27)<|P2 ((!(r6.2 == r4.2)) = false) (eqF h28)<|PI r6.1.Name<|PN<|PN<|PI r6.1.Board.Rules.Stack<|PI r6.1.Board.Rules.River<|PI r6.1.Board.Rules.Road<|PI r6.1.Board.Rules.Supply<|PI r6.1.Board.Rules.Turns<|PI r6.1.Board.Map.Width<|PI r6.1.Board.Map.Height<|PN<|PN<|PN<|PN<|PI r6.1.Table.Dice<|PN<|PI r6.1.Start.Turn<|PI r6.1.Start.Weather<|PN<|PN<|PI r6.1.Conditions.Step<|PI r6.1.Conditions.Margin<|PN<|PN<|PI (1 : Int)<|P1 h30<|P1 h31<|P1 h32<|P1 h33<|P1 h34<|P1 h35<|P1 h36<|P1 h37<|P1 h38<|P1 h39<|P1 h40<|P1 (cw_markScenario hr29)<|PI r6.1.Name<|PE ero_152 r29.2.1<|PL gi_Kind r29.2.2.1<|PI r6.1.Board.Rules.Stack<|PI r6.1.Board.Rules.River<|PI r6.1.Board.Rules.Road<|PI r6.1.Board.Rules.Supply<|PI r6.1.Board.Rules.Turns<|PI r6.1.Board.Map.Width<|PI r6.1.Board.Map.Height<|PL I r29.2.2.2.1<|PL I r29.2.2.2.2.1<|PL I r29.2.2.2.2.2.1<|PL gi_Odds r29.2.2.2.2.2.2.1<|PI r6.1.Table.Dice<|PE ero_26 r29.2.2.2.2.2.2.2.1<|PI r6.1.Start.Turn<|PI r6.1.Start.Weather<|PL gi_Unit r29.2.2.2.2.2.2.2.2.1<|PL gi_Goal r29.2.2.2.2.2.2.2.2.2.1<|PI r6.1.Conditions.Step<|PI r6.1.Conditions.Margin<|PL I r29.2.2.2.2.2.2.2.2.2.2.1<|PL I r29.2.2.2.2.2.2.2.2.2.2.2<|PI (1 : Int)<|P1 (cw_heldScenario hr41)<|P0) <|
 eIf H (fun h42 H =>
 eW RB (fun _ => []) H<|gE func4 [rg [hT 1], r0] (by kernel_rfl) (P2 ((decide (r41 < 0)) = true) (decide_eq_true h42)<|P0))
 (fun h42 H =>
 gS [rg [hF 1]] (by kernel_rfl) (P2 ((decide (r41 < 0)) = false) (decide_eq_false h42)<|P0) <|
 eIf H (fun h43 H =>
 eBind H fun r44 hr44 H =>
 eBind H fun r45 hr45 H =>
 eBind H fun r46 hr46 H =>
 gS [rg [hF 2], rg [hC 1 true [] (Rw_toScenario r44) [], { i := 2, call := some { cl := false, ins := [], args := [gi_Scenario r44], res := Ri_MirrorScenario r45, G' := [] } }]] (by kernel_rfl) (P2 (((r41 : Int) != r29.1) = false) (bneF h43)<|P1 (cw_toScenario hr44)<|PI r44.Name<|PE ero_152 r44.Board.Rules.Terrains<|PL gi_Kind r44.Board.Rules.Kinds<|PI r44.Board.Rules.Stack<|PI r44.Board.Rules.River<|PI r44.Board.Rules.Road<|PI r44.Board.Rules.Supply<|PI r44.Board.Rules.Turns<|PI r44.Board.Map.Width<|PI r44.Board.Map.Height<|PL I r44.Board.Map.Terrain<|PL I r44.Board.Map.Rivers<|PL I r44.Board.Map.Roads<|PL gi_Odds r44.Table.Columns<|PI r44.Table.Dice<|PE ero_26 r44.Table.Results<|PI r44.Start.Turn<|PI r44.Start.Weather<|PL gi_Unit r44.Start.Units<|PL gi_Goal r44.Conditions.Goals<|PI r44.Conditions.Step<|PI r44.Conditions.Margin<|PL I r44.First<|PL I r44.Other<|P2 (nfL (List.flatMap D.cells (Ri_MirrorScenario r45))) ⟨trivial, nfL_map nfo_152 _, nfL_map nf_197 _, trivial, trivial, trivial, trivial, trivial, trivial, trivial, nfL_map nf_3 _, nfL_map nf_3 _, nfL_map nf_3 _, nfL_map nf_157 _, trivial, nfL_map nfo_26 _, trivial, trivial, nfL_map nf_83 _, nfL_map nf_80 _, trivial, trivial, nfL_map nf_3 _, nfL_map nf_3 _, trivial, trivial⟩<|P2 (nfG []) trivial<|P1 (ci_MirrorScenario hr45)<|P0) <|
 eIf H (fun h47 H =>
 eIf H (fun h48 H =>
 eW RB (fun _ => []) H<|gE func4 [rg [{ i := 2, call := some { cl := false, ins := [], args := [gi_Scenario r45.1, gi_Scenario r4.1], res := RB r46, G' := [] }, dec := some true }, hT 7], r0] (by kernel_rfl) (PI r45.1.Name<|PE ero_152 r45.1.Board.Rules.Terrains<|PL gi_Kind r45.1.Board.Rules.Kinds<|PI r45.1.Board.Rules.Stack<|PI r45.1.Board.Rules.River<|PI r45.1.Board.Rules.Road<|PI r45.1.Board.Rules.Supply<|PI r45.1.Board.Rules.Turns<|PI r45.1.Board.Map.Width<|PI r45.1.Board.Map.Height<|PL I r45.1.Board.Map.Terrain<|PL I r45.1.Board.Map.Rivers<|PL I r45.1.Board.Map.Roads<|PL gi_Odds r45.1.Table.Columns<|PI r45.1.Table.Dice<|PE ero_26 r45.1.Table.Results<|PI r45.1.Start.Turn<|PI r45.1.Start.Weather<|PL gi_Unit r45.1.Start.Units<|PL gi_Goal r45.1.Conditions.Goals<|PI r45.1.Conditions.Step<|PI r45.1.Conditions.Margin<|PL I r45.1.First<|PL I r45.1.Other<|PI r4.1.Name<|PE ero_152 r4.1.Board.Rules.Terrains<|PL gi_Kind r4.1.Board.Rules.Kinds<|PI r4.1.Board.Rules.Stack<|PI r4.1.Board.Rules.River<|PI r4.1.Board.Rules.Road<|PI r4.1.Board.Rules.Supply<|PI r4.1.Board.Rules.Turns<|PI r4.1.Board.Map.Width<|PI r4.1.Board.Map.Height<|PL I r4.1.Board.Map.Terrain<|PL I r4.1.Board.Map.Rivers<|PL I r4.1.Board.Map.Roads<|PL gi_Odds r4.1.Table.Columns<|PI r4.1.Table.Dice<|PE ero_26 r4.1.Table.Results<|PI r4.1.Start.Turn<|PI r4.1.Start.Weather<|PL gi_Unit r4.1.Start.Units<|PL gi_Goal r4.1.Conditions.Goals<|PI r4.1.Conditions.Step<|PI r4.1.Conditions.Margin<|PL I r4.1.First<|PL I r4.1.Other<|P1 (cw_eqScenario hr46)<|P2 (r46 = true) (h47)<|P2 ((!(r45.2 == r4.2)) = true) (h48)<|P0))
 (fun h48 H =>
 eBind H fun r49 hr49 H =>
 gS [rg [{ i := 2, call := some { cl := false, ins := [], args := [gi_Scenario r45.1, gi_Scenario r4.1], res := RB r46, G' := [] }, dec := some true }, hF 7], r0, rg [{ i := 2, call := some { cl := false, ins := [], args := [.agg [.str r6.1.Name, sl 5 gi_Terrain r29.2.1, sl 6 gi_Kind r29.2.2.1, I r6.1.Board.Rules.Stack, I r6.1.Board.Rules.River, I r6.1.Board.Rules.Road, I r6.1.Board.Rules.Supply, I r6.1.Board.Rules.Turns, I r6.1.Board.Map.Width, I r6.1.Board.Map.Height, sl 1 I r29.2.2.2.1, sl 1 I r29.2.2.2.2.1, sl 1 I r29.2.2.2.2.2.1, sl 2 gi_Odds r29.2.2.2.2.2.2.1, I r6.1.Table.Dice, sl 1 (sl 1 I) r29.2.2.2.2.2.2.2.1, I r6.1.Start.Turn, I r6.1.Start.Weather, sl 4 gi_Unit r29.2.2.2.2.2.2.2.2.1, sl 2 gi_Goal r29.2.2.2.2.2.2.2.2.2.1, I r6.1.Conditions.Step, I r6.1.Conditions.Margin, sl 1 I r29.2.2.2.2.2.2.2.2.2.2.1, sl 1 I r29.2.2.2.2.2.2.2.2.2.2.2], I 1], res := RI r49, G' := [] } }]] (by kernel_rfl) (PI r45.1.Name<|PE ero_152 r45.1.Board.Rules.Terrains<|PL gi_Kind r45.1.Board.Rules.Kinds<|PI r45.1.Board.Rules.Stack<|PI r45.1.Board.Rules.River<|PI r45.1.Board.Rules.Road<|PI r45.1.Board.Rules.Supply<|PI r45.1.Board.Rules.Turns<|PI r45.1.Board.Map.Width<|PI r45.1.Board.Map.Height<|PL I r45.1.Board.Map.Terrain<|PL I r45.1.Board.Map.Rivers<|PL I r45.1.Board.Map.Roads<|PL gi_Odds r45.1.Table.Columns<|PI r45.1.Table.Dice<|PE ero_26 r45.1.Table.Results<|PI r45.1.Start.Turn<|PI r45.1.Start.Weather<|PL gi_Unit r45.1.Start.Units<|PL gi_Goal r45.1.Conditions.Goals<|PI r45.1.Conditions.Step<|PI r45.1.Conditions.Margin<|PL I r45.1.First<|PL I r45.1.Other<|PI r4.1.Name<|PE ero_152 r4.1.Board.Rules.Terrains<|PL gi_Kind r4.1.Board.Rules.Kinds<|PI r4.1.Board.Rules.Stack<|PI r4.1.Board.Rules.River<|PI r4.1.Board.Rules.Road<|PI r4.1.Board.Rules.Supply<|PI r4.1.Board.Rules.Turns<|PI r4.1.Board.Map.Width<|PI r4.1.Board.Map.Height<|PL I r4.1.Board.Map.Terrain<|PL I r4.1.Board.Map.Rivers<|PL I r4.1.Board.Map.Roads<|PL gi_Odds r4.1.Table.Columns<|PI r4.1.Table.Dice<|PE ero_26 r4.1.Table.Results<|PI r4.1.Start.Turn<|PI r4.1.Start.Weather<|PL gi_Unit r4.1.Start.Units<|PL gi_Goal r4.1.Conditions.Goals<|PI r4.1.Conditions.Step<|PI r4.1.Conditions.Margin<|PL I r4.1.First<|PL I r4.1.Other<|P1 (cw_eqScenario hr46)<|P2 (r46 = true) (h47)<|P2 ((!(r45.2 == r4.2)) = false) (eqF h48)<|PI r6.1.Name<|PE ero_152 r29.2.1<|PL gi_Kind r29.2.2.1<|PI r6.1.Board.Rules.Stack<|PI r6.1.Board.Rules.River<|PI r6.1.Board.Rules.Road<|PI r6.1.Board.Rules.Supply<|PI r6.1.Board.Rules.Turns<|PI r6.1.Board.Map.Width<|PI r6.1.Board.Map.Height<|PL I r29.2.2.2.1<|PL I r29.2.2.2.2.1<|PL I r29.2.2.2.2.2.1<|PL gi_Odds r29.2.2.2.2.2.2.1<|PI r6.1.Table.Dice<|PE ero_26 r29.2.2.2.2.2.2.2.1<|PI r6.1.Start.Turn<|PI r6.1.Start.Weather<|PL gi_Unit r29.2.2.2.2.2.2.2.2.1<|PL gi_Goal r29.2.2.2.2.2.2.2.2.2.1<|PI r6.1.Conditions.Step<|PI r6.1.Conditions.Margin<|PL I r29.2.2.2.2.2.2.2.2.2.2.1<|PL I r29.2.2.2.2.2.2.2.2.2.2.2<|PI (1 : Int)<|P1 (cw_heldScenario hr49)<|P0) <|
 eIf H (fun h50 H =>
 eW RB (fun _ => []) H<|gE func4 [rg [hT 1], r0] (by kernel_rfl) (P2 ((decide (r49 < 0)) = true) (decide_eq_true h50)<|P0))
 (fun h50 H =>
 gS [rg [hF 1]] (by kernel_rfl) (P2 ((decide (r49 < 0)) = false) (decide_eq_false h50)<|P0) <|
 eIf H (fun h51 H =>
 eW RB (fun _ => []) H<|gE func4 [rg [hF 2], r0] (by kernel_rfl) (P2 (((r49 : Int) != r29.1) = false) (bneF h51)<|P0))
 (fun h51 H =>
 eW RB (fun _ => []) H<|gE func4 [rg [hT 2], r0] (by kernel_rfl) (P2 (((r49 : Int) != r29.1) = true) (bneT h51)<|P0)))))
 (fun h47 H =>
 eW RB (fun _ => []) H<|gE func4 [rg [{ i := 2, call := some { cl := false, ins := [], args := [gi_Scenario r45.1, gi_Scenario r4.1], res := RB r46, G' := [] }, dec := some false }], r0] (by kernel_rfl) (PI r45.1.Name<|PE ero_152 r45.1.Board.Rules.Terrains<|PL gi_Kind r45.1.Board.Rules.Kinds<|PI r45.1.Board.Rules.Stack<|PI r45.1.Board.Rules.River<|PI r45.1.Board.Rules.Road<|PI r45.1.Board.Rules.Supply<|PI r45.1.Board.Rules.Turns<|PI r45.1.Board.Map.Width<|PI r45.1.Board.Map.Height<|PL I r45.1.Board.Map.Terrain<|PL I r45.1.Board.Map.Rivers<|PL I r45.1.Board.Map.Roads<|PL gi_Odds r45.1.Table.Columns<|PI r45.1.Table.Dice<|PE ero_26 r45.1.Table.Results<|PI r45.1.Start.Turn<|PI r45.1.Start.Weather<|PL gi_Unit r45.1.Start.Units<|PL gi_Goal r45.1.Conditions.Goals<|PI r45.1.Conditions.Step<|PI r45.1.Conditions.Margin<|PL I r45.1.First<|PL I r45.1.Other<|PI r4.1.Name<|PE ero_152 r4.1.Board.Rules.Terrains<|PL gi_Kind r4.1.Board.Rules.Kinds<|PI r4.1.Board.Rules.Stack<|PI r4.1.Board.Rules.River<|PI r4.1.Board.Rules.Road<|PI r4.1.Board.Rules.Supply<|PI r4.1.Board.Rules.Turns<|PI r4.1.Board.Map.Width<|PI r4.1.Board.Map.Height<|PL I r4.1.Board.Map.Terrain<|PL I r4.1.Board.Map.Rivers<|PL I r4.1.Board.Map.Roads<|PL gi_Odds r4.1.Table.Columns<|PI r4.1.Table.Dice<|PE ero_26 r4.1.Table.Results<|PI r4.1.Start.Turn<|PI r4.1.Start.Weather<|PL gi_Unit r4.1.Start.Units<|PL gi_Goal r4.1.Conditions.Goals<|PI r4.1.Conditions.Step<|PI r4.1.Conditions.Margin<|PL I r4.1.First<|PL I r4.1.Other<|P1 (cw_eqScenario hr46)<|P2 (r46 = false) (eqF h47)<|P0)))
 (fun h43 H =>
 eW RB (fun _ => []) H<|gE func4 [rg [hT 2], r0] (by kernel_rfl) (P2 (((r41 : Int) != r29.1) = true) (bneT h43)<|P0)))))
 (fun h27 H =>
 eW RB (fun _ => []) H<|gE func4 [rg [hF 1, { i := 5, call := some { cl := false, ins := [], args := [gi_Scenario r6.1, gi_Scenario r4.1], res := RB r26, G' := [] }, dec := some false }], r0] (by kernel_rfl) (P2 ((decide (r13.1 < 0)) = false) (decide_eq_false h25)<|PI r6.1.Name<|PE ero_152 r6.1.Board.Rules.Terrains<|PL gi_Kind r6.1.Board.Rules.Kinds<|PI r6.1.Board.Rules.Stack<|PI r6.1.Board.Rules.River<|PI r6.1.Board.Rules.Road<|PI r6.1.Board.Rules.Supply<|PI r6.1.Board.Rules.Turns<|PI r6.1.Board.Map.Width<|PI r6.1.Board.Map.Height<|PL I r6.1.Board.Map.Terrain<|PL I r6.1.Board.Map.Rivers<|PL I r6.1.Board.Map.Roads<|PL gi_Odds r6.1.Table.Columns<|PI r6.1.Table.Dice<|PE ero_26 r6.1.Table.Results<|PI r6.1.Start.Turn<|PI r6.1.Start.Weather<|PL gi_Unit r6.1.Start.Units<|PL gi_Goal r6.1.Conditions.Goals<|PI r6.1.Conditions.Step<|PI r6.1.Conditions.Margin<|PL I r6.1.First<|PL I r6.1.Other<|PI r4.1.Name<|PE ero_152 r4.1.Board.Rules.Terrains<|PL gi_Kind r4.1.Board.Rules.Kinds<|PI r4.1.Board.Rules.Stack<|PI r4.1.Board.Rules.River<|PI r4.1.Board.Rules.Road<|PI r4.1.Board.Rules.Supply<|PI r4.1.Board.Rules.Turns<|PI r4.1.Board.Map.Width<|PI r4.1.Board.Map.Height<|PL I r4.1.Board.Map.Terrain<|PL I r4.1.Board.Map.Rivers<|PL I r4.1.Board.Map.Roads<|PL gi_Odds r4.1.Table.Columns<|PI r4.1.Table.Dice<|PE ero_26 r4.1.Table.Results<|PI r4.1.Start.Turn<|PI r4.1.Start.Weather<|PL gi_Unit r4.1.Start.Units<|PL gi_Goal r4.1.Conditions.Goals<|PI r4.1.Conditions.Step<|PI r4.1.Conditions.Margin<|PL I r4.1.First<|PL I r4.1.Other<|P1 (cw_eqScenario hr26)<|P2 (r26 = false) (eqF h27)<|P0))))
 (fun h12 H =>
 eW RB (fun _ => []) H<|gE func4 [rg [hC 2 true [] (Rw_toScenario r10) [], { i := 3, call := some { cl := false, ins := [], args := [gi_Scenario r5, gi_Scenario r10], res := RB r11, G' := [] }, dec := some false }], r0] (by kernel_rfl) (P1 (cw_toScenario hr10)<|PI r5.Name<|PE ero_152 r5.Board.Rules.Terrains<|PL gi_Kind r5.Board.Rules.Kinds<|PI r5.Board.Rules.Stack<|PI r5.Board.Rules.River<|PI r5.Board.Rules.Road<|PI r5.Board.Rules.Supply<|PI r5.Board.Rules.Turns<|PI r5.Board.Map.Width<|PI r5.Board.Map.Height<|PL I r5.Board.Map.Terrain<|PL I r5.Board.Map.Rivers<|PL I r5.Board.Map.Roads<|PL gi_Odds r5.Table.Columns<|PI r5.Table.Dice<|PE ero_26 r5.Table.Results<|PI r5.Start.Turn<|PI r5.Start.Weather<|PL gi_Unit r5.Start.Units<|PL gi_Goal r5.Conditions.Goals<|PI r5.Conditions.Step<|PI r5.Conditions.Margin<|PL I r5.First<|PL I r5.Other<|PI r10.Name<|PE ero_152 r10.Board.Rules.Terrains<|PL gi_Kind r10.Board.Rules.Kinds<|PI r10.Board.Rules.Stack<|PI r10.Board.Rules.River<|PI r10.Board.Rules.Road<|PI r10.Board.Rules.Supply<|PI r10.Board.Rules.Turns<|PI r10.Board.Map.Width<|PI r10.Board.Map.Height<|PL I r10.Board.Map.Terrain<|PL I r10.Board.Map.Rivers<|PL I r10.Board.Map.Roads<|PL gi_Odds r10.Table.Columns<|PI r10.Table.Dice<|PE ero_26 r10.Table.Results<|PI r10.Start.Turn<|PI r10.Start.Weather<|PL gi_Unit r10.Start.Units<|PL gi_Goal r10.Conditions.Goals<|PI r10.Conditions.Step<|PI r10.Conditions.Margin<|PL I r10.First<|PL I r10.Other<|P1 (cw_eqScenario hr11)<|P2 (r11 = false) (eqF h12)<|P0))))
 (fun h8 H =>
 eW RB (fun _ => []) H<|gE func4 [rg [{ i := 2, call := some { cl := false, ins := [], args := [gi_Scenario r6.1, gi_Scenario r4.1], res := RB r7, G' := [] }, dec := some false }], r0] (by kernel_rfl) (PI r6.1.Name<|PE ero_152 r6.1.Board.Rules.Terrains<|PL gi_Kind r6.1.Board.Rules.Kinds<|PI r6.1.Board.Rules.Stack<|PI r6.1.Board.Rules.River<|PI r6.1.Board.Rules.Road<|PI r6.1.Board.Rules.Supply<|PI r6.1.Board.Rules.Turns<|PI r6.1.Board.Map.Width<|PI r6.1.Board.Map.Height<|PL I r6.1.Board.Map.Terrain<|PL I r6.1.Board.Map.Rivers<|PL I r6.1.Board.Map.Roads<|PL gi_Odds r6.1.Table.Columns<|PI r6.1.Table.Dice<|PE ero_26 r6.1.Table.Results<|PI r6.1.Start.Turn<|PI r6.1.Start.Weather<|PL gi_Unit r6.1.Start.Units<|PL gi_Goal r6.1.Conditions.Goals<|PI r6.1.Conditions.Step<|PI r6.1.Conditions.Margin<|PL I r6.1.First<|PL I r6.1.Other<|PI r4.1.Name<|PE ero_152 r4.1.Board.Rules.Terrains<|PL gi_Kind r4.1.Board.Rules.Kinds<|PI r4.1.Board.Rules.Stack<|PI r4.1.Board.Rules.River<|PI r4.1.Board.Rules.Road<|PI r4.1.Board.Rules.Supply<|PI r4.1.Board.Rules.Turns<|PI r4.1.Board.Map.Width<|PI r4.1.Board.Map.Height<|PL I r4.1.Board.Map.Terrain<|PL I r4.1.Board.Map.Rivers<|PL I r4.1.Board.Map.Roads<|PL gi_Odds r4.1.Table.Columns<|PI r4.1.Table.Dice<|PE ero_26 r4.1.Table.Results<|PI r4.1.Start.Turn<|PI r4.1.Start.Weather<|PL gi_Unit r4.1.Start.Units<|PL gi_Goal r4.1.Conditions.Goals<|PI r4.1.Conditions.Step<|PI r4.1.Conditions.Margin<|PL I r4.1.First<|PL I r4.1.Other<|P1 (cw_eqScenario hr7)<|P2 (r7 = false) (eqF h8)<|P0)))
end Go.Proofs.YtdafkeddonfjkaaGreatDoor.Ab
