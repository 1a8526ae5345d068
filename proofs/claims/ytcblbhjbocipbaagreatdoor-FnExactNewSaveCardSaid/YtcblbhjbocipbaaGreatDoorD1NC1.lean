/- Part of the proof of FnExactNewSaveCard: no condition of its own. -/
import Derived.Test.YtcblbhjbocipbaaGreatDoorD1NC
set_option linter.unusedVariables false
set_option linter.unusedSimpArgs false
open Go Go.Proofs Go.Proofs.Tryz
namespace Go.Proofs.YtcblbhjbocipbaaGreatDoor.Ab
noncomputable def Ki_IsCombatTable : Si_IsCombatTable → List Item
 | .h1 .. => nav 300 3 [false] [.code (bdy f121)]
 | .h2 .. => nav 300 5 [false, false] [.code (bdy f121)]
def Zi_IsCombatTable : Si_IsCombatTable → St
 | .h1 t0 t1 t2 b3 => ⟨sts 90 [(1, .ptr 0 3 0 0), (29, sl 2 gi_Odds t0), (30, I t1), (31, I t2)], [some ⟨false, true, 3, 1, [gi_CombatTable b3]⟩]⟩
 | .h2 t0 t1 t2 b3 => ⟨sts 90 [(1, .ptr 0 3 0 0), (73, sl 1 (sl 1 I) t0), (74, I t1), (75, I t2)], [some ⟨false, true, 3, 1, [gi_CombatTable b3]⟩]⟩
abbrev Qi_IsCombatTable := Nx X 121 0 Ki_IsCombatTable Zi_IsCombatTable RB (fun _ => [])
theorem ni_IsCombatTable : ∀ s o, Bi_IsCombatTable s = some o → Qi_IsCombatTable (Ki_IsCombatTable s) (Zi_IsCombatTable s) o
 | .h1 t0 t1 t2 b3, o, H =>
  eIf H (fun h1 H =>
  eCk H fun h2 H =>
  eBind H fun x3 hx3 H =>
  eBind H fun r4 hr4 H =>
  gN [rg [hT 0], rg [hE 2 (gi_Odds x3)]] (by kernel_rfl) (P2 ((decide (t2 < t1)) = true) (decide_eq_true h1)<|P1 h2<|P1 (int_lt_of_at h2 hx3)<|P1 (at_map gi_Odds hx3)<|P0) <|
  eIf H (fun h5 H =>
  eBind H fun r6 hr6 H =>
  eIf H (fun h7 H =>
  gN [rg [{ i := 2, call := some { cl := true, auto := true, ins := [], res := (RB r4), G' := [] }, dec := some true }, { i := 7, call := some { cl := true, auto := true, ins := [], res := (RB r6), G' := [] }, dec := some true }]] (by kernel_rfl) (P1 (ci_inRange hr4)<|P2 (r4 = true) (h5)<|P1 (ci_inRange hr6)<|P2 (r6 = true) (h7)<|P0) <|
  eIf H (fun h8 H =>
  eCk H fun h9 H =>
  eBind H fun x10 hx10 H =>
  eCk H fun h11 H =>
  eBind H fun x12 hx12 H =>
  eIf H (fun h13 H =>
  eN H<|gE func121 [rg [hT 1, hE 9 (gi_Odds x10), hE 21 (gi_Odds x12), hT 23], r0] (by kernel_rfl) (P2 ((decide (t2 > 0)) = true) (decide_eq_true h8)<|P1 h9<|P1 (int_lt_of_at h9 hx10)<|P1 (at_map gi_Odds hx10)<|P1 h11<|P1 (int_lt_of_at h11 hx12)<|P1 (at_map gi_Odds hx12)<|P2 ((decide ((IntKind.wrap .i64 (x10.Num * x3.Den)) ≥ (IntKind.wrap .i64 (x3.Num * x12.Den)))) = true) (decide_eq_true h13)<|P0))
  (fun h13 H =>
  eN H fun r hn => gO [rg [hT 1, hE 9 (gi_Odds x10), hE 21 (gi_Odds x12), hF 23], r0, .canon [0] [1, 29, 30, 31]] (by kernel_rfl) (P2 ((decide (t2 > 0)) = true) (decide_eq_true h8)<|P1 h9<|P1 (int_lt_of_at h9 hx10)<|P1 (at_map gi_Odds hx10)<|P1 h11<|P1 (int_lt_of_at h11 hx12)<|P1 (at_map gi_Odds hx12)<|P2 ((decide ((IntKind.wrap .i64 (x10.Num * x3.Den)) ≥ (IntKind.wrap .i64 (x3.Num * x12.Den)))) = false) (decide_eq_false h13)<|P0) hn))
  (fun h8 H =>
  eN H fun r hn => gO [rg [hF 1], r0, .canon [0] [1, 29, 30, 31]] (by kernel_rfl) (P2 ((decide (t2 > 0)) = false) (decide_eq_false h8)<|P0) hn))
  (fun h7 H =>
  eN H<|gE func121 [rg [{ i := 2, call := some { cl := true, auto := true, ins := [], res := (RB r4), G' := [] }, dec := some true }, { i := 7, call := some { cl := true, auto := true, ins := [], res := (RB r6), G' := [] }, dec := some false }], r0] (by kernel_rfl) (P1 (ci_inRange hr4)<|P2 (r4 = true) (h5)<|P1 (ci_inRange hr6)<|P2 (r6 = false) (eqF h7)<|P0)))
  (fun h5 H =>
  eN H<|gE func121 [rg [{ i := 2, call := some { cl := true, auto := true, ins := [], res := (RB r4), G' := [] }, dec := some false }], r0] (by kernel_rfl) (P1 (ci_inRange hr4)<|P2 (r4 = false) (eqF h5)<|P0)))
  (fun h1 H =>
  eN H fun r hn => gO [rg [hF 0], r0, .canon [0] [1, 73, 74, 75]] (by kernel_rfl) (P2 ((decide (t2 < t1)) = false) (decide_eq_false h1)<|P0) hn)
 | .h2 t0 t1 t2 b3, o, H =>
  eIf H (fun h1 H =>
  eCk H fun h2 H =>
  eBind H fun x3 hx3 H =>
  gN [rg [hT 0], rg [hE 1 ((sl 1 I) x3)]] (by kernel_rfl) (P2 ((decide (t2 < t1)) = true) (decide_eq_true h1)<|P1 h2<|P1 (int_lt_of_at h2 hx3)<|P1 (at_map (sl 1 I) hx3)<|P0) <|
  eIf H (fun h4 H =>
  eBind H fun r5 hr5 H =>
  eIf H (fun h6 H =>
  eN H<|gE func121 [rg [hF 5, { i := 8, call := some { cl := true, auto := true, ins := [], res := (RB r5), G' := [] }, dec := some true }], r0] (by kernel_rfl) (P2 (((((x3.length : Nat) : Int) : Int) != ((b3.Columns.length : Nat) : Int)) = false) (bneF h4)<|P1 (cslices_ContainsFunc_int_i_IsCombatTable_1 hr5)<|P2 (r5 = true) (h6)<|P0))
  (fun h6 H =>
  eN H fun r hn => gO [rg [hF 5, { i := 8, call := some { cl := true, auto := true, ins := [], res := (RB r5), G' := [] }, dec := some false }], r0, .canon [0] [1, 73, 74, 75]] (by kernel_rfl) (P2 (((((x3.length : Nat) : Int) : Int) != ((b3.Columns.length : Nat) : Int)) = false) (bneF h4)<|P1 (cslices_ContainsFunc_int_i_IsCombatTable_1 hr5)<|P2 (r5 = false) (eqF h6)<|P0) hn))
  (fun h4 H =>
  eN H<|gE func121 [rg [hT 5], r0] (by kernel_rfl) (P2 (((((x3.length : Nat) : Int) : Int) != ((b3.Columns.length : Nat) : Int)) = true) (bneT h4)<|P0)))
  (fun h1 H =>
  eN H<|gE func121 [rg [hF 0], r0] (by kernel_rfl) (P2 ((decide (t2 < t1)) = false) (decide_eq_false h1)<|P0))
theorem wi_IsCombatTable : ∀ s r, loop Bi_IsCombatTable s = some r → Wc X 121 0 (Ki_IsCombatTable s) (Zi_IsCombatTable s) (RB r) ((fun _ => []) r) := Nx.all (ni_IsCombatTable)
theorem ci_IsCombatTable {a0 : Gi_CombatTable} {r : Bool} (H : Di_IsCombatTable a0 = some r) : Ct X.P X.gl 121 [gi_CombatTable a0] [] (RB r) [] :=
  Ct.of func121 (c := bdy f121) (by kernel_rfl) (by kernel_rfl) <|
  eBind H fun r1 hr1 H =>
  gS [r0] (by kernel_rfl) P0 <|
  eIf H (fun h2 H =>
  eBind H fun r3 hr3 H =>
  eIf H (fun h4 H =>
  eIf H (fun h5 H =>
  gO [rg [{ i := 3, call := some { cl := true, auto := true, ins := [], res := (RB r1), G' := [] }, dec := some true }, { i := 8, call := some { cl := true, auto := true, ins := [], res := (RB r3), G' := [] }, dec := some true }, hF 19], r0, .canon [0] [1, 29, 30, 31]] (by kernel_rfl) (P1 (ci_inRange hr1)<|P2 (r1 = true) (h2)<|P1 (ci_inRange hr3)<|P2 (r3 = true) (h4)<|P2 (((((a0.Results.length : Nat) : Int) : Int) != (IntKind.wrap .i64 ((IntKind.wrap .i64 (5 * a0.Dice)) + 1))) = false) (bneF h5)<|P0) (wi_IsCombatTable _ _ H))
  (fun h5 H =>
  eW RB (fun _ => []) H<|gE func121 [rg [{ i := 3, call := some { cl := true, auto := true, ins := [], res := (RB r1), G' := [] }, dec := some true }, { i := 8, call := some { cl := true, auto := true, ins := [], res := (RB r3), G' := [] }, dec := some true }, hT 19], r0] (by kernel_rfl) (P1 (ci_inRange hr1)<|P2 (r1 = true) (h2)<|P1 (ci_inRange hr3)<|P2 (r3 = true) (h4)<|P2 (((((a0.Results.length : Nat) : Int) : Int) != (IntKind.wrap .i64 ((IntKind.wrap .i64 (5 * a0.Dice)) + 1))) = true) (bneT h5)<|P0)))
  (fun h4 H =>
  eW RB (fun _ => []) H<|gE func121 [rg [{ i := 3, call := some { cl := true, auto := true, ins := [], res := (RB r1), G' := [] }, dec := some true }, { i := 8, call := some { cl := true, auto := true, ins := [], res := (RB r3), G' := [] }, dec := some false }], r0] (by kernel_rfl) (P1 (ci_inRange hr1)<|P2 (r1 = true) (h2)<|P1 (ci_inRange hr3)<|P2 (r3 = false) (eqF h4)<|P0)))
  (fun h2 H =>
  eW RB (fun _ => []) H<|gE func121 [rg [{ i := 3, call := some { cl := true, auto := true, ins := [], res := (RB r1), G' := [] }, dec := some false }], r0] (by kernel_rfl) (P1 (ci_inRange hr1)<|P2 (r1 = false) (eqF h2)<|P0))
theorem ci_sizeOf {a0 : Gi_Board} {r : Int} (H : Di_sizeOf a0 = some r) : Ct X.P X.gl 161 [gi_Board a0] [] (RI r) [] :=
  Ct.of func161 (c := bdy f161) (by kernel_rfl) (by kernel_rfl) <|
  eW RI (fun _ => []) H<|gE func161 [r0, r0] (by kernel_rfl) P0
theorem ci_isSide {a0 : Int} {r : Bool} (H : Di_isSide a0 = some r) : Ct X.P X.gl 186 [I a0] [] (RB r) [] :=
  Ct.of func186 (c := bdy f186) (by kernel_rfl) (by kernel_rfl) <|
  eBind H fun r1 hr1 H =>
  eW RB (fun _ => []) H<|gE func186 [r0, rg [hC 1 true [] (RB r1) []]] (by kernel_rfl) (P1 (ci_inRange hr1)<|P0)
def Ri_terrainAt (r : Gi_Terrain) : List D := [.agg [.str r.Name, sl 1 I r.Cost, I r.Shift, I r.Height, .bool r.Blocks]]
theorem ci_terrainAt {a0 : Gi_Board} {a1 : Int} {r : Gi_Terrain} (H : Di_terrainAt a0 a1 = some r) : Ct X.P X.gl 199 [gi_Board a0, I a1] [] (Ri_terrainAt r) [] :=
  Ct.of func199 (c := bdy f199) (by kernel_rfl) (by kernel_rfl) <|
  eCk H fun h1 H =>
  eBind H fun x2 hx2 H =>
  eCk H fun h3 H =>
  eBind H fun x4 hx4 H =>
  eW Ri_terrainAt (fun _ => []) H<|gE func199 [r0, rg [hE 8 (I x2), hE 10 (gi_Terrain x4)]] (by kernel_rfl) (P1 h1<|P1 (int_lt_of_at h1 hx2)<|P1 (at_map I hx2)<|P1 h3<|P1 (int_lt_of_at h3 hx4)<|P1 (at_map gi_Terrain hx4)<|P0)
theorem ci_enterCost {a0 : Gi_Board} {a1 : Int} {a2 : Int} {r : Int} (H : Di_enterCost a0 a1 a2 = some r) : Ct X.P X.gl 187 [gi_Board a0, I a1, I a2] [] (RI r) [] :=
  Ct.of func187 (c := bdy f187) (by kernel_rfl) (by kernel_rfl) <|
  eBind H fun r1 hr1 H =>
  eCk H fun h2 H =>
  eBind H fun x3 hx3 H =>
  eW RI (fun _ => []) H<|gE func187 [r0, rg [hC 2 true [] (Ri_terrainAt r1) [], hE 6 (I x3)]] (by kernel_rfl) (P1 (ci_terrainAt hr1)<|P1 h2<|P1 (int_lt_of_at h2 hx3)<|P1 (at_map I hx3)<|P0)
theorem ci_goodUnit {a0 : Gi_Board} {a1 : Gi_Unit} {r : Bool} (H : Di_goodUnit a0 a1 = some r) : Ct X.P X.gl 162 [gi_Board a0, gi_Unit a1] [] (RB r) [] :=
  Ct.of func162 (c := bdy f162) (by kernel_rfl) (by kernel_rfl) <|
  eBind H fun r1 hr1 H =>
  gS [r0] (by kernel_rfl) P0 <|
  eIf H (fun h2 H =>
  eBind H fun r3 hr3 H =>
  eIf H (fun h4 H =>
  eCk H fun h5 H =>
  eBind H fun x6 hx6 H =>
  eBind H fun r7 hr7 H =>
  eIf H (fun h8 H =>
  gS [rg [{ i := 2, call := some { cl := true, auto := true, ins := [], res := (RB r1), G' := [] }, dec := some true }, { i := 11, call := some { cl := true, auto := true, ins := [], res := (RB r3), G' := [] }, dec := some true }, hE 24 (gi_Kind x6), { i := 25, call := some { cl := true, auto := true, ins := [], res := (RB r7), G' := [] }, dec := some true }]] (by kernel_rfl) (P1 (ci_isSide hr1)<|P2 (r1 = true) (h2)<|P1 (ci_isIndex hr3)<|P2 (r3 = true) (h4)<|P1 h5<|P1 (int_lt_of_at h5 hx6)<|P1 (at_map gi_Kind hx6)<|P1 (ci_inRange hr7)<|P2 (r7 = true) (h8)<|P0) <|
  eIf H (fun h9 H =>
  eW RB (fun _ => []) H<|gE func162 [rg [hT 2], r0] (by kernel_rfl) (P2 (((a1.At : Int) == (-1)) = true) (beqT h9)<|P0))
  (fun h9 H =>
  gS [rg [hF 2]] (by kernel_rfl) (P2 (((a1.At : Int) == (-1)) = false) (beqF h9)<|P0) <|
  eIf H (fun h10 H =>
  eBind H fun r11 hr11 H =>
  eBind H fun r12 hr12 H =>
  eIf H (fun h13 H =>
  eBind H fun r14 hr14 H =>
  eW RB (fun _ => []) H<|gE func162 [rg [hT 2, hC 7 true [] (RI r11) [], { i := 8, call := some { cl := true, auto := true, ins := [], res := (RB r12), G' := [] }, dec := some true }, hC 16 true [] (RI r14) []]] (by kernel_rfl) (P2 ((decide (a1.Steps > 0)) = true) (decide_eq_true h10)<|P1 (ci_sizeOf hr11)<|P1 (ci_isIndex hr12)<|P2 (r12 = true) (h13)<|P1 (ci_enterCost hr14)<|P0))
  (fun h13 H =>
  eW RB (fun _ => []) H<|gE func162 [rg [hT 2, hC 7 true [] (RI r11) [], { i := 8, call := some { cl := true, auto := true, ins := [], res := (RB r12), G' := [] }, dec := some false }]] (by kernel_rfl) (P2 ((decide (a1.Steps > 0)) = true) (decide_eq_true h10)<|P1 (ci_sizeOf hr11)<|P1 (ci_isIndex hr12)<|P2 (r12 = false) (eqF h13)<|P0)))
  (fun h10 H =>
  eW RB (fun _ => []) H<|gE func162 [rg [hF 2]] (by kernel_rfl) (P2 ((decide (a1.Steps > 0)) = false) (decide_eq_false h10)<|P0))))
  (fun h8 H =>
  eW RB (fun _ => []) H<|gE func162 [rg [{ i := 2, call := some { cl := true, auto := true, ins := [], res := (RB r1), G' := [] }, dec := some true }, { i := 11, call := some { cl := true, auto := true, ins := [], res := (RB r3), G' := [] }, dec := some true }, hE 24 (gi_Kind x6), { i := 25, call := some { cl := true, auto := true, ins := [], res := (RB r7), G' := [] }, dec := some false }], r0] (by kernel_rfl) (P1 (ci_isSide hr1)<|P2 (r1 = true) (h2)<|P1 (ci_isIndex hr3)<|P2 (r3 = true) (h4)<|P1 h5<|P1 (int_lt_of_at h5 hx6)<|P1 (at_map gi_Kind hx6)<|P1 (ci_inRange hr7)<|P2 (r7 = false) (eqF h8)<|P0)))
  (fun h4 H =>
  eW RB (fun _ => []) H<|gE func162 [rg [{ i := 2, call := some { cl := true, auto := true, ins := [], res := (RB r1), G' := [] }, dec := some true }, { i := 11, call := some { cl := true, auto := true, ins := [], res := (RB r3), G' := [] }, dec := some false }], r0] (by kernel_rfl) (P1 (ci_isSide hr1)<|P2 (r1 = true) (h2)<|P1 (ci_isIndex hr3)<|P2 (r3 = false) (eqF h4)<|P0)))
  (fun h2 H =>
  eW RB (fun _ => []) H<|gE func162 [rg [{ i := 2, call := some { cl := true, auto := true, ins := [], res := (RB r1), G' := [] }, dec := some false }], r0] (by kernel_rfl) (P1 (ci_isSide hr1)<|P2 (r1 = false) (eqF h2)<|P0))
noncomputable def Ki_goodState : Si_goodState → List Item
 | .h1 .. => nav 300 4 [false] [.code (bdy f122)]
def Zi_goodState : Si_goodState → St
 | .h1 t0 t1 t2 b3 l4 => ⟨sts 80 [(2, .ptr 0 12 0 0), (5, .ref 1 2 none), (31, sl 4 gi_Unit t0), (32, I t1), (33, I t2)], [some ⟨false, true, 12, 1, [gi_Board b3]⟩, some ⟨false, false, 2, l4.length, List.map gA2I l4⟩]⟩
abbrev Qi_goodState := Nx X 122 0 Ki_goodState Zi_goodState RB (fun _ => [])
theorem ni_goodState : ∀ s o, Bi_goodState s = some o → Qi_goodState (Ki_goodState s) (Zi_goodState s) o
 | .h1 t0 t1 t2 b3 l4, o, H =>
  eIf H (fun h1 H =>
  eCk H fun h2 H =>
  eBind H fun x3 hx3 H =>
  eBind H fun r4 hr4 H =>
  gN [rg [hT 0], rg [hE 1 (gi_Unit x3)]] (by kernel_rfl) (P2 ((decide (t2 < t1)) = true) (decide_eq_true h1)<|P1 h2<|P1 (int_lt_of_at h2 hx3)<|P1 (at_map gi_Unit hx3)<|P0) <|
  eIf H (fun h5 H =>
  gN [rg [{ i := 2, call := some { cl := true, auto := true, ins := [], res := (RB r4), G' := [] }, dec := some true }]] (by kernel_rfl) (P1 (ci_goodUnit hr4)<|P2 (r4 = true) (h5)<|P0) <|
  eIf H (fun h6 H =>
  eN H fun r hn => gO [rg [hT 2], r0, .canon [0, 1] [2, 5, 31, 32, 33]] (by kernel_rfl) (P2 ((decide (x3.At < 0)) = true) (decide_eq_true h6)<|P0) hn)
  (fun h6 H =>
  eCk H fun h7 H =>
  eBind H fun x8 hx8 H =>
  gN [rg [hF 2]] (by kernel_rfl) (P2 ((decide (x3.At < 0)) = false) (decide_eq_false h6)<|P0) <|
  eIf H (fun h9 H =>
  eCk H fun h10 H =>
  eBind H fun x11 hx11 H =>
  eCk H fun h12 H =>
  eBind H fun x13 hx13 H =>
  gN [rg [{ i := 6, n := 0 }, hE 7 (gA2I x8), { i := 10, n := 0 }, hA 11 ((List.set l4 (Int.toNat x3.At) (GA2I.mk (IntKind.wrap .i64 (x8.c0 + 1)) x11.c1)).length) (List.map gA2I (List.set l4 (Int.toNat x3.At) (GA2I.mk (IntKind.wrap .i64 (x8.c0 + 1)) x11.c1)))]] (by kernel_rfl) (P1 h7<|P1 (int_lt_of_at h7 hx8)<|P1 h9<|P1 (at_map gA2I hx8)<|P1 h10<|P1 (int_lt_of_at h10 hx11)<|P1 h9<|P1 (lt_of_at hx11)<|P2 (setCells (List.map gA2I l4) (Int.toNat x3.At) 0 [I (IntKind.wrap .i64 (x8.c0 + 1))] = List.map gA2I (List.set l4 (Int.toNat x3.At) (GA2I.mk (IntKind.wrap .i64 (x8.c0 + 1)) x11.c1))) (setCells_map hx11 rfl)<|P1 (setLen l4 (Int.toNat x3.At) (GA2I.mk (IntKind.wrap .i64 (x8.c0 + 1)) x11.c1))<|P0) <|
  eIf H (fun h14 H =>
  eIf H (fun h15 H =>
  eN H<|gE func122 [rg [{ i := 7, n := 0 }, hE 8 (gA2I x13), hT 9], r0] (by kernel_rfl) (P1 h12<|P1 (int_lt_of_at h12 hx13)<|P1 h14<|P1 (at_map gA2I hx13)<|P2 ((decide (x13.c0 > 0)) = true) (decide_eq_true h15)<|P0))
  (fun h15 H =>
  eCk H fun h16 H =>
  eBind H fun x17 hx17 H =>
  eIf H (fun h18 H =>
  eN H<|gE func122 [rg [{ i := 7, n := 0 }, hE 8 (gA2I x13), hF 9, { i := 17, n := 0 }, hE 18 (gA2I x17), hT 22], r0] (by kernel_rfl) (P1 h12<|P1 (int_lt_of_at h12 hx13)<|P1 h14<|P1 (at_map gA2I hx13)<|P2 ((decide (x13.c0 > 0)) = false) (decide_eq_false h15)<|P1 h16<|P1 (int_lt_of_at h16 hx17)<|P1 h9<|P1 (at_map gA2I hx17)<|P2 ((decide (x17.c0 > b3.Rules.Stack)) = true) (decide_eq_true h18)<|P0))
  (fun h18 H =>
  eN H fun r hn => gO [rg [{ i := 7, n := 0 }, hE 8 (gA2I x13), hF 9, { i := 17, n := 0 }, hE 18 (gA2I x17), hF 22], r0, .canon [0, 1] [2, 5, 31, 32, 33]] (by kernel_rfl) (P1 h12<|P1 (int_lt_of_at h12 hx13)<|P1 h14<|P1 (at_map gA2I hx13)<|P2 ((decide (x13.c0 > 0)) = false) (decide_eq_false h15)<|P1 h16<|P1 (int_lt_of_at h16 hx17)<|P1 h9<|P1 (at_map gA2I hx17)<|P2 ((decide (x17.c0 > b3.Rules.Stack)) = false) (decide_eq_false h18)<|P0) hn)))
  (fun h14 H =>
  eCk H fun h15 H =>
  eIf H (fun h16 H =>
  eN H<|gE func122 [rg [{ i := 7, n := 1 }, hE 8 (gA2I x13), hT 9], r0] (by kernel_rfl) (P1 h12<|P1 (int_lt_of_at h12 hx13)<|P1 h15<|P1 (at_map gA2I hx13)<|P2 ((decide (x13.c1 > 0)) = true) (decide_eq_true h16)<|P0))
  (fun h16 H =>
  eCk H fun h17 H =>
  eBind H fun x18 hx18 H =>
  eIf H (fun h19 H =>
  eN H<|gE func122 [rg [{ i := 7, n := 1 }, hE 8 (gA2I x13), hF 9, { i := 17, n := 0 }, hE 18 (gA2I x18), hT 22], r0] (by kernel_rfl) (P1 h12<|P1 (int_lt_of_at h12 hx13)<|P1 h15<|P1 (at_map gA2I hx13)<|P2 ((decide (x13.c1 > 0)) = false) (decide_eq_false h16)<|P1 h17<|P1 (int_lt_of_at h17 hx18)<|P1 h9<|P1 (at_map gA2I hx18)<|P2 ((decide (x18.c0 > b3.Rules.Stack)) = true) (decide_eq_true h19)<|P0))
  (fun h19 H =>
  eN H fun r hn => gO [rg [{ i := 7, n := 1 }, hE 8 (gA2I x13), hF 9, { i := 17, n := 0 }, hE 18 (gA2I x18), hF 22], r0, .canon [0, 1] [2, 5, 31, 32, 33]] (by kernel_rfl) (P1 h12<|P1 (int_lt_of_at h12 hx13)<|P1 h15<|P1 (at_map gA2I hx13)<|P2 ((decide (x13.c1 > 0)) = false) (decide_eq_false h16)<|P1 h17<|P1 (int_lt_of_at h17 hx18)<|P1 h9<|P1 (at_map gA2I hx18)<|P2 ((decide (x18.c0 > b3.Rules.Stack)) = false) (decide_eq_false h19)<|P0) hn))))
  (fun h9 H =>
  eCk H fun h10 H =>
  eCk H fun h11 H =>
  eBind H fun x12 hx12 H =>
  eCk H fun h13 H =>
  eBind H fun x14 hx14 H =>
  gN [rg [{ i := 6, n := 1 }, hE 7 (gA2I x8), { i := 10, n := 1 }, hA 11 ((List.set l4 (Int.toNat x3.At) (GA2I.mk x12.c0 (IntKind.wrap .i64 (x8.c1 + 1)))).length) (List.map gA2I (List.set l4 (Int.toNat x3.At) (GA2I.mk x12.c0 (IntKind.wrap .i64 (x8.c1 + 1)))))]] (by kernel_rfl) (P1 h7<|P1 (int_lt_of_at h7 hx8)<|P1 h10<|P1 (at_map gA2I hx8)<|P1 h11<|P1 (int_lt_of_at h11 hx12)<|P1 h10<|P1 (lt_of_at hx12)<|P2 (setCells (List.map gA2I l4) (Int.toNat x3.At) 1 [I (IntKind.wrap .i64 (x8.c1 + 1))] = List.map gA2I (List.set l4 (Int.toNat x3.At) (GA2I.mk x12.c0 (IntKind.wrap .i64 (x8.c1 + 1))))) (setCells_map hx12 rfl)<|P1 (setLen l4 (Int.toNat x3.At) (GA2I.mk x12.c0 (IntKind.wrap .i64 (x8.c1 + 1))))<|P0) <|
  eIf H (fun h15 H =>
  eIf H (fun h16 H =>
  eN H<|gE func122 [rg [{ i := 7, n := 0 }, hE 8 (gA2I x14), hT 9], r0] (by kernel_rfl) (P1 h13<|P1 (int_lt_of_at h13 hx14)<|P1 h15<|P1 (at_map gA2I hx14)<|P2 ((decide (x14.c0 > 0)) = true) (decide_eq_true h16)<|P0))
  (fun h16 H =>
  eCk H fun h17 H =>
  eBind H fun x18 hx18 H =>
  eIf H (fun h19 H =>
  eN H<|gE func122 [rg [{ i := 7, n := 0 }, hE 8 (gA2I x14), hF 9, { i := 17, n := 1 }, hE 18 (gA2I x18), hT 22], r0] (by kernel_rfl) (P1 h13<|P1 (int_lt_of_at h13 hx14)<|P1 h15<|P1 (at_map gA2I hx14)<|P2 ((decide (x14.c0 > 0)) = false) (decide_eq_false h16)<|P1 h17<|P1 (int_lt_of_at h17 hx18)<|P1 h10<|P1 (at_map gA2I hx18)<|P2 ((decide (x18.c1 > b3.Rules.Stack)) = true) (decide_eq_true h19)<|P0))
  (fun h19 H =>
  eN H fun r hn => gO [rg [{ i := 7, n := 0 }, hE 8 (gA2I x14), hF 9, { i := 17, n := 1 }, hE 18 (gA2I x18), hF 22], r0, .canon [0, 1] [2, 5, 31, 32, 33]] (by kernel_rfl) (P1 h13<|P1 (int_lt_of_at h13 hx14)<|P1 h15<|P1 (at_map gA2I hx14)<|P2 ((decide (x14.c0 > 0)) = false) (decide_eq_false h16)<|P1 h17<|P1 (int_lt_of_at h17 hx18)<|P1 h10<|P1 (at_map gA2I hx18)<|P2 ((decide (x18.c1 > b3.Rules.Stack)) = false) (decide_eq_false h19)<|P0) hn)))
  (fun h15 H =>
  eCk H fun h16 H =>
  eIf H (fun h17 H =>
  eN H<|gE func122 [rg [{ i := 7, n := 1 }, hE 8 (gA2I x14), hT 9], r0] (by kernel_rfl) (P1 h13<|P1 (int_lt_of_at h13 hx14)<|P1 h16<|P1 (at_map gA2I hx14)<|P2 ((decide (x14.c1 > 0)) = true) (decide_eq_true h17)<|P0))
  (fun h17 H =>
  eCk H fun h18 H =>
  eBind H fun x19 hx19 H =>
  eIf H (fun h20 H =>
  eN H<|gE func122 [rg [{ i := 7, n := 1 }, hE 8 (gA2I x14), hF 9, { i := 17, n := 1 }, hE 18 (gA2I x19), hT 22], r0] (by kernel_rfl) (P1 h13<|P1 (int_lt_of_at h13 hx14)<|P1 h16<|P1 (at_map gA2I hx14)<|P2 ((decide (x14.c1 > 0)) = false) (decide_eq_false h17)<|P1 h18<|P1 (int_lt_of_at h18 hx19)<|P1 h10<|P1 (at_map gA2I hx19)<|P2 ((decide (x19.c1 > b3.Rules.Stack)) = true) (decide_eq_true h20)<|P0))
  (fun h20 H =>
  eN H fun r hn => gO [rg [{ i := 7, n := 1 }, hE 8 (gA2I x14), hF 9, { i := 17, n := 1 }, hE 18 (gA2I x19), hF 22], r0, .canon [0, 1] [2, 5, 31, 32, 33]] (by kernel_rfl) (P1 h13<|P1 (int_lt_of_at h13 hx14)<|P1 h16<|P1 (at_map gA2I hx14)<|P2 ((decide (x14.c1 > 0)) = false) (decide_eq_false h17)<|P1 h18<|P1 (int_lt_of_at h18 hx19)<|P1 h10<|P1 (at_map gA2I hx19)<|P2 ((decide (x19.c1 > b3.Rules.Stack)) = false) (decide_eq_false h20)<|P0) hn))))))
  (fun h5 H =>
  eN H<|gE func122 [rg [{ i := 2, call := some { cl := true, auto := true, ins := [], res := (RB r4), G' := [] }, dec := some false }], r0] (by kernel_rfl) (P1 (ci_goodUnit hr4)<|P2 (r4 = false) (eqF h5)<|P0)))
  (fun h1 H =>
  eN H<|gE func122 [rg [hF 0], r0] (by kernel_rfl) (P2 ((decide (t2 < t1)) = false) (decide_eq_false h1)<|P0))
theorem wi_goodState : ∀ s r, loop Bi_goodState s = some r → Wc X 122 0 (Ki_goodState s) (Zi_goodState s) (RB r) ((fun _ => []) r) := Nx.all (ni_goodState)
theorem ci_goodState {a0 : Gi_Board} {a1 : Gi_State} {r : Bool} (H : Di_goodState a0 a1 = some r) : Ct X.P X.gl 122 [gi_Board a0, gi_State a1] [] (RB r) [] :=
  Ct.of func122 (c := bdy f122) (by kernel_rfl) (by kernel_rfl) <|
  eBind H fun r1 hr1 H =>
  gS [r0] (by kernel_rfl) P0 <|
  eIf H (fun h2 H =>
  eBind H fun r3 hr3 H =>
  eIf H (fun h4 H =>
  eIf H (fun h5 H =>
  eW RB (fun _ => []) H<|gE func122 [rg [{ i := 5, call := some { cl := true, auto := true, ins := [], res := (RB r1), G' := [] }, dec := some true }, { i := 10, call := some { cl := true, auto := true, ins := [], res := (RB r3), G' := [] }, dec := some true }, hT 17], r0] (by kernel_rfl) (P1 (ci_inRange hr1)<|P2 (r1 = true) (h2)<|P1 (ci_inRange hr3)<|P2 (r3 = true) (h4)<|P2 ((decide (((a1.Units.length : Nat) : Int) > 12)) = true) (decide_eq_true h5)<|P0))
  (fun h5 H =>
  eBind H fun r6 hr6 H =>
  eCk H fun h7 H =>
  eCk H fun h8 H =>
  gO [rg [{ i := 5, call := some { cl := true, auto := true, ins := [], res := (RB r1), G' := [] }, dec := some true }, { i := 10, call := some { cl := true, auto := true, ins := [], res := (RB r3), G' := [] }, dec := some true }, hF 17], rg [hC 1 true [] (RI r6) [], hA 2 ((List.replicate (Int.toNat r6) (GA2I.mk 0 0)).length) (List.map gA2I (List.replicate (Int.toNat r6) (GA2I.mk 0 0)))], r0, .canon [0, 2] [2, 5, 31, 32, 33]] (by kernel_rfl) (P1 (ci_inRange hr1)<|P2 (r1 = true) (h2)<|P1 (ci_inRange hr3)<|P2 (r3 = true) (h4)<|P2 ((decide (((a1.Units.length : Nat) : Int) > 12)) = false) (decide_eq_false h5)<|P1 (ci_sizeOf hr6)<|PI r6<|P2 ((0 : Int) ≤ r6) h7<|P2 (Int.toNat r6 * 16 ≤ 140737488355328) h8<|P1 (repLen (Int.toNat r6) (GA2I.mk 0 0))<|P1 (repMap gA2I (Int.toNat r6) (GA2I.mk 0 0))<|P0) (wi_goodState _ _ H)))
  (fun h4 H =>
  eW RB (fun _ => []) H<|gE func122 [rg [{ i := 5, call := some { cl := true, auto := true, ins := [], res := (RB r1), G' := [] }, dec := some true }, { i := 10, call := some { cl := true, auto := true, ins := [], res := (RB r3), G' := [] }, dec := some false }], r0] (by kernel_rfl) (P1 (ci_inRange hr1)<|P2 (r1 = true) (h2)<|P1 (ci_inRange hr3)<|P2 (r3 = false) (eqF h4)<|P0)))
  (fun h2 H =>
  eW RB (fun _ => []) H<|gE func122 [rg [{ i := 5, call := some { cl := true, auto := true, ins := [], res := (RB r1), G' := [] }, dec := some false }], r0] (by kernel_rfl) (P1 (ci_inRange hr1)<|P2 (r1 = false) (eqF h2)<|P0))
noncomputable def Ki_goodConditions : Si_goodConditions → List Item
 | .h1 .. => nav 300 3 [false] [.code (bdy f123)]
def Zi_goodConditions : Si_goodConditions → St
 | .h1 t0 t1 t2 b3 b4 => ⟨sts 60 [(2, .ptr 0 12 0 0), (3, .ptr 1 3 0 0), (24, sl 2 gi_Goal t0), (25, I t1), (26, I t2)], [some ⟨false, true, 12, 1, [gi_Board b3]⟩, some ⟨false, true, 3, 1, [gi_Conditions b4]⟩]⟩
abbrev Qi_goodConditions := Nx X 123 0 Ki_goodConditions Zi_goodConditions RB (fun _ => [])
theorem ni_goodConditions : ∀ s o, Bi_goodConditions s = some o → Qi_goodConditions (Ki_goodConditions s) (Zi_goodConditions s) o
 | .h1 t0 t1 t2 b3 b4, o, H =>
  eIf H (fun h1 H =>
  eCk H fun h2 H =>
  eBind H fun x3 hx3 H =>
  eBind H fun r4 hr4 H =>
  eBind H fun r5 hr5 H =>
  gN [rg [hT 0], rg [hE 2 (gi_Goal x3)]] (by kernel_rfl) (P2 ((decide (t2 < t1)) = true) (decide_eq_true h1)<|P1 h2<|P1 (int_lt_of_at h2 hx3)<|P1 (at_map gi_Goal hx3)<|P0) <|
  eIf H (fun h6 H =>
  eBind H fun r7 hr7 H =>
  eIf H (fun h8 H =>
  eIf H (fun h9 H =>
  eCk H fun h10 H =>
  eBind H fun x11 hx11 H =>
  eIf H (fun h12 H =>
  eN H<|gE func123 [rg [hC 3 true [] (RI r4) [], { i := 4, call := some { cl := true, auto := true, ins := [], res := (RB r5), G' := [] }, dec := some true }, { i := 9, call := some { cl := true, auto := true, ins := [], res := (RB r7), G' := [] }, dec := some true }, hT 14, hE 22 (gi_Goal x11), hT 25], r0] (by kernel_rfl) (P1 (ci_sizeOf hr4)<|P1 (ci_isIndex hr5)<|P2 (r5 = true) (h6)<|P1 (ci_inRange hr7)<|P2 (r7 = true) (h8)<|P2 ((decide (t2 > 0)) = true) (decide_eq_true h9)<|P1 h10<|P1 (int_lt_of_at h10 hx11)<|P1 (at_map gi_Goal hx11)<|P2 ((decide (x11.At ≥ x3.At)) = true) (decide_eq_true h12)<|P0))
  (fun h12 H =>
  eN H fun r hn => gO [rg [hC 3 true [] (RI r4) [], { i := 4, call := some { cl := true, auto := true, ins := [], res := (RB r5), G' := [] }, dec := some true }, { i := 9, call := some { cl := true, auto := true, ins := [], res := (RB r7), G' := [] }, dec := some true }, hT 14, hE 22 (gi_Goal x11), hF 25], r0, .canon [0, 1] [2, 3, 24, 25, 26]] (by kernel_rfl) (P1 (ci_sizeOf hr4)<|P1 (ci_isIndex hr5)<|P2 (r5 = true) (h6)<|P1 (ci_inRange hr7)<|P2 (r7 = true) (h8)<|P2 ((decide (t2 > 0)) = true) (decide_eq_true h9)<|P1 h10<|P1 (int_lt_of_at h10 hx11)<|P1 (at_map gi_Goal hx11)<|P2 ((decide (x11.At ≥ x3.At)) = false) (decide_eq_false h12)<|P0) hn))
  (fun h9 H =>
  eN H fun r hn => gO [rg [hC 3 true [] (RI r4) [], { i := 4, call := some { cl := true, auto := true, ins := [], res := (RB r5), G' := [] }, dec := some true }, { i := 9, call := some { cl := true, auto := true, ins := [], res := (RB r7), G' := [] }, dec := some true }, hF 14], r0, .canon [0, 1] [2, 3, 24, 25, 26]] (by kernel_rfl) (P1 (ci_sizeOf hr4)<|P1 (ci_isIndex hr5)<|P2 (r5 = true) (h6)<|P1 (ci_inRange hr7)<|P2 (r7 = true) (h8)<|P2 ((decide (t2 > 0)) = false) (decide_eq_false h9)<|P0) hn))
  (fun h8 H =>
  eN H<|gE func123 [rg [hC 3 true [] (RI r4) [], { i := 4, call := some { cl := true, auto := true, ins := [], res := (RB r5), G' := [] }, dec := some true }, { i := 9, call := some { cl := true, auto := true, ins := [], res := (RB r7), G' := [] }, dec := some false }], r0] (by kernel_rfl) (P1 (ci_sizeOf hr4)<|P1 (ci_isIndex hr5)<|P2 (r5 = true) (h6)<|P1 (ci_inRange hr7)<|P2 (r7 = false) (eqF h8)<|P0)))
  (fun h6 H =>
  eN H<|gE func123 [rg [hC 3 true [] (RI r4) [], { i := 4, call := some { cl := true, auto := true, ins := [], res := (RB r5), G' := [] }, dec := some false }], r0] (by kernel_rfl) (P1 (ci_sizeOf hr4)<|P1 (ci_isIndex hr5)<|P2 (r5 = false) (eqF h6)<|P0)))
  (fun h1 H =>
  eN H<|gE func123 [rg [hF 0], r0] (by kernel_rfl) (P2 ((decide (t2 < t1)) = false) (decide_eq_false h1)<|P0))
theorem wi_goodConditions : ∀ s r, loop Bi_goodConditions s = some r → Wc X 123 0 (Ki_goodConditions s) (Zi_goodConditions s) (RB r) ((fun _ => []) r) := Nx.all (ni_goodConditions)
theorem ci_goodConditions {a0 : Gi_Board} {a1 : Gi_Conditions} {r : Bool} (H : Di_goodConditions a0 a1 = some r) : Ct X.P X.gl 123 [gi_Board a0, gi_Conditions a1] [] (RB r) [] :=
  Ct.of func123 (c := bdy f123) (by kernel_rfl) (by kernel_rfl) <|
  gS [r0] (by kernel_rfl) P0 <|
  eIf H (fun h1 H =>
  eW RB (fun _ => []) H<|gE func123 [rg [hT 3], r0] (by kernel_rfl) (P2 ((decide (((a1.Goals.length : Nat) : Int) > 12)) = true) (decide_eq_true h1)<|P0))
  (fun h1 H =>
  eBind H fun r2 hr2 H =>
  eIf H (fun h3 H =>
  eBind H fun r4 hr4 H =>
  eIf H (fun h5 H =>
  gO [rg [hF 3, { i := 7, call := some { cl := true, auto := true, ins := [], res := (RB r2), G' := [] }, dec := some true }, { i := 13, call := some { cl := true, auto := true, ins := [], res := (RB r4), G' := [] }, dec := some true }], r0, .canon [0, 1] [2, 3, 24, 25, 26]] (by kernel_rfl) (P2 ((decide (((a1.Goals.length : Nat) : Int) > 12)) = false) (decide_eq_false h1)<|P1 (ci_inRange hr2)<|P2 (r2 = true) (h3)<|P1 (ci_inRange hr4)<|P2 (r4 = true) (h5)<|P0) (wi_goodConditions _ _ H))
  (fun h5 H =>
  eW RB (fun _ => []) H<|gE func123 [rg [hF 3, { i := 7, call := some { cl := true, auto := true, ins := [], res := (RB r2), G' := [] }, dec := some true }, { i := 13, call := some { cl := true, auto := true, ins := [], res := (RB r4), G' := [] }, dec := some false }], r0] (by kernel_rfl) (P2 ((decide (((a1.Goals.length : Nat) : Int) > 12)) = false) (decide_eq_false h1)<|P1 (ci_inRange hr2)<|P2 (r2 = true) (h3)<|P1 (ci_inRange hr4)<|P2 (r4 = false) (eqF h5)<|P0)))
  (fun h3 H =>
  eW RB (fun _ => []) H<|gE func123 [rg [hF 3, { i := 7, call := some { cl := true, auto := true, ins := [], res := (RB r2), G' := [] }, dec := some false }], r0] (by kernel_rfl) (P2 ((decide (((a1.Goals.length : Nat) : Int) > 12)) = false) (decide_eq_false h1)<|P1 (ci_inRange hr2)<|P2 (r2 = false) (eqF h3)<|P0)))
theorem ci_areSources_1 {a0 : Int} {a1 : Gi_Board} {r : Bool} (H : Di_areSources_1 a0 a1 = some r) : Ct X.P X.gl 165 [I a0, .fptr 12 [.agg [sl 5 gi_Terrain a1.Rules.Terrains, sl 6 gi_Kind a1.Rules.Kinds, I a1.Rules.Stack, I a1.Rules.River, I a1.Rules.Road, I a1.Rules.Supply, I a1.Rules.Turns, I a1.Map.Width, I a1.Map.Height, sl 1 I a1.Map.Terrain, sl 1 I a1.Map.Rivers, sl 1 I a1.Map.Roads]] 0 0] [] (RB r) [] :=
  have H := (Di_areSources_1.eq_1 ..).symm.trans H
  Ct.of func165 (c := bdy f165) (by kernel_rfl) (by kernel_rfl) <|
  eBind H fun r1 hr1 H =>
  eBind H fun r2 hr2 H =>
  eW RB (fun _ => []) H<|gE func165 [r0, rg [hC 2 true [] (RI r1) [], hC 3 true [] (RB r2) []]] (by kernel_rfl) (P1 (ci_sizeOf hr1)<|P1 (ci_isIndex hr2)<|P0)
noncomputable def Kslices_IndexFunc_int_i_areSources_1 : Sslices_IndexFunc_int_i_areSources_1 → List Item
 | .h1 .. => nav 300 2 [] [.code (bdy f185)]
def Zslices_IndexFunc_int_i_areSources_1 : Sslices_IndexFunc_int_i_areSources_1 → St
 | .h1 s0 f1 t2 t3 => ⟨sts 19 [(0, sl 1 I s0), (1, .fn 165 [.fptr 12 [.agg [sl 5 gi_Terrain f1.Rules.Terrains, sl 6 gi_Kind f1.Rules.Kinds, I f1.Rules.Stack, I f1.Rules.River, I f1.Rules.Road, I f1.Rules.Supply, I f1.Rules.Turns, I f1.Map.Width, I f1.Map.Height, sl 1 I f1.Map.Terrain, sl 1 I f1.Map.Rivers, sl 1 I f1.Map.Roads]] 0 0]), (7, I t2), (8, I t3)], []⟩
abbrev Qslices_IndexFunc_int_i_areSources_1 := Nx X 185 0 Kslices_IndexFunc_int_i_areSources_1 Zslices_IndexFunc_int_i_areSources_1 RI (fun _ => [])
theorem nslices_IndexFunc_int_i_areSources_1 : ∀ s o, Bslices_IndexFunc_int_i_areSources_1 s = some o → Qslices_IndexFunc_int_i_areSources_1 (Kslices_IndexFunc_int_i_areSources_1 s) (Zslices_IndexFunc_int_i_areSources_1 s) o
 | .h1 s0 f1 t2 t3, o, H =>
  eIf H (fun h1 H =>
  eCk H fun h2 H =>
  eBind H fun x3 hx3 H =>
  eBind H fun r4 hr4 H =>
  gN [rg [hT 0], r0] (by kernel_rfl) (P2 ((decide (t3 < t2)) = true) (decide_eq_true h1)<|P0) <|
  eIf H (fun h5 H =>
  eN H<|gE func185 [rg [hE 4 (I x3), { i := 5, call := some { cl := true, auto := true, ins := [], res := (RB r4), G' := [] }, dec := some true }], r0] (by kernel_rfl) (P1 h2<|P1 (int_lt_of_at h2 hx3)<|P1 (at_map I hx3)<|P1 (ci_areSources_1 hr4)<|P2 (r4 = true) (h5)<|P0))
  (fun h5 H =>
  eN H fun r hn => gO [rg [hE 4 (I x3), { i := 5, call := some { cl := true, auto := true, ins := [], res := (RB r4), G' := [] }, dec := some false }], r0, .canon [] [0, 1, 7, 8]] (by kernel_rfl) (P1 h2<|P1 (int_lt_of_at h2 hx3)<|P1 (at_map I hx3)<|P1 (ci_areSources_1 hr4)<|P2 (r4 = false) (eqF h5)<|P0) hn))
  (fun h1 H =>
  eN H<|gE func185 [rg [hF 0], r0] (by kernel_rfl) (P2 ((decide (t3 < t2)) = false) (decide_eq_false h1)<|P0))
theorem wslices_IndexFunc_int_i_areSources_1 : ∀ s r, loop Bslices_IndexFunc_int_i_areSources_1 s = some r → Wc X 185 0 (Kslices_IndexFunc_int_i_areSources_1 s) (Zslices_IndexFunc_int_i_areSources_1 s) (RI r) ((fun _ => []) r) := Nx.all (nslices_IndexFunc_int_i_areSources_1)
theorem cslices_IndexFunc_int_i_areSources_1 {a0 : (List Int)} {a100 : Gi_Board} {r : Int} (H : Dslices_IndexFunc_int_i_areSources_1 a0 a100 = some r) : Ct X.P X.gl 185 [sl 1 I a0, .fn 165 [.fptr 12 [.agg [sl 5 gi_Terrain a100.Rules.Terrains, sl 6 gi_Kind a100.Rules.Kinds, I a100.Rules.Stack, I a100.Rules.River, I a100.Rules.Road, I a100.Rules.Supply, I a100.Rules.Turns, I a100.Map.Width, I a100.Map.Height, sl 1 I a100.Map.Terrain, sl 1 I a100.Map.Rivers, sl 1 I a100.Map.Roads]] 0 0]] [] (RI r) [] :=
  Ct.of func185 (c := bdy f185) (by kernel_rfl) (by kernel_rfl) <|
  gO [r0, r0, .canon [] [0, 1, 7, 8]] (by kernel_rfl) P0 (wslices_IndexFunc_int_i_areSources_1 _ _ H)
theorem cslices_ContainsFunc_int_i_areSources_1 {a0 : (List Int)} {a100 : Gi_Board} {r : Bool} (H : Dslices_ContainsFunc_int_i_areSources_1 a0 a100 = some r) : Ct X.P X.gl 157 [sl 1 I a0, .fn 165 [.fptr 12 [.agg [sl 5 gi_Terrain a100.Rules.Terrains, sl 6 gi_Kind a100.Rules.Kinds, I a100.Rules.Stack, I a100.Rules.River, I a100.Rules.Road, I a100.Rules.Supply, I a100.Rules.Turns, I a100.Map.Width, I a100.Map.Height, sl 1 I a100.Map.Terrain, sl 1 I a100.Map.Rivers, sl 1 I a100.Map.Roads]] 0 0]] [] (RB r) [] :=
  Ct.of func157 (c := bdy f157) (by kernel_rfl) (by kernel_rfl) <|
  eBind H fun r1 hr1 H =>
  eW RB (fun _ => []) H<|gE func157 [r0, rg [hC 2 true [] (RI r1) []]] (by kernel_rfl) (P1 (cslices_IndexFunc_int_i_areSources_1 hr1)<|P0)
theorem ci_areSources {a0 : Gi_Board} {a1 : (List Int)} {r : Bool} (H : Di_areSources a0 a1 = some r) : Ct X.P X.gl 124 [gi_Board a0, sl 1 I a1] [] (RB r) [] :=
  Ct.of func124 (c := bdy f124) (by kernel_rfl) (by kernel_rfl) <|
  gS [r0] (by kernel_rfl) P0 <|
  eIf H (fun h1 H =>
  eBind H fun r2 hr2 H =>
  eIf H (fun h3 H =>
  eBind H fun r4 hr4 H =>
  eW RB (fun _ => []) H<|gE func124 [rg [hT 2, { i := 5, call := some { cl := true, auto := true, ins := [], res := (RB r2), G' := [] }, dec := some true }, hC 10 false [] (RB r4) []]] (by kernel_rfl) (P2 ((decide (((a1.length : Nat) : Int) ≤ 6)) = true) (decide_eq_true h1)<|P1 (ci_increasing hr2)<|P2 (r2 = true) (h3)<|P1 (cslices_ContainsFunc_int_i_areSources_1 hr4)<|P0))
  (fun h3 H =>
  eW RB (fun _ => []) H<|gE func124 [rg [hT 2, { i := 5, call := some { cl := true, auto := true, ins := [], res := (RB r2), G' := [] }, dec := some false }]] (by kernel_rfl) (P2 ((decide (((a1.length : Nat) : Int) ≤ 6)) = true) (decide_eq_true h1)<|P1 (ci_increasing hr2)<|P2 (r2 = false) (eqF h3)<|P0)))
  (fun h1 H =>
  eW RB (fun _ => []) H<|gE func124 [rg [hF 2]] (by kernel_rfl) (P2 ((decide (((a1.length : Nat) : Int) ≤ 6)) = false) (decide_eq_false h1)<|P0))
theorem ci_ScenarioFault {a0 : Gi_Scenario} {r : Int} (H : Di_ScenarioFault a0 = some r) : Ct X.P X.gl 81 [gi_Scenario a0] [] (RI r) [] :=
  Ct.of func81 (c := bdy f81) (by kernel_rfl) (by kernel_rfl) <|
  eBind H fun r1 hr1 H =>
  gS [r0] (by kernel_rfl) P0 <|
  eIf H (fun h2 H =>
  eBind H fun r3 hr3 H =>
  gS [rg [{ i := 2, call := some { cl := true, auto := true, ins := [], res := (RB r1), G' := [] }, dec := some true }]] (by kernel_rfl) (P1 (ci_isName hr1)<|P2 (r1 = true) (h2)<|P0) <|
  eIf H (fun h4 H =>
  eBind H fun r5 hr5 H =>
  gS [rg [{ i := 2, call := some { cl := true, auto := true, ins := [], res := (RB r3), G' := [] }, dec := some true }]] (by kernel_rfl) (P1 (ci_IsBoard hr3)<|P2 (r3 = true) (h4)<|P0) <|
  eIf H (fun h6 H =>
  eBind H fun r7 hr7 H =>
  gS [rg [{ i := 2, call := some { cl := true, auto := true, ins := [], res := (RB r5), G' := [] }, dec := some true }]] (by kernel_rfl) (P1 (ci_IsCombatTable hr5)<|P2 (r5 = true) (h6)<|P0) <|
  eIf H (fun h8 H =>
  eBind H fun r9 hr9 H =>
  gS [rg [{ i := 4, call := some { cl := true, auto := true, ins := [], res := (RB r7), G' := [] }, dec := some true }]] (by kernel_rfl) (P1 (ci_goodState hr7)<|P2 (r7 = true) (h8)<|P0) <|
  eIf H (fun h10 H =>
  eBind H fun r11 hr11 H =>
  gS [rg [{ i := 4, call := some { cl := true, auto := true, ins := [], res := (RB r9), G' := [] }, dec := some true }]] (by kernel_rfl) (P1 (ci_goodConditions hr9)<|P2 (r9 = true) (h10)<|P0) <|
  eIf H (fun h12 H =>
  eBind H fun r13 hr13 H =>
  eIf H (fun h14 H =>
  eW RI (fun _ => []) H<|gE func81 [rg [{ i := 4, call := some { cl := true, auto := true, ins := [], res := (RB r11), G' := [] }, dec := some true }, { i := 11, call := some { cl := true, auto := true, ins := [], res := (RB r13), G' := [] }, dec := some true }], r0] (by kernel_rfl) (P1 (ci_areSources hr11)<|P2 (r11 = true) (h12)<|P1 (ci_areSources hr13)<|P2 (r13 = true) (h14)<|P0))
  (fun h14 H =>
  eW RI (fun _ => []) H<|gE func81 [rg [{ i := 4, call := some { cl := true, auto := true, ins := [], res := (RB r11), G' := [] }, dec := some true }, { i := 11, call := some { cl := true, auto := true, ins := [], res := (RB r13), G' := [] }, dec := some false }], r0] (by kernel_rfl) (P1 (ci_areSources hr11)<|P2 (r11 = true) (h12)<|P1 (ci_areSources hr13)<|P2 (r13 = false) (eqF h14)<|P0)))
  (fun h12 H =>
  eW RI (fun _ => []) H<|gE func81 [rg [{ i := 4, call := some { cl := true, auto := true, ins := [], res := (RB r11), G' := [] }, dec := some false }], r0] (by kernel_rfl) (P1 (ci_areSources hr11)<|P2 (r11 = false) (eqF h12)<|P0)))
  (fun h10 H =>
  eW RI (fun _ => []) H<|gE func81 [rg [{ i := 4, call := some { cl := true, auto := true, ins := [], res := (RB r9), G' := [] }, dec := some false }], r0] (by kernel_rfl) (P1 (ci_goodConditions hr9)<|P2 (r9 = false) (eqF h10)<|P0)))
  (fun h8 H =>
  eW RI (fun _ => []) H<|gE func81 [rg [{ i := 4, call := some { cl := true, auto := true, ins := [], res := (RB r7), G' := [] }, dec := some false }], r0] (by kernel_rfl) (P1 (ci_goodState hr7)<|P2 (r7 = false) (eqF h8)<|P0)))
  (fun h6 H =>
  eW RI (fun _ => []) H<|gE func81 [rg [{ i := 2, call := some { cl := true, auto := true, ins := [], res := (RB r5), G' := [] }, dec := some false }], r0] (by kernel_rfl) (P1 (ci_IsCombatTable hr5)<|P2 (r5 = false) (eqF h6)<|P0)))
  (fun h4 H =>
  eW RI (fun _ => []) H<|gE func81 [rg [{ i := 2, call := some { cl := true, auto := true, ins := [], res := (RB r3), G' := [] }, dec := some false }], r0] (by kernel_rfl) (P1 (ci_IsBoard hr3)<|P2 (r3 = false) (eqF h4)<|P0)))
  (fun h2 H =>
  eW RI (fun _ => []) H<|gE func81 [rg [{ i := 2, call := some { cl := true, auto := true, ins := [], res := (RB r1), G' := [] }, dec := some false }], r0] (by kernel_rfl) (P1 (ci_isName hr1)<|P2 (r1 = false) (eqF h2)<|P0))
theorem ci_IsScenario {a0 : Gi_Scenario} {r : Bool} (H : Di_IsScenario a0 = some r) : Ct X.P X.gl 39 [gi_Scenario a0] [] (RB r) [] :=
  Ct.of func39 (c := bdy f39) (by kernel_rfl) (by kernel_rfl) <|
  eBind H fun r1 hr1 H =>
  eW RB (fun _ => []) H<|gE func39 [r0, rg [hC 1 true [] (RI r1) []]] (by kernel_rfl) (P1 (ci_ScenarioFault hr1)<|P0)
noncomputable def Ki_sumOf : Si_sumOf → List Item
 | .h1 .. => nav 300 3 [] [.code (bdy f82)]
def Zi_sumOf : Si_sumOf → St
 | .h1 sum0 t1 t2 t3 => ⟨sts 17 [(3, I sum0), (6, sl 1 I t1), (7, I t2), (8, I t3)], []⟩
abbrev Qi_sumOf := Nx X 82 0 Ki_sumOf Zi_sumOf RI (fun _ => [])
theorem ni_sumOf : ∀ s o, Bi_sumOf s = some o → Qi_sumOf (Ki_sumOf s) (Zi_sumOf s) o
 | .h1 sum0 t1 t2 t3, o, H =>
  eIf H (fun h1 H =>
  eCk H fun h2 H =>
  eBind H fun x3 hx3 H =>
  eN H fun r hn => gO [rg [hT 0], rg [hE 1 (I x3)], r0, r0, .canon [] [3, 6, 7, 8]] (by kernel_rfl) (P2 ((decide (t3 < t2)) = true) (decide_eq_true h1)<|P1 h2<|P1 (int_lt_of_at h2 hx3)<|P1 (at_map I hx3)<|P0) hn)
  (fun h1 H =>
  eN H<|gE func82 [rg [hF 0], r0] (by kernel_rfl) (P2 ((decide (t3 < t2)) = false) (decide_eq_false h1)<|P0))
theorem wi_sumOf : ∀ s r, loop Bi_sumOf s = some r → Wc X 82 0 (Ki_sumOf s) (Zi_sumOf s) (RI r) ((fun _ => []) r) := Nx.all (ni_sumOf)
theorem ci_sumOf {a0 : (List Int)} {r : Int} (H : Di_sumOf a0 = some r) : Ct X.P X.gl 82 [sl 1 I a0] [] (RI r) [] :=
  Ct.of func82 (c := bdy f82) (by kernel_rfl) (by kernel_rfl) <|
  gO [r0, r0, r0, .canon [] [3, 6, 7, 8]] (by kernel_rfl) P0 (wi_sumOf _ _ H)
noncomputable def Ki_IsClimate : Si_IsClimate → List Item
 | .h1 .. => nav 300 3 [false] [.code (bdy f40)]
 | .h2 .. => nav 300 7 [false, true, false] [.code (bdy f40)]
def Zi_IsClimate : Si_IsClimate → St
 | .h1 t0 t1 t2 => ⟨sts 37 [(12, sl 1 (sl 1 I) t0), (13, I t1), (14, I t2)], []⟩
 | .h2 t0 t1 t2 t3 t4 t5 => ⟨sts 37 [(12, sl 1 (sl 1 I) t0), (13, I t1), (14, I t2), (26, sl 1 I t3), (27, I t4), (28, I t5)], []⟩
abbrev Qi_IsClimate := Nx X 40 0 Ki_IsClimate Zi_IsClimate RB (fun _ => [])
theorem ni_IsClimate : ∀ s o, Bi_IsClimate s = some o → Qi_IsClimate (Ki_IsClimate s) (Zi_IsClimate s) o
 | .h1 t0 t1 t2, o, H =>
  eIf H (fun h1 H =>
  eCk H fun h2 H =>
  eBind H fun x3 hx3 H =>
  gN [rg [hT 0], rg [hE 1 ((sl 1 I) x3)]] (by kernel_rfl) (P2 ((decide (t2 < t1)) = true) (decide_eq_true h1)<|P1 h2<|P1 (int_lt_of_at h2 hx3)<|P1 (at_map (sl 1 I) hx3)<|P0) <|
  eIf H (fun h4 H =>
  eBind H fun r5 hr5 H =>
  eIf H (fun h6 H =>
  eN H fun r hn => gO [rg [hF 2, hC 5 true [] (RI r5) [], hF 6], r0, .canon [] [12, 13, 14, 26, 27, 28]] (by kernel_rfl) (P2 (((((x3.length : Nat) : Int) : Int) != 3) = false) (bneF h4)<|P1 (ci_sumOf hr5)<|P2 (((r5 : Int) != 36) = false) (bneF h6)<|P0) hn)
  (fun h6 H =>
  eN H<|gE func40 [rg [hF 2, hC 5 true [] (RI r5) [], hT 6], r0] (by kernel_rfl) (P2 (((((x3.length : Nat) : Int) : Int) != 3) = false) (bneF h4)<|P1 (ci_sumOf hr5)<|P2 (((r5 : Int) != 36) = true) (bneT h6)<|P0)))
  (fun h4 H =>
  eN H<|gE func40 [rg [hT 2], r0] (by kernel_rfl) (P2 (((((x3.length : Nat) : Int) : Int) != 3) = true) (bneT h4)<|P0)))
  (fun h1 H =>
  eN H<|gE func40 [rg [hF 0], r0] (by kernel_rfl) (P2 ((decide (t2 < t1)) = false) (decide_eq_false h1)<|P0))
 | .h2 t0 t1 t2 t3 t4 t5, o, H =>
  eIf H (fun h1 H =>
  eCk H fun h2 H =>
  eBind H fun x3 hx3 H =>
  eBind H fun r4 hr4 H =>
  gN [rg [hT 0], rg [hE 1 (I x3)]] (by kernel_rfl) (P2 ((decide (t5 < t4)) = true) (decide_eq_true h1)<|P1 h2<|P1 (int_lt_of_at h2 hx3)<|P1 (at_map I hx3)<|P0) <|
  eIf H (fun h5 H =>
  eN H fun r hn => gO [rg [{ i := 1, call := some { cl := true, auto := true, ins := [], res := (RB r4), G' := [] }, dec := some true }], r0, .canon [] [12, 13, 14, 26, 27, 28]] (by kernel_rfl) (P1 (ci_inRange hr4)<|P2 (r4 = true) (h5)<|P0) hn)
  (fun h5 H =>
  eN H<|gE func40 [rg [{ i := 1, call := some { cl := true, auto := true, ins := [], res := (RB r4), G' := [] }, dec := some false }], r0] (by kernel_rfl) (P1 (ci_inRange hr4)<|P2 (r4 = false) (eqF h5)<|P0)))
  (fun h1 H =>
  eN H fun r hn => gO [rg [hF 0], r0, .canon [] [12, 13, 14]] (by kernel_rfl) (P2 ((decide (t5 < t4)) = false) (decide_eq_false h1)<|P0) hn)
theorem wi_IsClimate : ∀ s r, loop Bi_IsClimate s = some r → Wc X 40 0 (Ki_IsClimate s) (Zi_IsClimate s) (RB r) ((fun _ => []) r) := Nx.all (ni_IsClimate)
theorem ci_IsClimate {a0 : Gi_Climate} {r : Bool} (H : Di_IsClimate a0 = some r) : Ct X.P X.gl 40 [.agg [sl 1 (sl 1 I) a0.Weights]] [] (RB r) [] :=
  Ct.of func40 (c := bdy f40) (by kernel_rfl) (by kernel_rfl) <|
  gS [r0] (by kernel_rfl) P0 <|
  eIf H (fun h1 H =>
  gO [rg [hF 3], r0, .canon [] [12, 13, 14]] (by kernel_rfl) (P2 (((((a0.Weights.length : Nat) : Int) : Int) != 3) = false) (bneF h1)<|P0) (wi_IsClimate _ _ H))
  (fun h1 H =>
  eW RB (fun _ => []) H<|gE func40 [rg [hT 3], r0] (by kernel_rfl) (P2 (((((a0.Weights.length : Nat) : Int) : Int) != 3) = true) (bneT h1)<|P0))
def Rslices_Clone_int (r : List Int) : List D := [ow 1 I r]
theorem cslices_Clone_int {l r : List Int} (H : Dslices_Clone_int l = some r) : Ct X.P X.gl 87 [sl 1 I l] [] (Rslices_Clone_int r) [] :=
  eCk H fun h H => eRet (P := fun r => Ct X.P X.gl 87 [sl 1 I l] [] (Rslices_Clone_int r) []) H <|
    Ct.of func87 (c := bdy f87) (by kernel_rfl) (by kernel_rfl)<|by
      by_cases h0 : 0 < l.length
      · exact gE func87 [r0, rg [{ i := 1, keep := true }], rg [{ i := 2, n := l.length, xs := List.map I l }]] (by kernel_rfl) (P1 h0<|P1 (allFl_3 l)<|P2 (l.length = 0 + l.length) (by simp)<|P2 ((0 + l.length) * 8 ≤ 70368744177664) (by simpa using h)<|P2 (([] : List D) ++ List.map I l = List.map I l) rfl P0)
      · have e : l = [] := by cases l with | nil => rfl | cons x l => exact absurd (Nat.succ_pos _) h0
        subst e
        refine gO [r0, r0, .stop] (k' := nav 300 2 [] [.code (bdy f87)]) (σ' := ⟨sts 8 [(0, sl 1 I []), (2, .nil), (3, sl 1 I []), (4, .anyb)], []⟩) (by kernel_rfl) P0 (Wc.anyb 4 (by kernel_rfl) fun b => ?_)
        cases b with
        | true => exact gE func87 [r0] (by kernel_rfl) P0
        | false =>
          have h : ([] : List Int).length * 8 ≤ 70368744177664 := by decide
          have : Wc X 87 0 (nav 300 2 [] [.code (bdy f87)]) ⟨sts 8 [(0, sl 1 I []), (2, .nil), (3, sl 1 I []), (4, .bool false)], []⟩ (Rslices_Clone_int []) [] := by
            generalize hl : ([] : List Int) = l at h ⊢
            exact gE func87 [ rg [{ i := 2, n := l.length, xs := List.map I l }]] (by kernel_rfl) ( P1 (allFl_3 l)<|P2 (l.length = 0 + l.length) (by simp)<|P2 ((0 + l.length) * 8 ≤ 70368744177664) (by simpa using h)<|P2 (([] : List D) ++ List.map I l = List.map I l) rfl P0)
          exact this
def Rslices_Clone_i_Kind (r : List Gi_Kind) : List D := [ow 6 gi_Kind r]
theorem cslices_Clone_i_Kind {l r : List Gi_Kind} (H : Dslices_Clone_i_Kind l = some r) : Ct X.P X.gl 166 [sl 6 gi_Kind l] [] (Rslices_Clone_i_Kind r) [] :=
  eCk H fun h H => eRet (P := fun r => Ct X.P X.gl 166 [sl 6 gi_Kind l] [] (Rslices_Clone_i_Kind r) []) H <|
    Ct.of func166 (c := bdy f166) (by kernel_rfl) (by kernel_rfl)<|by
      by_cases h0 : 0 < l.length
      · exact gE func166 [r0, rg [{ i := 1, keep := true }], rg [{ i := 2, n := l.length, xs := List.map gi_Kind l }]] (by kernel_rfl) (P1 h0<|P1 (allFl_199 l)<|P2 (l.length = 0 + l.length) (by simp)<|P2 ((0 + l.length) * 56 ≤ 70368744177664) (by simpa using h)<|P2 (([] : List D) ++ List.map gi_Kind l = List.map gi_Kind l) rfl P0)
      · have e : l = [] := by cases l with | nil => rfl | cons x l => exact absurd (Nat.succ_pos _) h0
        subst e
        refine gO [r0, r0, .stop] (k' := nav 300 2 [] [.code (bdy f166)]) (σ' := ⟨sts 8 [(0, sl 6 gi_Kind []), (2, .nil), (3, sl 6 gi_Kind []), (4, .anyb)], []⟩) (by kernel_rfl) P0 (Wc.anyb 4 (by kernel_rfl) fun b => ?_)
        cases b with
        | true => exact gE func166 [r0] (by kernel_rfl) P0
        | false =>
          have h : ([] : List Gi_Kind).length * 56 ≤ 70368744177664 := by decide
          have : Wc X 166 0 (nav 300 2 [] [.code (bdy f166)]) ⟨sts 8 [(0, sl 6 gi_Kind []), (2, .nil), (3, sl 6 gi_Kind []), (4, .bool false)], []⟩ (Rslices_Clone_i_Kind []) [] := by
            generalize hl : ([] : List Gi_Kind) = l at h ⊢
            exact gE func166 [ rg [{ i := 2, n := l.length, xs := List.map gi_Kind l }]] (by kernel_rfl) ( P1 (allFl_199 l)<|P2 (l.length = 0 + l.length) (by simp)<|P2 ((0 + l.length) * 56 ≤ 70368744177664) (by simpa using h)<|P2 (([] : List D) ++ List.map gi_Kind l = List.map gi_Kind l) rfl P0)
          exact this
def Ri_cloneRules (r : Gi_Rules) : List D := [.agg [ow 5 goi_Terrain r.Terrains, ow 6 gi_Kind r.Kinds, I r.Stack, I r.River, I r.Road, I r.Supply, I r.Turns]]
noncomputable def Ki_cloneRules : Si_cloneRules → List Item
 | .h1 .. => nav 300 3 [] [.code (bdy f125)]
def Zi_cloneRules : Si_cloneRules → St
 | .h1 t0 t1 t2 b3 b4 b5 b6 b7 b8 l9 => ⟨sts 30 [(1, .ptr 0 7 0 0), (2, .ptr 1 7 0 0), (3, .ref 2 5 none), (8, sl 5 gi_Terrain t0), (9, I t1), (10, I t2)], [some ⟨false, true, 7, 1, [gi_Rules b3]⟩, some ⟨false, true, 7, 1, [.agg [.nil, .nil, I b4, I b5, I b6, I b7, I b8]]⟩, some ⟨false, false, 5, l9.length, List.map goi_Terrain l9⟩]⟩
abbrev Qi_cloneRules := Nx X 125 0 Ki_cloneRules Zi_cloneRules Ri_cloneRules (fun _ => [])
theorem ni_cloneRules : ∀ s o, Bi_cloneRules s = some o → Qi_cloneRules (Ki_cloneRules s) (Zi_cloneRules s) o
 | .h1 t0 t1 t2 b3 b4 b5 b6 b7 b8 l9, o, H =>
  eIf H (fun h1 H =>
  eCk H fun h2 H =>
  eBind H fun x3 hx3 H =>
  eBind H fun r4 hr4 H =>
  eCk H fun h5 H =>
  eN H fun r hn => gO [rg [hT 0], rg [hE 1 (gi_Terrain x3)], rg [hC 2 true [] (Rslices_Clone_int r4) []], rg [{ i := 2, post := [.put 5 0 1 4 (List.map goi_Terrain [(Gi_Terrain.mk x3.Name r4 x3.Shift x3.Height x3.Blocks)]), .own 5 1] }, hA 3 ((l9 ++ [(Gi_Terrain.mk x3.Name r4 x3.Shift x3.Height x3.Blocks)]).length) (List.map goi_Terrain (l9 ++ [(Gi_Terrain.mk x3.Name r4 x3.Shift x3.Height x3.Blocks)]))], r0, .canon [0, 1, 6] [1, 2, 3, 8, 9, 10]] (by kernel_rfl) (P2 ((decide (t2 < t1)) = true) (decide_eq_true h1)<|P1 h2<|P1 (int_lt_of_at h2 hx3)<|P1 (at_map gi_Terrain hx3)<|P1 (cslices_Clone_int hr4)<|P2 (getCells [.agg [.str x3.Name, .ref 4 1 none, I x3.Shift, I x3.Height, .bool x3.Blocks]] 0 1 1 = some [.ref 4 1 none]) rfl<|P2 (setCells [.agg [.str x3.Name, .ref 4 1 none, I x3.Shift, I x3.Height, .bool x3.Blocks]] 0 1 [ow 1 I r4] = List.map goi_Terrain [(Gi_Terrain.mk x3.Name r4 x3.Shift x3.Height x3.Blocks)]) rfl<|P1 (allOw_159 [(Gi_Terrain.mk x3.Name r4 x3.Shift x3.Height x3.Blocks)])<|P2 ((1 : Nat) = 1) rfl<|P1 (apL l9 [(Gi_Terrain.mk x3.Name r4 x3.Shift x3.Height x3.Blocks)])<|P1 (apB h5)<|P1 (apM goi_Terrain l9 [(Gi_Terrain.mk x3.Name r4 x3.Shift x3.Height x3.Blocks)])<|P0) hn)
  (fun h1 H =>
  eBind H fun r2 hr2 H =>
  eN H<|gE func125 [rg [hF 0], rg [hC 3 true [] (Rslices_Clone_i_Kind r2) []], r0] (by kernel_rfl) (P2 ((decide (t2 < t1)) = false) (decide_eq_false h1)<|P1 (cslices_Clone_i_Kind hr2)<|P0))
theorem wi_cloneRules : ∀ s r, loop Bi_cloneRules s = some r → Wc X 125 0 (Ki_cloneRules s) (Zi_cloneRules s) (Ri_cloneRules r) ((fun _ => []) r) := Nx.all (ni_cloneRules)
theorem ci_cloneRules {a0 : Gi_Rules} {r : Gi_Rules} (H : Di_cloneRules a0 = some r) : Ct X.P X.gl 125 [gi_Rules a0] [] (Ri_cloneRules r) [] :=
  Ct.of func125 (c := bdy f125) (by kernel_rfl) (by kernel_rfl) <|
  gO [r0, r0, r0, .canon [0, 1, 2] [1, 2, 3, 8, 9, 10]] (by kernel_rfl) P0 (wi_cloneRules _ _ H)
def Ri_cloneMap (r : Gi_Map) : List D := [.agg [I r.Width, I r.Height, ow 1 I r.Terrain, ow 1 I r.Rivers, ow 1 I r.Roads]]
theorem ci_cloneMap {a0 : Gi_Map} {r : Gi_Map} (H : Di_cloneMap a0 = some r) : Ct X.P X.gl 126 [gi_Map a0] [] (Ri_cloneMap r) [] :=
  Ct.of func126 (c := bdy f126) (by kernel_rfl) (by kernel_rfl) <|
  eBind H fun r1 hr1 H =>
  eBind H fun r2 hr2 H =>
  eBind H fun r3 hr3 H =>
  eW Ri_cloneMap (fun _ => []) H<|gE func126 [r0, rg [hC 2 true [] (Rslices_Clone_int r1) [], hC 5 true [] (Rslices_Clone_int r2) [], hC 8 true [] (Rslices_Clone_int r3) []], r0] (by kernel_rfl) (P1 (cslices_Clone_int hr1)<|P1 (cslices_Clone_int hr2)<|P1 (cslices_Clone_int hr3)<|P0)
def Ri_cloneBoard (r : Gi_Board) : List D := [.agg [ow 5 goi_Terrain r.Rules.Terrains, ow 6 gi_Kind r.Rules.Kinds, I r.Rules.Stack, I r.Rules.River, I r.Rules.Road, I r.Rules.Supply, I r.Rules.Turns, I r.Map.Width, I r.Map.Height, ow 1 I r.Map.Terrain, ow 1 I r.Map.Rivers, ow 1 I r.Map.Roads]]
theorem ci_cloneBoard {a0 : Gi_Board} {r : Gi_Board} (H : Di_cloneBoard a0 = some r) : Ct X.P X.gl 84 [gi_Board a0] [] (Ri_cloneBoard r) [] :=
  Ct.of func84 (c := bdy f84) (by kernel_rfl) (by kernel_rfl) <|
  eBind H fun r1 hr1 H =>
  eBind H fun r2 hr2 H =>
  eW Ri_cloneBoard (fun _ => []) H<|gE func84 [r0, rg [hC 2 true [] (Ri_cloneRules r1) [], hC 5 true [] (Ri_cloneMap r2) []]] (by kernel_rfl) (P1 (ci_cloneRules hr1)<|P1 (ci_cloneMap hr2)<|P0)
def Rslices_Clone_i_Odds (r : List Gi_Odds) : List D := [ow 2 gi_Odds r]
theorem cslices_Clone_i_Odds {l r : List Gi_Odds} (H : Dslices_Clone_i_Odds l = some r) : Ct X.P X.gl 127 [sl 2 gi_Odds l] [] (Rslices_Clone_i_Odds r) [] :=
  eCk H fun h H => eRet (P := fun r => Ct X.P X.gl 127 [sl 2 gi_Odds l] [] (Rslices_Clone_i_Odds r) []) H <|
    Ct.of func127 (c := bdy f127) (by kernel_rfl) (by kernel_rfl)<|by
      by_cases h0 : 0 < l.length
      · exact gE func127 [r0, rg [{ i := 1, keep := true }], rg [{ i := 2, n := l.length, xs := List.map gi_Odds l }]] (by kernel_rfl) (P1 h0<|P1 (allFl_163 l)<|P2 (l.length = 0 + l.length) (by simp)<|P2 ((0 + l.length) * 16 ≤ 70368744177664) (by simpa using h)<|P2 (([] : List D) ++ List.map gi_Odds l = List.map gi_Odds l) rfl P0)
      · have e : l = [] := by cases l with | nil => rfl | cons x l => exact absurd (Nat.succ_pos _) h0
        subst e
        refine gO [r0, r0, .stop] (k' := nav 300 2 [] [.code (bdy f127)]) (σ' := ⟨sts 8 [(0, sl 2 gi_Odds []), (2, .nil), (3, sl 2 gi_Odds []), (4, .anyb)], []⟩) (by kernel_rfl) P0 (Wc.anyb 4 (by kernel_rfl) fun b => ?_)
        cases b with
        | true => exact gE func127 [r0] (by kernel_rfl) P0
        | false =>
          have h : ([] : List Gi_Odds).length * 16 ≤ 70368744177664 := by decide
          have : Wc X 127 0 (nav 300 2 [] [.code (bdy f127)]) ⟨sts 8 [(0, sl 2 gi_Odds []), (2, .nil), (3, sl 2 gi_Odds []), (4, .bool false)], []⟩ (Rslices_Clone_i_Odds []) [] := by
            generalize hl : ([] : List Gi_Odds) = l at h ⊢
            exact gE func127 [ rg [{ i := 2, n := l.length, xs := List.map gi_Odds l }]] (by kernel_rfl) ( P1 (allFl_163 l)<|P2 (l.length = 0 + l.length) (by simp)<|P2 ((0 + l.length) * 16 ≤ 70368744177664) (by simpa using h)<|P2 (([] : List D) ++ List.map gi_Odds l = List.map gi_Odds l) rfl P0)
          exact this
def Ri_cloneTable (r : Gi_CombatTable) : List D := [.agg [ow 2 gi_Odds r.Columns, I r.Dice, ow 1 (ow 1 I) r.Results]]
noncomputable def Ki_cloneTable : Si_cloneTable → List Item
 | .h1 .. => nav 300 3 [] [.code (bdy f85)]
 | .h2 .. => nav 300 7 [true] [.code (bdy f85)]
def Zi_cloneTable : Si_cloneTable → St
 | .h1 t0 t1 t2 b3 b4 l5 => ⟨sts 28 [(2, .ptr 0 3 0 0), (3, .ptr 1 3 0 0), (13, sl 1 (sl 1 I) t0), (14, I t1), (15, I t2)], [some ⟨false, true, 3, 1, [.agg [.nil, I b3, .nil]]⟩, some ⟨false, true, 3, 1, [.agg [.ref 2 2 none, I b4, .nil]]⟩, some ⟨false, false, 2, l5.length, List.map gi_Odds l5⟩]⟩
 | .h2 t0 t1 t2 b3 b4 l5 l6 => ⟨sts 28 [(2, .ptr 0 3 0 0), (3, .ptr 1 3 0 0), (13, sl 1 (sl 1 I) t0), (14, I t1), (15, I t2)], [some ⟨false, true, 3, 1, [.agg [.nil, I b3, .nil]]⟩, some ⟨false, true, 3, 1, [.agg [.ref 2 2 none, I b4, .ref 3 1 none]]⟩, some ⟨false, false, 2, l5.length, List.map gi_Odds l5⟩, some ⟨false, false, 1, l6.length, List.map (ow 1 I) l6⟩]⟩
abbrev Qi_cloneTable := Nx X 85 0 Ki_cloneTable Zi_cloneTable Ri_cloneTable (fun _ => [])
theorem ni_cloneTable : ∀ s o, Bi_cloneTable s = some o → Qi_cloneTable (Ki_cloneTable s) (Zi_cloneTable s) o
 | .h1 t0 t1 t2 b3 b4 l5, o, H =>
  eIf H (fun h1 H =>
  eCk H fun h2 H =>
  eBind H fun x3 hx3 H =>
  eBind H fun r4 hr4 H =>
  eCk H fun h5 H =>
  eN H fun r hn => gO [rg [hT 0], rg [hE 1 ((sl 1 I) x3)], rg [hC 3 true [] (Rslices_Clone_int r4) [], { i := 4, post := [.put 4 0 0 3 (List.map (ow 1 I) [r4]), .own 4 1] }, hA 5 ([r4].length) (List.map (ow 1 I) [r4])], r0, .canon [0, 1, 2, 5] [2, 3, 13, 14, 15]] (by kernel_rfl) (P2 ((decide (t2 < t1)) = true) (decide_eq_true h1)<|P1 h2<|P1 (int_lt_of_at h2 hx3)<|P1 (at_map (sl 1 I) hx3)<|P1 (cslices_Clone_int hr4)<|P2 (getCells [.ref 3 1 none] 0 0 1 = some [.ref 3 1 none]) rfl<|P2 (setCells [.ref 3 1 none] 0 0 [ow 1 I r4] = List.map (ow 1 I) [r4]) rfl<|P1 (allOw_26 [r4])<|P2 ((1 : Nat) = 1) rfl<|P2 ([r4].length = 0 + [r4].length) (by simp <;> omega)<|P2 ((0 + [r4].length) * 24 ≤ 70368744177664) (by have := h5; simp at this ⊢ <;> omega)<|P2 (([] : List D) ++ List.map (ow 1 I) [r4] = List.map (ow 1 I) [r4]) (by simp)<|P0) hn)
  (fun h1 H =>
  eN H<|gE func85 [rg [hF 0], r0] (by kernel_rfl) (P2 ((decide (t2 < t1)) = false) (decide_eq_false h1)<|P0))
 | .h2 t0 t1 t2 b3 b4 l5 l6, o, H =>
  eIf H (fun h1 H =>
  eCk H fun h2 H =>
  eBind H fun x3 hx3 H =>
  eBind H fun r4 hr4 H =>
  eCk H fun h5 H =>
  eN H fun r hn => gO [rg [hT 0], rg [hE 1 ((sl 1 I) x3)], rg [hC 3 true [] (Rslices_Clone_int r4) [], { i := 4, post := [.put 5 0 0 4 (List.map (ow 1 I) [r4]), .own 5 1] }, hA 5 ((l6 ++ [r4]).length) (List.map (ow 1 I) (l6 ++ [r4]))], r0, .canon [0, 1, 2, 6] [2, 3, 13, 14, 15]] (by kernel_rfl) (P2 ((decide (t2 < t1)) = true) (decide_eq_true h1)<|P1 h2<|P1 (int_lt_of_at h2 hx3)<|P1 (at_map (sl 1 I) hx3)<|P1 (cslices_Clone_int hr4)<|P2 (getCells [.ref 4 1 none] 0 0 1 = some [.ref 4 1 none]) rfl<|P2 (setCells [.ref 4 1 none] 0 0 [ow 1 I r4] = List.map (ow 1 I) [r4]) rfl<|P1 (allOw_26 [r4])<|P2 ((1 : Nat) = 1) rfl<|P1 (apL l6 [r4])<|P1 (apB h5)<|P1 (apM (ow 1 I) l6 [r4])<|P0) hn)
  (fun h1 H =>
  eN H<|gE func85 [rg [hF 0], r0] (by kernel_rfl) (P2 ((decide (t2 < t1)) = false) (decide_eq_false h1)<|P0))
theorem wi_cloneTable : ∀ s r, loop Bi_cloneTable s = some r → Wc X 85 0 (Ki_cloneTable s) (Zi_cloneTable s) (Ri_cloneTable r) ((fun _ => []) r) := Nx.all (ni_cloneTable)
theorem ci_cloneTable {a0 : Gi_CombatTable} {r : Gi_CombatTable} (H : Di_cloneTable a0 = some r) : Ct X.P X.gl 85 [gi_CombatTable a0] [] (Ri_cloneTable r) [] :=
  Ct.of func85 (c := bdy f85) (by kernel_rfl) (by kernel_rfl) <|
  eBind H fun r1 hr1 H =>
  gO [r0, rg [hC 2 true [] (Rslices_Clone_i_Odds r1) []], r0, .canon [1, 3, 2] [2, 3, 13, 14, 15]] (by kernel_rfl) (P1 (cslices_Clone_i_Odds hr1)<|P0) (wi_cloneTable _ _ H)
def Rslices_Clone_i_Unit (r : List Gi_Unit) : List D := [ow 4 gi_Unit r]
theorem cslices_Clone_i_Unit {l r : List Gi_Unit} (H : Dslices_Clone_i_Unit l = some r) : Ct X.P X.gl 170 [sl 4 gi_Unit l] [] (Rslices_Clone_i_Unit r) [] :=
  eCk H fun h H => eRet (P := fun r => Ct X.P X.gl 170 [sl 4 gi_Unit l] [] (Rslices_Clone_i_Unit r) []) H <|
    Ct.of func170 (c := bdy f170) (by kernel_rfl) (by kernel_rfl)<|by
      by_cases h0 : 0 < l.length
      · exact gE func170 [r0, rg [{ i := 1, keep := true }], rg [{ i := 2, n := l.length, xs := List.map gi_Unit l }]] (by kernel_rfl) (P1 h0<|P1 (allFl_167 l)<|P2 (l.length = 0 + l.length) (by simp)<|P2 ((0 + l.length) * 32 ≤ 70368744177664) (by simpa using h)<|P2 (([] : List D) ++ List.map gi_Unit l = List.map gi_Unit l) rfl P0)
      · have e : l = [] := by cases l with | nil => rfl | cons x l => exact absurd (Nat.succ_pos _) h0
        subst e
        refine gO [r0, r0, .stop] (k' := nav 300 2 [] [.code (bdy f170)]) (σ' := ⟨sts 8 [(0, sl 4 gi_Unit []), (2, .nil), (3, sl 4 gi_Unit []), (4, .anyb)], []⟩) (by kernel_rfl) P0 (Wc.anyb 4 (by kernel_rfl) fun b => ?_)
        cases b with
        | true => exact gE func170 [r0] (by kernel_rfl) P0
        | false =>
          have h : ([] : List Gi_Unit).length * 32 ≤ 70368744177664 := by decide
          have : Wc X 170 0 (nav 300 2 [] [.code (bdy f170)]) ⟨sts 8 [(0, sl 4 gi_Unit []), (2, .nil), (3, sl 4 gi_Unit []), (4, .bool false)], []⟩ (Rslices_Clone_i_Unit []) [] := by
            generalize hl : ([] : List Gi_Unit) = l at h ⊢
            exact gE func170 [ rg [{ i := 2, n := l.length, xs := List.map gi_Unit l }]] (by kernel_rfl) ( P1 (allFl_167 l)<|P2 (l.length = 0 + l.length) (by simp)<|P2 ((0 + l.length) * 32 ≤ 70368744177664) (by simpa using h)<|P2 (([] : List D) ++ List.map gi_Unit l = List.map gi_Unit l) rfl P0)
          exact this
def Ri_cloneState (r : Gi_State) : List D := [.agg [I r.Turn, I r.Weather, ow 4 gi_Unit r.Units]]
theorem ci_cloneState {a0 : Gi_State} {r : Gi_State} (H : Di_cloneState a0 = some r) : Ct X.P X.gl 138 [gi_State a0] [] (Ri_cloneState r) [] :=
  Ct.of func138 (c := bdy f138) (by kernel_rfl) (by kernel_rfl) <|
  eBind H fun r1 hr1 H =>
  eW Ri_cloneState (fun _ => []) H<|gE func138 [r0, rg [hC 2 true [] (Rslices_Clone_i_Unit r1) []], r0] (by kernel_rfl) (P1 (cslices_Clone_i_Unit hr1)<|P0)
def Rslices_Clone_i_Goal (r : List Gi_Goal) : List D := [ow 2 gi_Goal r]
theorem cslices_Clone_i_Goal {l r : List Gi_Goal} (H : Dslices_Clone_i_Goal l = some r) : Ct X.P X.gl 139 [sl 2 gi_Goal l] [] (Rslices_Clone_i_Goal r) [] :=
  eCk H fun h H => eRet (P := fun r => Ct X.P X.gl 139 [sl 2 gi_Goal l] [] (Rslices_Clone_i_Goal r) []) H <|
    Ct.of func139 (c := bdy f139) (by kernel_rfl) (by kernel_rfl)<|by
      by_cases h0 : 0 < l.length
      · exact gE func139 [r0, rg [{ i := 1, keep := true }], rg [{ i := 2, n := l.length, xs := List.map gi_Goal l }]] (by kernel_rfl) (P1 h0<|P1 (allFl_171 l)<|P2 (l.length = 0 + l.length) (by simp)<|P2 ((0 + l.length) * 16 ≤ 70368744177664) (by simpa using h)<|P2 (([] : List D) ++ List.map gi_Goal l = List.map gi_Goal l) rfl P0)
      · have e : l = [] := by cases l with | nil => rfl | cons x l => exact absurd (Nat.succ_pos _) h0
        subst e
        refine gO [r0, r0, .stop] (k' := nav 300 2 [] [.code (bdy f139)]) (σ' := ⟨sts 8 [(0, sl 2 gi_Goal []), (2, .nil), (3, sl 2 gi_Goal []), (4, .anyb)], []⟩) (by kernel_rfl) P0 (Wc.anyb 4 (by kernel_rfl) fun b => ?_)
        cases b with
        | true => exact gE func139 [r0] (by kernel_rfl) P0
        | false =>
          have h : ([] : List Gi_Goal).length * 16 ≤ 70368744177664 := by decide
          have : Wc X 139 0 (nav 300 2 [] [.code (bdy f139)]) ⟨sts 8 [(0, sl 2 gi_Goal []), (2, .nil), (3, sl 2 gi_Goal []), (4, .bool false)], []⟩ (Rslices_Clone_i_Goal []) [] := by
            generalize hl : ([] : List Gi_Goal) = l at h ⊢
            exact gE func139 [ rg [{ i := 2, n := l.length, xs := List.map gi_Goal l }]] (by kernel_rfl) ( P1 (allFl_171 l)<|P2 (l.length = 0 + l.length) (by simp)<|P2 ((0 + l.length) * 16 ≤ 70368744177664) (by simpa using h)<|P2 (([] : List D) ++ List.map gi_Goal l = List.map gi_Goal l) rfl P0)
          exact this
def Ri_cloneScenario (r : Gi_Scenario) : List D := [.agg [.str r.Name, ow 5 goi_Terrain r.Board.Rules.Terrains, ow 6 gi_Kind r.Board.Rules.Kinds, I r.Board.Rules.Stack, I r.Board.Rules.River, I r.Board.Rules.Road, I r.Board.Rules.Supply, I r.Board.Rules.Turns, I r.Board.Map.Width, I r.Board.Map.Height, ow 1 I r.Board.Map.Terrain, ow 1 I r.Board.Map.Rivers, ow 1 I r.Board.Map.Roads, ow 2 gi_Odds r.Table.Columns, I r.Table.Dice, ow 1 (ow 1 I) r.Table.Results, I r.Start.Turn, I r.Start.Weather, ow 4 gi_Unit r.Start.Units, ow 2 gi_Goal r.Conditions.Goals, I r.Conditions.Step, I r.Conditions.Margin, ow 1 I r.First, ow 1 I r.Other]]
theorem ci_cloneScenario {a0 : Gi_Scenario} {r : Gi_Scenario} (H : Di_cloneScenario a0 = some r) : Ct X.P X.gl 103 [gi_Scenario a0] [] (Ri_cloneScenario r) [] :=
  Ct.of func103 (c := bdy f103) (by kernel_rfl) (by kernel_rfl) <|
  eBind H fun r1 hr1 H =>
  eBind H fun r2 hr2 H =>
  eBind H fun r3 hr3 H =>
  eBind H fun r4 hr4 H =>
  eBind H fun r5 hr5 H =>
  eBind H fun r6 hr6 H =>
  eW Ri_cloneScenario (fun _ => []) H<|gE func103 [r0, rg [hC 2 true [] (Ri_cloneBoard r1) [], hC 5 true [] (Ri_cloneTable r2) [], hC 8 true [] (Ri_cloneState r3) []], rg [hC 3 true [] (Rslices_Clone_i_Goal r4) []], rg [hC 2 true [] (Rslices_Clone_int r5) [], hC 5 true [] (Rslices_Clone_int r6) []], r0] (by kernel_rfl) (P1 (ci_cloneBoard hr1)<|P1 (ci_cloneTable hr2)<|P1 (ci_cloneState hr3)<|P1 (cslices_Clone_i_Goal hr4)<|P1 (cslices_Clone_int hr5)<|P1 (cslices_Clone_int hr6)<|P0)
def Ri_cloneClimate (r : Gi_Climate) : List D := [.agg [ow 1 (ow 1 I) r.Weights]]
noncomputable def Ki_cloneClimate : Si_cloneClimate → List Item
 | .h1 .. => nav 300 3 [] [.code (bdy f86)]
 | .h2 .. => nav 300 7 [true] [.code (bdy f86)]
def Zi_cloneClimate : Si_cloneClimate → St
 | .h1 t0 t1 t2 => ⟨sts 23 [(2, .ptr 0 1 0 0), (3, .ptr 1 1 0 0), (8, sl 1 (sl 1 I) t0), (9, I t1), (10, I t2)], [some ⟨false, true, 1, 1, [.agg [.nil]]⟩, some ⟨false, true, 1, 1, [.agg [.nil]]⟩]⟩
 | .h2 t0 t1 t2 l3 => ⟨sts 23 [(2, .ptr 0 1 0 0), (3, .ptr 1 1 0 0), (8, sl 1 (sl 1 I) t0), (9, I t1), (10, I t2)], [some ⟨false, true, 1, 1, [.agg [.nil]]⟩, some ⟨false, true, 1, 1, [.agg [.ref 2 1 none]]⟩, some ⟨false, false, 1, l3.length, List.map (ow 1 I) l3⟩]⟩
abbrev Qi_cloneClimate := Nx X 86 0 Ki_cloneClimate Zi_cloneClimate Ri_cloneClimate (fun _ => [])
theorem ni_cloneClimate : ∀ s o, Bi_cloneClimate s = some o → Qi_cloneClimate (Ki_cloneClimate s) (Zi_cloneClimate s) o
 | .h1 t0 t1 t2, o, H =>
  eIf H (fun h1 H =>
  eCk H fun h2 H =>
  eBind H fun x3 hx3 H =>
  eBind H fun r4 hr4 H =>
  eCk H fun h5 H =>
  eN H fun r hn => gO [rg [hT 0], rg [hE 1 ((sl 1 I) x3)], rg [hC 3 true [] (Rslices_Clone_int r4) [], { i := 4, post := [.put 3 0 0 2 (List.map (ow 1 I) [r4]), .own 3 1] }, hA 5 ([r4].length) (List.map (ow 1 I) [r4])], r0, .canon [0, 1, 4] [2, 3, 8, 9, 10]] (by kernel_rfl) (P2 ((decide (t2 < t1)) = true) (decide_eq_true h1)<|P1 h2<|P1 (int_lt_of_at h2 hx3)<|P1 (at_map (sl 1 I) hx3)<|P1 (cslices_Clone_int hr4)<|P2 (getCells [.ref 2 1 none] 0 0 1 = some [.ref 2 1 none]) rfl<|P2 (setCells [.ref 2 1 none] 0 0 [ow 1 I r4] = List.map (ow 1 I) [r4]) rfl<|P1 (allOw_26 [r4])<|P2 ((1 : Nat) = 1) rfl<|P2 ([r4].length = 0 + [r4].length) (by simp <;> omega)<|P2 ((0 + [r4].length) * 24 ≤ 70368744177664) (by have := h5; simp at this ⊢ <;> omega)<|P2 (([] : List D) ++ List.map (ow 1 I) [r4] = List.map (ow 1 I) [r4]) (by simp)<|P0) hn)
  (fun h1 H =>
  eN H<|gE func86 [rg [hF 0], r0] (by kernel_rfl) (P2 ((decide (t2 < t1)) = false) (decide_eq_false h1)<|P0))
 | .h2 t0 t1 t2 l3, o, H =>
  eIf H (fun h1 H =>
  eCk H fun h2 H =>
  eBind H fun x3 hx3 H =>
  eBind H fun r4 hr4 H =>
  eCk H fun h5 H =>
  eN H fun r hn => gO [rg [hT 0], rg [hE 1 ((sl 1 I) x3)], rg [hC 3 true [] (Rslices_Clone_int r4) [], { i := 4, post := [.put 4 0 0 3 (List.map (ow 1 I) [r4]), .own 4 1] }, hA 5 ((l3 ++ [r4]).length) (List.map (ow 1 I) (l3 ++ [r4]))], r0, .canon [0, 1, 5] [2, 3, 8, 9, 10]] (by kernel_rfl) (P2 ((decide (t2 < t1)) = true) (decide_eq_true h1)<|P1 h2<|P1 (int_lt_of_at h2 hx3)<|P1 (at_map (sl 1 I) hx3)<|P1 (cslices_Clone_int hr4)<|P2 (getCells [.ref 3 1 none] 0 0 1 = some [.ref 3 1 none]) rfl<|P2 (setCells [.ref 3 1 none] 0 0 [ow 1 I r4] = List.map (ow 1 I) [r4]) rfl<|P1 (allOw_26 [r4])<|P2 ((1 : Nat) = 1) rfl<|P1 (apL l3 [r4])<|P1 (apB h5)<|P1 (apM (ow 1 I) l3 [r4])<|P0) hn)
  (fun h1 H =>
  eN H<|gE func86 [rg [hF 0], r0] (by kernel_rfl) (P2 ((decide (t2 < t1)) = false) (decide_eq_false h1)<|P0))
theorem wi_cloneClimate : ∀ s r, loop Bi_cloneClimate s = some r → Wc X 86 0 (Ki_cloneClimate s) (Zi_cloneClimate s) (Ri_cloneClimate r) ((fun _ => []) r) := Nx.all (ni_cloneClimate)
theorem ci_cloneClimate {a0 : Gi_Climate} {r : Gi_Climate} (H : Di_cloneClimate a0 = some r) : Ct X.P X.gl 86 [.agg [sl 1 (sl 1 I) a0.Weights]] [] (Ri_cloneClimate r) [] :=
  Ct.of func86 (c := bdy f86) (by kernel_rfl) (by kernel_rfl) <|
  gO [r0, r0, r0, .canon [1, 2] [2, 3, 8, 9, 10]] (by kernel_rfl) P0 (wi_cloneClimate _ _ H)
def Ri_cloneOrder (r : Gi_Order) : List D := [.agg [I r.Unit, ow 1 I r.Path, I r.Attack]]
theorem ci_cloneOrder {a0 : Gi_Order} {r : Gi_Order} (H : Di_cloneOrder a0 = some r) : Ct X.P X.gl 171 [gi_Order a0] [] (Ri_cloneOrder r) [] :=
  Ct.of func171 (c := bdy f171) (by kernel_rfl) (by kernel_rfl) <|
  eBind H fun r1 hr1 H =>
  eW Ri_cloneOrder (fun _ => []) H<|gE func171 [r0, rg [hC 2 true [] (Rslices_Clone_int r1) []], r0] (by kernel_rfl) (P1 (cslices_Clone_int hr1)<|P0)
def Ri_cloneSheet (r : Gi_Sheet) : List D := [.agg [I r.Side, ow 3 goi_Order r.Orders]]
noncomputable def Ki_cloneSheet : Si_cloneSheet → List Item
 | .h1 .. => nav 300 3 [] [.code (bdy f140)]
 | .h2 .. => nav 300 7 [true] [.code (bdy f140)]
def Zi_cloneSheet : Si_cloneSheet → St
 | .h1 t0 t1 t2 b3 b4 => ⟨sts 25 [(2, .ptr 0 2 0 0), (3, .ptr 1 2 0 0), (10, sl 3 gi_Order t0), (11, I t1), (12, I t2)], [some ⟨false, true, 2, 1, [.agg [I b3, .nil]]⟩, some ⟨false, true, 2, 1, [.agg [I b4, .nil]]⟩]⟩
 | .h2 t0 t1 t2 b3 b4 l5 => ⟨sts 25 [(2, .ptr 0 2 0 0), (3, .ptr 1 2 0 0), (10, sl 3 gi_Order t0), (11, I t1), (12, I t2)], [some ⟨false, true, 2, 1, [.agg [I b3, .nil]]⟩, some ⟨false, true, 2, 1, [.agg [I b4, .ref 2 3 none]]⟩, some ⟨false, false, 3, l5.length, List.map goi_Order l5⟩]⟩
abbrev Qi_cloneSheet := Nx X 140 0 Ki_cloneSheet Zi_cloneSheet Ri_cloneSheet (fun _ => [])
theorem ni_cloneSheet : ∀ s o, Bi_cloneSheet s = some o → Qi_cloneSheet (Ki_cloneSheet s) (Zi_cloneSheet s) o
 | .h1 t0 t1 t2 b3 b4, o, H =>
  eIf H (fun h1 H =>
  eCk H fun h2 H =>
  eBind H fun x3 hx3 H =>
  eBind H fun r4 hr4 H =>
  eCk H fun h5 H =>
  eN H fun r hn => gO [rg [hT 0], rg [hE 1 (gi_Order x3)], rg [hC 3 true [] (Ri_cloneOrder r4) [], { i := 4, post := [.put 5 0 1 4 (List.map goi_Order [r4]), .own 5 1] }, hA 5 ([r4].length) (List.map goi_Order [r4])], r0, .canon [0, 1, 6] [2, 3, 10, 11, 12]] (by kernel_rfl) (P2 ((decide (t2 < t1)) = true) (decide_eq_true h1)<|P1 h2<|P1 (int_lt_of_at h2 hx3)<|P1 (at_map gi_Order hx3)<|P1 (ci_cloneOrder hr4)<|P2 (getCells [.agg [I r4.Unit, .ref 4 1 none, I r4.Attack]] 0 1 1 = some [.ref 4 1 none]) rfl<|P2 (setCells [.agg [I r4.Unit, .ref 4 1 none, I r4.Attack]] 0 1 [ow 1 I r4.Path] = List.map goi_Order [r4]) rfl<|P1 (allOw_189 [r4])<|P2 ((1 : Nat) = 1) rfl<|P2 ([r4].length = 0 + [r4].length) (by simp <;> omega)<|P2 ((0 + [r4].length) * 40 ≤ 70368744177664) (by have := h5; simp at this ⊢ <;> omega)<|P2 (([] : List D) ++ List.map goi_Order [r4] = List.map goi_Order [r4]) (by simp)<|P0) hn)
  (fun h1 H =>
  eN H<|gE func140 [rg [hF 0], r0] (by kernel_rfl) (P2 ((decide (t2 < t1)) = false) (decide_eq_false h1)<|P0))
 | .h2 t0 t1 t2 b3 b4 l5, o, H =>
  eIf H (fun h1 H =>
  eCk H fun h2 H =>
  eBind H fun x3 hx3 H =>
  eBind H fun r4 hr4 H =>
  eCk H fun h5 H =>
  eN H fun r hn => gO [rg [hT 0], rg [hE 1 (gi_Order x3)], rg [hC 3 true [] (Ri_cloneOrder r4) [], { i := 4, post := [.put 6 0 1 5 (List.map goi_Order [r4]), .own 6 1] }, hA 5 ((l5 ++ [r4]).length) (List.map goi_Order (l5 ++ [r4]))], r0, .canon [0, 1, 7] [2, 3, 10, 11, 12]] (by kernel_rfl) (P2 ((decide (t2 < t1)) = true) (decide_eq_true h1)<|P1 h2<|P1 (int_lt_of_at h2 hx3)<|P1 (at_map gi_Order hx3)<|P1 (ci_cloneOrder hr4)<|P2 (getCells [.agg [I r4.Unit, .ref 5 1 none, I r4.Attack]] 0 1 1 = some [.ref 5 1 none]) rfl<|P2 (setCells [.agg [I r4.Unit, .ref 5 1 none, I r4.Attack]] 0 1 [ow 1 I r4.Path] = List.map goi_Order [r4]) rfl<|P1 (allOw_189 [r4])<|P2 ((1 : Nat) = 1) rfl<|P1 (apL l5 [r4])<|P1 (apB h5)<|P1 (apM goi_Order l5 [r4])<|P0) hn)
  (fun h1 H =>
  eN H<|gE func140 [rg [hF 0], r0] (by kernel_rfl) (P2 ((decide (t2 < t1)) = false) (decide_eq_false h1)<|P0))
theorem wi_cloneSheet : ∀ s r, loop Bi_cloneSheet s = some r → Wc X 140 0 (Ki_cloneSheet s) (Zi_cloneSheet s) (Ri_cloneSheet r) ((fun _ => []) r) := Nx.all (ni_cloneSheet)
theorem ci_cloneSheet {a0 : Gi_Sheet} {r : Gi_Sheet} (H : Di_cloneSheet a0 = some r) : Ct X.P X.gl 140 [gi_Sheet a0] [] (Ri_cloneSheet r) [] :=
  Ct.of func140 (c := bdy f140) (by kernel_rfl) (by kernel_rfl) <|
  gO [r0, r0, r0, .canon [1, 2] [2, 3, 10, 11, 12]] (by kernel_rfl) P0 (wi_cloneSheet _ _ H)
def Ri_cloneTurns (r : (List Gi_SavedTurn)) : List D := [ow 5 goi_SavedTurn r]
noncomputable def Ki_cloneTurns : Si_cloneTurns → List Item
 | .h1 .. => nav 300 3 [] [.code (bdy f104)]
def Zi_cloneTurns : Si_cloneTurns → St
 | .h1 t0 t1 t2 l3 => ⟨sts 27 [(3, .ref 0 5 none), (7, sl 5 gi_SavedTurn t0), (8, I t1), (9, I t2)], [some ⟨false, false, 5, l3.length, List.map goi_SavedTurn l3⟩]⟩
abbrev Qi_cloneTurns := Nx X 104 0 Ki_cloneTurns Zi_cloneTurns Ri_cloneTurns (fun _ => [])
theorem ni_cloneTurns : ∀ s o, Bi_cloneTurns s = some o → Qi_cloneTurns (Ki_cloneTurns s) (Zi_cloneTurns s) o
 | .h1 t0 t1 t2 l3, o, H =>
  eIf H (fun h1 H =>
  eCk H fun h2 H =>
  eBind H fun x3 hx3 H =>
  eBind H fun r4 hr4 H =>
  eBind H fun r5 hr5 H =>
  eCk H fun h6 H =>
  eN H fun r hn => gO [rg [hT 0], rg [hE 1 (gi_SavedTurn x3)], rg [hC 5 true [] (Ri_cloneSheet r4) [], hC 8 true [] (Ri_cloneSheet r5) [], { i := 10, post := [.put 6 0 2 3 ([.agg [I x3.Seed, I r4.Side, ow 3 goi_Order r4.Orders, I r5.Side, .ref 5 3 none]]), .put 6 0 4 5 (List.map goi_SavedTurn [(Gi_SavedTurn.mk x3.Seed r4 r5)]), .own 6 1] }, hA 11 ((l3 ++ [(Gi_SavedTurn.mk x3.Seed r4 r5)]).length) (List.map goi_SavedTurn (l3 ++ [(Gi_SavedTurn.mk x3.Seed r4 r5)]))], r0, .canon [7] [3, 7, 8, 9]] (by kernel_rfl) (P2 ((decide (t2 < t1)) = true) (decide_eq_true h1)<|P1 h2<|P1 (int_lt_of_at h2 hx3)<|P1 (at_map gi_SavedTurn hx3)<|P1 (ci_cloneSheet hr4)<|P1 (ci_cloneSheet hr5)<|P2 (getCells [.agg [I x3.Seed, I r4.Side, .ref 3 3 none, I r5.Side, .ref 5 3 none]] 0 2 1 = some [.ref 3 3 none]) rfl<|P2 (setCells [.agg [I x3.Seed, I r4.Side, .ref 3 3 none, I r5.Side, .ref 5 3 none]] 0 2 [ow 3 goi_Order r4.Orders] = [.agg [I x3.Seed, I r4.Side, ow 3 goi_Order r4.Orders, I r5.Side, .ref 5 3 none]]) rfl<|P2 (getCells [.agg [I x3.Seed, I r4.Side, ow 3 goi_Order r4.Orders, I r5.Side, .ref 5 3 none]] 0 4 1 = some [.ref 5 3 none]) rfl<|P2 (setCells [.agg [I x3.Seed, I r4.Side, ow 3 goi_Order r4.Orders, I r5.Side, .ref 5 3 none]] 0 4 [ow 3 goi_Order r5.Orders] = List.map goi_SavedTurn [(Gi_SavedTurn.mk x3.Seed r4 r5)]) rfl<|P1 (allOw_150 [(Gi_SavedTurn.mk x3.Seed r4 r5)])<|P2 ((1 : Nat) = 1) rfl<|P1 (apL l3 [(Gi_SavedTurn.mk x3.Seed r4 r5)])<|P1 (apB h6)<|P1 (apM goi_SavedTurn l3 [(Gi_SavedTurn.mk x3.Seed r4 r5)])<|P0) hn)
  (fun h1 H =>
  eN H<|gE func104 [rg [hF 0], r0] (by kernel_rfl) (P2 ((decide (t2 < t1)) = false) (decide_eq_false h1)<|P0))
theorem wi_cloneTurns : ∀ s r, loop Bi_cloneTurns s = some r → Wc X 104 0 (Ki_cloneTurns s) (Zi_cloneTurns s) (Ri_cloneTurns r) ((fun _ => []) r) := Nx.all (ni_cloneTurns)
theorem ci_cloneTurns {a0 : (List Gi_SavedTurn)} {r : (List Gi_SavedTurn)} (H : Di_cloneTurns a0 = some r) : Ct X.P X.gl 104 [sl 5 gi_SavedTurn a0] [] (Ri_cloneTurns r) [] :=
  Ct.of func104 (c := bdy f104) (by kernel_rfl) (by kernel_rfl) <|
  gO [r0, r0, r0, .canon [0] [3, 7, 8, 9]] (by kernel_rfl) P0 (wi_cloneTurns _ _ H)
def Ri_withTurns (r : Gi_Save) : List D := [.agg [.str r.Scenario.Name, ow 5 goi_Terrain r.Scenario.Board.Rules.Terrains, ow 6 gi_Kind r.Scenario.Board.Rules.Kinds, I r.Scenario.Board.Rules.Stack, I r.Scenario.Board.Rules.River, I r.Scenario.Board.Rules.Road, I r.Scenario.Board.Rules.Supply, I r.Scenario.Board.Rules.Turns, I r.Scenario.Board.Map.Width, I r.Scenario.Board.Map.Height, ow 1 I r.Scenario.Board.Map.Terrain, ow 1 I r.Scenario.Board.Map.Rivers, ow 1 I r.Scenario.Board.Map.Roads, ow 2 gi_Odds r.Scenario.Table.Columns, I r.Scenario.Table.Dice, ow 1 (ow 1 I) r.Scenario.Table.Results, I r.Scenario.Start.Turn, I r.Scenario.Start.Weather, ow 4 gi_Unit r.Scenario.Start.Units, ow 2 gi_Goal r.Scenario.Conditions.Goals, I r.Scenario.Conditions.Step, I r.Scenario.Conditions.Margin, ow 1 I r.Scenario.First, ow 1 I r.Scenario.Other, ow 1 (ow 1 I) r.Climate.Weights, ow 5 goi_SavedTurn r.Turns]]
theorem ci_withTurns {a0 : Gi_Save} {a1 : (List Gi_SavedTurn)} {r : Gi_Save} (H : Di_withTurns a0 a1 = some r) : Ct X.P X.gl 59 [gi_Save a0, sl 5 gi_SavedTurn a1] [] (Ri_withTurns r) [] :=
  Ct.of func59 (c := bdy f59) (by kernel_rfl) (by kernel_rfl) <|
  eBind H fun r1 hr1 H =>
  eBind H fun r2 hr2 H =>
  eBind H fun r3 hr3 H =>
  eW Ri_withTurns (fun _ => []) H<|gE func59 [r0, rg [hC 2 true [] (Ri_cloneScenario r1) [], hC 5 true [] (Ri_cloneClimate r2) [], hC 7 true [] (Ri_cloneTurns r3) []]] (by kernel_rfl) (P1 (ci_cloneScenario hr1)<|P1 (ci_cloneClimate hr2)<|P1 (ci_cloneTurns hr3)<|P0)
def Ri_NewSave (r : Gi_Save × Bool) : List D := [.agg [.str r.1.Scenario.Name, ow 5 goi_Terrain r.1.Scenario.Board.Rules.Terrains, ow 6 gi_Kind r.1.Scenario.Board.Rules.Kinds, I r.1.Scenario.Board.Rules.Stack, I r.1.Scenario.Board.Rules.River, I r.1.Scenario.Board.Rules.Road, I r.1.Scenario.Board.Rules.Supply, I r.1.Scenario.Board.Rules.Turns, I r.1.Scenario.Board.Map.Width, I r.1.Scenario.Board.Map.Height, ow 1 I r.1.Scenario.Board.Map.Terrain, ow 1 I r.1.Scenario.Board.Map.Rivers, ow 1 I r.1.Scenario.Board.Map.Roads, ow 2 gi_Odds r.1.Scenario.Table.Columns, I r.1.Scenario.Table.Dice, ow 1 (ow 1 I) r.1.Scenario.Table.Results, I r.1.Scenario.Start.Turn, I r.1.Scenario.Start.Weather, ow 4 gi_Unit r.1.Scenario.Start.Units, ow 2 gi_Goal r.1.Scenario.Conditions.Goals, I r.1.Scenario.Conditions.Step, I r.1.Scenario.Conditions.Margin, ow 1 I r.1.Scenario.First, ow 1 I r.1.Scenario.Other, ow 1 (ow 1 I) r.1.Climate.Weights, ow 5 goi_SavedTurn r.1.Turns], .bool r.2]
theorem ci_NewSave {a0 : Gi_Scenario} {a1 : Gi_Climate} {r : Gi_Save × Bool} (H : Di_NewSave a0 a1 = some r) : Ct X.P X.gl 19 [gi_Scenario a0, .agg [sl 1 (sl 1 I) a1.Weights]] [] (Ri_NewSave r) [] :=
  Ct.of func19 (c := bdy f19) (by kernel_rfl) (by kernel_rfl) <|
  eBind H fun r1 hr1 H =>
  gS [r0] (by kernel_rfl) P0 <|
  eIf H (fun h2 H =>
  eBind H fun r3 hr3 H =>
  eIf H (fun h4 H =>
  eBind H fun r5 hr5 H =>
  eW Ri_NewSave (fun _ => []) H<|gE func19 [rg [{ i := 1, call := some { cl := true, auto := true, ins := [], res := (RB r1), G' := [] }, dec := some true }, { i := 5, call := some { cl := true, auto := true, ins := [], res := (RB r3), G' := [] }, dec := some true }], rg [{ i := 3, call := some { cl := true, ins := [], args := [.agg [.str a0.Name, sl 5 gi_Terrain a0.Board.Rules.Terrains, sl 6 gi_Kind a0.Board.Rules.Kinds, I a0.Board.Rules.Stack, I a0.Board.Rules.River, I a0.Board.Rules.Road, I a0.Board.Rules.Supply, I a0.Board.Rules.Turns, I a0.Board.Map.Width, I a0.Board.Map.Height, sl 1 I a0.Board.Map.Terrain, sl 1 I a0.Board.Map.Rivers, sl 1 I a0.Board.Map.Roads, sl 2 gi_Odds a0.Table.Columns, I a0.Table.Dice, sl 1 (sl 1 I) a0.Table.Results, I a0.Start.Turn, I a0.Start.Weather, sl 4 gi_Unit a0.Start.Units, sl 2 gi_Goal a0.Conditions.Goals, I a0.Conditions.Step, I a0.Conditions.Margin, sl 1 I a0.First, sl 1 I a0.Other, sl 1 (sl 1 I) a1.Weights, sl 5 gi_SavedTurn []], sl 5 gi_SavedTurn []], res := Ri_withTurns r5, G' := [] } }]] (by kernel_rfl) (P1 (ci_IsScenario hr1)<|P2 (r1 = true) (h2)<|P1 (ci_IsClimate hr3)<|P2 (r3 = true) (h4)<|PI a0.Name<|PL gi_Terrain a0.Board.Rules.Terrains<|PL gi_Kind a0.Board.Rules.Kinds<|PI a0.Board.Rules.Stack<|PI a0.Board.Rules.River<|PI a0.Board.Rules.Road<|PI a0.Board.Rules.Supply<|PI a0.Board.Rules.Turns<|PI a0.Board.Map.Width<|PI a0.Board.Map.Height<|PL I a0.Board.Map.Terrain<|PL I a0.Board.Map.Rivers<|PL I a0.Board.Map.Roads<|PL gi_Odds a0.Table.Columns<|PI a0.Table.Dice<|PL (sl 1 I) a0.Table.Results<|PI a0.Start.Turn<|PI a0.Start.Weather<|PL gi_Unit a0.Start.Units<|PL gi_Goal a0.Conditions.Goals<|PI a0.Conditions.Step<|PI a0.Conditions.Margin<|PL I a0.First<|PL I a0.Other<|PL (sl 1 I) a1.Weights<|PI (0 : Nat)<|PI ([] : List D)<|PI (0 : Nat)<|PI ([] : List D)<|P1 (ci_withTurns hr5)<|P0))
  (fun h4 H =>
  eW Ri_NewSave (fun _ => []) H<|gE func19 [rg [{ i := 1, call := some { cl := true, auto := true, ins := [], res := (RB r1), G' := [] }, dec := some true }, { i := 5, call := some { cl := true, auto := true, ins := [], res := (RB r3), G' := [] }, dec := some false }], r0] (by kernel_rfl) (P1 (ci_IsScenario hr1)<|P2 (r1 = true) (h2)<|P1 (ci_IsClimate hr3)<|P2 (r3 = false) (eqF h4)<|P0)))
  (fun h2 H =>
  eW Ri_NewSave (fun _ => []) H<|gE func19 [rg [{ i := 1, call := some { cl := true, auto := true, ins := [], res := (RB r1), G' := [] }, dec := some false }], r0] (by kernel_rfl) (P1 (ci_IsScenario hr1)<|P2 (r1 = false) (eqF h2)<|P0))
noncomputable def Kw_eqIntS : Sw_eqIntS → List Item
 | .h1 .. => nav 300 3 [false] [.code (bdy f47)]
def Zw_eqIntS : Sw_eqIntS → St
 | .h1 va0 b1 i2 => ⟨sts 26 [(0, sl 1 I va0), (1, sl 1 I b1), (5, I i2)], []⟩
abbrev Qw_eqIntS := Nx X 47 0 Kw_eqIntS Zw_eqIntS RB (fun _ => [])
theorem nw_eqIntS : ∀ s o, Bw_eqIntS s = some o → Qw_eqIntS (Kw_eqIntS s) (Zw_eqIntS s) o
 | .h1 va0 b1 i2, o, H =>
  eIf H (fun h1 H =>
  eCk H fun h2 H =>
  eBind H fun x3 hx3 H =>
  eCk H fun h4 H =>
  eBind H fun x5 hx5 H =>
  gN [rg [hT 3]] (by kernel_rfl) (P2 ((decide (i2 < ((va0.length : Nat) : Int))) = true) (decide_eq_true h1)<|P0) <|
  eIf H (fun h6 H =>
  eN H fun r hn => gO [rg [hE 3 (I x3), hE 7 (I x5), hF 8], r0, .canon [] [0, 1, 5]] (by kernel_rfl) (P1 h2<|P1 (int_lt_of_at h2 hx3)<|P1 (at_map I hx3)<|P1 h4<|P1 (int_lt_of_at h4 hx5)<|P1 (at_map I hx5)<|P2 (((x3 : Int) != x5) = false) (bneF h6)<|P0) hn)
  (fun h6 H =>
  eN H<|gE func47 [rg [hE 3 (I x3), hE 7 (I x5), hT 8], r0] (by kernel_rfl) (P1 h2<|P1 (int_lt_of_at h2 hx3)<|P1 (at_map I hx3)<|P1 h4<|P1 (int_lt_of_at h4 hx5)<|P1 (at_map I hx5)<|P2 (((x3 : Int) != x5) = true) (bneT h6)<|P0)))
  (fun h1 H =>
  eN H<|gE func47 [rg [hF 3], r0] (by kernel_rfl) (P2 ((decide (i2 < ((va0.length : Nat) : Int))) = false) (decide_eq_false h1)<|P0))
theorem ww_eqIntS : ∀ s r, loop Bw_eqIntS s = some r → Wc X 47 0 (Kw_eqIntS s) (Zw_eqIntS s) (RB r) ((fun _ => []) r) := Nx.all (nw_eqIntS)
theorem cw_eqIntS {a0 : (List Int)} {a1 : (List Int)} {r : Bool} (H : Dw_eqIntS a0 a1 = some r) : Ct X.P X.gl 47 [sl 1 I a0, sl 1 I a1] [] (RB r) [] :=
  Ct.of func47 (c := bdy f47) (by kernel_rfl) (by kernel_rfl) <|
  gS [r0] (by kernel_rfl) P0 <|
  eIf H (fun h1 H =>
  gO [rg [hF 4], r0, .canon [] [0, 1, 5]] (by kernel_rfl) (P2 (((((a0.length : Nat) : Int) : Int) != ((a1.length : Nat) : Int)) = false) (bneF h1)<|P0) (ww_eqIntS _ _ H))
  (fun h1 H =>
  eW RB (fun _ => []) H<|gE func47 [rg [hT 4], r0] (by kernel_rfl) (P2 (((((a0.length : Nat) : Int) : Int) != ((a1.length : Nat) : Int)) = true) (bneT h1)<|P0))
theorem cw_eqTerrain {a0 : Gi_Terrain} {a1 : Gi_Terrain} {r : Bool} (H : Dw_eqTerrain a0 a1 = some r) : Ct X.P X.gl 167 [gi_Terrain a0, gi_Terrain a1] [] (RB r) [] :=
  Ct.of func167 (c := bdy f167) (by kernel_rfl) (by kernel_rfl) <|
  gS [r0] (by kernel_rfl) P0 <|
  eIf H (fun h1 H =>
  eBind H fun r2 hr2 H =>
  gS [rg [hF 4]] (by kernel_rfl) (P2 ((!(a0.Name == a1.Name)) = false) (nbeqF h1)<|P0) <|
  eIf H (fun h3 H =>
  gS [rg [{ i := 4, call := some { cl := true, auto := true, ins := [], res := (RB r2), G' := [] }, dec := some true }]] (by kernel_rfl) (P1 (cw_eqIntS hr2)<|P2 (r2 = true) (h3)<|P0) <|
  eIf H (fun h4 H =>
  gS [rg [hF 4]] (by kernel_rfl) (P2 (((a0.Shift : Int) != a1.Shift) = false) (bneF h4)<|P0) <|
  eIf H (fun h5 H =>
  gS [rg [hF 4]] (by kernel_rfl) (P2 (((a0.Height : Int) != a1.Height) = false) (bneF h5)<|P0) <|
  eIf H (fun h6 H =>
  eW RB (fun _ => []) H<|gE func167 [rg [hT 4], r0] (by kernel_rfl) (P2 ((!(a0.Blocks == a1.Blocks)) = true) (h6)<|P0))
  (fun h6 H =>
  eW RB (fun _ => []) H<|gE func167 [rg [hF 4], r0] (by kernel_rfl) (P2 ((!(a0.Blocks == a1.Blocks)) = false) (eqF h6)<|P0)))
  (fun h5 H =>
  eW RB (fun _ => []) H<|gE func167 [rg [hT 4], r0] (by kernel_rfl) (P2 (((a0.Height : Int) != a1.Height) = true) (bneT h5)<|P0)))
  (fun h4 H =>
  eW RB (fun _ => []) H<|gE func167 [rg [hT 4], r0] (by kernel_rfl) (P2 (((a0.Shift : Int) != a1.Shift) = true) (bneT h4)<|P0)))
  (fun h3 H =>
  eW RB (fun _ => []) H<|gE func167 [rg [{ i := 4, call := some { cl := true, auto := true, ins := [], res := (RB r2), G' := [] }, dec := some false }], r0] (by kernel_rfl) (P1 (cw_eqIntS hr2)<|P2 (r2 = false) (eqF h3)<|P0)))
  (fun h1 H =>
  eW RB (fun _ => []) H<|gE func167 [rg [hT 4], r0] (by kernel_rfl) (P2 ((!(a0.Name == a1.Name)) = true) (nbeqT h1)<|P0))
noncomputable def Kw_eqTerrainS : Sw_eqTerrainS → List Item
 | .h1 .. => nav 300 3 [false] [.code (bdy f128)]
def Zw_eqTerrainS : Sw_eqTerrainS → St
 | .h1 va0 b1 i2 => ⟨sts 27 [(0, sl 5 gi_Terrain va0), (1, sl 5 gi_Terrain b1), (5, I i2)], []⟩
abbrev Qw_eqTerrainS := Nx X 128 0 Kw_eqTerrainS Zw_eqTerrainS RB (fun _ => [])
theorem nw_eqTerrainS : ∀ s o, Bw_eqTerrainS s = some o → Qw_eqTerrainS (Kw_eqTerrainS s) (Zw_eqTerrainS s) o
 | .h1 va0 b1 i2, o, H =>
  eIf H (fun h1 H =>
  eCk H fun h2 H =>
  eBind H fun x3 hx3 H =>
  eCk H fun h4 H =>
  eBind H fun x5 hx5 H =>
  eBind H fun r6 hr6 H =>
  gN [rg [hT 3]] (by kernel_rfl) (P2 ((decide (i2 < ((va0.length : Nat) : Int))) = true) (decide_eq_true h1)<|P0) <|
  eIf H (fun h7 H =>
  eN H fun r hn => gO [rg [hE 3 (gi_Terrain x3), hE 7 (gi_Terrain x5), { i := 8, call := some { cl := true, auto := true, ins := [], res := (RB r6), G' := [] }, dec := some true }], r0, .canon [] [0, 1, 5]] (by kernel_rfl) (P1 h2<|P1 (int_lt_of_at h2 hx3)<|P1 (at_map gi_Terrain hx3)<|P1 h4<|P1 (int_lt_of_at h4 hx5)<|P1 (at_map gi_Terrain hx5)<|P1 (cw_eqTerrain hr6)<|P2 (r6 = true) (h7)<|P0) hn)
  (fun h7 H =>
  eN H<|gE func128 [rg [hE 3 (gi_Terrain x3), hE 7 (gi_Terrain x5), { i := 8, call := some { cl := true, auto := true, ins := [], res := (RB r6), G' := [] }, dec := some false }], r0] (by kernel_rfl) (P1 h2<|P1 (int_lt_of_at h2 hx3)<|P1 (at_map gi_Terrain hx3)<|P1 h4<|P1 (int_lt_of_at h4 hx5)<|P1 (at_map gi_Terrain hx5)<|P1 (cw_eqTerrain hr6)<|P2 (r6 = false) (eqF h7)<|P0)))
  (fun h1 H =>
  eN H<|gE func128 [rg [hF 3], r0] (by kernel_rfl) (P2 ((decide (i2 < ((va0.length : Nat) : Int))) = false) (decide_eq_false h1)<|P0))
theorem ww_eqTerrainS : ∀ s r, loop Bw_eqTerrainS s = some r → Wc X 128 0 (Kw_eqTerrainS s) (Zw_eqTerrainS s) (RB r) ((fun _ => []) r) := Nx.all (nw_eqTerrainS)
theorem cw_eqTerrainS {a0 : (List Gi_Terrain)} {a1 : (List Gi_Terrain)} {r : Bool} (H : Dw_eqTerrainS a0 a1 = some r) : Ct X.P X.gl 128 [sl 5 gi_Terrain a0, sl 5 gi_Terrain a1] [] (RB r) [] :=
  Ct.of func128 (c := bdy f128) (by kernel_rfl) (by kernel_rfl) <|
  gS [r0] (by kernel_rfl) P0 <|
  eIf H (fun h1 H =>
  gO [rg [hF 4], r0, .canon [] [0, 1, 5]] (by kernel_rfl) (P2 (((((a0.length : Nat) : Int) : Int) != ((a1.length : Nat) : Int)) = false) (bneF h1)<|P0) (ww_eqTerrainS _ _ H))
  (fun h1 H =>
  eW RB (fun _ => []) H<|gE func128 [rg [hT 4], r0] (by kernel_rfl) (P2 (((((a0.length : Nat) : Int) : Int) != ((a1.length : Nat) : Int)) = true) (bneT h1)<|P0))
theorem cw_eqKind {a0 : Gi_Kind} {a1 : Gi_Kind} {r : Bool} (H : Dw_eqKind a0 a1 = some r) : Ct X.P X.gl 168 [gi_Kind a0, gi_Kind a1] [] (RB r) [] :=
  Ct.of func168 (c := bdy f168) (by kernel_rfl) (by kernel_rfl) <|
  gS [r0] (by kernel_rfl) P0 <|
  eIf H (fun h1 H =>
  gS [rg [hF 4]] (by kernel_rfl) (P2 ((!(a0.Name == a1.Name)) = false) (nbeqF h1)<|P0) <|
  eIf H (fun h2 H =>
  gS [rg [hF 4]] (by kernel_rfl) (P2 (((a0.Strength : Int) != a1.Strength) = false) (bneF h2)<|P0) <|
  eIf H (fun h3 H =>
  gS [rg [hF 4]] (by kernel_rfl) (P2 (((a0.Moves : Int) != a1.Moves) = false) (bneF h3)<|P0) <|
  eIf H (fun h4 H =>
  gS [rg [hF 4]] (by kernel_rfl) (P2 (((a0.Steps : Int) != a1.Steps) = false) (bneF h4)<|P0) <|
  eIf H (fun h5 H =>
  eW RB (fun _ => []) H<|gE func168 [rg [hT 4], r0] (by kernel_rfl) (P2 ((!(a0.Zone == a1.Zone)) = true) (h5)<|P0))
  (fun h5 H =>
  gS [rg [hF 4]] (by kernel_rfl) (P2 ((!(a0.Zone == a1.Zone)) = false) (eqF h5)<|P0) <|
  eIf H (fun h6 H =>
  eW RB (fun _ => []) H<|gE func168 [rg [hF 4], r0] (by kernel_rfl) (P2 (((a0.View : Int) != a1.View) = false) (bneF h6)<|P0))
  (fun h6 H =>
  eW RB (fun _ => []) H<|gE func168 [rg [hT 4], r0] (by kernel_rfl) (P2 (((a0.View : Int) != a1.View) = true) (bneT h6)<|P0))))
  (fun h4 H =>
  eW RB (fun _ => []) H<|gE func168 [rg [hT 4], r0] (by kernel_rfl) (P2 (((a0.Steps : Int) != a1.Steps) = true) (bneT h4)<|P0)))
  (fun h3 H =>
  eW RB (fun _ => []) H<|gE func168 [rg [hT 4], r0] (by kernel_rfl) (P2 (((a0.Moves : Int) != a1.Moves) = true) (bneT h3)<|P0)))
  (fun h2 H =>
  eW RB (fun _ => []) H<|gE func168 [rg [hT 4], r0] (by kernel_rfl) (P2 (((a0.Strength : Int) != a1.Strength) = true) (bneT h2)<|P0)))
  (fun h1 H =>
  eW RB (fun _ => []) H<|gE func168 [rg [hT 4], r0] (by kernel_rfl) (P2 ((!(a0.Name == a1.Name)) = true) (nbeqT h1)<|P0))
noncomputable def Kw_eqKindS : Sw_eqKindS → List Item
 | .h1 .. => nav 300 3 [false] [.code (bdy f129)]
def Zw_eqKindS : Sw_eqKindS → St
 | .h1 va0 b1 i2 => ⟨sts 27 [(0, sl 6 gi_Kind va0), (1, sl 6 gi_Kind b1), (5, I i2)], []⟩
abbrev Qw_eqKindS := Nx X 129 0 Kw_eqKindS Zw_eqKindS RB (fun _ => [])
theorem nw_eqKindS : ∀ s o, Bw_eqKindS s = some o → Qw_eqKindS (Kw_eqKindS s) (Zw_eqKindS s) o
 | .h1 va0 b1 i2, o, H =>
  eIf H (fun h1 H =>
  eCk H fun h2 H =>
  eBind H fun x3 hx3 H =>
  eCk H fun h4 H =>
  eBind H fun x5 hx5 H =>
  eBind H fun r6 hr6 H =>
  gN [rg [hT 3]] (by kernel_rfl) (P2 ((decide (i2 < ((va0.length : Nat) : Int))) = true) (decide_eq_true h1)<|P0) <|
  eIf H (fun h7 H =>
  eN H fun r hn => gO [rg [hE 3 (gi_Kind x3), hE 7 (gi_Kind x5), { i := 8, call := some { cl := true, auto := true, ins := [], res := (RB r6), G' := [] }, dec := some true }], r0, .canon [] [0, 1, 5]] (by kernel_rfl) (P1 h2<|P1 (int_lt_of_at h2 hx3)<|P1 (at_map gi_Kind hx3)<|P1 h4<|P1 (int_lt_of_at h4 hx5)<|P1 (at_map gi_Kind hx5)<|P1 (cw_eqKind hr6)<|P2 (r6 = true) (h7)<|P0) hn)
  (fun h7 H =>
  eN H<|gE func129 [rg [hE 3 (gi_Kind x3), hE 7 (gi_Kind x5), { i := 8, call := some { cl := true, auto := true, ins := [], res := (RB r6), G' := [] }, dec := some false }], r0] (by kernel_rfl) (P1 h2<|P1 (int_lt_of_at h2 hx3)<|P1 (at_map gi_Kind hx3)<|P1 h4<|P1 (int_lt_of_at h4 hx5)<|P1 (at_map gi_Kind hx5)<|P1 (cw_eqKind hr6)<|P2 (r6 = false) (eqF h7)<|P0)))
  (fun h1 H =>
  eN H<|gE func129 [rg [hF 3], r0] (by kernel_rfl) (P2 ((decide (i2 < ((va0.length : Nat) : Int))) = false) (decide_eq_false h1)<|P0))
theorem ww_eqKindS : ∀ s r, loop Bw_eqKindS s = some r → Wc X 129 0 (Kw_eqKindS s) (Zw_eqKindS s) (RB r) ((fun _ => []) r) := Nx.all (nw_eqKindS)
theorem cw_eqKindS {a0 : (List Gi_Kind)} {a1 : (List Gi_Kind)} {r : Bool} (H : Dw_eqKindS a0 a1 = some r) : Ct X.P X.gl 129 [sl 6 gi_Kind a0, sl 6 gi_Kind a1] [] (RB r) [] :=
  Ct.of func129 (c := bdy f129) (by kernel_rfl) (by kernel_rfl) <|
  gS [r0] (by kernel_rfl) P0 <|
  eIf H (fun h1 H =>
  gO [rg [hF 4], r0, .canon [] [0, 1, 5]] (by kernel_rfl) (P2 (((((a0.length : Nat) : Int) : Int) != ((a1.length : Nat) : Int)) = false) (bneF h1)<|P0) (ww_eqKindS _ _ H))
  (fun h1 H =>
  eW RB (fun _ => []) H<|gE func129 [rg [hT 4], r0] (by kernel_rfl) (P2 (((((a0.length : Nat) : Int) : Int) != ((a1.length : Nat) : Int)) = true) (bneT h1)<|P0))
theorem cw_eqRules {a0 : Gi_Rules} {a1 : Gi_Rules} {r : Bool} (H : Dw_eqRules a0 a1 = some r) : Ct X.P X.gl 88 [gi_Rules a0, gi_Rules a1] [] (RB r) [] :=
  Ct.of func88 (c := bdy f88) (by kernel_rfl) (by kernel_rfl) <|
  eBind H fun r1 hr1 H =>
  gS [r0] (by kernel_rfl) P0 <|
  eIf H (fun h2 H =>
  eBind H fun r3 hr3 H =>
  gS [rg [{ i := 4, call := some { cl := true, auto := true, ins := [], res := (RB r1), G' := [] }, dec := some true }]] (by kernel_rfl) (P1 (cw_eqTerrainS hr1)<|P2 (r1 = true) (h2)<|P0) <|
  eIf H (fun h4 H =>
  gS [rg [{ i := 4, call := some { cl := true, auto := true, ins := [], res := (RB r3), G' := [] }, dec := some true }]] (by kernel_rfl) (P1 (cw_eqKindS hr3)<|P2 (r3 = true) (h4)<|P0) <|
  eIf H (fun h5 H =>
  gS [rg [hF 4]] (by kernel_rfl) (P2 (((a0.Stack : Int) != a1.Stack) = false) (bneF h5)<|P0) <|
  eIf H (fun h6 H =>
  gS [rg [hF 4]] (by kernel_rfl) (P2 (((a0.River : Int) != a1.River) = false) (bneF h6)<|P0) <|
  eIf H (fun h7 H =>
  gS [rg [hF 4]] (by kernel_rfl) (P2 (((a0.Road : Int) != a1.Road) = false) (bneF h7)<|P0) <|
  eIf H (fun h8 H =>
  gS [rg [hF 4]] (by kernel_rfl) (P2 (((a0.Supply : Int) != a1.Supply) = false) (bneF h8)<|P0) <|
  eIf H (fun h9 H =>
  eW RB (fun _ => []) H<|gE func88 [rg [hF 4], r0] (by kernel_rfl) (P2 (((a0.Turns : Int) != a1.Turns) = false) (bneF h9)<|P0))
  (fun h9 H =>
  eW RB (fun _ => []) H<|gE func88 [rg [hT 4], r0] (by kernel_rfl) (P2 (((a0.Turns : Int) != a1.Turns) = true) (bneT h9)<|P0)))
  (fun h8 H =>
  eW RB (fun _ => []) H<|gE func88 [rg [hT 4], r0] (by kernel_rfl) (P2 (((a0.Supply : Int) != a1.Supply) = true) (bneT h8)<|P0)))
  (fun h7 H =>
  eW RB (fun _ => []) H<|gE func88 [rg [hT 4], r0] (by kernel_rfl) (P2 (((a0.Road : Int) != a1.Road) = true) (bneT h7)<|P0)))
  (fun h6 H =>
  eW RB (fun _ => []) H<|gE func88 [rg [hT 4], r0] (by kernel_rfl) (P2 (((a0.River : Int) != a1.River) = true) (bneT h6)<|P0)))
  (fun h5 H =>
  eW RB (fun _ => []) H<|gE func88 [rg [hT 4], r0] (by kernel_rfl) (P2 (((a0.Stack : Int) != a1.Stack) = true) (bneT h5)<|P0)))
  (fun h4 H =>
  eW RB (fun _ => []) H<|gE func88 [rg [{ i := 4, call := some { cl := true, auto := true, ins := [], res := (RB r3), G' := [] }, dec := some false }], r0] (by kernel_rfl) (P1 (cw_eqKindS hr3)<|P2 (r3 = false) (eqF h4)<|P0)))
  (fun h2 H =>
  eW RB (fun _ => []) H<|gE func88 [rg [{ i := 4, call := some { cl := true, auto := true, ins := [], res := (RB r1), G' := [] }, dec := some false }], r0] (by kernel_rfl) (P1 (cw_eqTerrainS hr1)<|P2 (r1 = false) (eqF h2)<|P0))
theorem cw_eqMap {a0 : Gi_Map} {a1 : Gi_Map} {r : Bool} (H : Dw_eqMap a0 a1 = some r) : Ct X.P X.gl 89 [gi_Map a0, gi_Map a1] [] (RB r) [] :=
  Ct.of func89 (c := bdy f89) (by kernel_rfl) (by kernel_rfl) <|
  gS [r0] (by kernel_rfl) P0 <|
  eIf H (fun h1 H =>
  gS [rg [hF 4]] (by kernel_rfl) (P2 (((a0.Width : Int) != a1.Width) = false) (bneF h1)<|P0) <|
  eIf H (fun h2 H =>
  eBind H fun r3 hr3 H =>
  gS [rg [hF 4]] (by kernel_rfl) (P2 (((a0.Height : Int) != a1.Height) = false) (bneF h2)<|P0) <|
  eIf H (fun h4 H =>
  eBind H fun r5 hr5 H =>
  gS [rg [{ i := 4, call := some { cl := true, auto := true, ins := [], res := (RB r3), G' := [] }, dec := some true }]] (by kernel_rfl) (P1 (cw_eqIntS hr3)<|P2 (r3 = true) (h4)<|P0) <|
  eIf H (fun h6 H =>
  eBind H fun r7 hr7 H =>
  gS [rg [{ i := 4, call := some { cl := true, auto := true, ins := [], res := (RB r5), G' := [] }, dec := some true }]] (by kernel_rfl) (P1 (cw_eqIntS hr5)<|P2 (r5 = true) (h6)<|P0) <|
  eIf H (fun h8 H =>
  eW RB (fun _ => []) H<|gE func89 [rg [{ i := 4, call := some { cl := true, auto := true, ins := [], res := (RB r7), G' := [] }, dec := some true }], r0] (by kernel_rfl) (P1 (cw_eqIntS hr7)<|P2 (r7 = true) (h8)<|P0))
  (fun h8 H =>
  eW RB (fun _ => []) H<|gE func89 [rg [{ i := 4, call := some { cl := true, auto := true, ins := [], res := (RB r7), G' := [] }, dec := some false }], r0] (by kernel_rfl) (P1 (cw_eqIntS hr7)<|P2 (r7 = false) (eqF h8)<|P0)))
  (fun h6 H =>
  eW RB (fun _ => []) H<|gE func89 [rg [{ i := 4, call := some { cl := true, auto := true, ins := [], res := (RB r5), G' := [] }, dec := some false }], r0] (by kernel_rfl) (P1 (cw_eqIntS hr5)<|P2 (r5 = false) (eqF h6)<|P0)))
  (fun h4 H =>
  eW RB (fun _ => []) H<|gE func89 [rg [{ i := 4, call := some { cl := true, auto := true, ins := [], res := (RB r3), G' := [] }, dec := some false }], r0] (by kernel_rfl) (P1 (cw_eqIntS hr3)<|P2 (r3 = false) (eqF h4)<|P0)))
  (fun h2 H =>
  eW RB (fun _ => []) H<|gE func89 [rg [hT 4], r0] (by kernel_rfl) (P2 (((a0.Height : Int) != a1.Height) = true) (bneT h2)<|P0)))
  (fun h1 H =>
  eW RB (fun _ => []) H<|gE func89 [rg [hT 4], r0] (by kernel_rfl) (P2 (((a0.Width : Int) != a1.Width) = true) (bneT h1)<|P0))
theorem cw_eqBoard {a0 : Gi_Board} {a1 : Gi_Board} {r : Bool} (H : Dw_eqBoard a0 a1 = some r) : Ct X.P X.gl 42 [gi_Board a0, gi_Board a1] [] (RB r) [] :=
  Ct.of func42 (c := bdy f42) (by kernel_rfl) (by kernel_rfl) <|
  eBind H fun r1 hr1 H =>
  gS [r0] (by kernel_rfl) P0 <|
  eIf H (fun h2 H =>
  eBind H fun r3 hr3 H =>
  gS [rg [{ i := 4, call := some { cl := true, auto := true, ins := [], res := (RB r1), G' := [] }, dec := some true }]] (by kernel_rfl) (P1 (cw_eqRules hr1)<|P2 (r1 = true) (h2)<|P0) <|
  eIf H (fun h4 H =>
  eW RB (fun _ => []) H<|gE func42 [rg [{ i := 4, call := some { cl := true, auto := true, ins := [], res := (RB r3), G' := [] }, dec := some true }], r0] (by kernel_rfl) (P1 (cw_eqMap hr3)<|P2 (r3 = true) (h4)<|P0))
  (fun h4 H =>
  eW RB (fun _ => []) H<|gE func42 [rg [{ i := 4, call := some { cl := true, auto := true, ins := [], res := (RB r3), G' := [] }, dec := some false }], r0] (by kernel_rfl) (P1 (cw_eqMap hr3)<|P2 (r3 = false) (eqF h4)<|P0)))
  (fun h2 H =>
  eW RB (fun _ => []) H<|gE func42 [rg [{ i := 4, call := some { cl := true, auto := true, ins := [], res := (RB r1), G' := [] }, dec := some false }], r0] (by kernel_rfl) (P1 (cw_eqRules hr1)<|P2 (r1 = false) (eqF h2)<|P0))
theorem cw_eqOdds {a0 : Gi_Odds} {a1 : Gi_Odds} {r : Bool} (H : Dw_eqOdds a0 a1 = some r) : Ct X.P X.gl 130 [gi_Odds a0, gi_Odds a1] [] (RB r) [] :=
  Ct.of func130 (c := bdy f130) (by kernel_rfl) (by kernel_rfl) <|
  gS [r0] (by kernel_rfl) P0 <|
  eIf H (fun h1 H =>
  gS [rg [hF 4]] (by kernel_rfl) (P2 (((a0.Num : Int) != a1.Num) = false) (bneF h1)<|P0) <|
  eIf H (fun h2 H =>
  eW RB (fun _ => []) H<|gE func130 [rg [hF 4], r0] (by kernel_rfl) (P2 (((a0.Den : Int) != a1.Den) = false) (bneF h2)<|P0))
  (fun h2 H =>
  eW RB (fun _ => []) H<|gE func130 [rg [hT 4], r0] (by kernel_rfl) (P2 (((a0.Den : Int) != a1.Den) = true) (bneT h2)<|P0)))
  (fun h1 H =>
  eW RB (fun _ => []) H<|gE func130 [rg [hT 4], r0] (by kernel_rfl) (P2 (((a0.Num : Int) != a1.Num) = true) (bneT h1)<|P0))
noncomputable def Kw_eqOddsS : Sw_eqOddsS → List Item
 | .h1 .. => nav 300 3 [false] [.code (bdy f90)]
def Zw_eqOddsS : Sw_eqOddsS → St
 | .h1 va0 b1 i2 => ⟨sts 27 [(0, sl 2 gi_Odds va0), (1, sl 2 gi_Odds b1), (5, I i2)], []⟩
abbrev Qw_eqOddsS := Nx X 90 0 Kw_eqOddsS Zw_eqOddsS RB (fun _ => [])
theorem nw_eqOddsS : ∀ s o, Bw_eqOddsS s = some o → Qw_eqOddsS (Kw_eqOddsS s) (Zw_eqOddsS s) o
 | .h1 va0 b1 i2, o, H =>
  eIf H (fun h1 H =>
  eCk H fun h2 H =>
  eBind H fun x3 hx3 H =>
  eCk H fun h4 H =>
  eBind H fun x5 hx5 H =>
  eBind H fun r6 hr6 H =>
  gN [rg [hT 3]] (by kernel_rfl) (P2 ((decide (i2 < ((va0.length : Nat) : Int))) = true) (decide_eq_true h1)<|P0) <|
  eIf H (fun h7 H =>
  eN H fun r hn => gO [rg [hE 3 (gi_Odds x3), hE 7 (gi_Odds x5), { i := 8, call := some { cl := true, auto := true, ins := [], res := (RB r6), G' := [] }, dec := some true }], r0, .canon [] [0, 1, 5]] (by kernel_rfl) (P1 h2<|P1 (int_lt_of_at h2 hx3)<|P1 (at_map gi_Odds hx3)<|P1 h4<|P1 (int_lt_of_at h4 hx5)<|P1 (at_map gi_Odds hx5)<|P1 (cw_eqOdds hr6)<|P2 (r6 = true) (h7)<|P0) hn)
  (fun h7 H =>
  eN H<|gE func90 [rg [hE 3 (gi_Odds x3), hE 7 (gi_Odds x5), { i := 8, call := some { cl := true, auto := true, ins := [], res := (RB r6), G' := [] }, dec := some false }], r0] (by kernel_rfl) (P1 h2<|P1 (int_lt_of_at h2 hx3)<|P1 (at_map gi_Odds hx3)<|P1 h4<|P1 (int_lt_of_at h4 hx5)<|P1 (at_map gi_Odds hx5)<|P1 (cw_eqOdds hr6)<|P2 (r6 = false) (eqF h7)<|P0)))
  (fun h1 H =>
  eN H<|gE func90 [rg [hF 3], r0] (by kernel_rfl) (P2 ((decide (i2 < ((va0.length : Nat) : Int))) = false) (decide_eq_false h1)<|P0))
theorem ww_eqOddsS : ∀ s r, loop Bw_eqOddsS s = some r → Wc X 90 0 (Kw_eqOddsS s) (Zw_eqOddsS s) (RB r) ((fun _ => []) r) := Nx.all (nw_eqOddsS)
theorem cw_eqOddsS {a0 : (List Gi_Odds)} {a1 : (List Gi_Odds)} {r : Bool} (H : Dw_eqOddsS a0 a1 = some r) : Ct X.P X.gl 90 [sl 2 gi_Odds a0, sl 2 gi_Odds a1] [] (RB r) [] :=
  Ct.of func90 (c := bdy f90) (by kernel_rfl) (by kernel_rfl) <|
  gS [r0] (by kernel_rfl) P0 <|
  eIf H (fun h1 H =>
  gO [rg [hF 4], r0, .canon [] [0, 1, 5]] (by kernel_rfl) (P2 (((((a0.length : Nat) : Int) : Int) != ((a1.length : Nat) : Int)) = false) (bneF h1)<|P0) (ww_eqOddsS _ _ H))
  (fun h1 H =>
  eW RB (fun _ => []) H<|gE func90 [rg [hT 4], r0] (by kernel_rfl) (P2 (((((a0.length : Nat) : Int) : Int) != ((a1.length : Nat) : Int)) = true) (bneT h1)<|P0))
noncomputable def Kw_eqIntSS : Sw_eqIntSS → List Item
 | .h1 .. => nav 300 3 [false] [.code (bdy f44)]
def Zw_eqIntSS : Sw_eqIntSS → St
 | .h1 va0 b1 i2 => ⟨sts 27 [(0, sl 1 (sl 1 I) va0), (1, sl 1 (sl 1 I) b1), (5, I i2)], []⟩
abbrev Qw_eqIntSS := Nx X 44 0 Kw_eqIntSS Zw_eqIntSS RB (fun _ => [])
theorem nw_eqIntSS : ∀ s o, Bw_eqIntSS s = some o → Qw_eqIntSS (Kw_eqIntSS s) (Zw_eqIntSS s) o
 | .h1 va0 b1 i2, o, H =>
  eIf H (fun h1 H =>
  eCk H fun h2 H =>
  eBind H fun x3 hx3 H =>
  eCk H fun h4 H =>
  eBind H fun x5 hx5 H =>
  eBind H fun r6 hr6 H =>
  gN [rg [hT 3]] (by kernel_rfl) (P2 ((decide (i2 < ((va0.length : Nat) : Int))) = true) (decide_eq_true h1)<|P0) <|
  eIf H (fun h7 H =>
  eN H fun r hn => gO [rg [hE 3 ((sl 1 I) x3), hE 7 ((sl 1 I) x5), { i := 8, call := some { cl := true, auto := true, ins := [], res := (RB r6), G' := [] }, dec := some true }], r0, .canon [] [0, 1, 5]] (by kernel_rfl) (P1 h2<|P1 (int_lt_of_at h2 hx3)<|P1 (at_map (sl 1 I) hx3)<|P1 h4<|P1 (int_lt_of_at h4 hx5)<|P1 (at_map (sl 1 I) hx5)<|P1 (cw_eqIntS hr6)<|P2 (r6 = true) (h7)<|P0) hn)
  (fun h7 H =>
  eN H<|gE func44 [rg [hE 3 ((sl 1 I) x3), hE 7 ((sl 1 I) x5), { i := 8, call := some { cl := true, auto := true, ins := [], res := (RB r6), G' := [] }, dec := some false }], r0] (by kernel_rfl) (P1 h2<|P1 (int_lt_of_at h2 hx3)<|P1 (at_map (sl 1 I) hx3)<|P1 h4<|P1 (int_lt_of_at h4 hx5)<|P1 (at_map (sl 1 I) hx5)<|P1 (cw_eqIntS hr6)<|P2 (r6 = false) (eqF h7)<|P0)))
  (fun h1 H =>
  eN H<|gE func44 [rg [hF 3], r0] (by kernel_rfl) (P2 ((decide (i2 < ((va0.length : Nat) : Int))) = false) (decide_eq_false h1)<|P0))
theorem ww_eqIntSS : ∀ s r, loop Bw_eqIntSS s = some r → Wc X 44 0 (Kw_eqIntSS s) (Zw_eqIntSS s) (RB r) ((fun _ => []) r) := Nx.all (nw_eqIntSS)
theorem cw_eqIntSS {a0 : (List (List Int))} {a1 : (List (List Int))} {r : Bool} (H : Dw_eqIntSS a0 a1 = some r) : Ct X.P X.gl 44 [sl 1 (sl 1 I) a0, sl 1 (sl 1 I) a1] [] (RB r) [] :=
  Ct.of func44 (c := bdy f44) (by kernel_rfl) (by kernel_rfl) <|
  gS [r0] (by kernel_rfl) P0 <|
  eIf H (fun h1 H =>
  gO [rg [hF 4], r0, .canon [] [0, 1, 5]] (by kernel_rfl) (P2 (((((a0.length : Nat) : Int) : Int) != ((a1.length : Nat) : Int)) = false) (bneF h1)<|P0) (ww_eqIntSS _ _ H))
  (fun h1 H =>
  eW RB (fun _ => []) H<|gE func44 [rg [hT 4], r0] (by kernel_rfl) (P2 (((((a0.length : Nat) : Int) : Int) != ((a1.length : Nat) : Int)) = true) (bneT h1)<|P0))
theorem cw_eqCombatTable {a0 : Gi_CombatTable} {a1 : Gi_CombatTable} {r : Bool} (H : Dw_eqCombatTable a0 a1 = some r) : Ct X.P X.gl 43 [gi_CombatTable a0, gi_CombatTable a1] [] (RB r) [] :=
  Ct.of func43 (c := bdy f43) (by kernel_rfl) (by kernel_rfl) <|
  eBind H fun r1 hr1 H =>
  gS [r0] (by kernel_rfl) P0 <|
  eIf H (fun h2 H =>
  gS [rg [{ i := 4, call := some { cl := true, auto := true, ins := [], res := (RB r1), G' := [] }, dec := some true }]] (by kernel_rfl) (P1 (cw_eqOddsS hr1)<|P2 (r1 = true) (h2)<|P0) <|
  eIf H (fun h3 H =>
  eBind H fun r4 hr4 H =>
  gS [rg [hF 4]] (by kernel_rfl) (P2 (((a0.Dice : Int) != a1.Dice) = false) (bneF h3)<|P0) <|
  eIf H (fun h5 H =>
  eW RB (fun _ => []) H<|gE func43 [rg [{ i := 4, call := some { cl := true, auto := true, ins := [], res := (RB r4), G' := [] }, dec := some true }], r0] (by kernel_rfl) (P1 (cw_eqIntSS hr4)<|P2 (r4 = true) (h5)<|P0))
  (fun h5 H =>
  eW RB (fun _ => []) H<|gE func43 [rg [{ i := 4, call := some { cl := true, auto := true, ins := [], res := (RB r4), G' := [] }, dec := some false }], r0] (by kernel_rfl) (P1 (cw_eqIntSS hr4)<|P2 (r4 = false) (eqF h5)<|P0)))
  (fun h3 H =>
  eW RB (fun _ => []) H<|gE func43 [rg [hT 4], r0] (by kernel_rfl) (P2 (((a0.Dice : Int) != a1.Dice) = true) (bneT h3)<|P0)))
  (fun h2 H =>
  eW RB (fun _ => []) H<|gE func43 [rg [{ i := 4, call := some { cl := true, auto := true, ins := [], res := (RB r1), G' := [] }, dec := some false }], r0] (by kernel_rfl) (P1 (cw_eqOddsS hr1)<|P2 (r1 = false) (eqF h2)<|P0))
theorem cw_eqUnit {a0 : Gi_Unit} {a1 : Gi_Unit} {r : Bool} (H : Dw_eqUnit a0 a1 = some r) : Ct X.P X.gl 131 [gi_Unit a0, gi_Unit a1] [] (RB r) [] :=
  Ct.of func131 (c := bdy f131) (by kernel_rfl) (by kernel_rfl) <|
  gS [r0] (by kernel_rfl) P0 <|
  eIf H (fun h1 H =>
  gS [rg [hF 4]] (by kernel_rfl) (P2 (((a0.Side : Int) != a1.Side) = false) (bneF h1)<|P0) <|
  eIf H (fun h2 H =>
  gS [rg [hF 4]] (by kernel_rfl) (P2 (((a0.Kind : Int) != a1.Kind) = false) (bneF h2)<|P0) <|
  eIf H (fun h3 H =>
  gS [rg [hF 4]] (by kernel_rfl) (P2 (((a0.At : Int) != a1.At) = false) (bneF h3)<|P0) <|
  eIf H (fun h4 H =>
  eW RB (fun _ => []) H<|gE func131 [rg [hF 4], r0] (by kernel_rfl) (P2 (((a0.Steps : Int) != a1.Steps) = false) (bneF h4)<|P0))
  (fun h4 H =>
  eW RB (fun _ => []) H<|gE func131 [rg [hT 4], r0] (by kernel_rfl) (P2 (((a0.Steps : Int) != a1.Steps) = true) (bneT h4)<|P0)))
  (fun h3 H =>
  eW RB (fun _ => []) H<|gE func131 [rg [hT 4], r0] (by kernel_rfl) (P2 (((a0.At : Int) != a1.At) = true) (bneT h3)<|P0)))
  (fun h2 H =>
  eW RB (fun _ => []) H<|gE func131 [rg [hT 4], r0] (by kernel_rfl) (P2 (((a0.Kind : Int) != a1.Kind) = true) (bneT h2)<|P0)))
  (fun h1 H =>
  eW RB (fun _ => []) H<|gE func131 [rg [hT 4], r0] (by kernel_rfl) (P2 (((a0.Side : Int) != a1.Side) = true) (bneT h1)<|P0))
noncomputable def Kw_eqUnitS : Sw_eqUnitS → List Item
 | .h1 .. => nav 300 3 [false] [.code (bdy f91)]
def Zw_eqUnitS : Sw_eqUnitS → St
 | .h1 va0 b1 i2 => ⟨sts 27 [(0, sl 4 gi_Unit va0), (1, sl 4 gi_Unit b1), (5, I i2)], []⟩
abbrev Qw_eqUnitS := Nx X 91 0 Kw_eqUnitS Zw_eqUnitS RB (fun _ => [])
theorem nw_eqUnitS : ∀ s o, Bw_eqUnitS s = some o → Qw_eqUnitS (Kw_eqUnitS s) (Zw_eqUnitS s) o
 | .h1 va0 b1 i2, o, H =>
  eIf H (fun h1 H =>
  eCk H fun h2 H =>
  eBind H fun x3 hx3 H =>
  eCk H fun h4 H =>
  eBind H fun x5 hx5 H =>
  eBind H fun r6 hr6 H =>
  gN [rg [hT 3]] (by kernel_rfl) (P2 ((decide (i2 < ((va0.length : Nat) : Int))) = true) (decide_eq_true h1)<|P0) <|
  eIf H (fun h7 H =>
  eN H fun r hn => gO [rg [hE 3 (gi_Unit x3), hE 7 (gi_Unit x5), { i := 8, call := some { cl := true, auto := true, ins := [], res := (RB r6), G' := [] }, dec := some true }], r0, .canon [] [0, 1, 5]] (by kernel_rfl) (P1 h2<|P1 (int_lt_of_at h2 hx3)<|P1 (at_map gi_Unit hx3)<|P1 h4<|P1 (int_lt_of_at h4 hx5)<|P1 (at_map gi_Unit hx5)<|P1 (cw_eqUnit hr6)<|P2 (r6 = true) (h7)<|P0) hn)
  (fun h7 H =>
  eN H<|gE func91 [rg [hE 3 (gi_Unit x3), hE 7 (gi_Unit x5), { i := 8, call := some { cl := true, auto := true, ins := [], res := (RB r6), G' := [] }, dec := some false }], r0] (by kernel_rfl) (P1 h2<|P1 (int_lt_of_at h2 hx3)<|P1 (at_map gi_Unit hx3)<|P1 h4<|P1 (int_lt_of_at h4 hx5)<|P1 (at_map gi_Unit hx5)<|P1 (cw_eqUnit hr6)<|P2 (r6 = false) (eqF h7)<|P0)))
  (fun h1 H =>
  eN H<|gE func91 [rg [hF 3], r0] (by kernel_rfl) (P2 ((decide (i2 < ((va0.length : Nat) : Int))) = false) (decide_eq_false h1)<|P0))
theorem ww_eqUnitS : ∀ s r, loop Bw_eqUnitS s = some r → Wc X 91 0 (Kw_eqUnitS s) (Zw_eqUnitS s) (RB r) ((fun _ => []) r) := Nx.all (nw_eqUnitS)
theorem cw_eqUnitS {a0 : (List Gi_Unit)} {a1 : (List Gi_Unit)} {r : Bool} (H : Dw_eqUnitS a0 a1 = some r) : Ct X.P X.gl 91 [sl 4 gi_Unit a0, sl 4 gi_Unit a1] [] (RB r) [] :=
  Ct.of func91 (c := bdy f91) (by kernel_rfl) (by kernel_rfl) <|
  gS [r0] (by kernel_rfl) P0 <|
  eIf H (fun h1 H =>
  gO [rg [hF 4], r0, .canon [] [0, 1, 5]] (by kernel_rfl) (P2 (((((a0.length : Nat) : Int) : Int) != ((a1.length : Nat) : Int)) = false) (bneF h1)<|P0) (ww_eqUnitS _ _ H))
  (fun h1 H =>
  eW RB (fun _ => []) H<|gE func91 [rg [hT 4], r0] (by kernel_rfl) (P2 (((((a0.length : Nat) : Int) : Int) != ((a1.length : Nat) : Int)) = true) (bneT h1)<|P0))
theorem cw_eqState {a0 : Gi_State} {a1 : Gi_State} {r : Bool} (H : Dw_eqState a0 a1 = some r) : Ct X.P X.gl 45 [gi_State a0, gi_State a1] [] (RB r) [] :=
  Ct.of func45 (c := bdy f45) (by kernel_rfl) (by kernel_rfl) <|
  gS [r0] (by kernel_rfl) P0 <|
  eIf H (fun h1 H =>
  gS [rg [hF 4]] (by kernel_rfl) (P2 (((a0.Turn : Int) != a1.Turn) = false) (bneF h1)<|P0) <|
  eIf H (fun h2 H =>
  eBind H fun r3 hr3 H =>
  gS [rg [hF 4]] (by kernel_rfl) (P2 (((a0.Weather : Int) != a1.Weather) = false) (bneF h2)<|P0) <|
  eIf H (fun h4 H =>
  eW RB (fun _ => []) H<|gE func45 [rg [{ i := 4, call := some { cl := true, auto := true, ins := [], res := (RB r3), G' := [] }, dec := some true }], r0] (by kernel_rfl) (P1 (cw_eqUnitS hr3)<|P2 (r3 = true) (h4)<|P0))
  (fun h4 H =>
  eW RB (fun _ => []) H<|gE func45 [rg [{ i := 4, call := some { cl := true, auto := true, ins := [], res := (RB r3), G' := [] }, dec := some false }], r0] (by kernel_rfl) (P1 (cw_eqUnitS hr3)<|P2 (r3 = false) (eqF h4)<|P0)))
  (fun h2 H =>
  eW RB (fun _ => []) H<|gE func45 [rg [hT 4], r0] (by kernel_rfl) (P2 (((a0.Weather : Int) != a1.Weather) = true) (bneT h2)<|P0)))
  (fun h1 H =>
  eW RB (fun _ => []) H<|gE func45 [rg [hT 4], r0] (by kernel_rfl) (P2 (((a0.Turn : Int) != a1.Turn) = true) (bneT h1)<|P0))
theorem cw_eqGoal {a0 : Gi_Goal} {a1 : Gi_Goal} {r : Bool} (H : Dw_eqGoal a0 a1 = some r) : Ct X.P X.gl 132 [gi_Goal a0, gi_Goal a1] [] (RB r) [] :=
  Ct.of func132 (c := bdy f132) (by kernel_rfl) (by kernel_rfl) <|
  gS [r0] (by kernel_rfl) P0 <|
  eIf H (fun h1 H =>
  gS [rg [hF 4]] (by kernel_rfl) (P2 (((a0.At : Int) != a1.At) = false) (bneF h1)<|P0) <|
  eIf H (fun h2 H =>
  eW RB (fun _ => []) H<|gE func132 [rg [hF 4], r0] (by kernel_rfl) (P2 (((a0.Points : Int) != a1.Points) = false) (bneF h2)<|P0))
  (fun h2 H =>
  eW RB (fun _ => []) H<|gE func132 [rg [hT 4], r0] (by kernel_rfl) (P2 (((a0.Points : Int) != a1.Points) = true) (bneT h2)<|P0)))
  (fun h1 H =>
  eW RB (fun _ => []) H<|gE func132 [rg [hT 4], r0] (by kernel_rfl) (P2 (((a0.At : Int) != a1.At) = true) (bneT h1)<|P0))
noncomputable def Kw_eqGoalS : Sw_eqGoalS → List Item
 | .h1 .. => nav 300 3 [false] [.code (bdy f92)]
def Zw_eqGoalS : Sw_eqGoalS → St
 | .h1 va0 b1 i2 => ⟨sts 27 [(0, sl 2 gi_Goal va0), (1, sl 2 gi_Goal b1), (5, I i2)], []⟩
abbrev Qw_eqGoalS := Nx X 92 0 Kw_eqGoalS Zw_eqGoalS RB (fun _ => [])
theorem nw_eqGoalS : ∀ s o, Bw_eqGoalS s = some o → Qw_eqGoalS (Kw_eqGoalS s) (Zw_eqGoalS s) o
 | .h1 va0 b1 i2, o, H =>
  eIf H (fun h1 H =>
  eCk H fun h2 H =>
  eBind H fun x3 hx3 H =>
  eCk H fun h4 H =>
  eBind H fun x5 hx5 H =>
  eBind H fun r6 hr6 H =>
  gN [rg [hT 3]] (by kernel_rfl) (P2 ((decide (i2 < ((va0.length : Nat) : Int))) = true) (decide_eq_true h1)<|P0) <|
  eIf H (fun h7 H =>
  eN H fun r hn => gO [rg [hE 3 (gi_Goal x3), hE 7 (gi_Goal x5), { i := 8, call := some { cl := true, auto := true, ins := [], res := (RB r6), G' := [] }, dec := some true }], r0, .canon [] [0, 1, 5]] (by kernel_rfl) (P1 h2<|P1 (int_lt_of_at h2 hx3)<|P1 (at_map gi_Goal hx3)<|P1 h4<|P1 (int_lt_of_at h4 hx5)<|P1 (at_map gi_Goal hx5)<|P1 (cw_eqGoal hr6)<|P2 (r6 = true) (h7)<|P0) hn)
  (fun h7 H =>
  eN H<|gE func92 [rg [hE 3 (gi_Goal x3), hE 7 (gi_Goal x5), { i := 8, call := some { cl := true, auto := true, ins := [], res := (RB r6), G' := [] }, dec := some false }], r0] (by kernel_rfl) (P1 h2<|P1 (int_lt_of_at h2 hx3)<|P1 (at_map gi_Goal hx3)<|P1 h4<|P1 (int_lt_of_at h4 hx5)<|P1 (at_map gi_Goal hx5)<|P1 (cw_eqGoal hr6)<|P2 (r6 = false) (eqF h7)<|P0)))
  (fun h1 H =>
  eN H<|gE func92 [rg [hF 3], r0] (by kernel_rfl) (P2 ((decide (i2 < ((va0.length : Nat) : Int))) = false) (decide_eq_false h1)<|P0))
theorem ww_eqGoalS : ∀ s r, loop Bw_eqGoalS s = some r → Wc X 92 0 (Kw_eqGoalS s) (Zw_eqGoalS s) (RB r) ((fun _ => []) r) := Nx.all (nw_eqGoalS)
theorem cw_eqGoalS {a0 : (List Gi_Goal)} {a1 : (List Gi_Goal)} {r : Bool} (H : Dw_eqGoalS a0 a1 = some r) : Ct X.P X.gl 92 [sl 2 gi_Goal a0, sl 2 gi_Goal a1] [] (RB r) [] :=
  Ct.of func92 (c := bdy f92) (by kernel_rfl) (by kernel_rfl) <|
  gS [r0] (by kernel_rfl) P0 <|
  eIf H (fun h1 H =>
  gO [rg [hF 4], r0, .canon [] [0, 1, 5]] (by kernel_rfl) (P2 (((((a0.length : Nat) : Int) : Int) != ((a1.length : Nat) : Int)) = false) (bneF h1)<|P0) (ww_eqGoalS _ _ H))
  (fun h1 H =>
  eW RB (fun _ => []) H<|gE func92 [rg [hT 4], r0] (by kernel_rfl) (P2 (((((a0.length : Nat) : Int) : Int) != ((a1.length : Nat) : Int)) = true) (bneT h1)<|P0))
theorem cw_eqConditions {a0 : Gi_Conditions} {a1 : Gi_Conditions} {r : Bool} (H : Dw_eqConditions a0 a1 = some r) : Ct X.P X.gl 46 [gi_Conditions a0, gi_Conditions a1] [] (RB r) [] :=
  Ct.of func46 (c := bdy f46) (by kernel_rfl) (by kernel_rfl) <|
  eBind H fun r1 hr1 H =>
  gS [r0] (by kernel_rfl) P0 <|
  eIf H (fun h2 H =>
  gS [rg [{ i := 4, call := some { cl := true, auto := true, ins := [], res := (RB r1), G' := [] }, dec := some true }]] (by kernel_rfl) (P1 (cw_eqGoalS hr1)<|P2 (r1 = true) (h2)<|P0) <|
  eIf H (fun h3 H =>
  gS [rg [hF 4]] (by kernel_rfl) (P2 (((a0.Step : Int) != a1.Step) = false) (bneF h3)<|P0) <|
  eIf H (fun h4 H =>
  eW RB (fun _ => []) H<|gE func46 [rg [hF 4], r0] (by kernel_rfl) (P2 (((a0.Margin : Int) != a1.Margin) = false) (bneF h4)<|P0))
  (fun h4 H =>
  eW RB (fun _ => []) H<|gE func46 [rg [hT 4], r0] (by kernel_rfl) (P2 (((a0.Margin : Int) != a1.Margin) = true) (bneT h4)<|P0)))
  (fun h3 H =>
  eW RB (fun _ => []) H<|gE func46 [rg [hT 4], r0] (by kernel_rfl) (P2 (((a0.Step : Int) != a1.Step) = true) (bneT h3)<|P0)))
  (fun h2 H =>
  eW RB (fun _ => []) H<|gE func46 [rg [{ i := 4, call := some { cl := true, auto := true, ins := [], res := (RB r1), G' := [] }, dec := some false }], r0] (by kernel_rfl) (P1 (cw_eqGoalS hr1)<|P2 (r1 = false) (eqF h2)<|P0))
theorem cw_eqScenario {a0 : Gi_Scenario} {a1 : Gi_Scenario} {r : Bool} (H : Dw_eqScenario a0 a1 = some r) : Ct X.P X.gl 12 [gi_Scenario a0, gi_Scenario a1] [] (RB r) [] :=
  Ct.of func12 (c := bdy f12) (by kernel_rfl) (by kernel_rfl) <|
  gS [r0] (by kernel_rfl) P0 <|
  eIf H (fun h1 H =>
  eBind H fun r2 hr2 H =>
  gS [rg [hF 4]] (by kernel_rfl) (P2 ((!(a0.Name == a1.Name)) = false) (nbeqF h1)<|P0) <|
  eIf H (fun h3 H =>
  eBind H fun r4 hr4 H =>
  gS [rg [{ i := 4, call := some { cl := true, auto := true, ins := [], res := (RB r2), G' := [] }, dec := some true }]] (by kernel_rfl) (P1 (cw_eqBoard hr2)<|P2 (r2 = true) (h3)<|P0) <|
  eIf H (fun h5 H =>
  eBind H fun r6 hr6 H =>
  gS [rg [{ i := 4, call := some { cl := true, auto := true, ins := [], res := (RB r4), G' := [] }, dec := some true }]] (by kernel_rfl) (P1 (cw_eqCombatTable hr4)<|P2 (r4 = true) (h5)<|P0) <|
  eIf H (fun h7 H =>
  eBind H fun r8 hr8 H =>
  gS [rg [{ i := 4, call := some { cl := true, auto := true, ins := [], res := (RB r6), G' := [] }, dec := some true }]] (by kernel_rfl) (P1 (cw_eqState hr6)<|P2 (r6 = true) (h7)<|P0) <|
  eIf H (fun h9 H =>
  eBind H fun r10 hr10 H =>
  gS [rg [{ i := 4, call := some { cl := true, auto := true, ins := [], res := (RB r8), G' := [] }, dec := some true }]] (by kernel_rfl) (P1 (cw_eqConditions hr8)<|P2 (r8 = true) (h9)<|P0) <|
  eIf H (fun h11 H =>
  eBind H fun r12 hr12 H =>
  gS [rg [{ i := 4, call := some { cl := true, auto := true, ins := [], res := (RB r10), G' := [] }, dec := some true }]] (by kernel_rfl) (P1 (cw_eqIntS hr10)<|P2 (r10 = true) (h11)<|P0) <|
  eIf H (fun h13 H =>
  eW RB (fun _ => []) H<|gE func12 [rg [{ i := 4, call := some { cl := true, auto := true, ins := [], res := (RB r12), G' := [] }, dec := some true }], r0] (by kernel_rfl) (P1 (cw_eqIntS hr12)<|P2 (r12 = true) (h13)<|P0))
  (fun h13 H =>
  eW RB (fun _ => []) H<|gE func12 [rg [{ i := 4, call := some { cl := true, auto := true, ins := [], res := (RB r12), G' := [] }, dec := some false }], r0] (by kernel_rfl) (P1 (cw_eqIntS hr12)<|P2 (r12 = false) (eqF h13)<|P0)))
  (fun h11 H =>
  eW RB (fun _ => []) H<|gE func12 [rg [{ i := 4, call := some { cl := true, auto := true, ins := [], res := (RB r10), G' := [] }, dec := some false }], r0] (by kernel_rfl) (P1 (cw_eqIntS hr10)<|P2 (r10 = false) (eqF h11)<|P0)))
  (fun h9 H =>
  eW RB (fun _ => []) H<|gE func12 [rg [{ i := 4, call := some { cl := true, auto := true, ins := [], res := (RB r8), G' := [] }, dec := some false }], r0] (by kernel_rfl) (P1 (cw_eqConditions hr8)<|P2 (r8 = false) (eqF h9)<|P0)))
  (fun h7 H =>
  eW RB (fun _ => []) H<|gE func12 [rg [{ i := 4, call := some { cl := true, auto := true, ins := [], res := (RB r6), G' := [] }, dec := some false }], r0] (by kernel_rfl) (P1 (cw_eqState hr6)<|P2 (r6 = false) (eqF h7)<|P0)))
  (fun h5 H =>
  eW RB (fun _ => []) H<|gE func12 [rg [{ i := 4, call := some { cl := true, auto := true, ins := [], res := (RB r4), G' := [] }, dec := some false }], r0] (by kernel_rfl) (P1 (cw_eqCombatTable hr4)<|P2 (r4 = false) (eqF h5)<|P0)))
  (fun h3 H =>
  eW RB (fun _ => []) H<|gE func12 [rg [{ i := 4, call := some { cl := true, auto := true, ins := [], res := (RB r2), G' := [] }, dec := some false }], r0] (by kernel_rfl) (P1 (cw_eqBoard hr2)<|P2 (r2 = false) (eqF h3)<|P0)))
  (fun h1 H =>
  eW RB (fun _ => []) H<|gE func12 [rg [hT 4], r0] (by kernel_rfl) (P2 ((!(a0.Name == a1.Name)) = true) (nbeqT h1)<|P0))
theorem cw_eqClimate {a0 : Gi_Climate} {a1 : Gi_Climate} {r : Bool} (H : Dw_eqClimate a0 a1 = some r) : Ct X.P X.gl 13 [.agg [sl 1 (sl 1 I) a0.Weights], .agg [sl 1 (sl 1 I) a1.Weights]] [] (RB r) [] :=
  Ct.of func13 (c := bdy f13) (by kernel_rfl) (by kernel_rfl) <|
  eBind H fun r1 hr1 H =>
  gS [r0] (by kernel_rfl) P0 <|
  eIf H (fun h2 H =>
  eW RB (fun _ => []) H<|gE func13 [rg [{ i := 4, call := some { cl := true, auto := true, ins := [], res := (RB r1), G' := [] }, dec := some true }], r0] (by kernel_rfl) (P1 (cw_eqIntSS hr1)<|P2 (r1 = true) (h2)<|P0))
  (fun h2 H =>
  eW RB (fun _ => []) H<|gE func13 [rg [{ i := 4, call := some { cl := true, auto := true, ins := [], res := (RB r1), G' := [] }, dec := some false }], r0] (by kernel_rfl) (P1 (cw_eqIntSS hr1)<|P2 (r1 = false) (eqF h2)<|P0))
theorem cw_eqOrder {a0 : Gi_Order} {a1 : Gi_Order} {r : Bool} (H : Dw_eqOrder a0 a1 = some r) : Ct X.P X.gl 188 [gi_Order a0, gi_Order a1] [] (RB r) [] :=
  Ct.of func188 (c := bdy f188) (by kernel_rfl) (by kernel_rfl) <|
  gS [r0] (by kernel_rfl) P0 <|
  eIf H (fun h1 H =>
  eBind H fun r2 hr2 H =>
  gS [rg [hF 4]] (by kernel_rfl) (P2 (((a0.Unit : Int) != a1.Unit) = false) (bneF h1)<|P0) <|
  eIf H (fun h3 H =>
  gS [rg [{ i := 4, call := some { cl := true, auto := true, ins := [], res := (RB r2), G' := [] }, dec := some true }]] (by kernel_rfl) (P1 (cw_eqIntS hr2)<|P2 (r2 = true) (h3)<|P0) <|
  eIf H (fun h4 H =>
  eW RB (fun _ => []) H<|gE func188 [rg [hF 4], r0] (by kernel_rfl) (P2 (((a0.Attack : Int) != a1.Attack) = false) (bneF h4)<|P0))
  (fun h4 H =>
  eW RB (fun _ => []) H<|gE func188 [rg [hT 4], r0] (by kernel_rfl) (P2 (((a0.Attack : Int) != a1.Attack) = true) (bneT h4)<|P0)))
  (fun h3 H =>
  eW RB (fun _ => []) H<|gE func188 [rg [{ i := 4, call := some { cl := true, auto := true, ins := [], res := (RB r2), G' := [] }, dec := some false }], r0] (by kernel_rfl) (P1 (cw_eqIntS hr2)<|P2 (r2 = false) (eqF h3)<|P0)))
  (fun h1 H =>
  eW RB (fun _ => []) H<|gE func188 [rg [hT 4], r0] (by kernel_rfl) (P2 (((a0.Unit : Int) != a1.Unit) = true) (bneT h1)<|P0))
noncomputable def Kw_eqOrderS : Sw_eqOrderS → List Item
 | .h1 .. => nav 300 3 [false] [.code (bdy f172)]
def Zw_eqOrderS : Sw_eqOrderS → St
 | .h1 va0 b1 i2 => ⟨sts 27 [(0, sl 3 gi_Order va0), (1, sl 3 gi_Order b1), (5, I i2)], []⟩
abbrev Qw_eqOrderS := Nx X 172 0 Kw_eqOrderS Zw_eqOrderS RB (fun _ => [])
theorem nw_eqOrderS : ∀ s o, Bw_eqOrderS s = some o → Qw_eqOrderS (Kw_eqOrderS s) (Zw_eqOrderS s) o
 | .h1 va0 b1 i2, o, H =>
  eIf H (fun h1 H =>
  eCk H fun h2 H =>
  eBind H fun x3 hx3 H =>
  eCk H fun h4 H =>
  eBind H fun x5 hx5 H =>
  eBind H fun r6 hr6 H =>
  gN [rg [hT 3]] (by kernel_rfl) (P2 ((decide (i2 < ((va0.length : Nat) : Int))) = true) (decide_eq_true h1)<|P0) <|
  eIf H (fun h7 H =>
  eN H fun r hn => gO [rg [hE 3 (gi_Order x3), hE 7 (gi_Order x5), { i := 8, call := some { cl := true, auto := true, ins := [], res := (RB r6), G' := [] }, dec := some true }], r0, .canon [] [0, 1, 5]] (by kernel_rfl) (P1 h2<|P1 (int_lt_of_at h2 hx3)<|P1 (at_map gi_Order hx3)<|P1 h4<|P1 (int_lt_of_at h4 hx5)<|P1 (at_map gi_Order hx5)<|P1 (cw_eqOrder hr6)<|P2 (r6 = true) (h7)<|P0) hn)
  (fun h7 H =>
  eN H<|gE func172 [rg [hE 3 (gi_Order x3), hE 7 (gi_Order x5), { i := 8, call := some { cl := true, auto := true, ins := [], res := (RB r6), G' := [] }, dec := some false }], r0] (by kernel_rfl) (P1 h2<|P1 (int_lt_of_at h2 hx3)<|P1 (at_map gi_Order hx3)<|P1 h4<|P1 (int_lt_of_at h4 hx5)<|P1 (at_map gi_Order hx5)<|P1 (cw_eqOrder hr6)<|P2 (r6 = false) (eqF h7)<|P0)))
  (fun h1 H =>
  eN H<|gE func172 [rg [hF 3], r0] (by kernel_rfl) (P2 ((decide (i2 < ((va0.length : Nat) : Int))) = false) (decide_eq_false h1)<|P0))
theorem ww_eqOrderS : ∀ s r, loop Bw_eqOrderS s = some r → Wc X 172 0 (Kw_eqOrderS s) (Zw_eqOrderS s) (RB r) ((fun _ => []) r) := Nx.all (nw_eqOrderS)
theorem cw_eqOrderS {a0 : (List Gi_Order)} {a1 : (List Gi_Order)} {r : Bool} (H : Dw_eqOrderS a0 a1 = some r) : Ct X.P X.gl 172 [sl 3 gi_Order a0, sl 3 gi_Order a1] [] (RB r) [] :=
  Ct.of func172 (c := bdy f172) (by kernel_rfl) (by kernel_rfl) <|
  gS [r0] (by kernel_rfl) P0 <|
  eIf H (fun h1 H =>
  gO [rg [hF 4], r0, .canon [] [0, 1, 5]] (by kernel_rfl) (P2 (((((a0.length : Nat) : Int) : Int) != ((a1.length : Nat) : Int)) = false) (bneF h1)<|P0) (ww_eqOrderS _ _ H))
  (fun h1 H =>
  eW RB (fun _ => []) H<|gE func172 [rg [hT 4], r0] (by kernel_rfl) (P2 (((((a0.length : Nat) : Int) : Int) != ((a1.length : Nat) : Int)) = true) (bneT h1)<|P0))
theorem cw_eqSheet {a0 : Gi_Sheet} {a1 : Gi_Sheet} {r : Bool} (H : Dw_eqSheet a0 a1 = some r) : Ct X.P X.gl 141 [gi_Sheet a0, gi_Sheet a1] [] (RB r) [] :=
  Ct.of func141 (c := bdy f141) (by kernel_rfl) (by kernel_rfl) <|
  gS [r0] (by kernel_rfl) P0 <|
  eIf H (fun h1 H =>
  eBind H fun r2 hr2 H =>
  gS [rg [hF 4]] (by kernel_rfl) (P2 (((a0.Side : Int) != a1.Side) = false) (bneF h1)<|P0) <|
  eIf H (fun h3 H =>
  eW RB (fun _ => []) H<|gE func141 [rg [{ i := 4, call := some { cl := true, auto := true, ins := [], res := (RB r2), G' := [] }, dec := some true }], r0] (by kernel_rfl) (P1 (cw_eqOrderS hr2)<|P2 (r2 = true) (h3)<|P0))
  (fun h3 H =>
  eW RB (fun _ => []) H<|gE func141 [rg [{ i := 4, call := some { cl := true, auto := true, ins := [], res := (RB r2), G' := [] }, dec := some false }], r0] (by kernel_rfl) (P1 (cw_eqOrderS hr2)<|P2 (r2 = false) (eqF h3)<|P0)))
  (fun h1 H =>
  eW RB (fun _ => []) H<|gE func141 [rg [hT 4], r0] (by kernel_rfl) (P2 (((a0.Side : Int) != a1.Side) = true) (bneT h1)<|P0))
theorem cw_eqSavedTurn {a0 : Gi_SavedTurn} {a1 : Gi_SavedTurn} {r : Bool} (H : Dw_eqSavedTurn a0 a1 = some r) : Ct X.P X.gl 105 [gi_SavedTurn a0, gi_SavedTurn a1] [] (RB r) [] :=
  Ct.of func105 (c := bdy f105) (by kernel_rfl) (by kernel_rfl) <|
  gS [r0] (by kernel_rfl) P0 <|
  eIf H (fun h1 H =>
  eBind H fun r2 hr2 H =>
  gS [rg [hF 4]] (by kernel_rfl) (P2 (((a0.Seed : Int) != a1.Seed) = false) (bneF h1)<|P0) <|
  eIf H (fun h3 H =>
  eBind H fun r4 hr4 H =>
  gS [rg [{ i := 4, call := some { cl := true, auto := true, ins := [], res := (RB r2), G' := [] }, dec := some true }]] (by kernel_rfl) (P1 (cw_eqSheet hr2)<|P2 (r2 = true) (h3)<|P0) <|
  eIf H (fun h5 H =>
  eW RB (fun _ => []) H<|gE func105 [rg [{ i := 4, call := some { cl := true, auto := true, ins := [], res := (RB r4), G' := [] }, dec := some true }], r0] (by kernel_rfl) (P1 (cw_eqSheet hr4)<|P2 (r4 = true) (h5)<|P0))
  (fun h5 H =>
  eW RB (fun _ => []) H<|gE func105 [rg [{ i := 4, call := some { cl := true, auto := true, ins := [], res := (RB r4), G' := [] }, dec := some false }], r0] (by kernel_rfl) (P1 (cw_eqSheet hr4)<|P2 (r4 = false) (eqF h5)<|P0)))
  (fun h3 H =>
  eW RB (fun _ => []) H<|gE func105 [rg [{ i := 4, call := some { cl := true, auto := true, ins := [], res := (RB r2), G' := [] }, dec := some false }], r0] (by kernel_rfl) (P1 (cw_eqSheet hr2)<|P2 (r2 = false) (eqF h3)<|P0)))
  (fun h1 H =>
  eW RB (fun _ => []) H<|gE func105 [rg [hT 4], r0] (by kernel_rfl) (P2 (((a0.Seed : Int) != a1.Seed) = true) (bneT h1)<|P0))
noncomputable def Kw_eqSavedTurnS : Sw_eqSavedTurnS → List Item
 | .h1 .. => nav 300 3 [false] [.code (bdy f60)]
def Zw_eqSavedTurnS : Sw_eqSavedTurnS → St
 | .h1 va0 b1 i2 => ⟨sts 27 [(0, sl 5 gi_SavedTurn va0), (1, sl 5 gi_SavedTurn b1), (5, I i2)], []⟩
abbrev Qw_eqSavedTurnS := Nx X 60 0 Kw_eqSavedTurnS Zw_eqSavedTurnS RB (fun _ => [])
theorem nw_eqSavedTurnS : ∀ s o, Bw_eqSavedTurnS s = some o → Qw_eqSavedTurnS (Kw_eqSavedTurnS s) (Zw_eqSavedTurnS s) o
 | .h1 va0 b1 i2, o, H =>
  eIf H (fun h1 H =>
  eCk H fun h2 H =>
  eBind H fun x3 hx3 H =>
  eCk H fun h4 H =>
  eBind H fun x5 hx5 H =>
  eBind H fun r6 hr6 H =>
  gN [rg [hT 3]] (by kernel_rfl) (P2 ((decide (i2 < ((va0.length : Nat) : Int))) = true) (decide_eq_true h1)<|P0) <|
  eIf H (fun h7 H =>
  eN H fun r hn => gO [rg [hE 3 (gi_SavedTurn x3), hE 7 (gi_SavedTurn x5), { i := 8, call := some { cl := true, auto := true, ins := [], res := (RB r6), G' := [] }, dec := some true }], r0, .canon [] [0, 1, 5]] (by kernel_rfl) (P1 h2<|P1 (int_lt_of_at h2 hx3)<|P1 (at_map gi_SavedTurn hx3)<|P1 h4<|P1 (int_lt_of_at h4 hx5)<|P1 (at_map gi_SavedTurn hx5)<|P1 (cw_eqSavedTurn hr6)<|P2 (r6 = true) (h7)<|P0) hn)
  (fun h7 H =>
  eN H<|gE func60 [rg [hE 3 (gi_SavedTurn x3), hE 7 (gi_SavedTurn x5), { i := 8, call := some { cl := true, auto := true, ins := [], res := (RB r6), G' := [] }, dec := some false }], r0] (by kernel_rfl) (P1 h2<|P1 (int_lt_of_at h2 hx3)<|P1 (at_map gi_SavedTurn hx3)<|P1 h4<|P1 (int_lt_of_at h4 hx5)<|P1 (at_map gi_SavedTurn hx5)<|P1 (cw_eqSavedTurn hr6)<|P2 (r6 = false) (eqF h7)<|P0)))
  (fun h1 H =>
  eN H<|gE func60 [rg [hF 3], r0] (by kernel_rfl) (P2 ((decide (i2 < ((va0.length : Nat) : Int))) = false) (decide_eq_false h1)<|P0))
theorem ww_eqSavedTurnS : ∀ s r, loop Bw_eqSavedTurnS s = some r → Wc X 60 0 (Kw_eqSavedTurnS s) (Zw_eqSavedTurnS s) (RB r) ((fun _ => []) r) := Nx.all (nw_eqSavedTurnS)
theorem cw_eqSavedTurnS {a0 : (List Gi_SavedTurn)} {a1 : (List Gi_SavedTurn)} {r : Bool} (H : Dw_eqSavedTurnS a0 a1 = some r) : Ct X.P X.gl 60 [sl 5 gi_SavedTurn a0, sl 5 gi_SavedTurn a1] [] (RB r) [] :=
  Ct.of func60 (c := bdy f60) (by kernel_rfl) (by kernel_rfl) <|
  gS [r0] (by kernel_rfl) P0 <|
  eIf H (fun h1 H =>
  gO [rg [hF 4], r0, .canon [] [0, 1, 5]] (by kernel_rfl) (P2 (((((a0.length : Nat) : Int) : Int) != ((a1.length : Nat) : Int)) = false) (bneF h1)<|P0) (ww_eqSavedTurnS _ _ H))
  (fun h1 H =>
  eW RB (fun _ => []) H<|gE func60 [rg [hT 4], r0] (by kernel_rfl) (P2 (((((a0.length : Nat) : Int) : Int) != ((a1.length : Nat) : Int)) = true) (bneT h1)<|P0))
theorem cw_eqSave {a0 : Gi_Save} {a1 : Gi_Save} {r : Bool} (H : Dw_eqSave a0 a1 = some r) : Ct X.P X.gl 20 [gi_Save a0, gi_Save a1] [] (RB r) [] :=
  Ct.of func20 (c := bdy f20) (by kernel_rfl) (by kernel_rfl) <|
  eBind H fun r1 hr1 H =>
  gS [r0] (by kernel_rfl) P0 <|
  eIf H (fun h2 H =>
  eBind H fun r3 hr3 H =>
  gS [rg [{ i := 4, call := some { cl := true, auto := true, ins := [], res := (RB r1), G' := [] }, dec := some true }]] (by kernel_rfl) (P1 (cw_eqScenario hr1)<|P2 (r1 = true) (h2)<|P0) <|
  eIf H (fun h4 H =>
  eBind H fun r5 hr5 H =>
  gS [rg [{ i := 4, call := some { cl := true, auto := true, ins := [], res := (RB r3), G' := [] }, dec := some true }]] (by kernel_rfl) (P1 (cw_eqClimate hr3)<|P2 (r3 = true) (h4)<|P0) <|
  eIf H (fun h6 H =>
  eW RB (fun _ => []) H<|gE func20 [rg [{ i := 4, call := some { cl := true, auto := true, ins := [], res := (RB r5), G' := [] }, dec := some true }], r0] (by kernel_rfl) (P1 (cw_eqSavedTurnS hr5)<|P2 (r5 = true) (h6)<|P0))
  (fun h6 H =>
  eW RB (fun _ => []) H<|gE func20 [rg [{ i := 4, call := some { cl := true, auto := true, ins := [], res := (RB r5), G' := [] }, dec := some false }], r0] (by kernel_rfl) (P1 (cw_eqSavedTurnS hr5)<|P2 (r5 = false) (eqF h6)<|P0)))
  (fun h4 H =>
  eW RB (fun _ => []) H<|gE func20 [rg [{ i := 4, call := some { cl := true, auto := true, ins := [], res := (RB r3), G' := [] }, dec := some false }], r0] (by kernel_rfl) (P1 (cw_eqClimate hr3)<|P2 (r3 = false) (eqF h4)<|P0)))
  (fun h2 H =>
  eW RB (fun _ => []) H<|gE func20 [rg [{ i := 4, call := some { cl := true, auto := true, ins := [], res := (RB r1), G' := [] }, dec := some false }], r0] (by kernel_rfl) (P1 (cw_eqScenario hr1)<|P2 (r1 = false) (eqF h2)<|P0))
def Rw_markText (r : ByteArray) : List D := [.str r]
noncomputable def Kw_markText : Sw_markText → List Item
 | .h1 .. => nav 300 3 [false] [.code (bdy f169)]
def Zw_markText : Sw_markText → St
 | .h1 k0 out1 => ⟨sts 20 [(0, I k0), (3, .str out1)], []⟩
abbrev Qw_markText := Nx X 169 0 Kw_markText Zw_markText Rw_markText (fun _ => [])
theorem nw_markText : ∀ s o, Bw_markText s = some o → Qw_markText (Kw_markText s) (Zw_markText s) o
 | .h1 k0 out1, o, H =>
  eIf H (fun h1 H =>
  eCk H fun h2 H =>
  eCk H fun h3 H =>
  eN H fun r hn => gO [rg [hT 1], rg [{ i := 5, s := (bytesOf [(IntKind.wrap .u8 (IntKind.wrap .i64 (48 + (Int.tmod k0 10))))]) }], r0, .canon [] [0, 3]] (by kernel_rfl) (P2 ((decide (k0 > 0)) = true) (decide_eq_true h1)<|P2 (¬ (10 : Int) = 0) (by decide)<|P1 (bytesD_of h2)<|P1 h3<|P2 (¬ (10 : Int) = 0) (by decide)<|P0) hn)
  (fun h1 H =>
  eCk H fun h2 H =>
  eN H<|gE func169 [rg [hF 1], r0] (by kernel_rfl) (P2 ((decide (k0 > 0)) = false) (decide_eq_false h1)<|P1 h2<|P0))
theorem ww_markText : ∀ s r, loop Bw_markText s = some r → Wc X 169 0 (Kw_markText s) (Zw_markText s) (Rw_markText r) ((fun _ => []) r) := Nx.all (nw_markText)
theorem cw_markText {a0 : Int} {r : ByteArray} (H : Dw_markText a0 = some r) : Ct X.P X.gl 169 [I a0] [] (Rw_markText r) [] :=
  Ct.of func169 (c := bdy f169) (by kernel_rfl) (by kernel_rfl) <|
  gS [r0] (by kernel_rfl) P0 <|
  eIf H (fun h1 H =>
  eW Rw_markText (fun _ => []) H<|gE func169 [rg [hT 1], r0] (by kernel_rfl) (P2 ((decide (a0 ≤ 0)) = true) (decide_eq_true h1)<|P0))
  (fun h1 H =>
  gO [rg [hF 1], r0, .canon [] [0, 3]] (by kernel_rfl) (P2 ((decide (a0 ≤ 0)) = false) (decide_eq_false h1)<|P0) (ww_markText _ _ H))
def Rw_markIntS (r : Int × (List Int)) : List D := [I r.1]
def Nw_markIntS (r : Int × (List Int)) : List Root := [⟨false, false, 1, r.2.length, List.map I r.2⟩]
noncomputable def Kw_markIntS : Sw_markIntS → List Item
 | .h1 .. => nav 300 2 [] [.code (bdy f52)]
def Zw_markIntS : Sw_markIntS → St
 | .h1 k0 i1 l2 => ⟨sts 19 [(0, .ref 0 1 none), (1, I k0), (5, I i1)], [some ⟨false, false, 1, l2.length, List.map I l2⟩]⟩
abbrev Qw_markIntS := Nx X 52 1 Kw_markIntS Zw_markIntS Rw_markIntS Nw_markIntS
theorem nw_markIntS : ∀ s o, Bw_markIntS s = some o → Qw_markIntS (Kw_markIntS s) (Zw_markIntS s) o
 | .h1 k0 i1 l2, o, H =>
  eIf H (fun h1 H =>
  eCk H fun h2 H =>
  eBind H fun x3 hx3 H =>
  eN H fun r hn => gO [rg [hT 3], rg [hA 4 ((List.set l2 (Int.toNat i1) k0).length) (List.map I (List.set l2 (Int.toNat i1) k0))], r0, r0, .canon [0] [0, 1, 5]] (by kernel_rfl) (P2 ((decide (i1 < ((l2.length : Nat) : Int))) = true) (decide_eq_true h1)<|P1 h2<|P1 (int_lt_of_at h2 hx3)<|P1 (lt_of_at hx3)<|P2 (setCells (List.map I l2) (Int.toNat i1) 0 [I k0] = List.map I (List.set l2 (Int.toNat i1) k0)) (setCells_map hx3 rfl)<|P1 (setLen l2 (Int.toNat i1) k0)<|P0) hn)
  (fun h1 H =>
  eN H<|gE func52 [rg [hF 3], r0] (by kernel_rfl) (P2 ((decide (i1 < ((l2.length : Nat) : Int))) = false) (decide_eq_false h1)<|P0))
theorem ww_markIntS : ∀ s r, loop Bw_markIntS s = some r → Wc X 52 1 (Kw_markIntS s) (Zw_markIntS s) (Rw_markIntS r) (Nw_markIntS r) := Nx.all (nw_markIntS)
theorem cw_markIntS {a0 : (List Int)} {a1 : Int} {r : Int × (List Int)} (H : Dw_markIntS a0 a1 = some r) : Ct X.P X.gl 52 [.ref 0 1 none, I a1] [⟨false, false, 1, a0.length, List.map I a0⟩] (Rw_markIntS r) (Nw_markIntS r) :=
  Ct.of func52 (c := bdy f52) (by kernel_rfl) (by kernel_rfl) <|
  gO [r0, r0, .canon [0] [0, 1, 5]] (by kernel_rfl) P0 (ww_markIntS _ _ H)
def Rw_markTerrainS (r : Int × (List Gi_Terrain)) : List D := [I r.1]
def Nw_markTerrainS (r : Int × (List Gi_Terrain)) : List Root := [⟨false, false, 5, r.2.length, List.map goi_Terrain r.2⟩]
noncomputable def Kw_markTerrainS : Sw_markTerrainS → List Item
 | .h1 .. => nav 300 2 [] [.code (bdy f133)]
def Zw_markTerrainS : Sw_markTerrainS → St
 | .h1 k0 i1 l2 => ⟨sts 51 [(0, .ref 0 5 none), (1, I k0), (5, I i1)], [some ⟨false, false, 5, l2.length, List.map goi_Terrain l2⟩]⟩
abbrev Qw_markTerrainS := Nx X 133 1 Kw_markTerrainS Zw_markTerrainS Rw_markTerrainS Nw_markTerrainS
theorem nw_markTerrainS : ∀ s o, Bw_markTerrainS s = some o → Qw_markTerrainS (Kw_markTerrainS s) (Zw_markTerrainS s) o
 | .h1 k0 i1 l2, o, H =>
  eIf H (fun h1 H =>
  eBind H fun r2 hr2 H =>
  eCk H fun h3 H =>
  eBind H fun x4 hx4 H =>
  eCk H fun h5 H =>
  eBind H fun x6 hx6 H =>
  eBind H fun r7 hr7 H =>
  eCk H fun h8 H =>
  eCk H fun h9 H =>
  eBind H fun x10 hx10 H =>
  eCk H fun h11 H =>
  eBind H fun x12 hx12 H =>
  eCk H fun h13 H =>
  eBind H fun x14 hx14 H =>
  eN H fun r hn => gO [rg [hT 3], rg [hC 3 true [] (Rw_markText r2) [], hA 6 ((List.set l2 (Int.toNat i1) (Gi_Terrain.mk r2 x4.Cost x4.Shift x4.Height x4.Blocks)).length) (List.map goi_Terrain (List.set l2 (Int.toNat i1) (Gi_Terrain.mk r2 x4.Cost x4.Shift x4.Height x4.Blocks)))], r0, rg [{ i := 4, pre := [.take 0 (Int.toNat i1) 1 1 x6.Cost.length (List.map I x6.Cost) (List.set (List.map goi_Terrain (List.set l2 (Int.toNat i1) (Gi_Terrain.mk r2 x4.Cost x4.Shift x4.Height x4.Blocks))) (Int.toNat i1) (.agg [.str x6.Name, .ref 1 1 none, I x6.Shift, I x6.Height, .bool x6.Blocks]))], el := some (.agg [.str x6.Name, .ref 1 1 none, I x6.Shift, I x6.Height, .bool x6.Blocks]) }, { i := 6, call := some { cl := true, auto := true, ins := [1], res := (Rw_markIntS r7), G' := (Nw_markIntS r7) }, post := [.put 0 (Int.toNat i1) 1 1 (List.map goi_Terrain (List.set (List.set l2 (Int.toNat i1) (Gi_Terrain.mk r2 x4.Cost x4.Shift x4.Height x4.Blocks)) (Int.toNat i1) (Gi_Terrain.mk x6.Name r7.2 x6.Shift x6.Height x6.Blocks))), .own 0 (List.set (List.set l2 (Int.toNat i1) (Gi_Terrain.mk r2 x4.Cost x4.Shift x4.Height x4.Blocks)) (Int.toNat i1) (Gi_Terrain.mk x6.Name r7.2 x6.Shift x6.Height x6.Blocks)).length], xtra := [0] }], rg [hA 5 ((List.set (List.set (List.set l2 (Int.toNat i1) (Gi_Terrain.mk r2 x4.Cost x4.Shift x4.Height x4.Blocks)) (Int.toNat i1) (Gi_Terrain.mk x6.Name r7.2 x6.Shift x6.Height x6.Blocks)) (Int.toNat i1) (Gi_Terrain.mk x10.Name x10.Cost r7.1 x10.Height x10.Blocks)).length) (List.map goi_Terrain (List.set (List.set (List.set l2 (Int.toNat i1) (Gi_Terrain.mk r2 x4.Cost x4.Shift x4.Height x4.Blocks)) (Int.toNat i1) (Gi_Terrain.mk x6.Name r7.2 x6.Shift x6.Height x6.Blocks)) (Int.toNat i1) (Gi_Terrain.mk x10.Name x10.Cost r7.1 x10.Height x10.Blocks)))], r0, rg [hA 5 ((List.set (List.set (List.set (List.set l2 (Int.toNat i1) (Gi_Terrain.mk r2 x4.Cost x4.Shift x4.Height x4.Blocks)) (Int.toNat i1) (Gi_Terrain.mk x6.Name r7.2 x6.Shift x6.Height x6.Blocks)) (Int.toNat i1) (Gi_Terrain.mk x10.Name x10.Cost r7.1 x10.Height x10.Blocks)) (Int.toNat i1) (Gi_Terrain.mk x12.Name x12.Cost x12.Shift (IntKind.wrap .i64 (r7.1 + 1)) x12.Blocks)).length) (List.map goi_Terrain (List.set (List.set (List.set (List.set l2 (Int.toNat i1) (Gi_Terrain.mk r2 x4.Cost x4.Shift x4.Height x4.Blocks)) (Int.toNat i1) (Gi_Terrain.mk x6.Name r7.2 x6.Shift x6.Height x6.Blocks)) (Int.toNat i1) (Gi_Terrain.mk x10.Name x10.Cost r7.1 x10.Height x10.Blocks)) (Int.toNat i1) (Gi_Terrain.mk x12.Name x12.Cost x12.Shift (IntKind.wrap .i64 (r7.1 + 1)) x12.Blocks)))], r0, rg [hA 7 ((List.set (List.set (List.set (List.set (List.set l2 (Int.toNat i1) (Gi_Terrain.mk r2 x4.Cost x4.Shift x4.Height x4.Blocks)) (Int.toNat i1) (Gi_Terrain.mk x6.Name r7.2 x6.Shift x6.Height x6.Blocks)) (Int.toNat i1) (Gi_Terrain.mk x10.Name x10.Cost r7.1 x10.Height x10.Blocks)) (Int.toNat i1) (Gi_Terrain.mk x12.Name x12.Cost x12.Shift (IntKind.wrap .i64 (r7.1 + 1)) x12.Blocks)) (Int.toNat i1) (Gi_Terrain.mk x14.Name x14.Cost x14.Shift x14.Height (((Int.tmod (IntKind.wrap .i64 ((IntKind.wrap .i64 (r7.1 + 1)) + 1)) 3) : Int) == 0))).length) (List.map goi_Terrain (List.set (List.set (List.set (List.set (List.set l2 (Int.toNat i1) (Gi_Terrain.mk r2 x4.Cost x4.Shift x4.Height x4.Blocks)) (Int.toNat i1) (Gi_Terrain.mk x6.Name r7.2 x6.Shift x6.Height x6.Blocks)) (Int.toNat i1) (Gi_Terrain.mk x10.Name x10.Cost r7.1 x10.Height x10.Blocks)) (Int.toNat i1) (Gi_Terrain.mk x12.Name x12.Cost x12.Shift (IntKind.wrap .i64 (r7.1 + 1)) x12.Blocks)) (Int.toNat i1) (Gi_Terrain.mk x14.Name x14.Cost x14.Shift x14.Height (((Int.tmod (IntKind.wrap .i64 ((IntKind.wrap .i64 (r7.1 + 1)) + 1)) 3) : Int) == 0))))], r0, r0, .canon [0] [0, 1, 5]] (by kernel_rfl) (P2 ((decide (i1 < ((l2.length : Nat) : Int))) = true) (decide_eq_true h1)<|P1 (cw_markText hr2)<|P1 h3<|P1 (int_lt_of_at h3 hx4)<|P1 (lt_of_at hx4)<|P2 (setCells (List.map goi_Terrain l2) (Int.toNat i1) 0 [.str r2] = List.map goi_Terrain (List.set l2 (Int.toNat i1) (Gi_Terrain.mk r2 x4.Cost x4.Shift x4.Height x4.Blocks))) (setCells_map hx4 rfl)<|P1 (setLen l2 (Int.toNat i1) (Gi_Terrain.mk r2 x4.Cost x4.Shift x4.Height x4.Blocks))<|P1 h5<|P1 (int_lt_of_at h5 hx6)<|P2 (getCells (List.map goi_Terrain (List.set l2 (Int.toNat i1) (Gi_Terrain.mk r2 x4.Cost x4.Shift x4.Height x4.Blocks))) (Int.toNat i1) 1 1 = some [ow 1 I x6.Cost]) (getCells_at hx6 rfl)<|P2 (setCells (List.map goi_Terrain (List.set l2 (Int.toNat i1) (Gi_Terrain.mk r2 x4.Cost x4.Shift x4.Height x4.Blocks))) (Int.toNat i1) 1 [.ref 1 1 none] = List.set (List.map goi_Terrain (List.set l2 (Int.toNat i1) (Gi_Terrain.mk r2 x4.Cost x4.Shift x4.Height x4.Blocks))) (Int.toNat i1) (.agg [.str x6.Name, .ref 1 1 none, I x6.Shift, I x6.Height, .bool x6.Blocks])) (setCells_mapD hx6 rfl)<|P1 (at_set (f := goi_Terrain) (.agg [.str x6.Name, .ref 1 1 none, I x6.Shift, I x6.Height, .bool x6.Blocks]) hx6)<|P1 h8<|P1 (cw_markIntS hr7)<|P2 (getCells (List.set (List.map goi_Terrain (List.set l2 (Int.toNat i1) (Gi_Terrain.mk r2 x4.Cost x4.Shift x4.Height x4.Blocks))) (Int.toNat i1) (.agg [.str x6.Name, .ref 1 1 none, I x6.Shift, I x6.Height, .bool x6.Blocks])) (Int.toNat i1) 1 1 = some [.ref 1 1 none]) (getCells_set hx6 rfl)<|P2 (setCells (List.set (List.map goi_Terrain (List.set l2 (Int.toNat i1) (Gi_Terrain.mk r2 x4.Cost x4.Shift x4.Height x4.Blocks))) (Int.toNat i1) (.agg [.str x6.Name, .ref 1 1 none, I x6.Shift, I x6.Height, .bool x6.Blocks])) (Int.toNat i1) 1 [ow 1 I r7.2] = List.map goi_Terrain (List.set (List.set l2 (Int.toNat i1) (Gi_Terrain.mk r2 x4.Cost x4.Shift x4.Height x4.Blocks)) (Int.toNat i1) (Gi_Terrain.mk x6.Name r7.2 x6.Shift x6.Height x6.Blocks))) (setCells_set hx6 rfl)<|P1 (allOw_159 (List.set (List.set l2 (Int.toNat i1) (Gi_Terrain.mk r2 x4.Cost x4.Shift x4.Height x4.Blocks)) (Int.toNat i1) (Gi_Terrain.mk x6.Name r7.2 x6.Shift x6.Height x6.Blocks)))<|P1 (setLen (List.set l2 (Int.toNat i1) (Gi_Terrain.mk r2 x4.Cost x4.Shift x4.Height x4.Blocks)) (Int.toNat i1) (Gi_Terrain.mk x6.Name r7.2 x6.Shift x6.Height x6.Blocks))<|P1 h9<|P1 (int_lt_of_at h9 hx10)<|P1 (lt_of_at hx10)<|P2 (setCells (List.map goi_Terrain (List.set (List.set l2 (Int.toNat i1) (Gi_Terrain.mk r2 x4.Cost x4.Shift x4.Height x4.Blocks)) (Int.toNat i1) (Gi_Terrain.mk x6.Name r7.2 x6.Shift x6.Height x6.Blocks))) (Int.toNat i1) 2 [I r7.1] = List.map goi_Terrain (List.set (List.set (List.set l2 (Int.toNat i1) (Gi_Terrain.mk r2 x4.Cost x4.Shift x4.Height x4.Blocks)) (Int.toNat i1) (Gi_Terrain.mk x6.Name r7.2 x6.Shift x6.Height x6.Blocks)) (Int.toNat i1) (Gi_Terrain.mk x10.Name x10.Cost r7.1 x10.Height x10.Blocks))) (setCells_map hx10 rfl)<|P1 (setLen (List.set (List.set l2 (Int.toNat i1) (Gi_Terrain.mk r2 x4.Cost x4.Shift x4.Height x4.Blocks)) (Int.toNat i1) (Gi_Terrain.mk x6.Name r7.2 x6.Shift x6.Height x6.Blocks)) (Int.toNat i1) (Gi_Terrain.mk x10.Name x10.Cost r7.1 x10.Height x10.Blocks))<|P1 h11<|P1 (int_lt_of_at h11 hx12)<|P1 (lt_of_at hx12)<|P2 (setCells (List.map goi_Terrain (List.set (List.set (List.set l2 (Int.toNat i1) (Gi_Terrain.mk r2 x4.Cost x4.Shift x4.Height x4.Blocks)) (Int.toNat i1) (Gi_Terrain.mk x6.Name r7.2 x6.Shift x6.Height x6.Blocks)) (Int.toNat i1) (Gi_Terrain.mk x10.Name x10.Cost r7.1 x10.Height x10.Blocks))) (Int.toNat i1) 3 [I (IntKind.wrap .i64 (r7.1 + 1))] = List.map goi_Terrain (List.set (List.set (List.set (List.set l2 (Int.toNat i1) (Gi_Terrain.mk r2 x4.Cost x4.Shift x4.Height x4.Blocks)) (Int.toNat i1) (Gi_Terrain.mk x6.Name r7.2 x6.Shift x6.Height x6.Blocks)) (Int.toNat i1) (Gi_Terrain.mk x10.Name x10.Cost r7.1 x10.Height x10.Blocks)) (Int.toNat i1) (Gi_Terrain.mk x12.Name x12.Cost x12.Shift (IntKind.wrap .i64 (r7.1 + 1)) x12.Blocks))) (setCells_map hx12 rfl)<|P1 (setLen (List.set (List.set (List.set l2 (Int.toNat i1) (Gi_Terrain.mk r2 x4.Cost x4.Shift x4.Height x4.Blocks)) (Int.toNat i1) (Gi_Terrain.mk x6.Name r7.2 x6.Shift x6.Height x6.Blocks)) (Int.toNat i1) (Gi_Terrain.mk x10.Name x10.Cost r7.1 x10.Height x10.Blocks)) (Int.toNat i1) (Gi_Terrain.mk x12.Name x12.Cost x12.Shift (IntKind.wrap .i64 (r7.1 + 1)) x12.Blocks))<|P2 (¬ (3 : Int) = 0) (by decide)<|P1 h13<|P1 (int_lt_of_at h13 hx14)<|P1 (lt_of_at hx14)<|P2 (setCells (List.map goi_Terrain (List.set (List.set (List.set (List.set l2 (Int.toNat i1) (Gi_Terrain.mk r2 x4.Cost x4.Shift x4.Height x4.Blocks)) (Int.toNat i1) (Gi_Terrain.mk x6.Name r7.2 x6.Shift x6.Height x6.Blocks)) (Int.toNat i1) (Gi_Terrain.mk x10.Name x10.Cost r7.1 x10.Height x10.Blocks)) (Int.toNat i1) (Gi_Terrain.mk x12.Name x12.Cost x12.Shift (IntKind.wrap .i64 (r7.1 + 1)) x12.Blocks))) (Int.toNat i1) 4 [.bool (((Int.tmod (IntKind.wrap .i64 ((IntKind.wrap .i64 (r7.1 + 1)) + 1)) 3) : Int) == 0)] = List.map goi_Terrain (List.set (List.set (List.set (List.set (List.set l2 (Int.toNat i1) (Gi_Terrain.mk r2 x4.Cost x4.Shift x4.Height x4.Blocks)) (Int.toNat i1) (Gi_Terrain.mk x6.Name r7.2 x6.Shift x6.Height x6.Blocks)) (Int.toNat i1) (Gi_Terrain.mk x10.Name x10.Cost r7.1 x10.Height x10.Blocks)) (Int.toNat i1) (Gi_Terrain.mk x12.Name x12.Cost x12.Shift (IntKind.wrap .i64 (r7.1 + 1)) x12.Blocks)) (Int.toNat i1) (Gi_Terrain.mk x14.Name x14.Cost x14.Shift x14.Height (((Int.tmod (IntKind.wrap .i64 ((IntKind.wrap .i64 (r7.1 + 1)) + 1)) 3) : Int) == 0)))) (setCells_map hx14 rfl)<|P1 (setLen (List.set (List.set (List.set (List.set l2 (Int.toNat i1) (Gi_Terrain.mk r2 x4.Cost x4.Shift x4.Height x4.Blocks)) (Int.toNat i1) (Gi_Terrain.mk x6.Name r7.2 x6.Shift x6.Height x6.Blocks)) (Int.toNat i1) (Gi_Terrain.mk x10.Name x10.Cost r7.1 x10.Height x10.Blocks)) (Int.toNat i1) (Gi_Terrain.mk x12.Name x12.Cost x12.Shift (IntKind.wrap .i64 (r7.1 + 1)) x12.Blocks)) (Int.toNat i1) (Gi_Terrain.mk x14.Name x14.Cost x14.Shift x14.Height (((Int.tmod (IntKind.wrap .i64 ((IntKind.wrap .i64 (r7.1 + 1)) + 1)) 3) : Int) == 0)))<|P0) hn)
  (fun h1 H =>
  eN H<|gE func133 [rg [hF 3], r0] (by kernel_rfl) (P2 ((decide (i1 < ((l2.length : Nat) : Int))) = false) (decide_eq_false h1)<|P0))
theorem ww_markTerrainS : ∀ s r, loop Bw_markTerrainS s = some r → Wc X 133 1 (Kw_markTerrainS s) (Zw_markTerrainS s) (Rw_markTerrainS r) (Nw_markTerrainS r) := Nx.all (nw_markTerrainS)
theorem cw_markTerrainS {a0 : (List Gi_Terrain)} {a1 : Int} {r : Int × (List Gi_Terrain)} (H : Dw_markTerrainS a0 a1 = some r) : Ct X.P X.gl 133 [.ref 0 5 none, I a1] [⟨false, false, 5, a0.length, List.map goi_Terrain a0⟩] (Rw_markTerrainS r) (Nw_markTerrainS r) :=
  Ct.of func133 (c := bdy f133) (by kernel_rfl) (by kernel_rfl) <|
  gO [r0, r0, .canon [0] [0, 1, 5]] (by kernel_rfl) P0 (ww_markTerrainS _ _ H)
def Rw_markKindS (r : Int × (List Gi_Kind)) : List D := [I r.1]
def Nw_markKindS (r : Int × (List Gi_Kind)) : List Root := [⟨false, false, 6, r.2.length, List.map gi_Kind r.2⟩]
noncomputable def Kw_markKindS : Sw_markKindS → List Item
 | .h1 .. => nav 300 2 [] [.code (bdy f134)]
def Zw_markKindS : Sw_markKindS → St
 | .h1 k0 i1 l2 => ⟨sts 58 [(0, .ref 0 6 none), (1, I k0), (5, I i1)], [some ⟨false, false, 6, l2.length, List.map gi_Kind l2⟩]⟩
abbrev Qw_markKindS := Nx X 134 1 Kw_markKindS Zw_markKindS Rw_markKindS Nw_markKindS
theorem nw_markKindS : ∀ s o, Bw_markKindS s = some o → Qw_markKindS (Kw_markKindS s) (Zw_markKindS s) o
 | .h1 k0 i1 l2, o, H =>
  eIf H (fun h1 H =>
  eBind H fun r2 hr2 H =>
  eCk H fun h3 H =>
  eBind H fun x4 hx4 H =>
  eCk H fun h5 H =>
  eBind H fun x6 hx6 H =>
  eCk H fun h7 H =>
  eBind H fun x8 hx8 H =>
  eCk H fun h9 H =>
  eBind H fun x10 hx10 H =>
  eCk H fun h11 H =>
  eBind H fun x12 hx12 H =>
  eCk H fun h13 H =>
  eBind H fun x14 hx14 H =>
  eN H fun r hn => gO [rg [hT 3], rg [hC 3 true [] (Rw_markText r2) [], hA 6 ((List.set l2 (Int.toNat i1) (Gi_Kind.mk r2 x4.Strength x4.Moves x4.Steps x4.Zone x4.View)).length) (List.map gi_Kind (List.set l2 (Int.toNat i1) (Gi_Kind.mk r2 x4.Strength x4.Moves x4.Steps x4.Zone x4.View)))], r0, rg [hA 5 ((List.set (List.set l2 (Int.toNat i1) (Gi_Kind.mk r2 x4.Strength x4.Moves x4.Steps x4.Zone x4.View)) (Int.toNat i1) (Gi_Kind.mk x6.Name (IntKind.wrap .i64 (k0 + 1)) x6.Moves x6.Steps x6.Zone x6.View)).length) (List.map gi_Kind (List.set (List.set l2 (Int.toNat i1) (Gi_Kind.mk r2 x4.Strength x4.Moves x4.Steps x4.Zone x4.View)) (Int.toNat i1) (Gi_Kind.mk x6.Name (IntKind.wrap .i64 (k0 + 1)) x6.Moves x6.Steps x6.Zone x6.View)))], r0, rg [hA 5 ((List.set (List.set (List.set l2 (Int.toNat i1) (Gi_Kind.mk r2 x4.Strength x4.Moves x4.Steps x4.Zone x4.View)) (Int.toNat i1) (Gi_Kind.mk x6.Name (IntKind.wrap .i64 (k0 + 1)) x6.Moves x6.Steps x6.Zone x6.View)) (Int.toNat i1) (Gi_Kind.mk x8.Name x8.Strength (IntKind.wrap .i64 ((IntKind.wrap .i64 (k0 + 1)) + 1)) x8.Steps x8.Zone x8.View)).length) (List.map gi_Kind (List.set (List.set (List.set l2 (Int.toNat i1) (Gi_Kind.mk r2 x4.Strength x4.Moves x4.Steps x4.Zone x4.View)) (Int.toNat i1) (Gi_Kind.mk x6.Name (IntKind.wrap .i64 (k0 + 1)) x6.Moves x6.Steps x6.Zone x6.View)) (Int.toNat i1) (Gi_Kind.mk x8.Name x8.Strength (IntKind.wrap .i64 ((IntKind.wrap .i64 (k0 + 1)) + 1)) x8.Steps x8.Zone x8.View)))], r0, rg [hA 5 ((List.set (List.set (List.set (List.set l2 (Int.toNat i1) (Gi_Kind.mk r2 x4.Strength x4.Moves x4.Steps x4.Zone x4.View)) (Int.toNat i1) (Gi_Kind.mk x6.Name (IntKind.wrap .i64 (k0 + 1)) x6.Moves x6.Steps x6.Zone x6.View)) (Int.toNat i1) (Gi_Kind.mk x8.Name x8.Strength (IntKind.wrap .i64 ((IntKind.wrap .i64 (k0 + 1)) + 1)) x8.Steps x8.Zone x8.View)) (Int.toNat i1) (Gi_Kind.mk x10.Name x10.Strength x10.Moves (IntKind.wrap .i64 ((IntKind.wrap .i64 ((IntKind.wrap .i64 (k0 + 1)) + 1)) + 1)) x10.Zone x10.View)).length) (List.map gi_Kind (List.set (List.set (List.set (List.set l2 (Int.toNat i1) (Gi_Kind.mk r2 x4.Strength x4.Moves x4.Steps x4.Zone x4.View)) (Int.toNat i1) (Gi_Kind.mk x6.Name (IntKind.wrap .i64 (k0 + 1)) x6.Moves x6.Steps x6.Zone x6.View)) (Int.toNat i1) (Gi_Kind.mk x8.Name x8.Strength (IntKind.wrap .i64 ((IntKind.wrap .i64 (k0 + 1)) + 1)) x8.Steps x8.Zone x8.View)) (Int.toNat i1) (Gi_Kind.mk x10.Name x10.Strength x10.Moves (IntKind.wrap .i64 ((IntKind.wrap .i64 ((IntKind.wrap .i64 (k0 + 1)) + 1)) + 1)) x10.Zone x10.View)))], r0, rg [hA 7 ((List.set (List.set (List.set (List.set (List.set l2 (Int.toNat i1) (Gi_Kind.mk r2 x4.Strength x4.Moves x4.Steps x4.Zone x4.View)) (Int.toNat i1) (Gi_Kind.mk x6.Name (IntKind.wrap .i64 (k0 + 1)) x6.Moves x6.Steps x6.Zone x6.View)) (Int.toNat i1) (Gi_Kind.mk x8.Name x8.Strength (IntKind.wrap .i64 ((IntKind.wrap .i64 (k0 + 1)) + 1)) x8.Steps x8.Zone x8.View)) (Int.toNat i1) (Gi_Kind.mk x10.Name x10.Strength x10.Moves (IntKind.wrap .i64 ((IntKind.wrap .i64 ((IntKind.wrap .i64 (k0 + 1)) + 1)) + 1)) x10.Zone x10.View)) (Int.toNat i1) (Gi_Kind.mk x12.Name x12.Strength x12.Moves x12.Steps (((Int.tmod (IntKind.wrap .i64 ((IntKind.wrap .i64 ((IntKind.wrap .i64 ((IntKind.wrap .i64 (k0 + 1)) + 1)) + 1)) + 1)) 3) : Int) == 0) x12.View)).length) (List.map gi_Kind (List.set (List.set (List.set (List.set (List.set l2 (Int.toNat i1) (Gi_Kind.mk r2 x4.Strength x4.Moves x4.Steps x4.Zone x4.View)) (Int.toNat i1) (Gi_Kind.mk x6.Name (IntKind.wrap .i64 (k0 + 1)) x6.Moves x6.Steps x6.Zone x6.View)) (Int.toNat i1) (Gi_Kind.mk x8.Name x8.Strength (IntKind.wrap .i64 ((IntKind.wrap .i64 (k0 + 1)) + 1)) x8.Steps x8.Zone x8.View)) (Int.toNat i1) (Gi_Kind.mk x10.Name x10.Strength x10.Moves (IntKind.wrap .i64 ((IntKind.wrap .i64 ((IntKind.wrap .i64 (k0 + 1)) + 1)) + 1)) x10.Zone x10.View)) (Int.toNat i1) (Gi_Kind.mk x12.Name x12.Strength x12.Moves x12.Steps (((Int.tmod (IntKind.wrap .i64 ((IntKind.wrap .i64 ((IntKind.wrap .i64 ((IntKind.wrap .i64 (k0 + 1)) + 1)) + 1)) + 1)) 3) : Int) == 0) x12.View)))], r0, rg [hA 5 ((List.set (List.set (List.set (List.set (List.set (List.set l2 (Int.toNat i1) (Gi_Kind.mk r2 x4.Strength x4.Moves x4.Steps x4.Zone x4.View)) (Int.toNat i1) (Gi_Kind.mk x6.Name (IntKind.wrap .i64 (k0 + 1)) x6.Moves x6.Steps x6.Zone x6.View)) (Int.toNat i1) (Gi_Kind.mk x8.Name x8.Strength (IntKind.wrap .i64 ((IntKind.wrap .i64 (k0 + 1)) + 1)) x8.Steps x8.Zone x8.View)) (Int.toNat i1) (Gi_Kind.mk x10.Name x10.Strength x10.Moves (IntKind.wrap .i64 ((IntKind.wrap .i64 ((IntKind.wrap .i64 (k0 + 1)) + 1)) + 1)) x10.Zone x10.View)) (Int.toNat i1) (Gi_Kind.mk x12.Name x12.Strength x12.Moves x12.Steps (((Int.tmod (IntKind.wrap .i64 ((IntKind.wrap .i64 ((IntKind.wrap .i64 ((IntKind.wrap .i64 (k0 + 1)) + 1)) + 1)) + 1)) 3) : Int) == 0) x12.View)) (Int.toNat i1) (Gi_Kind.mk x14.Name x14.Strength x14.Moves x14.Steps x14.Zone (IntKind.wrap .i64 ((IntKind.wrap .i64 ((IntKind.wrap .i64 ((IntKind.wrap .i64 ((IntKind.wrap .i64 (k0 + 1)) + 1)) + 1)) + 1)) + 1)))).length) (List.map gi_Kind (List.set (List.set (List.set (List.set (List.set (List.set l2 (Int.toNat i1) (Gi_Kind.mk r2 x4.Strength x4.Moves x4.Steps x4.Zone x4.View)) (Int.toNat i1) (Gi_Kind.mk x6.Name (IntKind.wrap .i64 (k0 + 1)) x6.Moves x6.Steps x6.Zone x6.View)) (Int.toNat i1) (Gi_Kind.mk x8.Name x8.Strength (IntKind.wrap .i64 ((IntKind.wrap .i64 (k0 + 1)) + 1)) x8.Steps x8.Zone x8.View)) (Int.toNat i1) (Gi_Kind.mk x10.Name x10.Strength x10.Moves (IntKind.wrap .i64 ((IntKind.wrap .i64 ((IntKind.wrap .i64 (k0 + 1)) + 1)) + 1)) x10.Zone x10.View)) (Int.toNat i1) (Gi_Kind.mk x12.Name x12.Strength x12.Moves x12.Steps (((Int.tmod (IntKind.wrap .i64 ((IntKind.wrap .i64 ((IntKind.wrap .i64 ((IntKind.wrap .i64 (k0 + 1)) + 1)) + 1)) + 1)) 3) : Int) == 0) x12.View)) (Int.toNat i1) (Gi_Kind.mk x14.Name x14.Strength x14.Moves x14.Steps x14.Zone (IntKind.wrap .i64 ((IntKind.wrap .i64 ((IntKind.wrap .i64 ((IntKind.wrap .i64 ((IntKind.wrap .i64 (k0 + 1)) + 1)) + 1)) + 1)) + 1)))))], r0, r0, .canon [0] [0, 1, 5]] (by kernel_rfl) (P2 ((decide (i1 < ((l2.length : Nat) : Int))) = true) (decide_eq_true h1)<|P1 (cw_markText hr2)<|P1 h3<|P1 (int_lt_of_at h3 hx4)<|P1 (lt_of_at hx4)<|P2 (setCells (List.map gi_Kind l2) (Int.toNat i1) 0 [.str r2] = List.map gi_Kind (List.set l2 (Int.toNat i1) (Gi_Kind.mk r2 x4.Strength x4.Moves x4.Steps x4.Zone x4.View))) (setCells_map hx4 rfl)<|P1 (setLen l2 (Int.toNat i1) (Gi_Kind.mk r2 x4.Strength x4.Moves x4.Steps x4.Zone x4.View))<|P1 h5<|P1 (int_lt_of_at h5 hx6)<|P1 (lt_of_at hx6)<|P2 (setCells (List.map gi_Kind (List.set l2 (Int.toNat i1) (Gi_Kind.mk r2 x4.Strength x4.Moves x4.Steps x4.Zone x4.View))) (Int.toNat i1) 1 [I (IntKind.wrap .i64 (k0 + 1))] = List.map gi_Kind (List.set (List.set l2 (Int.toNat i1) (Gi_Kind.mk r2 x4.Strength x4.Moves x4.Steps x4.Zone x4.View)) (Int.toNat i1) (Gi_Kind.mk x6.Name (IntKind.wrap .i64 (k0 + 1)) x6.Moves x6.Steps x6.Zone x6.View))) (setCells_map hx6 rfl)<|P1 (setLen (List.set l2 (Int.toNat i1) (Gi_Kind.mk r2 x4.Strength x4.Moves x4.Steps x4.Zone x4.View)) (Int.toNat i1) (Gi_Kind.mk x6.Name (IntKind.wrap .i64 (k0 + 1)) x6.Moves x6.Steps x6.Zone x6.View))<|P1 h7<|P1 (int_lt_of_at h7 hx8)<|P1 (lt_of_at hx8)<|P2 (setCells (List.map gi_Kind (List.set (List.set l2 (Int.toNat i1) (Gi_Kind.mk r2 x4.Strength x4.Moves x4.Steps x4.Zone x4.View)) (Int.toNat i1) (Gi_Kind.mk x6.Name (IntKind.wrap .i64 (k0 + 1)) x6.Moves x6.Steps x6.Zone x6.View))) (Int.toNat i1) 2 [I (IntKind.wrap .i64 ((IntKind.wrap .i64 (k0 + 1)) + 1))] = List.map gi_Kind (List.set (List.set (List.set l2 (Int.toNat i1) (Gi_Kind.mk r2 x4.Strength x4.Moves x4.Steps x4.Zone x4.View)) (Int.toNat i1) (Gi_Kind.mk x6.Name (IntKind.wrap .i64 (k0 + 1)) x6.Moves x6.Steps x6.Zone x6.View)) (Int.toNat i1) (Gi_Kind.mk x8.Name x8.Strength (IntKind.wrap .i64 ((IntKind.wrap .i64 (k0 + 1)) + 1)) x8.Steps x8.Zone x8.View))) (setCells_map hx8 rfl)<|P1 (setLen (List.set (List.set l2 (Int.toNat i1) (Gi_Kind.mk r2 x4.Strength x4.Moves x4.Steps x4.Zone x4.View)) (Int.toNat i1) (Gi_Kind.mk x6.Name (IntKind.wrap .i64 (k0 + 1)) x6.Moves x6.Steps x6.Zone x6.View)) (Int.toNat i1) (Gi_Kind.mk x8.Name x8.Strength (IntKind.wrap .i64 ((IntKind.wrap .i64 (k0 + 1)) + 1)) x8.Steps x8.Zone x8.View))<|P1 h9<|P1 (int_lt_of_at h9 hx10)<|P1 (lt_of_at hx10)<|P2 (setCells (List.map gi_Kind (List.set (List.set (List.set l2 (Int.toNat i1) (Gi_Kind.mk r2 x4.Strength x4.Moves x4.Steps x4.Zone x4.View)) (Int.toNat i1) (Gi_Kind.mk x6.Name (IntKind.wrap .i64 (k0 + 1)) x6.Moves x6.Steps x6.Zone x6.View)) (Int.toNat i1) (Gi_Kind.mk x8.Name x8.Strength (IntKind.wrap .i64 ((IntKind.wrap .i64 (k0 + 1)) + 1)) x8.Steps x8.Zone x8.View))) (Int.toNat i1) 3 [I (IntKind.wrap .i64 ((IntKind.wrap .i64 ((IntKind.wrap .i64 (k0 + 1)) + 1)) + 1))] = List.map gi_Kind (List.set (List.set (List.set (List.set l2 (Int.toNat i1) (Gi_Kind.mk r2 x4.Strength x4.Moves x4.Steps x4.Zone x4.View)) (Int.toNat i1) (Gi_Kind.mk x6.Name (IntKind.wrap .i64 (k0 + 1)) x6.Moves x6.Steps x6.Zone x6.View)) (Int.toNat i1) (Gi_Kind.mk x8.Name x8.Strength (IntKind.wrap .i64 ((IntKind.wrap .i64 (k0 + 1)) + 1)) x8.Steps x8.Zone x8.View)) (Int.toNat i1) (Gi_Kind.mk x10.Name x10.Strength x10.Moves (IntKind.wrap .i64 ((IntKind.wrap .i64 ((IntKind.wrap .i64 (k0 + 1)) + 1)) + 1)) x10.Zone x10.View))) (setCells_map hx10 rfl)<|P1 (setLen (List.set (List.set (List.set l2 (Int.toNat i1) (Gi_Kind.mk r2 x4.Strength x4.Moves x4.Steps x4.Zone x4.View)) (Int.toNat i1) (Gi_Kind.mk x6.Name (IntKind.wrap .i64 (k0 + 1)) x6.Moves x6.Steps x6.Zone x6.View)) (Int.toNat i1) (Gi_Kind.mk x8.Name x8.Strength (IntKind.wrap .i64 ((IntKind.wrap .i64 (k0 + 1)) + 1)) x8.Steps x8.Zone x8.View)) (Int.toNat i1) (Gi_Kind.mk x10.Name x10.Strength x10.Moves (IntKind.wrap .i64 ((IntKind.wrap .i64 ((IntKind.wrap .i64 (k0 + 1)) + 1)) + 1)) x10.Zone x10.View))<|P2 (¬ (3 : Int) = 0) (by decide)<|P1 h11<|P1 (int_lt_of_at h11 hx12)<|P1 (lt_of_at hx12)<|P2 (setCells (List.map gi_Kind (List.set (List.set (List.set (List.set l2 (Int.toNat i1) (Gi_Kind.mk r2 x4.Strength x4.Moves x4.Steps x4.Zone x4.View)) (Int.toNat i1) (Gi_Kind.mk x6.Name (IntKind.wrap .i64 (k0 + 1)) x6.Moves x6.Steps x6.Zone x6.View)) (Int.toNat i1) (Gi_Kind.mk x8.Name x8.Strength (IntKind.wrap .i64 ((IntKind.wrap .i64 (k0 + 1)) + 1)) x8.Steps x8.Zone x8.View)) (Int.toNat i1) (Gi_Kind.mk x10.Name x10.Strength x10.Moves (IntKind.wrap .i64 ((IntKind.wrap .i64 ((IntKind.wrap .i64 (k0 + 1)) + 1)) + 1)) x10.Zone x10.View))) (Int.toNat i1) 4 [.bool (((Int.tmod (IntKind.wrap .i64 ((IntKind.wrap .i64 ((IntKind.wrap .i64 ((IntKind.wrap .i64 (k0 + 1)) + 1)) + 1)) + 1)) 3) : Int) == 0)] = List.map gi_Kind (List.set (List.set (List.set (List.set (List.set l2 (Int.toNat i1) (Gi_Kind.mk r2 x4.Strength x4.Moves x4.Steps x4.Zone x4.View)) (Int.toNat i1) (Gi_Kind.mk x6.Name (IntKind.wrap .i64 (k0 + 1)) x6.Moves x6.Steps x6.Zone x6.View)) (Int.toNat i1) (Gi_Kind.mk x8.Name x8.Strength (IntKind.wrap .i64 ((IntKind.wrap .i64 (k0 + 1)) + 1)) x8.Steps x8.Zone x8.View)) (Int.toNat i1) (Gi_Kind.mk x10.Name x10.Strength x10.Moves (IntKind.wrap .i64 ((IntKind.wrap .i64 ((IntKind.wrap .i64 (k0 + 1)) + 1)) + 1)) x10.Zone x10.View)) (Int.toNat i1) (Gi_Kind.mk x12.Name x12.Strength x12.Moves x12.Steps (((Int.tmod (IntKind.wrap .i64 ((IntKind.wrap .i64 ((IntKind.wrap .i64 ((IntKind.wrap .i64 (k0 + 1)) + 1)) + 1)) + 1)) 3) : Int) == 0) x12.View))) (setCells_map hx12 rfl)<|P1 (setLen (List.set (List.set (List.set (List.set l2 (Int.toNat i1) (Gi_Kind.mk r2 x4.Strength x4.Moves x4.Steps x4.Zone x4.View)) (Int.toNat i1) (Gi_Kind.mk x6.Name (IntKind.wrap .i64 (k0 + 1)) x6.Moves x6.Steps x6.Zone x6.View)) (Int.toNat i1) (Gi_Kind.mk x8.Name x8.Strength (IntKind.wrap .i64 ((IntKind.wrap .i64 (k0 + 1)) + 1)) x8.Steps x8.Zone x8.View)) (Int.toNat i1) (Gi_Kind.mk x10.Name x10.Strength x10.Moves (IntKind.wrap .i64 ((IntKind.wrap .i64 ((IntKind.wrap .i64 (k0 + 1)) + 1)) + 1)) x10.Zone x10.View)) (Int.toNat i1) (Gi_Kind.mk x12.Name x12.Strength x12.Moves x12.Steps (((Int.tmod (IntKind.wrap .i64 ((IntKind.wrap .i64 ((IntKind.wrap .i64 ((IntKind.wrap .i64 (k0 + 1)) + 1)) + 1)) + 1)) 3) : Int) == 0) x12.View))<|P1 h13<|P1 (int_lt_of_at h13 hx14)<|P1 (lt_of_at hx14)<|P2 (setCells (List.map gi_Kind (List.set (List.set (List.set (List.set (List.set l2 (Int.toNat i1) (Gi_Kind.mk r2 x4.Strength x4.Moves x4.Steps x4.Zone x4.View)) (Int.toNat i1) (Gi_Kind.mk x6.Name (IntKind.wrap .i64 (k0 + 1)) x6.Moves x6.Steps x6.Zone x6.View)) (Int.toNat i1) (Gi_Kind.mk x8.Name x8.Strength (IntKind.wrap .i64 ((IntKind.wrap .i64 (k0 + 1)) + 1)) x8.Steps x8.Zone x8.View)) (Int.toNat i1) (Gi_Kind.mk x10.Name x10.Strength x10.Moves (IntKind.wrap .i64 ((IntKind.wrap .i64 ((IntKind.wrap .i64 (k0 + 1)) + 1)) + 1)) x10.Zone x10.View)) (Int.toNat i1) (Gi_Kind.mk x12.Name x12.Strength x12.Moves x12.Steps (((Int.tmod (IntKind.wrap .i64 ((IntKind.wrap .i64 ((IntKind.wrap .i64 ((IntKind.wrap .i64 (k0 + 1)) + 1)) + 1)) + 1)) 3) : Int) == 0) x12.View))) (Int.toNat i1) 5 [I (IntKind.wrap .i64 ((IntKind.wrap .i64 ((IntKind.wrap .i64 ((IntKind.wrap .i64 ((IntKind.wrap .i64 (k0 + 1)) + 1)) + 1)) + 1)) + 1))] = List.map gi_Kind (List.set (List.set (List.set (List.set (List.set (List.set l2 (Int.toNat i1) (Gi_Kind.mk r2 x4.Strength x4.Moves x4.Steps x4.Zone x4.View)) (Int.toNat i1) (Gi_Kind.mk x6.Name (IntKind.wrap .i64 (k0 + 1)) x6.Moves x6.Steps x6.Zone x6.View)) (Int.toNat i1) (Gi_Kind.mk x8.Name x8.Strength (IntKind.wrap .i64 ((IntKind.wrap .i64 (k0 + 1)) + 1)) x8.Steps x8.Zone x8.View)) (Int.toNat i1) (Gi_Kind.mk x10.Name x10.Strength x10.Moves (IntKind.wrap .i64 ((IntKind.wrap .i64 ((IntKind.wrap .i64 (k0 + 1)) + 1)) + 1)) x10.Zone x10.View)) (Int.toNat i1) (Gi_Kind.mk x12.Name x12.Strength x12.Moves x12.Steps (((Int.tmod (IntKind.wrap .i64 ((IntKind.wrap .i64 ((IntKind.wrap .i64 ((IntKind.wrap .i64 (k0 + 1)) + 1)) + 1)) + 1)) 3) : Int) == 0) x12.View)) (Int.toNat i1) (Gi_Kind.mk x14.Name x14.Strength x14.Moves x14.Steps x14.Zone (IntKind.wrap .i64 ((IntKind.wrap .i64 ((IntKind.wrap .i64 ((IntKind.wrap .i64 ((IntKind.wrap .i64 (k0 + 1)) + 1)) + 1)) + 1)) + 1))))) (setCells_map hx14 rfl)<|P1 (setLen (List.set (List.set (List.set (List.set (List.set l2 (Int.toNat i1) (Gi_Kind.mk r2 x4.Strength x4.Moves x4.Steps x4.Zone x4.View)) (Int.toNat i1) (Gi_Kind.mk x6.Name (IntKind.wrap .i64 (k0 + 1)) x6.Moves x6.Steps x6.Zone x6.View)) (Int.toNat i1) (Gi_Kind.mk x8.Name x8.Strength (IntKind.wrap .i64 ((IntKind.wrap .i64 (k0 + 1)) + 1)) x8.Steps x8.Zone x8.View)) (Int.toNat i1) (Gi_Kind.mk x10.Name x10.Strength x10.Moves (IntKind.wrap .i64 ((IntKind.wrap .i64 ((IntKind.wrap .i64 (k0 + 1)) + 1)) + 1)) x10.Zone x10.View)) (Int.toNat i1) (Gi_Kind.mk x12.Name x12.Strength x12.Moves x12.Steps (((Int.tmod (IntKind.wrap .i64 ((IntKind.wrap .i64 ((IntKind.wrap .i64 ((IntKind.wrap .i64 (k0 + 1)) + 1)) + 1)) + 1)) 3) : Int) == 0) x12.View)) (Int.toNat i1) (Gi_Kind.mk x14.Name x14.Strength x14.Moves x14.Steps x14.Zone (IntKind.wrap .i64 ((IntKind.wrap .i64 ((IntKind.wrap .i64 ((IntKind.wrap .i64 ((IntKind.wrap .i64 (k0 + 1)) + 1)) + 1)) + 1)) + 1))))<|P0) hn)
  (fun h1 H =>
  eN H<|gE func134 [rg [hF 3], r0] (by kernel_rfl) (P2 ((decide (i1 < ((l2.length : Nat) : Int))) = false) (decide_eq_false h1)<|P0))
theorem ww_markKindS : ∀ s r, loop Bw_markKindS s = some r → Wc X 134 1 (Kw_markKindS s) (Zw_markKindS s) (Rw_markKindS r) (Nw_markKindS r) := Nx.all (nw_markKindS)
theorem cw_markKindS {a0 : (List Gi_Kind)} {a1 : Int} {r : Int × (List Gi_Kind)} (H : Dw_markKindS a0 a1 = some r) : Ct X.P X.gl 134 [.ref 0 6 none, I a1] [⟨false, false, 6, a0.length, List.map gi_Kind a0⟩] (Rw_markKindS r) (Nw_markKindS r) :=
  Ct.of func134 (c := bdy f134) (by kernel_rfl) (by kernel_rfl) <|
  gO [r0, r0, .canon [0] [0, 1, 5]] (by kernel_rfl) P0 (ww_markKindS _ _ H)
def Rw_markRules (r : Int × (List Gi_Terrain) × (List Gi_Kind)) : List D := [I r.1]
def Nw_markRules (r : Int × (List Gi_Terrain) × (List Gi_Kind)) : List Root := [⟨false, false, 5, r.2.1.length, List.map goi_Terrain r.2.1⟩, ⟨false, false, 6, r.2.2.length, List.map gi_Kind r.2.2⟩]
theorem cw_markRules {a0 : Gi_Rules} {a1 : Int} {r : Int × (List Gi_Terrain) × (List Gi_Kind)} (H : Dw_markRules a0 a1 = some r) : Ct X.P X.gl 93 [.agg [.ref 0 5 none, .ref 1 6 none, I a0.Stack, I a0.River, I a0.Road, I a0.Supply, I a0.Turns], I a1] [⟨false, false, 5, a0.Terrains.length, List.map goi_Terrain a0.Terrains⟩, ⟨false, false, 6, a0.Kinds.length, List.map gi_Kind a0.Kinds⟩] (Rw_markRules r) (Nw_markRules r) :=
  Ct.of func93 (c := bdy f93) (by kernel_rfl) (by kernel_rfl) <|
  eBind H fun r1 hr1 H =>
  eCk H fun h2 H =>
  eBind H fun r3 hr3 H =>
  eCk H fun h4 H =>
  eW Rw_markRules Nw_markRules H<|gE func93 [r0, rg [{ i := 3, call := some { cl := true, ins := [0], args := [.ref 0 5 none, I a1], res := Rw_markTerrainS r1, G' := Nw_markTerrainS r1 } }], rg [hC 3 true [1] (Rw_markKindS r3) (Nw_markKindS r3)], r0] (by kernel_rfl) (PN<|PI a1<|P1 h2<|P1 (cw_markTerrainS hr1)<|P1 h4<|P1 (cw_markKindS hr3)<|P0)
def Rw_markMap (r : Int × (List Int) × (List Int) × (List Int)) : List D := [I r.1]
def Nw_markMap (r : Int × (List Int) × (List Int) × (List Int)) : List Root := [⟨false, false, 1, r.2.1.length, List.map I r.2.1⟩, ⟨false, false, 1, r.2.2.1.length, List.map I r.2.2.1⟩, ⟨false, false, 1, r.2.2.2.length, List.map I r.2.2.2⟩]
theorem cw_markMap {a0 : Gi_Map} {a1 : Int} {r : Int × (List Int) × (List Int) × (List Int)} (H : Dw_markMap a0 a1 = some r) : Ct X.P X.gl 94 [.agg [I a0.Width, I a0.Height, .ref 0 1 none, .ref 1 1 none, .ref 2 1 none], I a1] [⟨false, false, 1, a0.Terrain.length, List.map I a0.Terrain⟩, ⟨false, false, 1, a0.Rivers.length, List.map I a0.Rivers⟩, ⟨false, false, 1, a0.Roads.length, List.map I a0.Roads⟩] (Rw_markMap r) (Nw_markMap r) :=
  Ct.of func94 (c := bdy f94) (by kernel_rfl) (by kernel_rfl) <|
  eBind H fun r1 hr1 H =>
  eCk H fun h2 H =>
  eBind H fun r3 hr3 H =>
  eCk H fun h4 H =>
  eBind H fun r5 hr5 H =>
  eCk H fun h6 H =>
  eW Rw_markMap Nw_markMap H<|gE func94 [r0, rg [hC 3 true [0] (Rw_markIntS r1) (Nw_markIntS r1)], rg [hC 3 true [1] (Rw_markIntS r3) (Nw_markIntS r3)], rg [hC 3 true [2] (Rw_markIntS r5) (Nw_markIntS r5)], r0] (by kernel_rfl) (P1 h2<|P1 (cw_markIntS hr1)<|P1 h4<|P1 (cw_markIntS hr3)<|P1 h6<|P1 (cw_markIntS hr5)<|P0)
def Rw_markBoard (r : Int × (List Gi_Terrain) × (List Gi_Kind) × (List Int) × (List Int) × (List Int)) : List D := [I r.1]
def Nw_markBoard (r : Int × (List Gi_Terrain) × (List Gi_Kind) × (List Int) × (List Int) × (List Int)) : List Root := [⟨false, false, 5, r.2.1.length, List.map goi_Terrain r.2.1⟩, ⟨false, false, 6, r.2.2.1.length, List.map gi_Kind r.2.2.1⟩, ⟨false, false, 1, r.2.2.2.1.length, List.map I r.2.2.2.1⟩, ⟨false, false, 1, r.2.2.2.2.1.length, List.map I r.2.2.2.2.1⟩, ⟨false, false, 1, r.2.2.2.2.2.length, List.map I r.2.2.2.2.2⟩]
theorem cw_markBoard {a0 : Gi_Board} {a1 : Int} {r : Int × (List Gi_Terrain) × (List Gi_Kind) × (List Int) × (List Int) × (List Int)} (H : Dw_markBoard a0 a1 = some r) : Ct X.P X.gl 48 [.agg [.ref 0 5 none, .ref 1 6 none, I a0.Rules.Stack, I a0.Rules.River, I a0.Rules.Road, I a0.Rules.Supply, I a0.Rules.Turns, I a0.Map.Width, I a0.Map.Height, .ref 2 1 none, .ref 3 1 none, .ref 4 1 none], I a1] [⟨false, false, 5, a0.Rules.Terrains.length, List.map goi_Terrain a0.Rules.Terrains⟩, ⟨false, false, 6, a0.Rules.Kinds.length, List.map gi_Kind a0.Rules.Kinds⟩, ⟨false, false, 1, a0.Map.Terrain.length, List.map I a0.Map.Terrain⟩, ⟨false, false, 1, a0.Map.Rivers.length, List.map I a0.Map.Rivers⟩, ⟨false, false, 1, a0.Map.Roads.length, List.map I a0.Map.Roads⟩] (Rw_markBoard r) (Nw_markBoard r) :=
  Ct.of func48 (c := bdy f48) (by kernel_rfl) (by kernel_rfl) <|
  eBind H fun r1 hr1 H =>
  eCk H fun h2 H =>
  eCk H fun h3 H =>
  eBind H fun r4 hr4 H =>
  eCk H fun h5 H =>
  eCk H fun h6 H =>
  eCk H fun h7 H =>
  eW Rw_markBoard Nw_markBoard H<|gE func48 [r0, rg [{ i := 3, call := some { cl := true, ins := [0, 1], args := [.agg [.ref 0 5 none, .ref 1 6 none, I a0.Rules.Stack, I a0.Rules.River, I a0.Rules.Road, I a0.Rules.Supply, I a0.Rules.Turns], I a1], res := Rw_markRules r1, G' := Nw_markRules r1 } }], rg [hC 3 true [2, 3, 4] (Rw_markMap r4) (Nw_markMap r4)], r0] (by kernel_rfl) (PN<|PN<|PI a0.Rules.Stack<|PI a0.Rules.River<|PI a0.Rules.Road<|PI a0.Rules.Supply<|PI a0.Rules.Turns<|PI a1<|P1 h2<|P1 h3<|P1 (cw_markRules hr1)<|P1 h5<|P1 h6<|P1 h7<|P1 (cw_markMap hr4)<|P0)
def Rw_markOddsS (r : Int × (List Gi_Odds)) : List D := [I r.1]
def Nw_markOddsS (r : Int × (List Gi_Odds)) : List Root := [⟨false, false, 2, r.2.length, List.map gi_Odds r.2⟩]
noncomputable def Kw_markOddsS : Sw_markOddsS → List Item
 | .h1 .. => nav 300 2 [] [.code (bdy f95)]
def Zw_markOddsS : Sw_markOddsS → St
 | .h1 k0 i1 l2 => ⟨sts 27 [(0, .ref 0 2 none), (1, I k0), (5, I i1)], [some ⟨false, false, 2, l2.length, List.map gi_Odds l2⟩]⟩
abbrev Qw_markOddsS := Nx X 95 1 Kw_markOddsS Zw_markOddsS Rw_markOddsS Nw_markOddsS
theorem nw_markOddsS : ∀ s o, Bw_markOddsS s = some o → Qw_markOddsS (Kw_markOddsS s) (Zw_markOddsS s) o
 | .h1 k0 i1 l2, o, H =>
  eIf H (fun h1 H =>
  eCk H fun h2 H =>
  eBind H fun x3 hx3 H =>
  eCk H fun h4 H =>
  eBind H fun x5 hx5 H =>
  eN H fun r hn => gO [rg [hT 3], rg [hA 5 ((List.set l2 (Int.toNat i1) (Gi_Odds.mk k0 x3.Den)).length) (List.map gi_Odds (List.set l2 (Int.toNat i1) (Gi_Odds.mk k0 x3.Den)))], r0, rg [hA 5 ((List.set (List.set l2 (Int.toNat i1) (Gi_Odds.mk k0 x3.Den)) (Int.toNat i1) (Gi_Odds.mk x5.Num (IntKind.wrap .i64 (k0 + 1)))).length) (List.map gi_Odds (List.set (List.set l2 (Int.toNat i1) (Gi_Odds.mk k0 x3.Den)) (Int.toNat i1) (Gi_Odds.mk x5.Num (IntKind.wrap .i64 (k0 + 1)))))], r0, r0, .canon [0] [0, 1, 5]] (by kernel_rfl) (P2 ((decide (i1 < ((l2.length : Nat) : Int))) = true) (decide_eq_true h1)<|P1 h2<|P1 (int_lt_of_at h2 hx3)<|P1 (lt_of_at hx3)<|P2 (setCells (List.map gi_Odds l2) (Int.toNat i1) 0 [I k0] = List.map gi_Odds (List.set l2 (Int.toNat i1) (Gi_Odds.mk k0 x3.Den))) (setCells_map hx3 rfl)<|P1 (setLen l2 (Int.toNat i1) (Gi_Odds.mk k0 x3.Den))<|P1 h4<|P1 (int_lt_of_at h4 hx5)<|P1 (lt_of_at hx5)<|P2 (setCells (List.map gi_Odds (List.set l2 (Int.toNat i1) (Gi_Odds.mk k0 x3.Den))) (Int.toNat i1) 1 [I (IntKind.wrap .i64 (k0 + 1))] = List.map gi_Odds (List.set (List.set l2 (Int.toNat i1) (Gi_Odds.mk k0 x3.Den)) (Int.toNat i1) (Gi_Odds.mk x5.Num (IntKind.wrap .i64 (k0 + 1))))) (setCells_map hx5 rfl)<|P1 (setLen (List.set l2 (Int.toNat i1) (Gi_Odds.mk k0 x3.Den)) (Int.toNat i1) (Gi_Odds.mk x5.Num (IntKind.wrap .i64 (k0 + 1))))<|P0) hn)
  (fun h1 H =>
  eN H<|gE func95 [rg [hF 3], r0] (by kernel_rfl) (P2 ((decide (i1 < ((l2.length : Nat) : Int))) = false) (decide_eq_false h1)<|P0))
theorem ww_markOddsS : ∀ s r, loop Bw_markOddsS s = some r → Wc X 95 1 (Kw_markOddsS s) (Zw_markOddsS s) (Rw_markOddsS r) (Nw_markOddsS r) := Nx.all (nw_markOddsS)
theorem cw_markOddsS {a0 : (List Gi_Odds)} {a1 : Int} {r : Int × (List Gi_Odds)} (H : Dw_markOddsS a0 a1 = some r) : Ct X.P X.gl 95 [.ref 0 2 none, I a1] [⟨false, false, 2, a0.length, List.map gi_Odds a0⟩] (Rw_markOddsS r) (Nw_markOddsS r) :=
  Ct.of func95 (c := bdy f95) (by kernel_rfl) (by kernel_rfl) <|
  gO [r0, r0, .canon [0] [0, 1, 5]] (by kernel_rfl) P0 (ww_markOddsS _ _ H)
def Rw_markIntSS (r : Int × (List (List Int))) : List D := [I r.1]
def Nw_markIntSS (r : Int × (List (List Int))) : List Root := [⟨false, false, 1, r.2.length, List.map (ow 1 I) r.2⟩]
noncomputable def Kw_markIntSS : Sw_markIntSS → List Item
 | .h1 .. => nav 300 2 [] [.code (bdy f53)]
def Zw_markIntSS : Sw_markIntSS → St
 | .h1 k0 i1 l2 => ⟨sts 19 [(0, .ref 0 1 none), (1, I k0), (5, I i1)], [some ⟨false, false, 1, l2.length, List.map (ow 1 I) l2⟩]⟩
abbrev Qw_markIntSS := Nx X 53 1 Kw_markIntSS Zw_markIntSS Rw_markIntSS Nw_markIntSS
theorem nw_markIntSS : ∀ s o, Bw_markIntSS s = some o → Qw_markIntSS (Kw_markIntSS s) (Zw_markIntSS s) o
 | .h1 k0 i1 l2, o, H =>
  eIf H (fun h1 H =>
  eCk H fun h2 H =>
  eBind H fun x3 hx3 H =>
  eBind H fun r4 hr4 H =>
  eCk H fun h5 H =>
  eN H fun r hn => gO [rg [hT 3], rg [{ i := 3, pre := [.take 0 (Int.toNat i1) 0 1 x3.length (List.map I x3) (List.set (List.map (ow 1 I) l2) (Int.toNat i1) (.ref 1 1 none))], el := some (.ref 1 1 none) }, { i := 5, call := some { cl := true, auto := true, ins := [1], res := (Rw_markIntS r4), G' := (Nw_markIntS r4) }, post := [.put 0 (Int.toNat i1) 0 1 (List.map (ow 1 I) (List.set l2 (Int.toNat i1) r4.2)), .own 0 (List.set l2 (Int.toNat i1) r4.2).length], xtra := [0] }], r0, .canon [0] [0, 1, 5]] (by kernel_rfl) (P2 ((decide (i1 < ((l2.length : Nat) : Int))) = true) (decide_eq_true h1)<|P1 h2<|P1 (int_lt_of_at h2 hx3)<|P2 (getCells (List.map (ow 1 I) l2) (Int.toNat i1) 0 1 = some [ow 1 I x3]) (getCells_at hx3 rfl)<|P2 (setCells (List.map (ow 1 I) l2) (Int.toNat i1) 0 [.ref 1 1 none] = List.set (List.map (ow 1 I) l2) (Int.toNat i1) (.ref 1 1 none)) (setCells_mapD hx3 rfl)<|P1 (at_set (f := (ow 1 I)) (.ref 1 1 none) hx3)<|P1 h5<|P1 (cw_markIntS hr4)<|P2 (getCells (List.set (List.map (ow 1 I) l2) (Int.toNat i1) (.ref 1 1 none)) (Int.toNat i1) 0 1 = some [.ref 1 1 none]) (getCells_set hx3 rfl)<|P2 (setCells (List.set (List.map (ow 1 I) l2) (Int.toNat i1) (.ref 1 1 none)) (Int.toNat i1) 0 [ow 1 I r4.2] = List.map (ow 1 I) (List.set l2 (Int.toNat i1) r4.2)) (setCells_set hx3 rfl)<|P1 (allOw_26 (List.set l2 (Int.toNat i1) r4.2))<|P1 (setLen l2 (Int.toNat i1) r4.2)<|P0) hn)
  (fun h1 H =>
  eN H<|gE func53 [rg [hF 3], r0] (by kernel_rfl) (P2 ((decide (i1 < ((l2.length : Nat) : Int))) = false) (decide_eq_false h1)<|P0))
theorem ww_markIntSS : ∀ s r, loop Bw_markIntSS s = some r → Wc X 53 1 (Kw_markIntSS s) (Zw_markIntSS s) (Rw_markIntSS r) (Nw_markIntSS r) := Nx.all (nw_markIntSS)
theorem cw_markIntSS {a0 : (List (List Int))} {a1 : Int} {r : Int × (List (List Int))} (H : Dw_markIntSS a0 a1 = some r) : Ct X.P X.gl 53 [.ref 0 1 none, I a1] [⟨false, false, 1, a0.length, List.map (ow 1 I) a0⟩] (Rw_markIntSS r) (Nw_markIntSS r) :=
  Ct.of func53 (c := bdy f53) (by kernel_rfl) (by kernel_rfl) <|
  gO [r0, r0, .canon [0] [0, 1, 5]] (by kernel_rfl) P0 (ww_markIntSS _ _ H)
def Rw_markCombatTable (r : Int × (List Gi_Odds) × (List (List Int))) : List D := [I r.1]
def Nw_markCombatTable (r : Int × (List Gi_Odds) × (List (List Int))) : List Root := [⟨false, false, 2, r.2.1.length, List.map gi_Odds r.2.1⟩, ⟨false, false, 1, r.2.2.length, List.map (ow 1 I) r.2.2⟩]
theorem cw_markCombatTable {a0 : Gi_CombatTable} {a1 : Int} {r : Int × (List Gi_Odds) × (List (List Int))} (H : Dw_markCombatTable a0 a1 = some r) : Ct X.P X.gl 49 [.agg [.ref 0 2 none, I a0.Dice, .ref 1 1 none], I a1] [⟨false, false, 2, a0.Columns.length, List.map gi_Odds a0.Columns⟩, ⟨false, false, 1, a0.Results.length, List.map (ow 1 I) a0.Results⟩] (Rw_markCombatTable r) (Nw_markCombatTable r) :=
  Ct.of func49 (c := bdy f49) (by kernel_rfl) (by kernel_rfl) <|
  eBind H fun r1 hr1 H =>
  eCk H fun h2 H =>
  eBind H fun r3 hr3 H =>
  eCk H fun h4 H =>
  eW Rw_markCombatTable Nw_markCombatTable H<|gE func49 [r0, rg [hC 3 true [0] (Rw_markOddsS r1) (Nw_markOddsS r1)], rg [{ i := 3, call := some { cl := true, ins := [1], args := [.ref 0 1 none, I r1.1], res := Rw_markIntSS r3, G' := Nw_markIntSS r3 } }], r0] (by kernel_rfl) (P1 h2<|P1 (cw_markOddsS hr1)<|PN<|PI r1.1<|P1 h4<|P1 (cw_markIntSS hr3)<|P0)
def Rw_markUnitS (r : Int × (List Gi_Unit)) : List D := [I r.1]
def Nw_markUnitS (r : Int × (List Gi_Unit)) : List Root := [⟨false, false, 4, r.2.length, List.map gi_Unit r.2⟩]
noncomputable def Kw_markUnitS : Sw_markUnitS → List Item
 | .h1 .. => nav 300 2 [] [.code (bdy f96)]
def Zw_markUnitS : Sw_markUnitS → St
 | .h1 k0 i1 l2 => ⟨sts 41 [(0, .ref 0 4 none), (1, I k0), (5, I i1)], [some ⟨false, false, 4, l2.length, List.map gi_Unit l2⟩]⟩
abbrev Qw_markUnitS := Nx X 96 1 Kw_markUnitS Zw_markUnitS Rw_markUnitS Nw_markUnitS
theorem nw_markUnitS : ∀ s o, Bw_markUnitS s = some o → Qw_markUnitS (Kw_markUnitS s) (Zw_markUnitS s) o
 | .h1 k0 i1 l2, o, H =>
  eIf H (fun h1 H =>
  eCk H fun h2 H =>
  eBind H fun x3 hx3 H =>
  eCk H fun h4 H =>
  eBind H fun x5 hx5 H =>
  eCk H fun h6 H =>
  eBind H fun x7 hx7 H =>
  eCk H fun h8 H =>
  eBind H fun x9 hx9 H =>
  eN H fun r hn => gO [rg [hT 3], rg [hA 5 ((List.set l2 (Int.toNat i1) (Gi_Unit.mk k0 x3.Kind x3.At x3.Steps)).length) (List.map gi_Unit (List.set l2 (Int.toNat i1) (Gi_Unit.mk k0 x3.Kind x3.At x3.Steps)))], r0, rg [hA 5 ((List.set (List.set l2 (Int.toNat i1) (Gi_Unit.mk k0 x3.Kind x3.At x3.Steps)) (Int.toNat i1) (Gi_Unit.mk x5.Side (IntKind.wrap .i64 (k0 + 1)) x5.At x5.Steps)).length) (List.map gi_Unit (List.set (List.set l2 (Int.toNat i1) (Gi_Unit.mk k0 x3.Kind x3.At x3.Steps)) (Int.toNat i1) (Gi_Unit.mk x5.Side (IntKind.wrap .i64 (k0 + 1)) x5.At x5.Steps)))], r0, rg [hA 5 ((List.set (List.set (List.set l2 (Int.toNat i1) (Gi_Unit.mk k0 x3.Kind x3.At x3.Steps)) (Int.toNat i1) (Gi_Unit.mk x5.Side (IntKind.wrap .i64 (k0 + 1)) x5.At x5.Steps)) (Int.toNat i1) (Gi_Unit.mk x7.Side x7.Kind (IntKind.wrap .i64 ((IntKind.wrap .i64 (k0 + 1)) + 1)) x7.Steps)).length) (List.map gi_Unit (List.set (List.set (List.set l2 (Int.toNat i1) (Gi_Unit.mk k0 x3.Kind x3.At x3.Steps)) (Int.toNat i1) (Gi_Unit.mk x5.Side (IntKind.wrap .i64 (k0 + 1)) x5.At x5.Steps)) (Int.toNat i1) (Gi_Unit.mk x7.Side x7.Kind (IntKind.wrap .i64 ((IntKind.wrap .i64 (k0 + 1)) + 1)) x7.Steps)))], r0, rg [hA 5 ((List.set (List.set (List.set (List.set l2 (Int.toNat i1) (Gi_Unit.mk k0 x3.Kind x3.At x3.Steps)) (Int.toNat i1) (Gi_Unit.mk x5.Side (IntKind.wrap .i64 (k0 + 1)) x5.At x5.Steps)) (Int.toNat i1) (Gi_Unit.mk x7.Side x7.Kind (IntKind.wrap .i64 ((IntKind.wrap .i64 (k0 + 1)) + 1)) x7.Steps)) (Int.toNat i1) (Gi_Unit.mk x9.Side x9.Kind x9.At (IntKind.wrap .i64 ((IntKind.wrap .i64 ((IntKind.wrap .i64 (k0 + 1)) + 1)) + 1)))).length) (List.map gi_Unit (List.set (List.set (List.set (List.set l2 (Int.toNat i1) (Gi_Unit.mk k0 x3.Kind x3.At x3.Steps)) (Int.toNat i1) (Gi_Unit.mk x5.Side (IntKind.wrap .i64 (k0 + 1)) x5.At x5.Steps)) (Int.toNat i1) (Gi_Unit.mk x7.Side x7.Kind (IntKind.wrap .i64 ((IntKind.wrap .i64 (k0 + 1)) + 1)) x7.Steps)) (Int.toNat i1) (Gi_Unit.mk x9.Side x9.Kind x9.At (IntKind.wrap .i64 ((IntKind.wrap .i64 ((IntKind.wrap .i64 (k0 + 1)) + 1)) + 1)))))], r0, r0, .canon [0] [0, 1, 5]] (by kernel_rfl) (P2 ((decide (i1 < ((l2.length : Nat) : Int))) = true) (decide_eq_true h1)<|P1 h2<|P1 (int_lt_of_at h2 hx3)<|P1 (lt_of_at hx3)<|P2 (setCells (List.map gi_Unit l2) (Int.toNat i1) 0 [I k0] = List.map gi_Unit (List.set l2 (Int.toNat i1) (Gi_Unit.mk k0 x3.Kind x3.At x3.Steps))) (setCells_map hx3 rfl)<|P1 (setLen l2 (Int.toNat i1) (Gi_Unit.mk k0 x3.Kind x3.At x3.Steps))<|P1 h4<|P1 (int_lt_of_at h4 hx5)<|P1 (lt_of_at hx5)<|P2 (setCells (List.map gi_Unit (List.set l2 (Int.toNat i1) (Gi_Unit.mk k0 x3.Kind x3.At x3.Steps))) (Int.toNat i1) 1 [I (IntKind.wrap .i64 (k0 + 1))] = List.map gi_Unit (List.set (List.set l2 (Int.toNat i1) (Gi_Unit.mk k0 x3.Kind x3.At x3.Steps)) (Int.toNat i1) (Gi_Unit.mk x5.Side (IntKind.wrap .i64 (k0 + 1)) x5.At x5.Steps))) (setCells_map hx5 rfl)<|P1 (setLen (List.set l2 (Int.toNat i1) (Gi_Unit.mk k0 x3.Kind x3.At x3.Steps)) (Int.toNat i1) (Gi_Unit.mk x5.Side (IntKind.wrap .i64 (k0 + 1)) x5.At x5.Steps))<|P1 h6<|P1 (int_lt_of_at h6 hx7)<|P1 (lt_of_at hx7)<|P2 (setCells (List.map gi_Unit (List.set (List.set l2 (Int.toNat i1) (Gi_Unit.mk k0 x3.Kind x3.At x3.Steps)) (Int.toNat i1) (Gi_Unit.mk x5.Side (IntKind.wrap .i64 (k0 + 1)) x5.At x5.Steps))) (Int.toNat i1) 2 [I (IntKind.wrap .i64 ((IntKind.wrap .i64 (k0 + 1)) + 1))] = List.map gi_Unit (List.set (List.set (List.set l2 (Int.toNat i1) (Gi_Unit.mk k0 x3.Kind x3.At x3.Steps)) (Int.toNat i1) (Gi_Unit.mk x5.Side (IntKind.wrap .i64 (k0 + 1)) x5.At x5.Steps)) (Int.toNat i1) (Gi_Unit.mk x7.Side x7.Kind (IntKind.wrap .i64 ((IntKind.wrap .i64 (k0 + 1)) + 1)) x7.Steps))) (setCells_map hx7 rfl)<|P1 (setLen (List.set (List.set l2 (Int.toNat i1) (Gi_Unit.mk k0 x3.Kind x3.At x3.Steps)) (Int.toNat i1) (Gi_Unit.mk x5.Side (IntKind.wrap .i64 (k0 + 1)) x5.At x5.Steps)) (Int.toNat i1) (Gi_Unit.mk x7.Side x7.Kind (IntKind.wrap .i64 ((IntKind.wrap .i64 (k0 + 1)) + 1)) x7.Steps))<|P1 h8<|P1 (int_lt_of_at h8 hx9)<|P1 (lt_of_at hx9)<|P2 (setCells (List.map gi_Unit (List.set (List.set (List.set l2 (Int.toNat i1) (Gi_Unit.mk k0 x3.Kind x3.At x3.Steps)) (Int.toNat i1) (Gi_Unit.mk x5.Side (IntKind.wrap .i64 (k0 + 1)) x5.At x5.Steps)) (Int.toNat i1) (Gi_Unit.mk x7.Side x7.Kind (IntKind.wrap .i64 ((IntKind.wrap .i64 (k0 + 1)) + 1)) x7.Steps))) (Int.toNat i1) 3 [I (IntKind.wrap .i64 ((IntKind.wrap .i64 ((IntKind.wrap .i64 (k0 + 1)) + 1)) + 1))] = List.map gi_Unit (List.set (List.set (List.set (List.set l2 (Int.toNat i1) (Gi_Unit.mk k0 x3.Kind x3.At x3.Steps)) (Int.toNat i1) (Gi_Unit.mk x5.Side (IntKind.wrap .i64 (k0 + 1)) x5.At x5.Steps)) (Int.toNat i1) (Gi_Unit.mk x7.Side x7.Kind (IntKind.wrap .i64 ((IntKind.wrap .i64 (k0 + 1)) + 1)) x7.Steps)) (Int.toNat i1) (Gi_Unit.mk x9.Side x9.Kind x9.At (IntKind.wrap .i64 ((IntKind.wrap .i64 ((IntKind.wrap .i64 (k0 + 1)) + 1)) + 1))))) (setCells_map hx9 rfl)<|P1 (setLen (List.set (List.set (List.set l2 (Int.toNat i1) (Gi_Unit.mk k0 x3.Kind x3.At x3.Steps)) (Int.toNat i1) (Gi_Unit.mk x5.Side (IntKind.wrap .i64 (k0 + 1)) x5.At x5.Steps)) (Int.toNat i1) (Gi_Unit.mk x7.Side x7.Kind (IntKind.wrap .i64 ((IntKind.wrap .i64 (k0 + 1)) + 1)) x7.Steps)) (Int.toNat i1) (Gi_Unit.mk x9.Side x9.Kind x9.At (IntKind.wrap .i64 ((IntKind.wrap .i64 ((IntKind.wrap .i64 (k0 + 1)) + 1)) + 1))))<|P0) hn)
  (fun h1 H =>
  eN H<|gE func96 [rg [hF 3], r0] (by kernel_rfl) (P2 ((decide (i1 < ((l2.length : Nat) : Int))) = false) (decide_eq_false h1)<|P0))
theorem ww_markUnitS : ∀ s r, loop Bw_markUnitS s = some r → Wc X 96 1 (Kw_markUnitS s) (Zw_markUnitS s) (Rw_markUnitS r) (Nw_markUnitS r) := Nx.all (nw_markUnitS)
theorem cw_markUnitS {a0 : (List Gi_Unit)} {a1 : Int} {r : Int × (List Gi_Unit)} (H : Dw_markUnitS a0 a1 = some r) : Ct X.P X.gl 96 [.ref 0 4 none, I a1] [⟨false, false, 4, a0.length, List.map gi_Unit a0⟩] (Rw_markUnitS r) (Nw_markUnitS r) :=
  Ct.of func96 (c := bdy f96) (by kernel_rfl) (by kernel_rfl) <|
  gO [r0, r0, .canon [0] [0, 1, 5]] (by kernel_rfl) P0 (ww_markUnitS _ _ H)
def Rw_markState (r : Int × (List Gi_Unit)) : List D := [I r.1]
def Nw_markState (r : Int × (List Gi_Unit)) : List Root := [⟨false, false, 4, r.2.length, List.map gi_Unit r.2⟩]
theorem cw_markState {a0 : Gi_State} {a1 : Int} {r : Int × (List Gi_Unit)} (H : Dw_markState a0 a1 = some r) : Ct X.P X.gl 50 [.agg [I a0.Turn, I a0.Weather, .ref 0 4 none], I a1] [⟨false, false, 4, a0.Units.length, List.map gi_Unit a0.Units⟩] (Rw_markState r) (Nw_markState r) :=
  Ct.of func50 (c := bdy f50) (by kernel_rfl) (by kernel_rfl) <|
  eBind H fun r1 hr1 H =>
  eCk H fun h2 H =>
  eW Rw_markState Nw_markState H<|gE func50 [r0, rg [hC 3 true [0] (Rw_markUnitS r1) (Nw_markUnitS r1)], r0] (by kernel_rfl) (P1 h2<|P1 (cw_markUnitS hr1)<|P0)
def Rw_markGoalS (r : Int × (List Gi_Goal)) : List D := [I r.1]
def Nw_markGoalS (r : Int × (List Gi_Goal)) : List Root := [⟨false, false, 2, r.2.length, List.map gi_Goal r.2⟩]
noncomputable def Kw_markGoalS : Sw_markGoalS → List Item
 | .h1 .. => nav 300 2 [] [.code (bdy f97)]
def Zw_markGoalS : Sw_markGoalS → St
 | .h1 k0 i1 l2 => ⟨sts 27 [(0, .ref 0 2 none), (1, I k0), (5, I i1)], [some ⟨false, false, 2, l2.length, List.map gi_Goal l2⟩]⟩
abbrev Qw_markGoalS := Nx X 97 1 Kw_markGoalS Zw_markGoalS Rw_markGoalS Nw_markGoalS
theorem nw_markGoalS : ∀ s o, Bw_markGoalS s = some o → Qw_markGoalS (Kw_markGoalS s) (Zw_markGoalS s) o
 | .h1 k0 i1 l2, o, H =>
  eIf H (fun h1 H =>
  eCk H fun h2 H =>
  eBind H fun x3 hx3 H =>
  eCk H fun h4 H =>
  eBind H fun x5 hx5 H =>
  eN H fun r hn => gO [rg [hT 3], rg [hA 5 ((List.set l2 (Int.toNat i1) (Gi_Goal.mk k0 x3.Points)).length) (List.map gi_Goal (List.set l2 (Int.toNat i1) (Gi_Goal.mk k0 x3.Points)))], r0, rg [hA 5 ((List.set (List.set l2 (Int.toNat i1) (Gi_Goal.mk k0 x3.Points)) (Int.toNat i1) (Gi_Goal.mk x5.At (IntKind.wrap .i64 (k0 + 1)))).length) (List.map gi_Goal (List.set (List.set l2 (Int.toNat i1) (Gi_Goal.mk k0 x3.Points)) (Int.toNat i1) (Gi_Goal.mk x5.At (IntKind.wrap .i64 (k0 + 1)))))], r0, r0, .canon [0] [0, 1, 5]] (by kernel_rfl) (P2 ((decide (i1 < ((l2.length : Nat) : Int))) = true) (decide_eq_true h1)<|P1 h2<|P1 (int_lt_of_at h2 hx3)<|P1 (lt_of_at hx3)<|P2 (setCells (List.map gi_Goal l2) (Int.toNat i1) 0 [I k0] = List.map gi_Goal (List.set l2 (Int.toNat i1) (Gi_Goal.mk k0 x3.Points))) (setCells_map hx3 rfl)<|P1 (setLen l2 (Int.toNat i1) (Gi_Goal.mk k0 x3.Points))<|P1 h4<|P1 (int_lt_of_at h4 hx5)<|P1 (lt_of_at hx5)<|P2 (setCells (List.map gi_Goal (List.set l2 (Int.toNat i1) (Gi_Goal.mk k0 x3.Points))) (Int.toNat i1) 1 [I (IntKind.wrap .i64 (k0 + 1))] = List.map gi_Goal (List.set (List.set l2 (Int.toNat i1) (Gi_Goal.mk k0 x3.Points)) (Int.toNat i1) (Gi_Goal.mk x5.At (IntKind.wrap .i64 (k0 + 1))))) (setCells_map hx5 rfl)<|P1 (setLen (List.set l2 (Int.toNat i1) (Gi_Goal.mk k0 x3.Points)) (Int.toNat i1) (Gi_Goal.mk x5.At (IntKind.wrap .i64 (k0 + 1))))<|P0) hn)
  (fun h1 H =>
  eN H<|gE func97 [rg [hF 3], r0] (by kernel_rfl) (P2 ((decide (i1 < ((l2.length : Nat) : Int))) = false) (decide_eq_false h1)<|P0))
theorem ww_markGoalS : ∀ s r, loop Bw_markGoalS s = some r → Wc X 97 1 (Kw_markGoalS s) (Zw_markGoalS s) (Rw_markGoalS r) (Nw_markGoalS r) := Nx.all (nw_markGoalS)
theorem cw_markGoalS {a0 : (List Gi_Goal)} {a1 : Int} {r : Int × (List Gi_Goal)} (H : Dw_markGoalS a0 a1 = some r) : Ct X.P X.gl 97 [.ref 0 2 none, I a1] [⟨false, false, 2, a0.length, List.map gi_Goal a0⟩] (Rw_markGoalS r) (Nw_markGoalS r) :=
  Ct.of func97 (c := bdy f97) (by kernel_rfl) (by kernel_rfl) <|
  gO [r0, r0, .canon [0] [0, 1, 5]] (by kernel_rfl) P0 (ww_markGoalS _ _ H)
def Rw_markConditions (r : Int × (List Gi_Goal)) : List D := [I r.1]
def Nw_markConditions (r : Int × (List Gi_Goal)) : List Root := [⟨false, false, 2, r.2.length, List.map gi_Goal r.2⟩]
theorem cw_markConditions {a0 : Gi_Conditions} {a1 : Int} {r : Int × (List Gi_Goal)} (H : Dw_markConditions a0 a1 = some r) : Ct X.P X.gl 51 [.agg [.ref 0 2 none, I a0.Step, I a0.Margin], I a1] [⟨false, false, 2, a0.Goals.length, List.map gi_Goal a0.Goals⟩] (Rw_markConditions r) (Nw_markConditions r) :=
  Ct.of func51 (c := bdy f51) (by kernel_rfl) (by kernel_rfl) <|
  eBind H fun r1 hr1 H =>
  eCk H fun h2 H =>
  eW Rw_markConditions Nw_markConditions H<|gE func51 [r0, rg [hC 3 true [0] (Rw_markGoalS r1) (Nw_markGoalS r1)], r0] (by kernel_rfl) (P1 h2<|P1 (cw_markGoalS hr1)<|P0)
def Rw_markScenario (r : Int × (List Gi_Terrain) × (List Gi_Kind) × (List Int) × (List Int) × (List Int) × (List Gi_Odds) × (List (List Int)) × (List Gi_Unit) × (List Gi_Goal) × (List Int) × (List Int)) : List D := [I r.1]
def Nw_markScenario (r : Int × (List Gi_Terrain) × (List Gi_Kind) × (List Int) × (List Int) × (List Int) × (List Gi_Odds) × (List (List Int)) × (List Gi_Unit) × (List Gi_Goal) × (List Int) × (List Int)) : List Root := [⟨false, false, 5, r.2.1.length, List.map goi_Terrain r.2.1⟩, ⟨false, false, 6, r.2.2.1.length, List.map gi_Kind r.2.2.1⟩, ⟨false, false, 1, r.2.2.2.1.length, List.map I r.2.2.2.1⟩, ⟨false, false, 1, r.2.2.2.2.1.length, List.map I r.2.2.2.2.1⟩, ⟨false, false, 1, r.2.2.2.2.2.1.length, List.map I r.2.2.2.2.2.1⟩, ⟨false, false, 2, r.2.2.2.2.2.2.1.length, List.map gi_Odds r.2.2.2.2.2.2.1⟩, ⟨false, false, 1, r.2.2.2.2.2.2.2.1.length, List.map (ow 1 I) r.2.2.2.2.2.2.2.1⟩, ⟨false, false, 4, r.2.2.2.2.2.2.2.2.1.length, List.map gi_Unit r.2.2.2.2.2.2.2.2.1⟩, ⟨false, false, 2, r.2.2.2.2.2.2.2.2.2.1.length, List.map gi_Goal r.2.2.2.2.2.2.2.2.2.1⟩, ⟨false, false, 1, r.2.2.2.2.2.2.2.2.2.2.1.length, List.map I r.2.2.2.2.2.2.2.2.2.2.1⟩, ⟨false, false, 1, r.2.2.2.2.2.2.2.2.2.2.2.length, List.map I r.2.2.2.2.2.2.2.2.2.2.2⟩]
theorem cw_markScenario {a0 : Gi_Scenario} {a1 : Int} {r : Int × (List Gi_Terrain) × (List Gi_Kind) × (List Int) × (List Int) × (List Int) × (List Gi_Odds) × (List (List Int)) × (List Gi_Unit) × (List Gi_Goal) × (List Int) × (List Int)} (H : Dw_markScenario a0 a1 = some r) : Ct X.P X.gl 14 [.agg [.str a0.Name, .ref 0 5 none, .ref 1 6 none, I a0.Board.Rules.Stack, I a0.Board.Rules.River, I a0.Board.Rules.Road, I a0.Board.Rules.Supply, I a0.Board.Rules.Turns, I a0.Board.Map.Width, I a0.Board.Map.Height, .ref 2 1 none, .ref 3 1 none, .ref 4 1 none, .ref 5 2 none, I a0.Table.Dice, .ref 6 1 none, I a0.Start.Turn, I a0.Start.Weather, .ref 7 4 none, .ref 8 2 none, I a0.Conditions.Step, I a0.Conditions.Margin, .ref 9 1 none, .ref 10 1 none], I a1] [⟨false, false, 5, a0.Board.Rules.Terrains.length, List.map goi_Terrain a0.Board.Rules.Terrains⟩, ⟨false, false, 6, a0.Board.Rules.Kinds.length, List.map gi_Kind a0.Board.Rules.Kinds⟩, ⟨false, false, 1, a0.Board.Map.Terrain.length, List.map I a0.Board.Map.Terrain⟩, ⟨false, false, 1, a0.Board.Map.Rivers.length, List.map I a0.Board.Map.Rivers⟩, ⟨false, false, 1, a0.Board.Map.Roads.length, List.map I a0.Board.Map.Roads⟩, ⟨false, false, 2, a0.Table.Columns.length, List.map gi_Odds a0.Table.Columns⟩, ⟨false, false, 1, a0.Table.Results.length, List.map (ow 1 I) a0.Table.Results⟩, ⟨false, false, 4, a0.Start.Units.length, List.map gi_Unit a0.Start.Units⟩, ⟨false, false, 2, a0.Conditions.Goals.length, List.map gi_Goal a0.Conditions.Goals⟩, ⟨false, false, 1, a0.First.length, List.map I a0.First⟩, ⟨false, false, 1, a0.Other.length, List.map I a0.Other⟩] (Rw_markScenario r) (Nw_markScenario r) :=
  Ct.of func14 (c := bdy f14) (by kernel_rfl) (by kernel_rfl) <|
  eBind H fun r1 hr1 H =>
  eCk H fun h2 H =>
  eCk H fun h3 H =>
  eCk H fun h4 H =>
  eCk H fun h5 H =>
  eCk H fun h6 H =>
  eBind H fun r7 hr7 H =>
  eCk H fun h8 H =>
  eCk H fun h9 H =>
  eBind H fun r10 hr10 H =>
  eCk H fun h11 H =>
  eBind H fun r12 hr12 H =>
  eCk H fun h13 H =>
  eBind H fun r14 hr14 H =>
  eCk H fun h15 H =>
  eBind H fun r16 hr16 H =>
  eCk H fun h17 H =>
  eW Rw_markScenario Nw_markScenario H<|gE func14 [r0, rg [{ i := 3, call := some { cl := true, ins := [0, 1, 2, 3, 4], args := [.agg [.ref 0 5 none, .ref 1 6 none, I a0.Board.Rules.Stack, I a0.Board.Rules.River, I a0.Board.Rules.Road, I a0.Board.Rules.Supply, I a0.Board.Rules.Turns, I a0.Board.Map.Width, I a0.Board.Map.Height, .ref 2 1 none, .ref 3 1 none, .ref 4 1 none], I a1], res := Rw_markBoard r1, G' := Nw_markBoard r1 } }], rg [{ i := 3, call := some { cl := true, ins := [5, 6], args := [.agg [.ref 0 2 none, I a0.Table.Dice, .ref 1 1 none], I r1.1], res := Rw_markCombatTable r7, G' := Nw_markCombatTable r7 } }], rg [hC 3 true [7] (Rw_markState r10) (Nw_markState r10)], rg [hC 3 true [8] (Rw_markConditions r12) (Nw_markConditions r12)], rg [hC 3 true [9] (Rw_markIntS r14) (Nw_markIntS r14)], rg [hC 3 true [10] (Rw_markIntS r16) (Nw_markIntS r16)], r0] (by kernel_rfl) (PN<|PN<|PI a0.Board.Rules.Stack<|PI a0.Board.Rules.River<|PI a0.Board.Rules.Road<|PI a0.Board.Rules.Supply<|PI a0.Board.Rules.Turns<|PI a0.Board.Map.Width<|PI a0.Board.Map.Height<|PN<|PN<|PN<|PI a1<|P1 h2<|P1 h3<|P1 h4<|P1 h5<|P1 h6<|P1 (cw_markBoard hr1)<|PN<|PI a0.Table.Dice<|PN<|PI r1.1<|P1 h8<|P1 h9<|P1 (cw_markCombatTable hr7)<|P1 h11<|P1 (cw_markState hr10)<|P1 h13<|P1 (cw_markConditions hr12)<|P1 h15<|P1 (cw_markIntS hr14)<|P1 h17<|P1 (cw_markIntS hr16)<|P0)
def Rw_markClimate (r : Int × (List (List Int))) : List D := [I r.1]
def Nw_markClimate (r : Int × (List (List Int))) : List Root := [⟨false, false, 1, r.2.length, List.map (ow 1 I) r.2⟩]
theorem cw_markClimate {a0 : Gi_Climate} {a1 : Int} {r : Int × (List (List Int))} (H : Dw_markClimate a0 a1 = some r) : Ct X.P X.gl 15 [.agg [.ref 0 1 none], I a1] [⟨false, false, 1, a0.Weights.length, List.map (ow 1 I) a0.Weights⟩] (Rw_markClimate r) (Nw_markClimate r) :=
  Ct.of func15 (c := bdy f15) (by kernel_rfl) (by kernel_rfl) <|
  eBind H fun r1 hr1 H =>
  eCk H fun h2 H =>
  eW Rw_markClimate Nw_markClimate H<|gE func15 [r0, rg [{ i := 3, call := some { cl := true, ins := [0], args := [.ref 0 1 none, I a1], res := Rw_markIntSS r1, G' := Nw_markIntSS r1 } }], r0] (by kernel_rfl) (PN<|PI a1<|P1 h2<|P1 (cw_markIntSS hr1)<|P0)
def Rw_markOrderS (r : Int × (List Gi_Order)) : List D := [I r.1]
def Nw_markOrderS (r : Int × (List Gi_Order)) : List Root := [⟨false, false, 3, r.2.length, List.map goi_Order r.2⟩]
noncomputable def Kw_markOrderS : Sw_markOrderS → List Item
 | .h1 .. => nav 300 2 [] [.code (bdy f106)]
def Zw_markOrderS : Sw_markOrderS → St
 | .h1 k0 i1 l2 => ⟨sts 34 [(0, .ref 0 3 none), (1, I k0), (5, I i1)], [some ⟨false, false, 3, l2.length, List.map goi_Order l2⟩]⟩
abbrev Qw_markOrderS := Nx X 106 1 Kw_markOrderS Zw_markOrderS Rw_markOrderS Nw_markOrderS
theorem nw_markOrderS : ∀ s o, Bw_markOrderS s = some o → Qw_markOrderS (Kw_markOrderS s) (Zw_markOrderS s) o
 | .h1 k0 i1 l2, o, H =>
  eIf H (fun h1 H =>
  eCk H fun h2 H =>
  eBind H fun x3 hx3 H =>
  eCk H fun h4 H =>
  eBind H fun x5 hx5 H =>
  eBind H fun r6 hr6 H =>
  eCk H fun h7 H =>
  eCk H fun h8 H =>
  eBind H fun x9 hx9 H =>
  eN H fun r hn => gO [rg [hT 3], rg [hA 5 ((List.set l2 (Int.toNat i1) (Gi_Order.mk k0 x3.Path x3.Attack)).length) (List.map goi_Order (List.set l2 (Int.toNat i1) (Gi_Order.mk k0 x3.Path x3.Attack)))], r0, rg [{ i := 4, pre := [.take 0 (Int.toNat i1) 1 1 x5.Path.length (List.map I x5.Path) (List.set (List.map goi_Order (List.set l2 (Int.toNat i1) (Gi_Order.mk k0 x3.Path x3.Attack))) (Int.toNat i1) (.agg [I x5.Unit, .ref 1 1 none, I x5.Attack]))], el := some (.agg [I x5.Unit, .ref 1 1 none, I x5.Attack]) }, { i := 6, call := some { cl := true, auto := true, ins := [1], res := (Rw_markIntS r6), G' := (Nw_markIntS r6) }, post := [.put 0 (Int.toNat i1) 1 1 (List.map goi_Order (List.set (List.set l2 (Int.toNat i1) (Gi_Order.mk k0 x3.Path x3.Attack)) (Int.toNat i1) (Gi_Order.mk x5.Unit r6.2 x5.Attack))), .own 0 (List.set (List.set l2 (Int.toNat i1) (Gi_Order.mk k0 x3.Path x3.Attack)) (Int.toNat i1) (Gi_Order.mk x5.Unit r6.2 x5.Attack)).length], xtra := [0] }], rg [hA 5 ((List.set (List.set (List.set l2 (Int.toNat i1) (Gi_Order.mk k0 x3.Path x3.Attack)) (Int.toNat i1) (Gi_Order.mk x5.Unit r6.2 x5.Attack)) (Int.toNat i1) (Gi_Order.mk x9.Unit x9.Path r6.1)).length) (List.map goi_Order (List.set (List.set (List.set l2 (Int.toNat i1) (Gi_Order.mk k0 x3.Path x3.Attack)) (Int.toNat i1) (Gi_Order.mk x5.Unit r6.2 x5.Attack)) (Int.toNat i1) (Gi_Order.mk x9.Unit x9.Path r6.1)))], r0, r0, .canon [0] [0, 1, 5]] (by kernel_rfl) (P2 ((decide (i1 < ((l2.length : Nat) : Int))) = true) (decide_eq_true h1)<|P1 h2<|P1 (int_lt_of_at h2 hx3)<|P1 (lt_of_at hx3)<|P2 (setCells (List.map goi_Order l2) (Int.toNat i1) 0 [I k0] = List.map goi_Order (List.set l2 (Int.toNat i1) (Gi_Order.mk k0 x3.Path x3.Attack))) (setCells_map hx3 rfl)<|P1 (setLen l2 (Int.toNat i1) (Gi_Order.mk k0 x3.Path x3.Attack))<|P1 h4<|P1 (int_lt_of_at h4 hx5)<|P2 (getCells (List.map goi_Order (List.set l2 (Int.toNat i1) (Gi_Order.mk k0 x3.Path x3.Attack))) (Int.toNat i1) 1 1 = some [ow 1 I x5.Path]) (getCells_at hx5 rfl)<|P2 (setCells (List.map goi_Order (List.set l2 (Int.toNat i1) (Gi_Order.mk k0 x3.Path x3.Attack))) (Int.toNat i1) 1 [.ref 1 1 none] = List.set (List.map goi_Order (List.set l2 (Int.toNat i1) (Gi_Order.mk k0 x3.Path x3.Attack))) (Int.toNat i1) (.agg [I x5.Unit, .ref 1 1 none, I x5.Attack])) (setCells_mapD hx5 rfl)<|P1 (at_set (f := goi_Order) (.agg [I x5.Unit, .ref 1 1 none, I x5.Attack]) hx5)<|P1 h7<|P1 (cw_markIntS hr6)<|P2 (getCells (List.set (List.map goi_Order (List.set l2 (Int.toNat i1) (Gi_Order.mk k0 x3.Path x3.Attack))) (Int.toNat i1) (.agg [I x5.Unit, .ref 1 1 none, I x5.Attack])) (Int.toNat i1) 1 1 = some [.ref 1 1 none]) (getCells_set hx5 rfl)<|P2 (setCells (List.set (List.map goi_Order (List.set l2 (Int.toNat i1) (Gi_Order.mk k0 x3.Path x3.Attack))) (Int.toNat i1) (.agg [I x5.Unit, .ref 1 1 none, I x5.Attack])) (Int.toNat i1) 1 [ow 1 I r6.2] = List.map goi_Order (List.set (List.set l2 (Int.toNat i1) (Gi_Order.mk k0 x3.Path x3.Attack)) (Int.toNat i1) (Gi_Order.mk x5.Unit r6.2 x5.Attack))) (setCells_set hx5 rfl)<|P1 (allOw_189 (List.set (List.set l2 (Int.toNat i1) (Gi_Order.mk k0 x3.Path x3.Attack)) (Int.toNat i1) (Gi_Order.mk x5.Unit r6.2 x5.Attack)))<|P1 (setLen (List.set l2 (Int.toNat i1) (Gi_Order.mk k0 x3.Path x3.Attack)) (Int.toNat i1) (Gi_Order.mk x5.Unit r6.2 x5.Attack))<|P1 h8<|P1 (int_lt_of_at h8 hx9)<|P1 (lt_of_at hx9)<|P2 (setCells (List.map goi_Order (List.set (List.set l2 (Int.toNat i1) (Gi_Order.mk k0 x3.Path x3.Attack)) (Int.toNat i1) (Gi_Order.mk x5.Unit r6.2 x5.Attack))) (Int.toNat i1) 2 [I r6.1] = List.map goi_Order (List.set (List.set (List.set l2 (Int.toNat i1) (Gi_Order.mk k0 x3.Path x3.Attack)) (Int.toNat i1) (Gi_Order.mk x5.Unit r6.2 x5.Attack)) (Int.toNat i1) (Gi_Order.mk x9.Unit x9.Path r6.1))) (setCells_map hx9 rfl)<|P1 (setLen (List.set (List.set l2 (Int.toNat i1) (Gi_Order.mk k0 x3.Path x3.Attack)) (Int.toNat i1) (Gi_Order.mk x5.Unit r6.2 x5.Attack)) (Int.toNat i1) (Gi_Order.mk x9.Unit x9.Path r6.1))<|P0) hn)
  (fun h1 H =>
  eN H<|gE func106 [rg [hF 3], r0] (by kernel_rfl) (P2 ((decide (i1 < ((l2.length : Nat) : Int))) = false) (decide_eq_false h1)<|P0))
theorem ww_markOrderS : ∀ s r, loop Bw_markOrderS s = some r → Wc X 106 1 (Kw_markOrderS s) (Zw_markOrderS s) (Rw_markOrderS r) (Nw_markOrderS r) := Nx.all (nw_markOrderS)
theorem cw_markOrderS {a0 : (List Gi_Order)} {a1 : Int} {r : Int × (List Gi_Order)} (H : Dw_markOrderS a0 a1 = some r) : Ct X.P X.gl 106 [.ref 0 3 none, I a1] [⟨false, false, 3, a0.length, List.map goi_Order a0⟩] (Rw_markOrderS r) (Nw_markOrderS r) :=
  Ct.of func106 (c := bdy f106) (by kernel_rfl) (by kernel_rfl) <|
  gO [r0, r0, .canon [0] [0, 1, 5]] (by kernel_rfl) P0 (ww_markOrderS _ _ H)
end Go.Proofs.YtcblbhjbocipbaaGreatDoor.Ab
