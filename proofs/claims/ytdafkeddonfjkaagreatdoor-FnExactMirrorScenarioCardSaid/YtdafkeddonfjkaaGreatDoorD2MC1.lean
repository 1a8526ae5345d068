/- Part of the proof of FnExactMirrorScenarioCard: no condition of its own. -/
import Derived.Test.YtdafkeddonfjkaaGreatDoorD2MC
set_option linter.unusedVariables false
set_option linter.unusedSimpArgs false
open Go Go.Proofs Go.Proofs.Tryz
namespace Go.Proofs.YtdafkeddonfjkaaGreatDoor.Ab
noncomputable def Ki_IsMap : Si_IsMap → List Item
 | .h1 .. => nav 300 3 [false] [.code (bdy f166)]
 | .h2 .. => nav 300 5 [false, false] [.code (bdy f166)]
 | .h3 .. => nav 300 9 [false, false, true, false] [.code (bdy f166)]
def Zi_IsMap : Si_IsMap → St
 | .h1 t0 t1 t2 b3 => ⟨sts 66 [(1, .ptr 0 5 0 0), (31, sl 1 I t0), (32, I t1), (33, I t2)], [some ⟨false, true, 5, 1, [gi_Map b3]⟩]⟩
 | .h2 t0 t1 b2 l3 => ⟨sts 66 [(1, .ptr 0 5 0 0), (45, .ref 1 1 none), (46, I t0), (47, I t1)], [some ⟨false, true, 5, 1, [gi_Map b2]⟩, some ⟨false, false, 1, l3.length, List.map (sl 1 I) l3⟩]⟩
 | .h3 t0 t1 t2 t3 t4 b5 l6 => ⟨sts 66 [(1, .ptr 0 5 0 0), (45, .ref 1 1 none), (46, I t0), (47, I t1), (54, sl 1 I t2), (55, I t3), (56, I t4)], [some ⟨false, true, 5, 1, [gi_Map b5]⟩, some ⟨false, false, 1, l6.length, List.map (sl 1 I) l6⟩]⟩
abbrev Qi_IsMap := Nx X 166 0 Ki_IsMap Zi_IsMap RB (fun _ => [])
theorem ni_IsMap : ∀ s o, Bi_IsMap s = some o → Qi_IsMap (Ki_IsMap s) (Zi_IsMap s) o
 | .h1 t0 t1 t2 b3, o, H =>
  eIf H (fun h1 H =>
  eCk H fun h2 H =>
  eBind H fun x3 hx3 H =>
  eBind H fun r4 hr4 H =>
  gN [rg [hT 0], rg [hE 1 (I x3)]] (by kernel_rfl) (P2 ((decide (t2 < t1)) = true) (decide_eq_true h1)<|P1 h2<|P1 (int_lt_of_at h2 hx3)<|P1 (at_map I hx3)<|P0) <|
  eIf H (fun h5 H =>
  eN H fun r hn => gO [rg [{ i := 1, call := some { cl := true, auto := true, ins := [], res := (RB r4), G' := [] }, dec := some true }], r0, .canon [0] [1, 31, 32, 33]] (by kernel_rfl) (P1 (ci_isIndex hr4)<|P2 (r4 = true) (h5)<|P0) hn)
  (fun h5 H =>
  eN H<|gE func166 [rg [{ i := 1, call := some { cl := true, auto := true, ins := [], res := (RB r4), G' := [] }, dec := some false }], r0] (by kernel_rfl) (P1 (ci_isIndex hr4)<|P2 (r4 = false) (eqF h5)<|P0)))
  (fun h1 H =>
  eN H fun r hn => gO [rg [hF 0], r0, .canon [0, 1] [1, 45, 46, 47]] (by kernel_rfl) (P2 ((decide (t2 < t1)) = false) (decide_eq_false h1)<|P0) hn)
 | .h2 t0 t1 b2 l3, o, H =>
  eIf H (fun h1 H =>
  eCk H fun h2 H =>
  eBind H fun x3 hx3 H =>
  eBind H fun r4 hr4 H =>
  gN [rg [hT 0], rg [hE 1 ((sl 1 I) x3)]] (by kernel_rfl) (P2 ((decide (t1 < t0)) = true) (decide_eq_true h1)<|P1 h2<|P1 (int_lt_of_at h2 hx3)<|P1 (at_map (sl 1 I) hx3)<|P0) <|
  eIf H (fun h5 H =>
  eN H fun r hn => gO [rg [{ i := 1, call := some { cl := true, auto := true, ins := [], res := (RB r4), G' := [] }, dec := some true }], r0, .canon [0, 1] [1, 45, 46, 47, 54, 55, 56]] (by kernel_rfl) (P1 (ci_increasing hr4)<|P2 (r4 = true) (h5)<|P0) hn)
  (fun h5 H =>
  eN H<|gE func166 [rg [{ i := 1, call := some { cl := true, auto := true, ins := [], res := (RB r4), G' := [] }, dec := some false }], r0] (by kernel_rfl) (P1 (ci_increasing hr4)<|P2 (r4 = false) (eqF h5)<|P0)))
  (fun h1 H =>
  eN H<|gE func166 [rg [hF 0], r0] (by kernel_rfl) (P2 ((decide (t1 < t0)) = false) (decide_eq_false h1)<|P0))
 | .h3 t0 t1 t2 t3 t4 b5 l6, o, H =>
  eIf H (fun h1 H =>
  eCk H fun h2 H =>
  eBind H fun x3 hx3 H =>
  eBind H fun r4 hr4 H =>
  gN [rg [hT 0], rg [hE 1 (I x3)]] (by kernel_rfl) (P2 ((decide (t4 < t3)) = true) (decide_eq_true h1)<|P1 h2<|P1 (int_lt_of_at h2 hx3)<|P1 (at_map I hx3)<|P0) <|
  eIf H (fun h5 H =>
  eN H fun r hn => gO [rg [{ i := 2, call := some { cl := true, auto := true, ins := [], res := (RB r4), G' := [] }, dec := some true }], r0, .canon [0, 1] [1, 45, 46, 47, 54, 55, 56]] (by kernel_rfl) (P1 (ci_isEdge hr4)<|P2 (r4 = true) (h5)<|P0) hn)
  (fun h5 H =>
  eN H<|gE func166 [rg [{ i := 2, call := some { cl := true, auto := true, ins := [], res := (RB r4), G' := [] }, dec := some false }], r0] (by kernel_rfl) (P1 (ci_isEdge hr4)<|P2 (r4 = false) (eqF h5)<|P0)))
  (fun h1 H =>
  eN H fun r hn => gO [rg [hF 0], r0, .canon [0, 1] [1, 45, 46, 47]] (by kernel_rfl) (P2 ((decide (t4 < t3)) = false) (decide_eq_false h1)<|P0) hn)
theorem wi_IsMap : ∀ s r, loop Bi_IsMap s = some r → Wc X 166 0 (Ki_IsMap s) (Zi_IsMap s) (RB r) ((fun _ => []) r) := Nx.all (ni_IsMap)
theorem ci_IsMap {a0 : Gi_Map} {r : Bool} (H : Di_IsMap a0 = some r) : Ct X.P X.gl 166 [gi_Map a0] [] (RB r) [] :=
 Ct.of func166 (c := bdy f166) (by kernel_rfl) (by kernel_rfl) <|
 eBind H fun r1 hr1 H =>
 gS [r0] (by kernel_rfl) P0 <|
 eIf H (fun h2 H =>
 eBind H fun r3 hr3 H =>
 eIf H (fun h4 H =>
 eIf H (fun h5 H =>
 gO [rg [{ i := 2, call := some { cl := true, auto := true, ins := [], res := (RB r1), G' := [] }, dec := some true }, { i := 7, call := some { cl := true, auto := true, ins := [], res := (RB r3), G' := [] }, dec := some true }, hF 19], r0, .canon [0] [1, 31, 32, 33]] (by kernel_rfl) (P1 (ci_inRange hr1)<|P2 (r1 = true) (h2)<|P1 (ci_inRange hr3)<|P2 (r3 = true) (h4)<|P2 (((((a0.Terrain.length : Nat) : Int) : Int) != (IntKind.wrap .i64 (a0.Width * a0.Height))) = false) (bneF h5)<|P0) (wi_IsMap _ _ H))
 (fun h5 H =>
 eW RB (fun _ => []) H<|gE func166 [rg [{ i := 2, call := some { cl := true, auto := true, ins := [], res := (RB r1), G' := [] }, dec := some true }, { i := 7, call := some { cl := true, auto := true, ins := [], res := (RB r3), G' := [] }, dec := some true }, hT 19], r0] (by kernel_rfl) (P1 (ci_inRange hr1)<|P2 (r1 = true) (h2)<|P1 (ci_inRange hr3)<|P2 (r3 = true) (h4)<|P2 (((((a0.Terrain.length : Nat) : Int) : Int) != (IntKind.wrap .i64 (a0.Width * a0.Height))) = true) (bneT h5)<|P0)))
 (fun h4 H =>
 eW RB (fun _ => []) H<|gE func166 [rg [{ i := 2, call := some { cl := true, auto := true, ins := [], res := (RB r1), G' := [] }, dec := some true }, { i := 7, call := some { cl := true, auto := true, ins := [], res := (RB r3), G' := [] }, dec := some false }], r0] (by kernel_rfl) (P1 (ci_inRange hr1)<|P2 (r1 = true) (h2)<|P1 (ci_inRange hr3)<|P2 (r3 = false) (eqF h4)<|P0)))
 (fun h2 H =>
 eW RB (fun _ => []) H<|gE func166 [rg [{ i := 2, call := some { cl := true, auto := true, ins := [], res := (RB r1), G' := [] }, dec := some false }], r0] (by kernel_rfl) (P1 (ci_inRange hr1)<|P2 (r1 = false) (eqF h2)<|P0))
theorem ci_IsBoard_1 {a0 : Int} {a1 : Gi_Board} {r : Bool} (H : Di_IsBoard_1 a0 a1 = some r) : Ct X.P X.gl 168 [I a0, .fptr 12 [.agg [sl 5 gi_Terrain a1.Rules.Terrains, sl 6 gi_Kind a1.Rules.Kinds, I a1.Rules.Stack, I a1.Rules.River, I a1.Rules.Road, I a1.Rules.Supply, I a1.Rules.Turns, I a1.Map.Width, I a1.Map.Height, sl 1 I a1.Map.Terrain, sl 1 I a1.Map.Rivers, sl 1 I a1.Map.Roads]] 0 0] [] (RB r) [] :=
 Ct.of func168 (c := bdy f168) (by kernel_rfl) (by kernel_rfl) <|
 eW RB (fun _ => []) H<|gE func168 [r0, r0] (by kernel_rfl) P0
noncomputable def Kslices_IndexFunc_int_i_IsBoard_1 : Sslices_IndexFunc_int_i_IsBoard_1 → List Item
 | .h1 .. => nav 300 2 [] [.code (bdy f203)]
def Zslices_IndexFunc_int_i_IsBoard_1 : Sslices_IndexFunc_int_i_IsBoard_1 → St
 | .h1 s0 f1 t2 t3 => ⟨sts 19 [(0, sl 1 I s0), (1, .fn 168 [.fptr 12 [.agg [sl 5 gi_Terrain f1.Rules.Terrains, sl 6 gi_Kind f1.Rules.Kinds, I f1.Rules.Stack, I f1.Rules.River, I f1.Rules.Road, I f1.Rules.Supply, I f1.Rules.Turns, I f1.Map.Width, I f1.Map.Height, sl 1 I f1.Map.Terrain, sl 1 I f1.Map.Rivers, sl 1 I f1.Map.Roads]] 0 0]), (7, I t2), (8, I t3)], []⟩
abbrev Qslices_IndexFunc_int_i_IsBoard_1 := Nx X 203 0 Kslices_IndexFunc_int_i_IsBoard_1 Zslices_IndexFunc_int_i_IsBoard_1 RI (fun _ => [])
theorem nslices_IndexFunc_int_i_IsBoard_1 : ∀ s o, Bslices_IndexFunc_int_i_IsBoard_1 s = some o → Qslices_IndexFunc_int_i_IsBoard_1 (Kslices_IndexFunc_int_i_IsBoard_1 s) (Zslices_IndexFunc_int_i_IsBoard_1 s) o
 | .h1 s0 f1 t2 t3, o, H =>
  eIf H (fun h1 H =>
  eCk H fun h2 H =>
  eBind H fun x3 hx3 H =>
  eBind H fun r4 hr4 H =>
  gN [rg [hT 0], r0] (by kernel_rfl) (P2 ((decide (t3 < t2)) = true) (decide_eq_true h1)<|P0) <|
  eIf H (fun h5 H =>
  eN H<|gE func203 [rg [hE 4 (I x3), { i := 5, call := some { cl := true, auto := true, ins := [], res := (RB r4), G' := [] }, dec := some true }], r0] (by kernel_rfl) (P1 h2<|P1 (int_lt_of_at h2 hx3)<|P1 (at_map I hx3)<|P1 (ci_IsBoard_1 hr4)<|P2 (r4 = true) (h5)<|P0))
  (fun h5 H =>
  eN H fun r hn => gO [rg [hE 4 (I x3), { i := 5, call := some { cl := true, auto := true, ins := [], res := (RB r4), G' := [] }, dec := some false }], r0, .canon [] [0, 1, 7, 8]] (by kernel_rfl) (P1 h2<|P1 (int_lt_of_at h2 hx3)<|P1 (at_map I hx3)<|P1 (ci_IsBoard_1 hr4)<|P2 (r4 = false) (eqF h5)<|P0) hn))
  (fun h1 H =>
  eN H<|gE func203 [rg [hF 0], r0] (by kernel_rfl) (P2 ((decide (t3 < t2)) = false) (decide_eq_false h1)<|P0))
theorem wslices_IndexFunc_int_i_IsBoard_1 : ∀ s r, loop Bslices_IndexFunc_int_i_IsBoard_1 s = some r → Wc X 203 0 (Kslices_IndexFunc_int_i_IsBoard_1 s) (Zslices_IndexFunc_int_i_IsBoard_1 s) (RI r) ((fun _ => []) r) := Nx.all (nslices_IndexFunc_int_i_IsBoard_1)
theorem cslices_IndexFunc_int_i_IsBoard_1 {a0 : (List Int)} {a100 : Gi_Board} {r : Int} (H : Dslices_IndexFunc_int_i_IsBoard_1 a0 a100 = some r) : Ct X.P X.gl 203 [sl 1 I a0, .fn 168 [.fptr 12 [.agg [sl 5 gi_Terrain a100.Rules.Terrains, sl 6 gi_Kind a100.Rules.Kinds, I a100.Rules.Stack, I a100.Rules.River, I a100.Rules.Road, I a100.Rules.Supply, I a100.Rules.Turns, I a100.Map.Width, I a100.Map.Height, sl 1 I a100.Map.Terrain, sl 1 I a100.Map.Rivers, sl 1 I a100.Map.Roads]] 0 0]] [] (RI r) [] :=
 Ct.of func203 (c := bdy f203) (by kernel_rfl) (by kernel_rfl) <|
 gO [r0, r0, .canon [] [0, 1, 7, 8]] (by kernel_rfl) P0 (wslices_IndexFunc_int_i_IsBoard_1 _ _ H)
theorem cslices_ContainsFunc_int_i_IsBoard_1 {a0 : (List Int)} {a100 : Gi_Board} {r : Bool} (H : Dslices_ContainsFunc_int_i_IsBoard_1 a0 a100 = some r) : Ct X.P X.gl 167 [sl 1 I a0, .fn 168 [.fptr 12 [.agg [sl 5 gi_Terrain a100.Rules.Terrains, sl 6 gi_Kind a100.Rules.Kinds, I a100.Rules.Stack, I a100.Rules.River, I a100.Rules.Road, I a100.Rules.Supply, I a100.Rules.Turns, I a100.Map.Width, I a100.Map.Height, sl 1 I a100.Map.Terrain, sl 1 I a100.Map.Rivers, sl 1 I a100.Map.Roads]] 0 0]] [] (RB r) [] :=
 Ct.of func167 (c := bdy f167) (by kernel_rfl) (by kernel_rfl) <|
 eBind H fun r1 hr1 H =>
 eW RB (fun _ => []) H<|gE func167 [r0, rg [hC 2 true [] (RI r1) []]] (by kernel_rfl) (P1 (cslices_IndexFunc_int_i_IsBoard_1 hr1)<|P0)
theorem ci_IsBoard {a0 : Gi_Board} {r : Bool} (H : Di_IsBoard a0 = some r) : Ct X.P X.gl 119 [gi_Board a0] [] (RB r) [] :=
 Ct.of func119 (c := bdy f119) (by kernel_rfl) (by kernel_rfl) <|
 eBind H fun r1 hr1 H =>
 gS [r0] (by kernel_rfl) P0 <|
 eIf H (fun h2 H =>
 eBind H fun r3 hr3 H =>
 eIf H (fun h4 H =>
 eBind H fun r5 hr5 H =>
 eW RB (fun _ => []) H<|gE func119 [rg [{ i := 2, call := some { cl := true, auto := true, ins := [], res := (RB r1), G' := [] }, dec := some true }, { i := 7, call := some { cl := true, auto := true, ins := [], res := (RB r3), G' := [] }, dec := some true }], rg [hC 4 false [] (RB r5) []]] (by kernel_rfl) (P1 (ci_IsRules hr1)<|P2 (r1 = true) (h2)<|P1 (ci_IsMap hr3)<|P2 (r3 = true) (h4)<|P1 (cslices_ContainsFunc_int_i_IsBoard_1 hr5)<|P0))
 (fun h4 H =>
 eW RB (fun _ => []) H<|gE func119 [rg [{ i := 2, call := some { cl := true, auto := true, ins := [], res := (RB r1), G' := [] }, dec := some true }, { i := 7, call := some { cl := true, auto := true, ins := [], res := (RB r3), G' := [] }, dec := some false }], r0] (by kernel_rfl) (P1 (ci_IsRules hr1)<|P2 (r1 = true) (h2)<|P1 (ci_IsMap hr3)<|P2 (r3 = false) (eqF h4)<|P0)))
 (fun h2 H =>
 eW RB (fun _ => []) H<|gE func119 [rg [{ i := 2, call := some { cl := true, auto := true, ins := [], res := (RB r1), G' := [] }, dec := some false }], r0] (by kernel_rfl) (P1 (ci_IsRules hr1)<|P2 (r1 = false) (eqF h2)<|P0))
theorem ci_isResult {a0 : Int} {r : Bool} (H : Di_isResult a0 = some r) : Ct X.P X.gl 170 [I a0] [] (RB r) [] :=
 Ct.of func170 (c := bdy f170) (by kernel_rfl) (by kernel_rfl) <|
 eBind H fun r1 hr1 H =>
 eW RB (fun _ => []) H<|gE func170 [r0, rg [hC 1 true [] (RB r1) []]] (by kernel_rfl) (P1 (ci_inRange hr1)<|P0)
theorem ci_IsCombatTable_1 {a0 : Int} {r : Bool} (H : Di_IsCombatTable_1 a0 = some r) : Ct X.P X.gl 169 [I a0] [] (RB r) [] :=
 Ct.of func169 (c := bdy f169) (by kernel_rfl) (by kernel_rfl) <|
 eBind H fun r1 hr1 H =>
 eW RB (fun _ => []) H<|gE func169 [r0, rg [hC 1 true [] (RB r1) []]] (by kernel_rfl) (P1 (ci_isResult hr1)<|P0)
noncomputable def Kslices_IndexFunc_int_i_IsCombatTable_1 : Sslices_IndexFunc_int_i_IsCombatTable_1 → List Item
 | .h1 .. => nav 300 2 [] [.code (bdy f203)]
def Zslices_IndexFunc_int_i_IsCombatTable_1 : Sslices_IndexFunc_int_i_IsCombatTable_1 → St
 | .h1 s0 t1 t2 => ⟨sts 19 [(0, sl 1 I s0), (1, .fn 169 []), (7, I t1), (8, I t2)], []⟩
abbrev Qslices_IndexFunc_int_i_IsCombatTable_1 := Nx X 203 0 Kslices_IndexFunc_int_i_IsCombatTable_1 Zslices_IndexFunc_int_i_IsCombatTable_1 RI (fun _ => [])
theorem nslices_IndexFunc_int_i_IsCombatTable_1 : ∀ s o, Bslices_IndexFunc_int_i_IsCombatTable_1 s = some o → Qslices_IndexFunc_int_i_IsCombatTable_1 (Kslices_IndexFunc_int_i_IsCombatTable_1 s) (Zslices_IndexFunc_int_i_IsCombatTable_1 s) o
 | .h1 s0 t1 t2, o, H =>
  eIf H (fun h1 H =>
  eCk H fun h2 H =>
  eBind H fun x3 hx3 H =>
  eBind H fun r4 hr4 H =>
  gN [rg [hT 0], r0] (by kernel_rfl) (P2 ((decide (t2 < t1)) = true) (decide_eq_true h1)<|P0) <|
  eIf H (fun h5 H =>
  eN H<|gE func203 [rg [hE 4 (I x3), { i := 5, call := some { cl := true, auto := true, ins := [], res := (RB r4), G' := [] }, dec := some true }], r0] (by kernel_rfl) (P1 h2<|P1 (int_lt_of_at h2 hx3)<|P1 (at_map I hx3)<|P1 (ci_IsCombatTable_1 hr4)<|P2 (r4 = true) (h5)<|P0))
  (fun h5 H =>
  eN H fun r hn => gO [rg [hE 4 (I x3), { i := 5, call := some { cl := true, auto := true, ins := [], res := (RB r4), G' := [] }, dec := some false }], r0, .canon [] [0, 1, 7, 8]] (by kernel_rfl) (P1 h2<|P1 (int_lt_of_at h2 hx3)<|P1 (at_map I hx3)<|P1 (ci_IsCombatTable_1 hr4)<|P2 (r4 = false) (eqF h5)<|P0) hn))
  (fun h1 H =>
  eN H<|gE func203 [rg [hF 0], r0] (by kernel_rfl) (P2 ((decide (t2 < t1)) = false) (decide_eq_false h1)<|P0))
theorem wslices_IndexFunc_int_i_IsCombatTable_1 : ∀ s r, loop Bslices_IndexFunc_int_i_IsCombatTable_1 s = some r → Wc X 203 0 (Kslices_IndexFunc_int_i_IsCombatTable_1 s) (Zslices_IndexFunc_int_i_IsCombatTable_1 s) (RI r) ((fun _ => []) r) := Nx.all (nslices_IndexFunc_int_i_IsCombatTable_1)
theorem cslices_IndexFunc_int_i_IsCombatTable_1 {a0 : (List Int)} {r : Int} (H : Dslices_IndexFunc_int_i_IsCombatTable_1 a0 = some r) : Ct X.P X.gl 203 [sl 1 I a0, .fn 169 []] [] (RI r) [] :=
 Ct.of func203 (c := bdy f203) (by kernel_rfl) (by kernel_rfl) <|
 gO [r0, r0, .canon [] [0, 1, 7, 8]] (by kernel_rfl) P0 (wslices_IndexFunc_int_i_IsCombatTable_1 _ _ H)
theorem cslices_ContainsFunc_int_i_IsCombatTable_1 {a0 : (List Int)} {r : Bool} (H : Dslices_ContainsFunc_int_i_IsCombatTable_1 a0 = some r) : Ct X.P X.gl 167 [sl 1 I a0, .fn 169 []] [] (RB r) [] :=
 Ct.of func167 (c := bdy f167) (by kernel_rfl) (by kernel_rfl) <|
 eBind H fun r1 hr1 H =>
 eW RB (fun _ => []) H<|gE func167 [r0, rg [hC 2 true [] (RI r1) []]] (by kernel_rfl) (P1 (cslices_IndexFunc_int_i_IsCombatTable_1 hr1)<|P0)
noncomputable def Ki_IsCombatTable : Si_IsCombatTable → List Item
 | .h1 .. => nav 300 3 [false] [.code (bdy f120)]
 | .h2 .. => nav 300 5 [false, false] [.code (bdy f120)]
def Zi_IsCombatTable : Si_IsCombatTable → St
 | .h1 t0 t1 t2 b3 => ⟨sts 90 [(1, .ptr 0 3 0 0), (29, sl 2 gi_Odds t0), (30, I t1), (31, I t2)], [some ⟨false, true, 3, 1, [gi_CombatTable b3]⟩]⟩
 | .h2 t0 t1 t2 b3 => ⟨sts 90 [(1, .ptr 0 3 0 0), (73, sl 1 (sl 1 I) t0), (74, I t1), (75, I t2)], [some ⟨false, true, 3, 1, [gi_CombatTable b3]⟩]⟩
abbrev Qi_IsCombatTable := Nx X 120 0 Ki_IsCombatTable Zi_IsCombatTable RB (fun _ => [])
theorem ni_IsCombatTable : ∀ s o, Bi_IsCombatTable s = some o → Qi_IsCombatTable (Ki_IsCombatTable s) (Zi_IsCombatTable s) o
 | .h1 t0 t1 t2 b3, o, H =>
  eIf H (fun h1 H =>
  eCk H fun h2 H =>
  eBind H fun x3 hx3 H =>
  eBind H fun r4 hr4 H =>
  gN [rg [hT 0], rg [hE 2 (gi_Odds x3)]] (by kernel_rfl) (P2 ((decide (t2 < t1)) = true) (decide_eq_true h1)<|P1 h2<|P1 (int_lt_of_at h2 hx3)<|P1 (at_map gi_Odds hx3)<|P0) <|
  eIf H (fun h5 H =>
  eBind H fun r6 hr6 H =>
  eIf H (fun h7 H =>
  gN [rg [{ i := 2, call := some { cl := true, auto := true, ins := [], res := (RB r4), G' := [] }, dec := some true }, { i := 7, call := some { cl := true, auto := true, ins := [], res := (RB r6), G' := [] }, dec := some true }]] (by kernel_rfl) (P1 (ci_inRange hr4)<|P2 (r4 = true) (h5)<|P1 (ci_inRange hr6)<|P2 (r6 = true) (h7)<|P0) <|
  eIf H (fun h8 H =>
  eCk H fun h9 H =>
  eBind H fun x10 hx10 H =>
  eCk H fun h11 H =>
  eBind H fun x12 hx12 H =>
  eIf H (fun h13 H =>
  eN H<|gE func120 [rg [hT 1, hE 9 (gi_Odds x10), hE 21 (gi_Odds x12), hT 23], r0] (by kernel_rfl) (P2 ((decide (t2 > 0)) = true) (decide_eq_true h8)<|P1 h9<|P1 (int_lt_of_at h9 hx10)<|P1 (at_map gi_Odds hx10)<|P1 h11<|P1 (int_lt_of_at h11 hx12)<|P1 (at_map gi_Odds hx12)<|P2 ((decide ((IntKind.wrap .i64 (x10.Num * x3.Den)) ≥ (IntKind.wrap .i64 (x3.Num * x12.Den)))) = true) (decide_eq_true h13)<|P0))
  (fun h13 H =>
  eN H fun r hn => gO [rg [hT 1, hE 9 (gi_Odds x10), hE 21 (gi_Odds x12), hF 23], r0, .canon [0] [1, 29, 30, 31]] (by kernel_rfl) (P2 ((decide (t2 > 0)) = true) (decide_eq_true h8)<|P1 h9<|P1 (int_lt_of_at h9 hx10)<|P1 (at_map gi_Odds hx10)<|P1 h11<|P1 (int_lt_of_at h11 hx12)<|P1 (at_map gi_Odds hx12)<|P2 ((decide ((IntKind.wrap .i64 (x10.Num * x3.Den)) ≥ (IntKind.wrap .i64 (x3.Num * x12.Den)))) = false) (decide_eq_false h13)<|P0) hn))
  (fun h8 H =>
  eN H fun r hn => gO [rg [hF 1], r0, .canon [0] [1, 29, 30, 31]] (by kernel_rfl) (P2 ((decide (t2 > 0)) = false) (decide_eq_false h8)<|P0) hn))
  (fun h7 H =>
  eN H<|gE func120 [rg [{ i := 2, call := some { cl := true, auto := true, ins := [], res := (RB r4), G' := [] }, dec := some true }, { i := 7, call := some { cl := true, auto := true, ins := [], res := (RB r6), G' := [] }, dec := some false }], r0] (by kernel_rfl) (P1 (ci_inRange hr4)<|P2 (r4 = true) (h5)<|P1 (ci_inRange hr6)<|P2 (r6 = false) (eqF h7)<|P0)))
  (fun h5 H =>
  eN H<|gE func120 [rg [{ i := 2, call := some { cl := true, auto := true, ins := [], res := (RB r4), G' := [] }, dec := some false }], r0] (by kernel_rfl) (P1 (ci_inRange hr4)<|P2 (r4 = false) (eqF h5)<|P0)))
  (fun h1 H =>
  eN H fun r hn => gO [rg [hF 0], r0, .canon [0] [1, 73, 74, 75]] (by kernel_rfl) (P2 ((decide (t2 < t1)) = false) (decide_eq_false h1)<|P0) hn)
 | .h2 t0 t1 t2 b3, o, H =>
  eIf H (fun h1 H =>
  eCk H fun h2 H =>
  eBind H fun x3 hx3 H =>
  gN [rg [hT 0], rg [hE 1 ((sl 1 I) x3)]] (by kernel_rfl) (P2 ((decide (t2 < t1)) = true) (decide_eq_true h1)<|P1 h2<|P1 (int_lt_of_at h2 hx3)<|P1 (at_map (sl 1 I) hx3)<|P0) <|
  eIf H (fun h4 H =>
  eBind H fun r5 hr5 H =>
  eIf H (fun h6 H =>
  eN H<|gE func120 [rg [hF 5, { i := 8, call := some { cl := true, auto := true, ins := [], res := (RB r5), G' := [] }, dec := some true }], r0] (by kernel_rfl) (P2 (((((x3.length : Nat) : Int) : Int) != ((b3.Columns.length : Nat) : Int)) = false) (bneF h4)<|P1 (cslices_ContainsFunc_int_i_IsCombatTable_1 hr5)<|P2 (r5 = true) (h6)<|P0))
  (fun h6 H =>
  eN H fun r hn => gO [rg [hF 5, { i := 8, call := some { cl := true, auto := true, ins := [], res := (RB r5), G' := [] }, dec := some false }], r0, .canon [0] [1, 73, 74, 75]] (by kernel_rfl) (P2 (((((x3.length : Nat) : Int) : Int) != ((b3.Columns.length : Nat) : Int)) = false) (bneF h4)<|P1 (cslices_ContainsFunc_int_i_IsCombatTable_1 hr5)<|P2 (r5 = false) (eqF h6)<|P0) hn))
  (fun h4 H =>
  eN H<|gE func120 [rg [hT 5], r0] (by kernel_rfl) (P2 (((((x3.length : Nat) : Int) : Int) != ((b3.Columns.length : Nat) : Int)) = true) (bneT h4)<|P0)))
  (fun h1 H =>
  eN H<|gE func120 [rg [hF 0], r0] (by kernel_rfl) (P2 ((decide (t2 < t1)) = false) (decide_eq_false h1)<|P0))
theorem wi_IsCombatTable : ∀ s r, loop Bi_IsCombatTable s = some r → Wc X 120 0 (Ki_IsCombatTable s) (Zi_IsCombatTable s) (RB r) ((fun _ => []) r) := Nx.all (ni_IsCombatTable)
theorem ci_IsCombatTable {a0 : Gi_CombatTable} {r : Bool} (H : Di_IsCombatTable a0 = some r) : Ct X.P X.gl 120 [gi_CombatTable a0] [] (RB r) [] :=
 Ct.of func120 (c := bdy f120) (by kernel_rfl) (by kernel_rfl) <|
 eBind H fun r1 hr1 H =>
 gS [r0] (by kernel_rfl) P0 <|
 eIf H (fun h2 H =>
 eBind H fun r3 hr3 H =>
 eIf H (fun h4 H =>
 eIf H (fun h5 H =>
 gO [rg [{ i := 3, call := some { cl := true, auto := true, ins := [], res := (RB r1), G' := [] }, dec := some true }, { i := 8, call := some { cl := true, auto := true, ins := [], res := (RB r3), G' := [] }, dec := some true }, hF 19], r0, .canon [0] [1, 29, 30, 31]] (by kernel_rfl) (P1 (ci_inRange hr1)<|P2 (r1 = true) (h2)<|P1 (ci_inRange hr3)<|P2 (r3 = true) (h4)<|P2 (((((a0.Results.length : Nat) : Int) : Int) != (IntKind.wrap .i64 ((IntKind.wrap .i64 (5 * a0.Dice)) + 1))) = false) (bneF h5)<|P0) (wi_IsCombatTable _ _ H))
 (fun h5 H =>
 eW RB (fun _ => []) H<|gE func120 [rg [{ i := 3, call := some { cl := true, auto := true, ins := [], res := (RB r1), G' := [] }, dec := some true }, { i := 8, call := some { cl := true, auto := true, ins := [], res := (RB r3), G' := [] }, dec := some true }, hT 19], r0] (by kernel_rfl) (P1 (ci_inRange hr1)<|P2 (r1 = true) (h2)<|P1 (ci_inRange hr3)<|P2 (r3 = true) (h4)<|P2 (((((a0.Results.length : Nat) : Int) : Int) != (IntKind.wrap .i64 ((IntKind.wrap .i64 (5 * a0.Dice)) + 1))) = true) (bneT h5)<|P0)))
 (fun h4 H =>
 eW RB (fun _ => []) H<|gE func120 [rg [{ i := 3, call := some { cl := true, auto := true, ins := [], res := (RB r1), G' := [] }, dec := some true }, { i := 8, call := some { cl := true, auto := true, ins := [], res := (RB r3), G' := [] }, dec := some false }], r0] (by kernel_rfl) (P1 (ci_inRange hr1)<|P2 (r1 = true) (h2)<|P1 (ci_inRange hr3)<|P2 (r3 = false) (eqF h4)<|P0)))
 (fun h2 H =>
 eW RB (fun _ => []) H<|gE func120 [rg [{ i := 3, call := some { cl := true, auto := true, ins := [], res := (RB r1), G' := [] }, dec := some false }], r0] (by kernel_rfl) (P1 (ci_inRange hr1)<|P2 (r1 = false) (eqF h2)<|P0))
theorem ci_sizeOf {a0 : Gi_Board} {r : Int} (H : Di_sizeOf a0 = some r) : Ct X.P X.gl 70 [gi_Board a0] [] (RI r) [] :=
 Ct.of func70 (c := bdy f70) (by kernel_rfl) (by kernel_rfl) <|
 eW RI (fun _ => []) H<|gE func70 [r0, r0] (by kernel_rfl) P0
theorem ci_isSide {a0 : Int} {r : Bool} (H : Di_isSide a0 = some r) : Ct X.P X.gl 33 [I a0] [] (RB r) [] :=
 Ct.of func33 (c := bdy f33) (by kernel_rfl) (by kernel_rfl) <|
 eBind H fun r1 hr1 H =>
 eW RB (fun _ => []) H<|gE func33 [r0, rg [hC 1 true [] (RB r1) []]] (by kernel_rfl) (P1 (ci_inRange hr1)<|P0)
def Ri_terrainAt (r : Gi_Terrain) : List D := [.agg [.str r.Name, sl 1 I r.Cost, I r.Shift, I r.Height, .bool r.Blocks]]
theorem ci_terrainAt {a0 : Gi_Board} {a1 : Int} {r : Gi_Terrain} (H : Di_terrainAt a0 a1 = some r) : Ct X.P X.gl 175 [gi_Board a0, I a1] [] (Ri_terrainAt r) [] :=
 Ct.of func175 (c := bdy f175) (by kernel_rfl) (by kernel_rfl) <|
 eCk H fun h1 H =>
 eBind H fun x2 hx2 H =>
 eCk H fun h3 H =>
 eBind H fun x4 hx4 H =>
 eW Ri_terrainAt (fun _ => []) H<|gE func175 [r0, rg [hE 8 (I x2), hE 10 (gi_Terrain x4)]] (by kernel_rfl) (P1 h1<|P1 (int_lt_of_at h1 hx2)<|P1 (at_map I hx2)<|P1 h3<|P1 (int_lt_of_at h3 hx4)<|P1 (at_map gi_Terrain hx4)<|P0)
theorem ci_enterCost {a0 : Gi_Board} {a1 : Int} {a2 : Int} {r : Int} (H : Di_enterCost a0 a1 a2 = some r) : Ct X.P X.gl 126 [gi_Board a0, I a1, I a2] [] (RI r) [] :=
 Ct.of func126 (c := bdy f126) (by kernel_rfl) (by kernel_rfl) <|
 eBind H fun r1 hr1 H =>
 eCk H fun h2 H =>
 eBind H fun x3 hx3 H =>
 eW RI (fun _ => []) H<|gE func126 [r0, rg [hC 2 true [] (Ri_terrainAt r1) [], hE 6 (I x3)]] (by kernel_rfl) (P1 (ci_terrainAt hr1)<|P1 h2<|P1 (int_lt_of_at h2 hx3)<|P1 (at_map I hx3)<|P0)
theorem ci_goodUnit {a0 : Gi_Board} {a1 : Gi_Unit} {r : Bool} (H : Di_goodUnit a0 a1 = some r) : Ct X.P X.gl 171 [gi_Board a0, gi_Unit a1] [] (RB r) [] :=
 Ct.of func171 (c := bdy f171) (by kernel_rfl) (by kernel_rfl) <|
 eBind H fun r1 hr1 H =>
 gS [r0] (by kernel_rfl) P0 <|
 eIf H (fun h2 H =>
 eBind H fun r3 hr3 H =>
 eIf H (fun h4 H =>
 eCk H fun h5 H =>
 eBind H fun x6 hx6 H =>
 eBind H fun r7 hr7 H =>
 eIf H (fun h8 H =>
 gS [rg [{ i := 2, call := some { cl := true, auto := true, ins := [], res := (RB r1), G' := [] }, dec := some true }, { i := 11, call := some { cl := true, auto := true, ins := [], res := (RB r3), G' := [] }, dec := some true }, hE 24 (gi_Kind x6), { i := 25, call := some { cl := true, auto := true, ins := [], res := (RB r7), G' := [] }, dec := some true }]] (by kernel_rfl) (P1 (ci_isSide hr1)<|P2 (r1 = true) (h2)<|P1 (ci_isIndex hr3)<|P2 (r3 = true) (h4)<|P1 h5<|P1 (int_lt_of_at h5 hx6)<|P1 (at_map gi_Kind hx6)<|P1 (ci_inRange hr7)<|P2 (r7 = true) (h8)<|P0) <|
 eIf H (fun h9 H =>
 eW RB (fun _ => []) H<|gE func171 [rg [hT 2], r0] (by kernel_rfl) (P2 (((a1.At : Int) == (-1)) = true) (beqT h9)<|P0))
 (fun h9 H =>
 gS [rg [hF 2]] (by kernel_rfl) (P2 (((a1.At : Int) == (-1)) = false) (beqF h9)<|P0) <|
 eIf H (fun h10 H =>
 eBind H fun r11 hr11 H =>
 eBind H fun r12 hr12 H =>
 eIf H (fun h13 H =>
 eBind H fun r14 hr14 H =>
 eW RB (fun _ => []) H<|gE func171 [rg [hT 2, hC 7 true [] (RI r11) [], { i := 8, call := some { cl := true, auto := true, ins := [], res := (RB r12), G' := [] }, dec := some true }, hC 16 true [] (RI r14) []]] (by kernel_rfl) (P2 ((decide (a1.Steps > 0)) = true) (decide_eq_true h10)<|P1 (ci_sizeOf hr11)<|P1 (ci_isIndex hr12)<|P2 (r12 = true) (h13)<|P1 (ci_enterCost hr14)<|P0))
 (fun h13 H =>
 eW RB (fun _ => []) H<|gE func171 [rg [hT 2, hC 7 true [] (RI r11) [], { i := 8, call := some { cl := true, auto := true, ins := [], res := (RB r12), G' := [] }, dec := some false }]] (by kernel_rfl) (P2 ((decide (a1.Steps > 0)) = true) (decide_eq_true h10)<|P1 (ci_sizeOf hr11)<|P1 (ci_isIndex hr12)<|P2 (r12 = false) (eqF h13)<|P0)))
 (fun h10 H =>
 eW RB (fun _ => []) H<|gE func171 [rg [hF 2]] (by kernel_rfl) (P2 ((decide (a1.Steps > 0)) = false) (decide_eq_false h10)<|P0))))
 (fun h8 H =>
 eW RB (fun _ => []) H<|gE func171 [rg [{ i := 2, call := some { cl := true, auto := true, ins := [], res := (RB r1), G' := [] }, dec := some true }, { i := 11, call := some { cl := true, auto := true, ins := [], res := (RB r3), G' := [] }, dec := some true }, hE 24 (gi_Kind x6), { i := 25, call := some { cl := true, auto := true, ins := [], res := (RB r7), G' := [] }, dec := some false }], r0] (by kernel_rfl) (P1 (ci_isSide hr1)<|P2 (r1 = true) (h2)<|P1 (ci_isIndex hr3)<|P2 (r3 = true) (h4)<|P1 h5<|P1 (int_lt_of_at h5 hx6)<|P1 (at_map gi_Kind hx6)<|P1 (ci_inRange hr7)<|P2 (r7 = false) (eqF h8)<|P0)))
 (fun h4 H =>
 eW RB (fun _ => []) H<|gE func171 [rg [{ i := 2, call := some { cl := true, auto := true, ins := [], res := (RB r1), G' := [] }, dec := some true }, { i := 11, call := some { cl := true, auto := true, ins := [], res := (RB r3), G' := [] }, dec := some false }], r0] (by kernel_rfl) (P1 (ci_isSide hr1)<|P2 (r1 = true) (h2)<|P1 (ci_isIndex hr3)<|P2 (r3 = false) (eqF h4)<|P0)))
 (fun h2 H =>
 eW RB (fun _ => []) H<|gE func171 [rg [{ i := 2, call := some { cl := true, auto := true, ins := [], res := (RB r1), G' := [] }, dec := some false }], r0] (by kernel_rfl) (P1 (ci_isSide hr1)<|P2 (r1 = false) (eqF h2)<|P0))
noncomputable def Ki_goodState : Si_goodState → List Item
 | .h1 .. => nav 300 4 [false] [.code (bdy f121)]
def Zi_goodState : Si_goodState → St
 | .h1 t0 t1 t2 b3 l4 => ⟨sts 80 [(2, .ptr 0 12 0 0), (5, .ref 1 2 none), (31, sl 4 gi_Unit t0), (32, I t1), (33, I t2)], [some ⟨false, true, 12, 1, [gi_Board b3]⟩, some ⟨false, false, 2, l4.length, List.map gA2I l4⟩]⟩
abbrev Qi_goodState := Nx X 121 0 Ki_goodState Zi_goodState RB (fun _ => [])
theorem ni_goodState : ∀ s o, Bi_goodState s = some o → Qi_goodState (Ki_goodState s) (Zi_goodState s) o
 | .h1 t0 t1 t2 b3 l4, o, H =>
  eIf H (fun h1 H =>
  eCk H fun h2 H =>
  eBind H fun x3 hx3 H =>
  eBind H fun r4 hr4 H =>
  gN [rg [hT 0], rg [hE 1 (gi_Unit x3)]] (by kernel_rfl) (P2 ((decide (t2 < t1)) = true) (decide_eq_true h1)<|P1 h2<|P1 (int_lt_of_at h2 hx3)<|P1 (at_map gi_Unit hx3)<|P0) <|
  eIf H (fun h5 H =>
  gN [rg [{ i := 2, call := some { cl := true, auto := true, ins := [], res := (RB r4), G' := [] }, dec := some true }]] (by kernel_rfl) (P1 (ci_goodUnit hr4)<|P2 (r4 = true) (h5)<|P0) <|
  eIf H (fun h6 H =>
  eN H fun r hn => gO [rg [hT 2], r0, .canon [0, 1] [2, 5, 31, 32, 33]] (by kernel_rfl) (P2 ((decide (x3.At < 0)) = true) (decide_eq_true h6)<|P0) hn)
  (fun h6 H =>
  eCk H fun h7 H =>
  eBind H fun x8 hx8 H =>
  gN [rg [hF 2]] (by kernel_rfl) (P2 ((decide (x3.At < 0)) = false) (decide_eq_false h6)<|P0) <|
  eIf H (fun h9 H =>
  eCk H fun h10 H =>
  eBind H fun x11 hx11 H =>
  eCk H fun h12 H =>
  eBind H fun x13 hx13 H =>
  gN [rg [{ i := 6, n := 0 }, hE 7 (gA2I x8), { i := 10, n := 0 }, hA 11 ((List.set l4 (Int.toNat x3.At) (GA2I.mk (IntKind.wrap .i64 (x8.c0 + 1)) x11.c1)).length) (List.map gA2I (List.set l4 (Int.toNat x3.At) (GA2I.mk (IntKind.wrap .i64 (x8.c0 + 1)) x11.c1)))]] (by kernel_rfl) (P1 h7<|P1 (int_lt_of_at h7 hx8)<|P1 h9<|P1 (at_map gA2I hx8)<|P1 h10<|P1 (int_lt_of_at h10 hx11)<|P1 h9<|P1 (lt_of_at hx11)<|P2 (setCells (List.map gA2I l4) (Int.toNat x3.At) 0 [I (IntKind.wrap .i64 (x8.c0 + 1))] = List.map gA2I (List.set l4 (Int.toNat x3.At) (GA2I.mk (IntKind.wrap .i64 (x8.c0 + 1)) x11.c1))) (setCells_map hx11 rfl)<|P1 (setLen l4 (Int.toNat x3.At) (GA2I.mk (IntKind.wrap .i64 (x8.c0 + 1)) x11.c1))<|P0) <|
  eIf H (fun h14 H =>
  eIf H (fun h15 H =>
  eN H<|gE func121 [rg [{ i := 7, n := 0 }, hE 8 (gA2I x13), hT 9], r0] (by kernel_rfl) (P1 h12<|P1 (int_lt_of_at h12 hx13)<|P1 h14<|P1 (at_map gA2I hx13)<|P2 ((decide (x13.c0 > 0)) = true) (decide_eq_true h15)<|P0))
  (fun h15 H =>
  eCk H fun h16 H =>
  eBind H fun x17 hx17 H =>
  eIf H (fun h18 H =>
  eN H<|gE func121 [rg [{ i := 7, n := 0 }, hE 8 (gA2I x13), hF 9, { i := 17, n := 0 }, hE 18 (gA2I x17), hT 22], r0] (by kernel_rfl) (P1 h12<|P1 (int_lt_of_at h12 hx13)<|P1 h14<|P1 (at_map gA2I hx13)<|P2 ((decide (x13.c0 > 0)) = false) (decide_eq_false h15)<|P1 h16<|P1 (int_lt_of_at h16 hx17)<|P1 h9<|P1 (at_map gA2I hx17)<|P2 ((decide (x17.c0 > b3.Rules.Stack)) = true) (decide_eq_true h18)<|P0))
  (fun h18 H =>
  eN H fun r hn => gO [rg [{ i := 7, n := 0 }, hE 8 (gA2I x13), hF 9, { i := 17, n := 0 }, hE 18 (gA2I x17), hF 22], r0, .canon [0, 1] [2, 5, 31, 32, 33]] (by kernel_rfl) (P1 h12<|P1 (int_lt_of_at h12 hx13)<|P1 h14<|P1 (at_map gA2I hx13)<|P2 ((decide (x13.c0 > 0)) = false) (decide_eq_false h15)<|P1 h16<|P1 (int_lt_of_at h16 hx17)<|P1 h9<|P1 (at_map gA2I hx17)<|P2 ((decide (x17.c0 > b3.Rules.Stack)) = false) (decide_eq_false h18)<|P0) hn)))
  (fun h14 H =>
  eCk H fun h15 H =>
  eIf H (fun h16 H =>
  eN H<|gE func121 [rg [{ i := 7, n := 1 }, hE 8 (gA2I x13), hT 9], r0] (by kernel_rfl) (P1 h12<|P1 (int_lt_of_at h12 hx13)<|P1 h15<|P1 (at_map gA2I hx13)<|P2 ((decide (x13.c1 > 0)) = true) (decide_eq_true h16)<|P0))
  (fun h16 H =>
  eCk H fun h17 H =>
  eBind H fun x18 hx18 H =>
  eIf H (fun h19 H =>
  eN H<|gE func121 [rg [{ i := 7, n := 1 }, hE 8 (gA2I x13), hF 9, { i := 17, n := 0 }, hE 18 (gA2I x18), hT 22], r0] (by kernel_rfl) (P1 h12<|P1 (int_lt_of_at h12 hx13)<|P1 h15<|P1 (at_map gA2I hx13)<|P2 ((decide (x13.c1 > 0)) = false) (decide_eq_false h16)<|P1 h17<|P1 (int_lt_of_at h17 hx18)<|P1 h9<|P1 (at_map gA2I hx18)<|P2 ((decide (x18.c0 > b3.Rules.Stack)) = true) (decide_eq_true h19)<|P0))
  (fun h19 H =>
  eN H fun r hn => gO [rg [{ i := 7, n := 1 }, hE 8 (gA2I x13), hF 9, { i := 17, n := 0 }, hE 18 (gA2I x18), hF 22], r0, .canon [0, 1] [2, 5, 31, 32, 33]] (by kernel_rfl) (P1 h12<|P1 (int_lt_of_at h12 hx13)<|P1 h15<|P1 (at_map gA2I hx13)<|P2 ((decide (x13.c1 > 0)) = false) (decide_eq_false h16)<|P1 h17<|P1 (int_lt_of_at h17 hx18)<|P1 h9<|P1 (at_map gA2I hx18)<|P2 ((decide (x18.c0 > b3.Rules.Stack)) = false) (decide_eq_false h19)<|P0) hn))))
  (fun h9 H =>
  eCk H fun h10 H =>
  eCk H fun h11 H =>
  eBind H fun x12 hx12 H =>
  eCk H fun h13 H =>
  eBind H fun x14 hx14 H =>
  gN [rg [{ i := 6, n := 1 }, hE 7 (gA2I x8), { i := 10, n := 1 }, hA 11 ((List.set l4 (Int.toNat x3.At) (GA2I.mk x12.c0 (IntKind.wrap .i64 (x8.c1 + 1)))).length) (List.map gA2I (List.set l4 (Int.toNat x3.At) (GA2I.mk x12.c0 (IntKind.wrap .i64 (x8.c1 + 1)))))]] (by kernel_rfl) (P1 h7<|P1 (int_lt_of_at h7 hx8)<|P1 h10<|P1 (at_map gA2I hx8)<|P1 h11<|P1 (int_lt_of_at h11 hx12)<|P1 h10<|P1 (lt_of_at hx12)<|P2 (setCells (List.map gA2I l4) (Int.toNat x3.At) 1 [I (IntKind.wrap .i64 (x8.c1 + 1))] = List.map gA2I (List.set l4 (Int.toNat x3.At) (GA2I.mk x12.c0 (IntKind.wrap .i64 (x8.c1 + 1))))) (setCells_map hx12 rfl)<|P1 (setLen l4 (Int.toNat x3.At) (GA2I.mk x12.c0 (IntKind.wrap .i64 (x8.c1 + 1))))<|P0) <|
  eIf H (fun h15 H =>
  eIf H (fun h16 H =>
  eN H<|gE func121 [rg [{ i := 7, n := 0 }, hE 8 (gA2I x14), hT 9], r0] (by kernel_rfl) (P1 h13<|P1 (int_lt_of_at h13 hx14)<|P1 h15<|P1 (at_map gA2I hx14)<|P2 ((decide (x14.c0 > 0)) = true) (decide_eq_true h16)<|P0))
  (fun h16 H =>
  eCk H fun h17 H =>
  eBind H fun x18 hx18 H =>
  eIf H (fun h19 H =>
  eN H<|gE func121 [rg [{ i := 7, n := 0 }, hE 8 (gA2I x14), hF 9, { i := 17, n := 1 }, hE 18 (gA2I x18), hT 22], r0] (by kernel_rfl) (P1 h13<|P1 (int_lt_of_at h13 hx14)<|P1 h15<|P1 (at_map gA2I hx14)<|P2 ((decide (x14.c0 > 0)) = false) (decide_eq_false h16)<|P1 h17<|P1 (int_lt_of_at h17 hx18)<|P1 h10<|P1 (at_map gA2I hx18)<|P2 ((decide (x18.c1 > b3.Rules.Stack)) = true) (decide_eq_true h19)<|P0))
  (fun h19 H =>
  eN H fun r hn => gO [rg [{ i := 7, n := 0 }, hE 8 (gA2I x14), hF 9, { i := 17, n := 1 }, hE 18 (gA2I x18), hF 22], r0, .canon [0, 1] [2, 5, 31, 32, 33]] (by kernel_rfl) (P1 h13<|P1 (int_lt_of_at h13 hx14)<|P1 h15<|P1 (at_map gA2I hx14)<|P2 ((decide (x14.c0 > 0)) = false) (decide_eq_false h16)<|P1 h17<|P1 (int_lt_of_at h17 hx18)<|P1 h10<|P1 (at_map gA2I hx18)<|P2 ((decide (x18.c1 > b3.Rules.Stack)) = false) (decide_eq_false h19)<|P0) hn)))
  (fun h15 H =>
  eCk H fun h16 H =>
  eIf H (fun h17 H =>
  eN H<|gE func121 [rg [{ i := 7, n := 1 }, hE 8 (gA2I x14), hT 9], r0] (by kernel_rfl) (P1 h13<|P1 (int_lt_of_at h13 hx14)<|P1 h16<|P1 (at_map gA2I hx14)<|P2 ((decide (x14.c1 > 0)) = true) (decide_eq_true h17)<|P0))
  (fun h17 H =>
  eCk H fun h18 H =>
  eBind H fun x19 hx19 H =>
  eIf H (fun h20 H =>
  eN H<|gE func121 [rg [{ i := 7, n := 1 }, hE 8 (gA2I x14), hF 9, { i := 17, n := 1 }, hE 18 (gA2I x19), hT 22], r0] (by kernel_rfl) (P1 h13<|P1 (int_lt_of_at h13 hx14)<|P1 h16<|P1 (at_map gA2I hx14)<|P2 ((decide (x14.c1 > 0)) = false) (decide_eq_false h17)<|P1 h18<|P1 (int_lt_of_at h18 hx19)<|P1 h10<|P1 (at_map gA2I hx19)<|P2 ((decide (x19.c1 > b3.Rules.Stack)) = true) (decide_eq_true h20)<|P0))
  (fun h20 H =>
  eN H fun r hn => gO [rg [{ i := 7, n := 1 }, hE 8 (gA2I x14), hF 9, { i := 17, n := 1 }, hE 18 (gA2I x19), hF 22], r0, .canon [0, 1] [2, 5, 31, 32, 33]] (by kernel_rfl) (P1 h13<|P1 (int_lt_of_at h13 hx14)<|P1 h16<|P1 (at_map gA2I hx14)<|P2 ((decide (x14.c1 > 0)) = false) (decide_eq_false h17)<|P1 h18<|P1 (int_lt_of_at h18 hx19)<|P1 h10<|P1 (at_map gA2I hx19)<|P2 ((decide (x19.c1 > b3.Rules.Stack)) = false) (decide_eq_false h20)<|P0) hn))))))
  (fun h5 H =>
  eN H<|gE func121 [rg [{ i := 2, call := some { cl := true, auto := true, ins := [], res := (RB r4), G' := [] }, dec := some false }], r0] (by kernel_rfl) (P1 (ci_goodUnit hr4)<|P2 (r4 = false) (eqF h5)<|P0)))
  (fun h1 H =>
  eN H<|gE func121 [rg [hF 0], r0] (by kernel_rfl) (P2 ((decide (t2 < t1)) = false) (decide_eq_false h1)<|P0))
theorem wi_goodState : ∀ s r, loop Bi_goodState s = some r → Wc X 121 0 (Ki_goodState s) (Zi_goodState s) (RB r) ((fun _ => []) r) := Nx.all (ni_goodState)
theorem ci_goodState {a0 : Gi_Board} {a1 : Gi_State} {r : Bool} (H : Di_goodState a0 a1 = some r) : Ct X.P X.gl 121 [gi_Board a0, gi_State a1] [] (RB r) [] :=
 Ct.of func121 (c := bdy f121) (by kernel_rfl) (by kernel_rfl) <|
 eBind H fun r1 hr1 H =>
 gS [r0] (by kernel_rfl) P0 <|
 eIf H (fun h2 H =>
 eBind H fun r3 hr3 H =>
 eIf H (fun h4 H =>
 eIf H (fun h5 H =>
 eW RB (fun _ => []) H<|gE func121 [rg [{ i := 5, call := some { cl := true, auto := true, ins := [], res := (RB r1), G' := [] }, dec := some true }, { i := 10, call := some { cl := true, auto := true, ins := [], res := (RB r3), G' := [] }, dec := some true }, hT 17], r0] (by kernel_rfl) (P1 (ci_inRange hr1)<|P2 (r1 = true) (h2)<|P1 (ci_inRange hr3)<|P2 (r3 = true) (h4)<|P2 ((decide (((a1.Units.length : Nat) : Int) > 12)) = true) (decide_eq_true h5)<|P0))
 (fun h5 H =>
 eBind H fun r6 hr6 H =>
 eCk H fun h7 H =>
 eCk H fun h8 H =>
 gO [rg [{ i := 5, call := some { cl := true, auto := true, ins := [], res := (RB r1), G' := [] }, dec := some true }, { i := 10, call := some { cl := true, auto := true, ins := [], res := (RB r3), G' := [] }, dec := some true }, hF 17], rg [hC 1 true [] (RI r6) [], hA 2 ((List.replicate (Int.toNat r6) (GA2I.mk 0 0)).length) (List.map gA2I (List.replicate (Int.toNat r6) (GA2I.mk 0 0)))], r0, .canon [0, 2] [2, 5, 31, 32, 33]] (by kernel_rfl) (P1 (ci_inRange hr1)<|P2 (r1 = true) (h2)<|P1 (ci_inRange hr3)<|P2 (r3 = true) (h4)<|P2 ((decide (((a1.Units.length : Nat) : Int) > 12)) = false) (decide_eq_false h5)<|P1 (ci_sizeOf hr6)<|PI r6<|P2 ((0 : Int) ≤ r6) h7<|P2 (Int.toNat r6 * 16 ≤ 140737488355328) h8<|P1 (repLen (Int.toNat r6) (GA2I.mk 0 0))<|P1 (repMap gA2I (Int.toNat r6) (GA2I.mk 0 0))<|P0) (wi_goodState _ _ H)))
 (fun h4 H =>
 eW RB (fun _ => []) H<|gE func121 [rg [{ i := 5, call := some { cl := true, auto := true, ins := [], res := (RB r1), G' := [] }, dec := some true }, { i := 10, call := some { cl := true, auto := true, ins := [], res := (RB r3), G' := [] }, dec := some false }], r0] (by kernel_rfl) (P1 (ci_inRange hr1)<|P2 (r1 = true) (h2)<|P1 (ci_inRange hr3)<|P2 (r3 = false) (eqF h4)<|P0)))
 (fun h2 H =>
 eW RB (fun _ => []) H<|gE func121 [rg [{ i := 5, call := some { cl := true, auto := true, ins := [], res := (RB r1), G' := [] }, dec := some false }], r0] (by kernel_rfl) (P1 (ci_inRange hr1)<|P2 (r1 = false) (eqF h2)<|P0))
noncomputable def Ki_goodConditions : Si_goodConditions → List Item
 | .h1 .. => nav 300 3 [false] [.code (bdy f122)]
def Zi_goodConditions : Si_goodConditions → St
 | .h1 t0 t1 t2 b3 b4 => ⟨sts 60 [(2, .ptr 0 12 0 0), (3, .ptr 1 3 0 0), (24, sl 2 gi_Goal t0), (25, I t1), (26, I t2)], [some ⟨false, true, 12, 1, [gi_Board b3]⟩, some ⟨false, true, 3, 1, [gi_Conditions b4]⟩]⟩
abbrev Qi_goodConditions := Nx X 122 0 Ki_goodConditions Zi_goodConditions RB (fun _ => [])
theorem ni_goodConditions : ∀ s o, Bi_goodConditions s = some o → Qi_goodConditions (Ki_goodConditions s) (Zi_goodConditions s) o
 | .h1 t0 t1 t2 b3 b4, o, H =>
  eIf H (fun h1 H =>
  eCk H fun h2 H =>
  eBind H fun x3 hx3 H =>
  eBind H fun r4 hr4 H =>
  eBind H fun r5 hr5 H =>
  gN [rg [hT 0], rg [hE 2 (gi_Goal x3)]] (by kernel_rfl) (P2 ((decide (t2 < t1)) = true) (decide_eq_true h1)<|P1 h2<|P1 (int_lt_of_at h2 hx3)<|P1 (at_map gi_Goal hx3)<|P0) <|
  eIf H (fun h6 H =>
  eBind H fun r7 hr7 H =>
  eIf H (fun h8 H =>
  eIf H (fun h9 H =>
  eCk H fun h10 H =>
  eBind H fun x11 hx11 H =>
  eIf H (fun h12 H =>
  eN H<|gE func122 [rg [hC 3 true [] (RI r4) [], { i := 4, call := some { cl := true, auto := true, ins := [], res := (RB r5), G' := [] }, dec := some true }, { i := 9, call := some { cl := true, auto := true, ins := [], res := (RB r7), G' := [] }, dec := some true }, hT 14, hE 22 (gi_Goal x11), hT 25], r0] (by kernel_rfl) (P1 (ci_sizeOf hr4)<|P1 (ci_isIndex hr5)<|P2 (r5 = true) (h6)<|P1 (ci_inRange hr7)<|P2 (r7 = true) (h8)<|P2 ((decide (t2 > 0)) = true) (decide_eq_true h9)<|P1 h10<|P1 (int_lt_of_at h10 hx11)<|P1 (at_map gi_Goal hx11)<|P2 ((decide (x11.At ≥ x3.At)) = true) (decide_eq_true h12)<|P0))
  (fun h12 H =>
  eN H fun r hn => gO [rg [hC 3 true [] (RI r4) [], { i := 4, call := some { cl := true, auto := true, ins := [], res := (RB r5), G' := [] }, dec := some true }, { i := 9, call := some { cl := true, auto := true, ins := [], res := (RB r7), G' := [] }, dec := some true }, hT 14, hE 22 (gi_Goal x11), hF 25], r0, .canon [0, 1] [2, 3, 24, 25, 26]] (by kernel_rfl) (P1 (ci_sizeOf hr4)<|P1 (ci_isIndex hr5)<|P2 (r5 = true) (h6)<|P1 (ci_inRange hr7)<|P2 (r7 = true) (h8)<|P2 ((decide (t2 > 0)) = true) (decide_eq_true h9)<|P1 h10<|P1 (int_lt_of_at h10 hx11)<|P1 (at_map gi_Goal hx11)<|P2 ((decide (x11.At ≥ x3.At)) = false) (decide_eq_false h12)<|P0) hn))
  (fun h9 H =>
  eN H fun r hn => gO [rg [hC 3 true [] (RI r4) [], { i := 4, call := some { cl := true, auto := true, ins := [], res := (RB r5), G' := [] }, dec := some true }, { i := 9, call := some { cl := true, auto := true, ins := [], res := (RB r7), G' := [] }, dec := some true }, hF 14], r0, .canon [0, 1] [2, 3, 24, 25, 26]] (by kernel_rfl) (P1 (ci_sizeOf hr4)<|P1 (ci_isIndex hr5)<|P2 (r5 = true) (h6)<|P1 (ci_inRange hr7)<|P2 (r7 = true) (h8)<|P2 ((decide (t2 > 0)) = false) (decide_eq_false h9)<|P0) hn))
  (fun h8 H =>
  eN H<|gE func122 [rg [hC 3 true [] (RI r4) [], { i := 4, call := some { cl := true, auto := true, ins := [], res := (RB r5), G' := [] }, dec := some true }, { i := 9, call := some { cl := true, auto := true, ins := [], res := (RB r7), G' := [] }, dec := some false }], r0] (by kernel_rfl) (P1 (ci_sizeOf hr4)<|P1 (ci_isIndex hr5)<|P2 (r5 = true) (h6)<|P1 (ci_inRange hr7)<|P2 (r7 = false) (eqF h8)<|P0)))
  (fun h6 H =>
  eN H<|gE func122 [rg [hC 3 true [] (RI r4) [], { i := 4, call := some { cl := true, auto := true, ins := [], res := (RB r5), G' := [] }, dec := some false }], r0] (by kernel_rfl) (P1 (ci_sizeOf hr4)<|P1 (ci_isIndex hr5)<|P2 (r5 = false) (eqF h6)<|P0)))
  (fun h1 H =>
  eN H<|gE func122 [rg [hF 0], r0] (by kernel_rfl) (P2 ((decide (t2 < t1)) = false) (decide_eq_false h1)<|P0))
theorem wi_goodConditions : ∀ s r, loop Bi_goodConditions s = some r → Wc X 122 0 (Ki_goodConditions s) (Zi_goodConditions s) (RB r) ((fun _ => []) r) := Nx.all (ni_goodConditions)
theorem ci_goodConditions {a0 : Gi_Board} {a1 : Gi_Conditions} {r : Bool} (H : Di_goodConditions a0 a1 = some r) : Ct X.P X.gl 122 [gi_Board a0, gi_Conditions a1] [] (RB r) [] :=
 Ct.of func122 (c := bdy f122) (by kernel_rfl) (by kernel_rfl) <|
 gS [r0] (by kernel_rfl) P0 <|
 eIf H (fun h1 H =>
 eW RB (fun _ => []) H<|gE func122 [rg [hT 3], r0] (by kernel_rfl) (P2 ((decide (((a1.Goals.length : Nat) : Int) > 12)) = true) (decide_eq_true h1)<|P0))
 (fun h1 H =>
 eBind H fun r2 hr2 H =>
 eIf H (fun h3 H =>
 eBind H fun r4 hr4 H =>
 eIf H (fun h5 H =>
 gO [rg [hF 3, { i := 7, call := some { cl := true, auto := true, ins := [], res := (RB r2), G' := [] }, dec := some true }, { i := 13, call := some { cl := true, auto := true, ins := [], res := (RB r4), G' := [] }, dec := some true }], r0, .canon [0, 1] [2, 3, 24, 25, 26]] (by kernel_rfl) (P2 ((decide (((a1.Goals.length : Nat) : Int) > 12)) = false) (decide_eq_false h1)<|P1 (ci_inRange hr2)<|P2 (r2 = true) (h3)<|P1 (ci_inRange hr4)<|P2 (r4 = true) (h5)<|P0) (wi_goodConditions _ _ H))
 (fun h5 H =>
 eW RB (fun _ => []) H<|gE func122 [rg [hF 3, { i := 7, call := some { cl := true, auto := true, ins := [], res := (RB r2), G' := [] }, dec := some true }, { i := 13, call := some { cl := true, auto := true, ins := [], res := (RB r4), G' := [] }, dec := some false }], r0] (by kernel_rfl) (P2 ((decide (((a1.Goals.length : Nat) : Int) > 12)) = false) (decide_eq_false h1)<|P1 (ci_inRange hr2)<|P2 (r2 = true) (h3)<|P1 (ci_inRange hr4)<|P2 (r4 = false) (eqF h5)<|P0)))
 (fun h3 H =>
 eW RB (fun _ => []) H<|gE func122 [rg [hF 3, { i := 7, call := some { cl := true, auto := true, ins := [], res := (RB r2), G' := [] }, dec := some false }], r0] (by kernel_rfl) (P2 ((decide (((a1.Goals.length : Nat) : Int) > 12)) = false) (decide_eq_false h1)<|P1 (ci_inRange hr2)<|P2 (r2 = false) (eqF h3)<|P0)))
theorem ci_areSources_1 {a0 : Int} {a1 : Gi_Board} {r : Bool} (H : Di_areSources_1 a0 a1 = some r) : Ct X.P X.gl 173 [I a0, .fptr 12 [.agg [sl 5 gi_Terrain a1.Rules.Terrains, sl 6 gi_Kind a1.Rules.Kinds, I a1.Rules.Stack, I a1.Rules.River, I a1.Rules.Road, I a1.Rules.Supply, I a1.Rules.Turns, I a1.Map.Width, I a1.Map.Height, sl 1 I a1.Map.Terrain, sl 1 I a1.Map.Rivers, sl 1 I a1.Map.Roads]] 0 0] [] (RB r) [] :=
 have H := (Di_areSources_1.eq_1 ..).symm.trans H
 Ct.of func173 (c := bdy f173) (by kernel_rfl) (by kernel_rfl) <|
 eBind H fun r1 hr1 H =>
 eBind H fun r2 hr2 H =>
 eW RB (fun _ => []) H<|gE func173 [r0, rg [hC 2 true [] (RI r1) [], hC 3 true [] (RB r2) []]] (by kernel_rfl) (P1 (ci_sizeOf hr1)<|P1 (ci_isIndex hr2)<|P0)
noncomputable def Kslices_IndexFunc_int_i_areSources_1 : Sslices_IndexFunc_int_i_areSources_1 → List Item
 | .h1 .. => nav 300 2 [] [.code (bdy f203)]
def Zslices_IndexFunc_int_i_areSources_1 : Sslices_IndexFunc_int_i_areSources_1 → St
 | .h1 s0 f1 t2 t3 => ⟨sts 19 [(0, sl 1 I s0), (1, .fn 173 [.fptr 12 [.agg [sl 5 gi_Terrain f1.Rules.Terrains, sl 6 gi_Kind f1.Rules.Kinds, I f1.Rules.Stack, I f1.Rules.River, I f1.Rules.Road, I f1.Rules.Supply, I f1.Rules.Turns, I f1.Map.Width, I f1.Map.Height, sl 1 I f1.Map.Terrain, sl 1 I f1.Map.Rivers, sl 1 I f1.Map.Roads]] 0 0]), (7, I t2), (8, I t3)], []⟩
abbrev Qslices_IndexFunc_int_i_areSources_1 := Nx X 203 0 Kslices_IndexFunc_int_i_areSources_1 Zslices_IndexFunc_int_i_areSources_1 RI (fun _ => [])
theorem nslices_IndexFunc_int_i_areSources_1 : ∀ s o, Bslices_IndexFunc_int_i_areSources_1 s = some o → Qslices_IndexFunc_int_i_areSources_1 (Kslices_IndexFunc_int_i_areSources_1 s) (Zslices_IndexFunc_int_i_areSources_1 s) o
 | .h1 s0 f1 t2 t3, o, H =>
  eIf H (fun h1 H =>
  eCk H fun h2 H =>
  eBind H fun x3 hx3 H =>
  eBind H fun r4 hr4 H =>
  gN [rg [hT 0], r0] (by kernel_rfl) (P2 ((decide (t3 < t2)) = true) (decide_eq_true h1)<|P0) <|
  eIf H (fun h5 H =>
  eN H<|gE func203 [rg [hE 4 (I x3), { i := 5, call := some { cl := true, auto := true, ins := [], res := (RB r4), G' := [] }, dec := some true }], r0] (by kernel_rfl) (P1 h2<|P1 (int_lt_of_at h2 hx3)<|P1 (at_map I hx3)<|P1 (ci_areSources_1 hr4)<|P2 (r4 = true) (h5)<|P0))
  (fun h5 H =>
  eN H fun r hn => gO [rg [hE 4 (I x3), { i := 5, call := some { cl := true, auto := true, ins := [], res := (RB r4), G' := [] }, dec := some false }], r0, .canon [] [0, 1, 7, 8]] (by kernel_rfl) (P1 h2<|P1 (int_lt_of_at h2 hx3)<|P1 (at_map I hx3)<|P1 (ci_areSources_1 hr4)<|P2 (r4 = false) (eqF h5)<|P0) hn))
  (fun h1 H =>
  eN H<|gE func203 [rg [hF 0], r0] (by kernel_rfl) (P2 ((decide (t3 < t2)) = false) (decide_eq_false h1)<|P0))
theorem wslices_IndexFunc_int_i_areSources_1 : ∀ s r, loop Bslices_IndexFunc_int_i_areSources_1 s = some r → Wc X 203 0 (Kslices_IndexFunc_int_i_areSources_1 s) (Zslices_IndexFunc_int_i_areSources_1 s) (RI r) ((fun _ => []) r) := Nx.all (nslices_IndexFunc_int_i_areSources_1)
theorem cslices_IndexFunc_int_i_areSources_1 {a0 : (List Int)} {a100 : Gi_Board} {r : Int} (H : Dslices_IndexFunc_int_i_areSources_1 a0 a100 = some r) : Ct X.P X.gl 203 [sl 1 I a0, .fn 173 [.fptr 12 [.agg [sl 5 gi_Terrain a100.Rules.Terrains, sl 6 gi_Kind a100.Rules.Kinds, I a100.Rules.Stack, I a100.Rules.River, I a100.Rules.Road, I a100.Rules.Supply, I a100.Rules.Turns, I a100.Map.Width, I a100.Map.Height, sl 1 I a100.Map.Terrain, sl 1 I a100.Map.Rivers, sl 1 I a100.Map.Roads]] 0 0]] [] (RI r) [] :=
 Ct.of func203 (c := bdy f203) (by kernel_rfl) (by kernel_rfl) <|
 gO [r0, r0, .canon [] [0, 1, 7, 8]] (by kernel_rfl) P0 (wslices_IndexFunc_int_i_areSources_1 _ _ H)
theorem cslices_ContainsFunc_int_i_areSources_1 {a0 : (List Int)} {a100 : Gi_Board} {r : Bool} (H : Dslices_ContainsFunc_int_i_areSources_1 a0 a100 = some r) : Ct X.P X.gl 167 [sl 1 I a0, .fn 173 [.fptr 12 [.agg [sl 5 gi_Terrain a100.Rules.Terrains, sl 6 gi_Kind a100.Rules.Kinds, I a100.Rules.Stack, I a100.Rules.River, I a100.Rules.Road, I a100.Rules.Supply, I a100.Rules.Turns, I a100.Map.Width, I a100.Map.Height, sl 1 I a100.Map.Terrain, sl 1 I a100.Map.Rivers, sl 1 I a100.Map.Roads]] 0 0]] [] (RB r) [] :=
 Ct.of func167 (c := bdy f167) (by kernel_rfl) (by kernel_rfl) <|
 eBind H fun r1 hr1 H =>
 eW RB (fun _ => []) H<|gE func167 [r0, rg [hC 2 true [] (RI r1) []]] (by kernel_rfl) (P1 (cslices_IndexFunc_int_i_areSources_1 hr1)<|P0)
theorem ci_areSources {a0 : Gi_Board} {a1 : (List Int)} {r : Bool} (H : Di_areSources a0 a1 = some r) : Ct X.P X.gl 123 [gi_Board a0, sl 1 I a1] [] (RB r) [] :=
 Ct.of func123 (c := bdy f123) (by kernel_rfl) (by kernel_rfl) <|
 gS [r0] (by kernel_rfl) P0 <|
 eIf H (fun h1 H =>
 eBind H fun r2 hr2 H =>
 eIf H (fun h3 H =>
 eBind H fun r4 hr4 H =>
 eW RB (fun _ => []) H<|gE func123 [rg [hT 2, { i := 5, call := some { cl := true, auto := true, ins := [], res := (RB r2), G' := [] }, dec := some true }, hC 10 false [] (RB r4) []]] (by kernel_rfl) (P2 ((decide (((a1.length : Nat) : Int) ≤ 6)) = true) (decide_eq_true h1)<|P1 (ci_increasing hr2)<|P2 (r2 = true) (h3)<|P1 (cslices_ContainsFunc_int_i_areSources_1 hr4)<|P0))
 (fun h3 H =>
 eW RB (fun _ => []) H<|gE func123 [rg [hT 2, { i := 5, call := some { cl := true, auto := true, ins := [], res := (RB r2), G' := [] }, dec := some false }]] (by kernel_rfl) (P2 ((decide (((a1.length : Nat) : Int) ≤ 6)) = true) (decide_eq_true h1)<|P1 (ci_increasing hr2)<|P2 (r2 = false) (eqF h3)<|P0)))
 (fun h1 H =>
 eW RB (fun _ => []) H<|gE func123 [rg [hF 2]] (by kernel_rfl) (P2 ((decide (((a1.length : Nat) : Int) ≤ 6)) = false) (decide_eq_false h1)<|P0))
theorem ci_ScenarioFault {a0 : Gi_Scenario} {r : Int} (H : Di_ScenarioFault a0 = some r) : Ct X.P X.gl 66 [gi_Scenario a0] [] (RI r) [] :=
 Ct.of func66 (c := bdy f66) (by kernel_rfl) (by kernel_rfl) <|
 eBind H fun r1 hr1 H =>
 gS [r0] (by kernel_rfl) P0 <|
 eIf H (fun h2 H =>
 eBind H fun r3 hr3 H =>
 gS [rg [{ i := 2, call := some { cl := true, auto := true, ins := [], res := (RB r1), G' := [] }, dec := some true }]] (by kernel_rfl) (P1 (ci_isName hr1)<|P2 (r1 = true) (h2)<|P0) <|
 eIf H (fun h4 H =>
 eBind H fun r5 hr5 H =>
 gS [rg [{ i := 2, call := some { cl := true, auto := true, ins := [], res := (RB r3), G' := [] }, dec := some true }]] (by kernel_rfl) (P1 (ci_IsBoard hr3)<|P2 (r3 = true) (h4)<|P0) <|
 eIf H (fun h6 H =>
 eBind H fun r7 hr7 H =>
 gS [rg [{ i := 2, call := some { cl := true, auto := true, ins := [], res := (RB r5), G' := [] }, dec := some true }]] (by kernel_rfl) (P1 (ci_IsCombatTable hr5)<|P2 (r5 = true) (h6)<|P0) <|
 eIf H (fun h8 H =>
 eBind H fun r9 hr9 H =>
 gS [rg [{ i := 4, call := some { cl := true, auto := true, ins := [], res := (RB r7), G' := [] }, dec := some true }]] (by kernel_rfl) (P1 (ci_goodState hr7)<|P2 (r7 = true) (h8)<|P0) <|
 eIf H (fun h10 H =>
 eBind H fun r11 hr11 H =>
 gS [rg [{ i := 4, call := some { cl := true, auto := true, ins := [], res := (RB r9), G' := [] }, dec := some true }]] (by kernel_rfl) (P1 (ci_goodConditions hr9)<|P2 (r9 = true) (h10)<|P0) <|
 eIf H (fun h12 H =>
 eBind H fun r13 hr13 H =>
 eIf H (fun h14 H =>
 eW RI (fun _ => []) H<|gE func66 [rg [{ i := 4, call := some { cl := true, auto := true, ins := [], res := (RB r11), G' := [] }, dec := some true }, { i := 11, call := some { cl := true, auto := true, ins := [], res := (RB r13), G' := [] }, dec := some true }], r0] (by kernel_rfl) (P1 (ci_areSources hr11)<|P2 (r11 = true) (h12)<|P1 (ci_areSources hr13)<|P2 (r13 = true) (h14)<|P0))
 (fun h14 H =>
 eW RI (fun _ => []) H<|gE func66 [rg [{ i := 4, call := some { cl := true, auto := true, ins := [], res := (RB r11), G' := [] }, dec := some true }, { i := 11, call := some { cl := true, auto := true, ins := [], res := (RB r13), G' := [] }, dec := some false }], r0] (by kernel_rfl) (P1 (ci_areSources hr11)<|P2 (r11 = true) (h12)<|P1 (ci_areSources hr13)<|P2 (r13 = false) (eqF h14)<|P0)))
 (fun h12 H =>
 eW RI (fun _ => []) H<|gE func66 [rg [{ i := 4, call := some { cl := true, auto := true, ins := [], res := (RB r11), G' := [] }, dec := some false }], r0] (by kernel_rfl) (P1 (ci_areSources hr11)<|P2 (r11 = false) (eqF h12)<|P0)))
 (fun h10 H =>
 eW RI (fun _ => []) H<|gE func66 [rg [{ i := 4, call := some { cl := true, auto := true, ins := [], res := (RB r9), G' := [] }, dec := some false }], r0] (by kernel_rfl) (P1 (ci_goodConditions hr9)<|P2 (r9 = false) (eqF h10)<|P0)))
 (fun h8 H =>
 eW RI (fun _ => []) H<|gE func66 [rg [{ i := 4, call := some { cl := true, auto := true, ins := [], res := (RB r7), G' := [] }, dec := some false }], r0] (by kernel_rfl) (P1 (ci_goodState hr7)<|P2 (r7 = false) (eqF h8)<|P0)))
 (fun h6 H =>
 eW RI (fun _ => []) H<|gE func66 [rg [{ i := 2, call := some { cl := true, auto := true, ins := [], res := (RB r5), G' := [] }, dec := some false }], r0] (by kernel_rfl) (P1 (ci_IsCombatTable hr5)<|P2 (r5 = false) (eqF h6)<|P0)))
 (fun h4 H =>
 eW RI (fun _ => []) H<|gE func66 [rg [{ i := 2, call := some { cl := true, auto := true, ins := [], res := (RB r3), G' := [] }, dec := some false }], r0] (by kernel_rfl) (P1 (ci_IsBoard hr3)<|P2 (r3 = false) (eqF h4)<|P0)))
 (fun h2 H =>
 eW RI (fun _ => []) H<|gE func66 [rg [{ i := 2, call := some { cl := true, auto := true, ins := [], res := (RB r1), G' := [] }, dec := some false }], r0] (by kernel_rfl) (P1 (ci_isName hr1)<|P2 (r1 = false) (eqF h2)<|P0))
theorem ci_IsScenario {a0 : Gi_Scenario} {r : Bool} (H : Di_IsScenario a0 = some r) : Ct X.P X.gl 32 [gi_Scenario a0] [] (RB r) [] :=
 Ct.of func32 (c := bdy f32) (by kernel_rfl) (by kernel_rfl) <|
 eBind H fun r1 hr1 H =>
 eW RB (fun _ => []) H<|gE func32 [r0, rg [hC 1 true [] (RI r1) []]] (by kernel_rfl) (P1 (ci_ScenarioFault hr1)<|P0)
def Rslices_Clone_int (r : List Int) : List D := [ow 1 I r]
theorem cslices_Clone_int {l r : List Int} (H : Dslices_Clone_int l = some r) : Ct X.P X.gl 147 [sl 1 I l] [] (Rslices_Clone_int r) [] :=
 eCk H fun h H => eRet (P := fun r => Ct X.P X.gl 147 [sl 1 I l] [] (Rslices_Clone_int r) []) H <|
  Ct.of func147 (c := bdy f147) (by kernel_rfl) (by kernel_rfl)<|by
   by_cases h0 : 0 < l.length
   ·exact gE func147 [r0, rg [{ i := 1, keep := true }], rg [{ i := 2, n := l.length, xs := List.map I l }]] (by kernel_rfl) (P1 h0<|P1 (allFl_3 l)<|P2 (l.length = 0 + l.length) (by simp)<|P2 ((0 + l.length) * 8 ≤ 70368744177664) (by simpa using h)<|P2 (([] : List D) ++ List.map I l = List.map I l) rfl P0)
   ·have e : l = [] := by cases l with | nil => rfl | cons x l => exact absurd (Nat.succ_pos _) h0
    subst e
    refine gO [r0, r0, .stop] (k' := nav 300 2 [] [.code (bdy f147)]) (σ' := ⟨sts 8 [(0, sl 1 I []), (2, .nil), (3, sl 1 I []), (4, .anyb)], []⟩) (by kernel_rfl) P0 (Wc.anyb 4 (by kernel_rfl) fun b => ?_)
    cases b with
    | true => exact gE func147 [r0] (by kernel_rfl) P0
    | false =>
     have h : ([] : List Int).length * 8 ≤ 70368744177664 := by decide
     have : Wc X 147 0 (nav 300 2 [] [.code (bdy f147)]) ⟨sts 8 [(0, sl 1 I []), (2, .nil), (3, sl 1 I []), (4, .bool false)], []⟩ (Rslices_Clone_int []) [] := by
      generalize hl : ([] : List Int) = l at h ⊢
      exact gE func147 [ rg [{ i := 2, n := l.length, xs := List.map I l }]] (by kernel_rfl) ( P1 (allFl_3 l)<|P2 (l.length = 0 + l.length) (by simp)<|P2 ((0 + l.length) * 8 ≤ 70368744177664) (by simpa using h)<|P2 (([] : List D) ++ List.map I l = List.map I l) rfl P0)
     exact this
def Rslices_Clone_i_Kind (r : List Gi_Kind) : List D := [ow 6 gi_Kind r]
theorem cslices_Clone_i_Kind {l r : List Gi_Kind} (H : Dslices_Clone_i_Kind l = some r) : Ct X.P X.gl 216 [sl 6 gi_Kind l] [] (Rslices_Clone_i_Kind r) [] :=
 eCk H fun h H => eRet (P := fun r => Ct X.P X.gl 216 [sl 6 gi_Kind l] [] (Rslices_Clone_i_Kind r) []) H <|
  Ct.of func216 (c := bdy f216) (by kernel_rfl) (by kernel_rfl)<|by
   by_cases h0 : 0 < l.length
   ·exact gE func216 [r0, rg [{ i := 1, keep := true }], rg [{ i := 2, n := l.length, xs := List.map gi_Kind l }]] (by kernel_rfl) (P1 h0<|P1 (allFl_197 l)<|P2 (l.length = 0 + l.length) (by simp)<|P2 ((0 + l.length) * 56 ≤ 70368744177664) (by simpa using h)<|P2 (([] : List D) ++ List.map gi_Kind l = List.map gi_Kind l) rfl P0)
   ·have e : l = [] := by cases l with | nil => rfl | cons x l => exact absurd (Nat.succ_pos _) h0
    subst e
    refine gO [r0, r0, .stop] (k' := nav 300 2 [] [.code (bdy f216)]) (σ' := ⟨sts 8 [(0, sl 6 gi_Kind []), (2, .nil), (3, sl 6 gi_Kind []), (4, .anyb)], []⟩) (by kernel_rfl) P0 (Wc.anyb 4 (by kernel_rfl) fun b => ?_)
    cases b with
    | true => exact gE func216 [r0] (by kernel_rfl) P0
    | false =>
     have h : ([] : List Gi_Kind).length * 56 ≤ 70368744177664 := by decide
     have : Wc X 216 0 (nav 300 2 [] [.code (bdy f216)]) ⟨sts 8 [(0, sl 6 gi_Kind []), (2, .nil), (3, sl 6 gi_Kind []), (4, .bool false)], []⟩ (Rslices_Clone_i_Kind []) [] := by
      generalize hl : ([] : List Gi_Kind) = l at h ⊢
      exact gE func216 [ rg [{ i := 2, n := l.length, xs := List.map gi_Kind l }]] (by kernel_rfl) ( P1 (allFl_197 l)<|P2 (l.length = 0 + l.length) (by simp)<|P2 ((0 + l.length) * 56 ≤ 70368744177664) (by simpa using h)<|P2 (([] : List D) ++ List.map gi_Kind l = List.map gi_Kind l) rfl P0)
     exact this
def Ri_cloneRules (r : Gi_Rules) : List D := [.agg [ow 5 goi_Terrain r.Terrains, ow 6 gi_Kind r.Kinds, I r.Stack, I r.River, I r.Road, I r.Supply, I r.Turns]]
noncomputable def Ki_cloneRules : Si_cloneRules → List Item
 | .h1 .. => nav 300 3 [] [.code (bdy f181)]
def Zi_cloneRules : Si_cloneRules → St
 | .h1 t0 t1 t2 b3 b4 b5 b6 b7 b8 l9 => ⟨sts 30 [(1, .ptr 0 7 0 0), (2, .ptr 1 7 0 0), (3, .ref 2 5 none), (8, sl 5 gi_Terrain t0), (9, I t1), (10, I t2)], [some ⟨false, true, 7, 1, [gi_Rules b3]⟩, some ⟨false, true, 7, 1, [.agg [.nil, .nil, I b4, I b5, I b6, I b7, I b8]]⟩, some ⟨false, false, 5, l9.length, List.map goi_Terrain l9⟩]⟩
abbrev Qi_cloneRules := Nx X 181 0 Ki_cloneRules Zi_cloneRules Ri_cloneRules (fun _ => [])
theorem ni_cloneRules : ∀ s o, Bi_cloneRules s = some o → Qi_cloneRules (Ki_cloneRules s) (Zi_cloneRules s) o
 | .h1 t0 t1 t2 b3 b4 b5 b6 b7 b8 l9, o, H =>
  eIf H (fun h1 H =>
  eCk H fun h2 H =>
  eBind H fun x3 hx3 H =>
  eBind H fun r4 hr4 H =>
  eCk H fun h5 H =>
  eN H fun r hn => gO [rg [hT 0], rg [hE 1 (gi_Terrain x3)], rg [hC 2 true [] (Rslices_Clone_int r4) []], rg [{ i := 2, post := [.put 5 0 1 4 (List.map goi_Terrain [(Gi_Terrain.mk x3.Name r4 x3.Shift x3.Height x3.Blocks)]), .own 5 1] }, hA 3 ((l9 ++ [(Gi_Terrain.mk x3.Name r4 x3.Shift x3.Height x3.Blocks)]).length) (List.map goi_Terrain (l9 ++ [(Gi_Terrain.mk x3.Name r4 x3.Shift x3.Height x3.Blocks)]))], r0, .canon [0, 1, 6] [1, 2, 3, 8, 9, 10]] (by kernel_rfl) (P2 ((decide (t2 < t1)) = true) (decide_eq_true h1)<|P1 h2<|P1 (int_lt_of_at h2 hx3)<|P1 (at_map gi_Terrain hx3)<|P1 (cslices_Clone_int hr4)<|P2 (getCells [.agg [.str x3.Name, .ref 4 1 none, I x3.Shift, I x3.Height, .bool x3.Blocks]] 0 1 1 = some [.ref 4 1 none]) rfl<|P2 (setCells [.agg [.str x3.Name, .ref 4 1 none, I x3.Shift, I x3.Height, .bool x3.Blocks]] 0 1 [ow 1 I r4] = List.map goi_Terrain [(Gi_Terrain.mk x3.Name r4 x3.Shift x3.Height x3.Blocks)]) rfl<|P1 (allOw_152 [(Gi_Terrain.mk x3.Name r4 x3.Shift x3.Height x3.Blocks)])<|P2 ((1 : Nat) = 1) rfl<|P1 (apL l9 [(Gi_Terrain.mk x3.Name r4 x3.Shift x3.Height x3.Blocks)])<|P1 (apB h5)<|P1 (apM goi_Terrain l9 [(Gi_Terrain.mk x3.Name r4 x3.Shift x3.Height x3.Blocks)])<|P0) hn)
  (fun h1 H =>
  eBind H fun r2 hr2 H =>
  eN H<|gE func181 [rg [hF 0], rg [hC 3 true [] (Rslices_Clone_i_Kind r2) []], r0] (by kernel_rfl) (P2 ((decide (t2 < t1)) = false) (decide_eq_false h1)<|P1 (cslices_Clone_i_Kind hr2)<|P0))
theorem wi_cloneRules : ∀ s r, loop Bi_cloneRules s = some r → Wc X 181 0 (Ki_cloneRules s) (Zi_cloneRules s) (Ri_cloneRules r) ((fun _ => []) r) := Nx.all (ni_cloneRules)
theorem ci_cloneRules {a0 : Gi_Rules} {r : Gi_Rules} (H : Di_cloneRules a0 = some r) : Ct X.P X.gl 181 [gi_Rules a0] [] (Ri_cloneRules r) [] :=
 Ct.of func181 (c := bdy f181) (by kernel_rfl) (by kernel_rfl) <|
 gO [r0, r0, r0, .canon [0, 1, 2] [1, 2, 3, 8, 9, 10]] (by kernel_rfl) P0 (wi_cloneRules _ _ H)
def Ri_cloneMap (r : Gi_Map) : List D := [.agg [I r.Width, I r.Height, ow 1 I r.Terrain, ow 1 I r.Rivers, ow 1 I r.Roads]]
theorem ci_cloneMap {a0 : Gi_Map} {r : Gi_Map} (H : Di_cloneMap a0 = some r) : Ct X.P X.gl 182 [gi_Map a0] [] (Ri_cloneMap r) [] :=
 Ct.of func182 (c := bdy f182) (by kernel_rfl) (by kernel_rfl) <|
 eBind H fun r1 hr1 H =>
 eBind H fun r2 hr2 H =>
 eBind H fun r3 hr3 H =>
 eW Ri_cloneMap (fun _ => []) H<|gE func182 [r0, rg [hC 2 true [] (Rslices_Clone_int r1) [], hC 5 true [] (Rslices_Clone_int r2) [], hC 8 true [] (Rslices_Clone_int r3) []], r0] (by kernel_rfl) (P1 (cslices_Clone_int hr1)<|P1 (cslices_Clone_int hr2)<|P1 (cslices_Clone_int hr3)<|P0)
def Ri_cloneBoard (r : Gi_Board) : List D := [.agg [ow 5 goi_Terrain r.Rules.Terrains, ow 6 gi_Kind r.Rules.Kinds, I r.Rules.Stack, I r.Rules.River, I r.Rules.Road, I r.Rules.Supply, I r.Rules.Turns, I r.Map.Width, I r.Map.Height, ow 1 I r.Map.Terrain, ow 1 I r.Map.Rivers, ow 1 I r.Map.Roads]]
theorem ci_cloneBoard {a0 : Gi_Board} {r : Gi_Board} (H : Di_cloneBoard a0 = some r) : Ct X.P X.gl 143 [gi_Board a0] [] (Ri_cloneBoard r) [] :=
 Ct.of func143 (c := bdy f143) (by kernel_rfl) (by kernel_rfl) <|
 eBind H fun r1 hr1 H =>
 eBind H fun r2 hr2 H =>
 eW Ri_cloneBoard (fun _ => []) H<|gE func143 [r0, rg [hC 2 true [] (Ri_cloneRules r1) [], hC 5 true [] (Ri_cloneMap r2) []]] (by kernel_rfl) (P1 (ci_cloneRules hr1)<|P1 (ci_cloneMap hr2)<|P0)
def Rslices_Clone_i_Odds (r : List Gi_Odds) : List D := [ow 2 gi_Odds r]
theorem cslices_Clone_i_Odds {l r : List Gi_Odds} (H : Dslices_Clone_i_Odds l = some r) : Ct X.P X.gl 183 [sl 2 gi_Odds l] [] (Rslices_Clone_i_Odds r) [] :=
 eCk H fun h H => eRet (P := fun r => Ct X.P X.gl 183 [sl 2 gi_Odds l] [] (Rslices_Clone_i_Odds r) []) H <|
  Ct.of func183 (c := bdy f183) (by kernel_rfl) (by kernel_rfl)<|by
   by_cases h0 : 0 < l.length
   ·exact gE func183 [r0, rg [{ i := 1, keep := true }], rg [{ i := 2, n := l.length, xs := List.map gi_Odds l }]] (by kernel_rfl) (P1 h0<|P1 (allFl_157 l)<|P2 (l.length = 0 + l.length) (by simp)<|P2 ((0 + l.length) * 16 ≤ 70368744177664) (by simpa using h)<|P2 (([] : List D) ++ List.map gi_Odds l = List.map gi_Odds l) rfl P0)
   ·have e : l = [] := by cases l with | nil => rfl | cons x l => exact absurd (Nat.succ_pos _) h0
    subst e
    refine gO [r0, r0, .stop] (k' := nav 300 2 [] [.code (bdy f183)]) (σ' := ⟨sts 8 [(0, sl 2 gi_Odds []), (2, .nil), (3, sl 2 gi_Odds []), (4, .anyb)], []⟩) (by kernel_rfl) P0 (Wc.anyb 4 (by kernel_rfl) fun b => ?_)
    cases b with
    | true => exact gE func183 [r0] (by kernel_rfl) P0
    | false =>
     have h : ([] : List Gi_Odds).length * 16 ≤ 70368744177664 := by decide
     have : Wc X 183 0 (nav 300 2 [] [.code (bdy f183)]) ⟨sts 8 [(0, sl 2 gi_Odds []), (2, .nil), (3, sl 2 gi_Odds []), (4, .bool false)], []⟩ (Rslices_Clone_i_Odds []) [] := by
      generalize hl : ([] : List Gi_Odds) = l at h ⊢
      exact gE func183 [ rg [{ i := 2, n := l.length, xs := List.map gi_Odds l }]] (by kernel_rfl) ( P1 (allFl_157 l)<|P2 (l.length = 0 + l.length) (by simp)<|P2 ((0 + l.length) * 16 ≤ 70368744177664) (by simpa using h)<|P2 (([] : List D) ++ List.map gi_Odds l = List.map gi_Odds l) rfl P0)
     exact this
def Ri_cloneTable (r : Gi_CombatTable) : List D := [.agg [ow 2 gi_Odds r.Columns, I r.Dice, ow 1 (ow 1 I) r.Results]]
noncomputable def Ki_cloneTable : Si_cloneTable → List Item
 | .h1 .. => nav 300 3 [] [.code (bdy f144)]
 | .h2 .. => nav 300 7 [true] [.code (bdy f144)]
def Zi_cloneTable : Si_cloneTable → St
 | .h1 t0 t1 t2 b3 b4 l5 => ⟨sts 28 [(2, .ptr 0 3 0 0), (3, .ptr 1 3 0 0), (13, sl 1 (sl 1 I) t0), (14, I t1), (15, I t2)], [some ⟨false, true, 3, 1, [.agg [.nil, I b3, .nil]]⟩, some ⟨false, true, 3, 1, [.agg [.ref 2 2 none, I b4, .nil]]⟩, some ⟨false, false, 2, l5.length, List.map gi_Odds l5⟩]⟩
 | .h2 t0 t1 t2 b3 b4 l5 l6 => ⟨sts 28 [(2, .ptr 0 3 0 0), (3, .ptr 1 3 0 0), (13, sl 1 (sl 1 I) t0), (14, I t1), (15, I t2)], [some ⟨false, true, 3, 1, [.agg [.nil, I b3, .nil]]⟩, some ⟨false, true, 3, 1, [.agg [.ref 2 2 none, I b4, .ref 3 1 none]]⟩, some ⟨false, false, 2, l5.length, List.map gi_Odds l5⟩, some ⟨false, false, 1, l6.length, List.map (ow 1 I) l6⟩]⟩
abbrev Qi_cloneTable := Nx X 144 0 Ki_cloneTable Zi_cloneTable Ri_cloneTable (fun _ => [])
theorem ni_cloneTable : ∀ s o, Bi_cloneTable s = some o → Qi_cloneTable (Ki_cloneTable s) (Zi_cloneTable s) o
 | .h1 t0 t1 t2 b3 b4 l5, o, H =>
  eIf H (fun h1 H =>
  eCk H fun h2 H =>
  eBind H fun x3 hx3 H =>
  eBind H fun r4 hr4 H =>
  eCk H fun h5 H =>
  eN H fun r hn => gO [rg [hT 0], rg [hE 1 ((sl 1 I) x3)], rg [hC 3 true [] (Rslices_Clone_int r4) [], { i := 4, post := [.put 4 0 0 3 (List.map (ow 1 I) [r4]), .own 4 1] }, hA 5 ([r4].length) (List.map (ow 1 I) [r4])], r0, .canon [0, 1, 2, 5] [2, 3, 13, 14, 15]] (by kernel_rfl) (P2 ((decide (t2 < t1)) = true) (decide_eq_true h1)<|P1 h2<|P1 (int_lt_of_at h2 hx3)<|P1 (at_map (sl 1 I) hx3)<|P1 (cslices_Clone_int hr4)<|P2 (getCells [.ref 3 1 none] 0 0 1 = some [.ref 3 1 none]) rfl<|P2 (setCells [.ref 3 1 none] 0 0 [ow 1 I r4] = List.map (ow 1 I) [r4]) rfl<|P1 (allOw_26 [r4])<|P2 ((1 : Nat) = 1) rfl<|P2 ([r4].length = 0 + [r4].length) (by simp <;> omega)<|P2 ((0 + [r4].length) * 24 ≤ 70368744177664) (by have := h5; simp at this ⊢ <;> omega)<|P2 (([] : List D) ++ List.map (ow 1 I) [r4] = List.map (ow 1 I) [r4]) (by simp)<|P0) hn)
  (fun h1 H =>
  eN H<|gE func144 [rg [hF 0], r0] (by kernel_rfl) (P2 ((decide (t2 < t1)) = false) (decide_eq_false h1)<|P0))
 | .h2 t0 t1 t2 b3 b4 l5 l6, o, H =>
  eIf H (fun h1 H =>
  eCk H fun h2 H =>
  eBind H fun x3 hx3 H =>
  eBind H fun r4 hr4 H =>
  eCk H fun h5 H =>
  eN H fun r hn => gO [rg [hT 0], rg [hE 1 ((sl 1 I) x3)], rg [hC 3 true [] (Rslices_Clone_int r4) [], { i := 4, post := [.put 5 0 0 4 (List.map (ow 1 I) [r4]), .own 5 1] }, hA 5 ((l6 ++ [r4]).length) (List.map (ow 1 I) (l6 ++ [r4]))], r0, .canon [0, 1, 2, 6] [2, 3, 13, 14, 15]] (by kernel_rfl) (P2 ((decide (t2 < t1)) = true) (decide_eq_true h1)<|P1 h2<|P1 (int_lt_of_at h2 hx3)<|P1 (at_map (sl 1 I) hx3)<|P1 (cslices_Clone_int hr4)<|P2 (getCells [.ref 4 1 none] 0 0 1 = some [.ref 4 1 none]) rfl<|P2 (setCells [.ref 4 1 none] 0 0 [ow 1 I r4] = List.map (ow 1 I) [r4]) rfl<|P1 (allOw_26 [r4])<|P2 ((1 : Nat) = 1) rfl<|P1 (apL l6 [r4])<|P1 (apB h5)<|P1 (apM (ow 1 I) l6 [r4])<|P0) hn)
  (fun h1 H =>
  eN H<|gE func144 [rg [hF 0], r0] (by kernel_rfl) (P2 ((decide (t2 < t1)) = false) (decide_eq_false h1)<|P0))
theorem wi_cloneTable : ∀ s r, loop Bi_cloneTable s = some r → Wc X 144 0 (Ki_cloneTable s) (Zi_cloneTable s) (Ri_cloneTable r) ((fun _ => []) r) := Nx.all (ni_cloneTable)
theorem ci_cloneTable {a0 : Gi_CombatTable} {r : Gi_CombatTable} (H : Di_cloneTable a0 = some r) : Ct X.P X.gl 144 [gi_CombatTable a0] [] (Ri_cloneTable r) [] :=
 Ct.of func144 (c := bdy f144) (by kernel_rfl) (by kernel_rfl) <|
 eBind H fun r1 hr1 H =>
 gO [r0, rg [hC 2 true [] (Rslices_Clone_i_Odds r1) []], r0, .canon [1, 3, 2] [2, 3, 13, 14, 15]] (by kernel_rfl) (P1 (cslices_Clone_i_Odds hr1)<|P0) (wi_cloneTable _ _ H)
def Rslices_Clone_i_Unit (r : List Gi_Unit) : List D := [ow 4 gi_Unit r]
theorem cslices_Clone_i_Unit {l r : List Gi_Unit} (H : Dslices_Clone_i_Unit l = some r) : Ct X.P X.gl 184 [sl 4 gi_Unit l] [] (Rslices_Clone_i_Unit r) [] :=
 eCk H fun h H => eRet (P := fun r => Ct X.P X.gl 184 [sl 4 gi_Unit l] [] (Rslices_Clone_i_Unit r) []) H <|
  Ct.of func184 (c := bdy f184) (by kernel_rfl) (by kernel_rfl)<|by
   by_cases h0 : 0 < l.length
   ·exact gE func184 [r0, rg [{ i := 1, keep := true }], rg [{ i := 2, n := l.length, xs := List.map gi_Unit l }]] (by kernel_rfl) (P1 h0<|P1 (allFl_83 l)<|P2 (l.length = 0 + l.length) (by simp)<|P2 ((0 + l.length) * 32 ≤ 70368744177664) (by simpa using h)<|P2 (([] : List D) ++ List.map gi_Unit l = List.map gi_Unit l) rfl P0)
   ·have e : l = [] := by cases l with | nil => rfl | cons x l => exact absurd (Nat.succ_pos _) h0
    subst e
    refine gO [r0, r0, .stop] (k' := nav 300 2 [] [.code (bdy f184)]) (σ' := ⟨sts 8 [(0, sl 4 gi_Unit []), (2, .nil), (3, sl 4 gi_Unit []), (4, .anyb)], []⟩) (by kernel_rfl) P0 (Wc.anyb 4 (by kernel_rfl) fun b => ?_)
    cases b with
    | true => exact gE func184 [r0] (by kernel_rfl) P0
    | false =>
     have h : ([] : List Gi_Unit).length * 32 ≤ 70368744177664 := by decide
     have : Wc X 184 0 (nav 300 2 [] [.code (bdy f184)]) ⟨sts 8 [(0, sl 4 gi_Unit []), (2, .nil), (3, sl 4 gi_Unit []), (4, .bool false)], []⟩ (Rslices_Clone_i_Unit []) [] := by
      generalize hl : ([] : List Gi_Unit) = l at h ⊢
      exact gE func184 [ rg [{ i := 2, n := l.length, xs := List.map gi_Unit l }]] (by kernel_rfl) ( P1 (allFl_83 l)<|P2 (l.length = 0 + l.length) (by simp)<|P2 ((0 + l.length) * 32 ≤ 70368744177664) (by simpa using h)<|P2 (([] : List D) ++ List.map gi_Unit l = List.map gi_Unit l) rfl P0)
     exact this
def Ri_cloneState (r : Gi_State) : List D := [.agg [I r.Turn, I r.Weather, ow 4 gi_Unit r.Units]]
theorem ci_cloneState {a0 : Gi_State} {r : Gi_State} (H : Di_cloneState a0 = some r) : Ct X.P X.gl 145 [gi_State a0] [] (Ri_cloneState r) [] :=
 Ct.of func145 (c := bdy f145) (by kernel_rfl) (by kernel_rfl) <|
 eBind H fun r1 hr1 H =>
 eW Ri_cloneState (fun _ => []) H<|gE func145 [r0, rg [hC 2 true [] (Rslices_Clone_i_Unit r1) []], r0] (by kernel_rfl) (P1 (cslices_Clone_i_Unit hr1)<|P0)
def Rslices_Clone_i_Goal (r : List Gi_Goal) : List D := [ow 2 gi_Goal r]
theorem cslices_Clone_i_Goal {l r : List Gi_Goal} (H : Dslices_Clone_i_Goal l = some r) : Ct X.P X.gl 146 [sl 2 gi_Goal l] [] (Rslices_Clone_i_Goal r) [] :=
 eCk H fun h H => eRet (P := fun r => Ct X.P X.gl 146 [sl 2 gi_Goal l] [] (Rslices_Clone_i_Goal r) []) H <|
  Ct.of func146 (c := bdy f146) (by kernel_rfl) (by kernel_rfl)<|by
   by_cases h0 : 0 < l.length
   ·exact gE func146 [r0, rg [{ i := 1, keep := true }], rg [{ i := 2, n := l.length, xs := List.map gi_Goal l }]] (by kernel_rfl) (P1 h0<|P1 (allFl_80 l)<|P2 (l.length = 0 + l.length) (by simp)<|P2 ((0 + l.length) * 16 ≤ 70368744177664) (by simpa using h)<|P2 (([] : List D) ++ List.map gi_Goal l = List.map gi_Goal l) rfl P0)
   ·have e : l = [] := by cases l with | nil => rfl | cons x l => exact absurd (Nat.succ_pos _) h0
    subst e
    refine gO [r0, r0, .stop] (k' := nav 300 2 [] [.code (bdy f146)]) (σ' := ⟨sts 8 [(0, sl 2 gi_Goal []), (2, .nil), (3, sl 2 gi_Goal []), (4, .anyb)], []⟩) (by kernel_rfl) P0 (Wc.anyb 4 (by kernel_rfl) fun b => ?_)
    cases b with
    | true => exact gE func146 [r0] (by kernel_rfl) P0
    | false =>
     have h : ([] : List Gi_Goal).length * 16 ≤ 70368744177664 := by decide
     have : Wc X 146 0 (nav 300 2 [] [.code (bdy f146)]) ⟨sts 8 [(0, sl 2 gi_Goal []), (2, .nil), (3, sl 2 gi_Goal []), (4, .bool false)], []⟩ (Rslices_Clone_i_Goal []) [] := by
      generalize hl : ([] : List Gi_Goal) = l at h ⊢
      exact gE func146 [ rg [{ i := 2, n := l.length, xs := List.map gi_Goal l }]] (by kernel_rfl) ( P1 (allFl_80 l)<|P2 (l.length = 0 + l.length) (by simp)<|P2 ((0 + l.length) * 16 ≤ 70368744177664) (by simpa using h)<|P2 (([] : List D) ++ List.map gi_Goal l = List.map gi_Goal l) rfl P0)
     exact this
def Ri_cloneScenario (r : Gi_Scenario) : List D := [.agg [.str r.Name, ow 5 goi_Terrain r.Board.Rules.Terrains, ow 6 gi_Kind r.Board.Rules.Kinds, I r.Board.Rules.Stack, I r.Board.Rules.River, I r.Board.Rules.Road, I r.Board.Rules.Supply, I r.Board.Rules.Turns, I r.Board.Map.Width, I r.Board.Map.Height, ow 1 I r.Board.Map.Terrain, ow 1 I r.Board.Map.Rivers, ow 1 I r.Board.Map.Roads, ow 2 gi_Odds r.Table.Columns, I r.Table.Dice, ow 1 (ow 1 I) r.Table.Results, I r.Start.Turn, I r.Start.Weather, ow 4 gi_Unit r.Start.Units, ow 2 gi_Goal r.Conditions.Goals, I r.Conditions.Step, I r.Conditions.Margin, ow 1 I r.First, ow 1 I r.Other]]
theorem ci_cloneScenario {a0 : Gi_Scenario} {r : Gi_Scenario} (H : Di_cloneScenario a0 = some r) : Ct X.P X.gl 89 [gi_Scenario a0] [] (Ri_cloneScenario r) [] :=
 Ct.of func89 (c := bdy f89) (by kernel_rfl) (by kernel_rfl) <|
 eBind H fun r1 hr1 H =>
 eBind H fun r2 hr2 H =>
 eBind H fun r3 hr3 H =>
 eBind H fun r4 hr4 H =>
 eBind H fun r5 hr5 H =>
 eBind H fun r6 hr6 H =>
 eW Ri_cloneScenario (fun _ => []) H<|gE func89 [r0, rg [hC 2 true [] (Ri_cloneBoard r1) [], hC 5 true [] (Ri_cloneTable r2) [], hC 8 true [] (Ri_cloneState r3) []], rg [hC 3 true [] (Rslices_Clone_i_Goal r4) []], rg [hC 2 true [] (Rslices_Clone_int r5) [], hC 5 true [] (Rslices_Clone_int r6) []], r0] (by kernel_rfl) (P1 (ci_cloneBoard hr1)<|P1 (ci_cloneTable hr2)<|P1 (ci_cloneState hr3)<|P1 (cslices_Clone_i_Goal hr4)<|P1 (cslices_Clone_int hr5)<|P1 (cslices_Clone_int hr6)<|P0)
theorem ci_mirrorIndex {a0 : Gi_Map} {a1 : Int} {r : Int} (H : Di_mirrorIndex a0 a1 = some r) : Ct X.P X.gl 91 [gi_Map a0, I a1] [] (RI r) [] :=
 Ct.of func91 (c := bdy f91) (by kernel_rfl) (by kernel_rfl) <|
 eCk H fun h1 H =>
 eCk H fun h2 H =>
 eW RI (fun _ => []) H<|gE func91 [r0, r0] (by kernel_rfl) (P2 (¬ (a0.Width : Int) = 0) h1<|P2 (¬ (a0.Width : Int) = 0) h2<|P0)
theorem ci_edgeOf {a0 : Gi_Map} {a1 : Int} {a2 : Int} {r : Int} (H : Di_edgeOf a0 a1 a2 = some r) : Ct X.P X.gl 149 [gi_Map a0, I a1, I a2] [] (RI r) [] :=
 Ct.of func149 (c := bdy f149) (by kernel_rfl) (by kernel_rfl) <|
 eBind H fun r1 hr1 H =>
 gS [r0, rg [hC 3 true [] (RI r1) []]] (by kernel_rfl) (P1 (ci_nextTo hr1)<|P0) <|
 eIf H (fun h2 H =>
 eW RI (fun _ => []) H<|gE func149 [rg [hT 1], r0] (by kernel_rfl) (P2 ((decide (r1 < 0)) = true) (decide_eq_true h2)<|P0))
 (fun h2 H =>
 gS [rg [hF 1]] (by kernel_rfl) (P2 ((decide (r1 < 0)) = false) (decide_eq_false h2)<|P0) <|
 eIf H (fun h3 H =>
 eW RI (fun _ => []) H<|gE func149 [rg [hT 1], r0] (by kernel_rfl) (P2 ((decide (a2 < 3)) = true) (decide_eq_true h3)<|P0))
 (fun h3 H =>
 eW RI (fun _ => []) H<|gE func149 [rg [hF 1], r0] (by kernel_rfl) (P2 ((decide (a2 < 3)) = false) (decide_eq_false h3)<|P0)))
def Rslices_Sort_int (r : List Int) : List D := []
def Nslices_Sort_int (r : List Int) : List Root := [⟨false, false, 1, r.length, List.map I r⟩]
theorem cslices_Sort_int {a0 : (List Int)} {r : (List Int)} (H : Dslices_Sort_int a0 = some r) : Ct X.P X.gl 127 [.ref 0 1 none] [⟨false, false, 1, a0.length, List.map I a0⟩] (Rslices_Sort_int r) (Nslices_Sort_int r) :=
 eCk H fun h H => eRet (P := fun r => Ct X.P X.gl 127 [.ref 0 1 none] [⟨false, false, 1, a0.length, List.map I a0⟩] (Rslices_Sort_int r) (Nslices_Sort_int r)) H<|ct_sort (P := X.P) (ρ := lays_n189_ren) lays_n189 ⟨f127, func127, by kernel_rfl, by kernel_rfl⟩ h
def Ri_mirrorMap_1 (r : (List Int)) : List D := [ow 1 I r]
noncomputable def Ki_mirrorMap_1 : Si_mirrorMap_1 → List Item
 | .h1 .. => nav 300 3 [] [.code (bdy f148)]
def Zi_mirrorMap_1 : Si_mirrorMap_1 → St
 | .h1 t0 t1 t2 t3 t4 l5 => ⟨sts 31 [(1, .fptr 5 [.agg [I t0.Width, I t0.Height, sl 1 I t0.Terrain, sl 1 I t0.Rivers, sl 1 I t0.Roads]] 0 0), (2, .fptr 5 [.agg [I t1.Width, I t1.Height, sl 1 I t1.Terrain, sl 1 I t1.Rivers, sl 1 I t1.Roads]] 0 0), (5, .ref 0 1 none), (9, sl 1 I t2), (10, I t3), (11, I t4)], [some ⟨false, false, 1, l5.length, List.map I l5⟩]⟩
abbrev Qi_mirrorMap_1 := Nx X 148 0 Ki_mirrorMap_1 Zi_mirrorMap_1 Ri_mirrorMap_1 (fun _ => [])
theorem ni_mirrorMap_1 : ∀ s o, Bi_mirrorMap_1 s = some o → Qi_mirrorMap_1 (Ki_mirrorMap_1 s) (Zi_mirrorMap_1 s) o
 | .h1 t0 t1 t2 t3 t4 l5, o, H =>
  eIf H (fun h1 H =>
  eCk H fun h2 H =>
  eBind H fun x3 hx3 H =>
  eBind H fun r4 hr4 H =>
  eBind H fun r5 hr5 H =>
  eCk H fun h6 H =>
  eN H fun r hn => gO [rg [hT 0], rg [hE 1 (I x3)], rg [hC 5 true [] (RI r4) [], hC 9 true [] (RI r5) [], hA 11 ((l5 ++ [r5]).length) (List.map I (l5 ++ [r5]))], r0, .canon [2] [1, 2, 5, 9, 10, 11]] (by kernel_rfl) (P2 ((decide (t4 < t3)) = true) (decide_eq_true h1)<|P1 h2<|P1 (int_lt_of_at h2 hx3)<|P1 (at_map I hx3)<|P2 (¬ (3 : Int) = 0) (by decide)<|P1 (ci_mirrorIndex hr4)<|P2 (¬ (3 : Int) = 0) (by decide)<|P1 (ci_edgeOf hr5)<|P1 (apL l5 [r5])<|P1 (apB h6)<|P1 (apM I l5 [r5])<|P0) hn)
  (fun h1 H =>
  eBind H fun r2 hr2 H =>
  eCk H fun h3 H =>
  eN H<|gE func148 [rg [hF 0], rg [hC 1 true [0] (Rslices_Sort_int r2) (Nslices_Sort_int r2)], r0] (by kernel_rfl) (P2 ((decide (t4 < t3)) = false) (decide_eq_false h1)<|P1 h3<|P1 (cslices_Sort_int hr2)<|P0))
theorem wi_mirrorMap_1 : ∀ s r, loop Bi_mirrorMap_1 s = some r → Wc X 148 0 (Ki_mirrorMap_1 s) (Zi_mirrorMap_1 s) (Ri_mirrorMap_1 r) ((fun _ => []) r) := Nx.all (ni_mirrorMap_1)
theorem ci_mirrorMap_1 {a0 : (List Int)} {a1 : Gi_Map} {a2 : Gi_Map} {r : (List Int)} (H : Di_mirrorMap_1 a0 a1 a2 = some r) : Ct X.P X.gl 148 [sl 1 I a0, .fptr 5 [.agg [I a1.Width, I a1.Height, sl 1 I a1.Terrain, sl 1 I a1.Rivers, sl 1 I a1.Roads]] 0 0, .fptr 5 [.agg [I a2.Width, I a2.Height, sl 1 I a2.Terrain, sl 1 I a2.Rivers, sl 1 I a2.Roads]] 0 0] [] (Ri_mirrorMap_1 r) [] :=
 Ct.of func148 (c := bdy f148) (by kernel_rfl) (by kernel_rfl) <|
 gO [r0, r0, r0, .canon [0] [1, 2, 5, 9, 10, 11]] (by kernel_rfl) P0 (wi_mirrorMap_1 _ _ H)
def Ri_mirrorMap (r : Gi_Map) : List D := [.agg [I r.Width, I r.Height, ow 1 I r.Terrain, ow 1 I r.Rivers, ow 1 I r.Roads]]
noncomputable def Ki_mirrorMap : Si_mirrorMap → List Item
 | .h1 .. => nav 300 3 [] [.code (bdy f90)]
def Zi_mirrorMap : Si_mirrorMap → St
 | .h1 t0 t1 t2 b3 b4 b5 b6 b7 l8 => ⟨sts 44 [(1, .ptr 0 5 0 0), (2, .ptr 1 5 0 0), (3, .ptr 2 5 0 0), (17, sl 1 I t0), (18, I t1), (19, I t2)], [some ⟨false, true, 5, 1, [gi_Map b3]⟩, some ⟨false, true, 5, 1, [.agg [I b4, I b5, .nil, .nil, .nil]]⟩, some ⟨false, true, 5, 1, [.agg [I b6, I b7, .ref 3 1 none, .nil, .nil]]⟩, some ⟨false, false, 1, l8.length, List.map I l8⟩]⟩
abbrev Qi_mirrorMap := Nx X 90 0 Ki_mirrorMap Zi_mirrorMap Ri_mirrorMap (fun _ => [])
theorem ni_mirrorMap : ∀ s o, Bi_mirrorMap s = some o → Qi_mirrorMap (Ki_mirrorMap s) (Zi_mirrorMap s) o
 | .h1 t0 t1 t2 b3 b4 b5 b6 b7 l8, o, H =>
  eIf H (fun h1 H =>
  eCk H fun h2 H =>
  eBind H fun x3 hx3 H =>
  eBind H fun r4 hr4 H =>
  eCk H fun h5 H =>
  eBind H fun x6 hx6 H =>
  eN H fun r hn => gO [rg [hT 0], rg [hE 2 (I x3)], rg [hC 4 true [] (RI r4) [], hA 7 ((List.set l8 (Int.toNat r4) x3).length) (List.map I (List.set l8 (Int.toNat r4) x3))], r0, .canon [0, 1, 2, 3] [1, 2, 3, 17, 18, 19]] (by kernel_rfl) (P2 ((decide (t2 < t1)) = true) (decide_eq_true h1)<|P1 h2<|P1 (int_lt_of_at h2 hx3)<|P1 (at_map I hx3)<|P1 (ci_mirrorIndex hr4)<|P1 h5<|P1 (int_lt_of_at h5 hx6)<|P1 (lt_of_at hx6)<|P2 (setCells (List.map I l8) (Int.toNat r4) 0 [I x3] = List.map I (List.set l8 (Int.toNat r4) x3)) (setCells_map hx6 rfl)<|P1 (setLen l8 (Int.toNat r4) x3)<|P0) hn)
  (fun h1 H =>
  eBind H fun r2 hr2 H =>
  eBind H fun r3 hr3 H =>
  eN H<|gE func90 [rg [hF 0], r0, rg [{ i := 3, xtra := [3], call := some { cl := false, ins := [], args := [sl 1 I b3.Rivers, .fptr 5 [.agg [I b6, I b7, sl 1 I l8, sl 1 I [], sl 1 I []]] 0 0, .fptr 5 [.agg [I b3.Width, I b3.Height, sl 1 I b3.Terrain, sl 1 I b3.Rivers, sl 1 I b3.Roads]] 0 0], res := Ri_mirrorMap_1 r2, G' := [] } }, { i := 7, xtra := [3], call := some { cl := false, ins := [], args := [sl 1 I b3.Roads, .fptr 5 [.agg [I b6, I b7, sl 1 I l8, sl 1 I [], sl 1 I []]] 0 0, .fptr 5 [.agg [I b3.Width, I b3.Height, sl 1 I b3.Terrain, sl 1 I b3.Rivers, sl 1 I b3.Roads]] 0 0], res := Ri_mirrorMap_1 r3, G' := [] } }], r0] (by kernel_rfl) (P2 ((decide (t2 < t1)) = false) (decide_eq_false h1)<|PL I b3.Rivers<|PI (0 : Nat)<|PI (0 : Nat)<|PI b6<|PI b7<|PL I l8<|PI (0 : Nat)<|PI ([] : List D)<|PI (0 : Nat)<|PI ([] : List D)<|PI (0 : Nat)<|PI (0 : Nat)<|PI b3.Width<|PI b3.Height<|PL I b3.Terrain<|PL I b3.Rivers<|PL I b3.Roads<|P2 (nfL (List.flatMap D.cells (Ri_mirrorMap_1 r2))) ⟨nfL_map nf_3 _, trivial⟩<|P2 (nfG []) trivial<|P1 (ci_mirrorMap_1 hr2)<|PL I b3.Roads<|PI (0 : Nat)<|PI (0 : Nat)<|PI b6<|PI b7<|PL I l8<|PI (0 : Nat)<|PI ([] : List D)<|PI (0 : Nat)<|PI ([] : List D)<|PI (0 : Nat)<|PI (0 : Nat)<|PI b3.Width<|PI b3.Height<|PL I b3.Terrain<|PL I b3.Rivers<|PL I b3.Roads<|P2 (nfL (List.flatMap D.cells (Ri_mirrorMap_1 r3))) ⟨nfL_map nf_3 _, trivial⟩<|P2 (nfG []) trivial<|P1 (ci_mirrorMap_1 hr3)<|P0))
theorem wi_mirrorMap : ∀ s r, loop Bi_mirrorMap s = some r → Wc X 90 0 (Ki_mirrorMap s) (Zi_mirrorMap s) (Ri_mirrorMap r) ((fun _ => []) r) := Nx.all (ni_mirrorMap)
theorem ci_mirrorMap {a0 : Gi_Map} {r : Gi_Map} (H : Di_mirrorMap a0 = some r) : Ct X.P X.gl 90 [gi_Map a0] [] (Ri_mirrorMap r) [] :=
 Ct.of func90 (c := bdy f90) (by kernel_rfl) (by kernel_rfl) <|
 eCk H fun h1 H =>
 gO [r0, rg [hA 7 ((List.replicate (Int.toNat ((a0.Terrain.length : Nat) : Int)) (0 : Int)).length) (List.map I (List.replicate (Int.toNat ((a0.Terrain.length : Nat) : Int)) (0 : Int)))], r0, .canon [0, 1, 3, 2] [1, 2, 3, 17, 18, 19]] (by kernel_rfl) (PI (((a0.Terrain.length : Nat) : Int) : Int)<|P2 ((0 : Int) ≤ ((a0.Terrain.length : Nat) : Int)) (by omega)<|P2 (Int.toNat ((a0.Terrain.length : Nat) : Int) * 8 ≤ 140737488355328) h1<|P1 (repLen (Int.toNat ((a0.Terrain.length : Nat) : Int)) (0 : Int))<|P1 (repMap I (Int.toNat ((a0.Terrain.length : Nat) : Int)) (0 : Int))<|P0) (wi_mirrorMap _ _ H)
theorem ci_mirrorScenario_1 {a0 : Gi_Goal} {a1 : Gi_Goal} {r : Int} (H : Di_mirrorScenario_1 a0 a1 = some r) : Ct X.P X.gl 93 [gi_Goal a0, gi_Goal a1] [] (RI r) [] :=
 Ct.of func93 (c := bdy f93) (by kernel_rfl) (by kernel_rfl) <|
 eW RI (fun _ => []) H<|gE func93 [r0, r0] (by kernel_rfl) P0
def Rslices_SortFunc_i_Goal_i_mirrorScenario_1 (r : List Gi_Goal) : List D := []
def Nslices_SortFunc_i_Goal_i_mirrorScenario_1 (r : List Gi_Goal) : List Root := [⟨false, false, 2, r.length, List.map gi_Goal r⟩]
theorem cslices_SortFunc_i_Goal_i_mirrorScenario_1 {a0 : (List Gi_Goal)} {r : (List Gi_Goal)} (H : Dslices_SortFunc_i_Goal_i_mirrorScenario_1 a0 = some r) : Ct X.P X.gl 92 [.ref 0 2 none, .fn 93 []] [⟨false, false, 2, a0.length, List.map gi_Goal a0⟩] (Rslices_SortFunc_i_Goal_i_mirrorScenario_1 r) (Nslices_SortFunc_i_Goal_i_mirrorScenario_1 r) :=
 ct_sortF (P := X.P) (ρ := lays_g92_ren) (k := 2) (t := 80) (en := fun x : Gi_Goal => [I x.At, I x.Points]) lays_g92 ⟨f92, func92, by kernel_rfl, by kernel_rfl⟩ ⟨f93, func93, by kernel_rfl, by kernel_rfl⟩ (by kernel_rfl) (by kernel_rfl) (by kernel_rfl) (fun _ => rfl) (fun _ => rfl) (fun _ _ _ h => ci_mirrorScenario_1 h) H
def Ri_mirrorPlaces (r : (List Int)) : List D := [ow 1 I r]
noncomputable def Ki_mirrorPlaces : Si_mirrorPlaces → List Item
 | .h1 .. => nav 300 3 [] [.code (bdy f94)]
def Zi_mirrorPlaces : Si_mirrorPlaces → St
 | .h1 t0 t1 t2 b3 l4 => ⟨sts 25 [(2, .ptr 0 5 0 0), (5, .ref 1 1 none), (9, sl 1 I t0), (10, I t1), (11, I t2)], [some ⟨false, true, 5, 1, [gi_Map b3]⟩, some ⟨false, false, 1, l4.length, List.map I l4⟩]⟩
abbrev Qi_mirrorPlaces := Nx X 94 0 Ki_mirrorPlaces Zi_mirrorPlaces Ri_mirrorPlaces (fun _ => [])
theorem ni_mirrorPlaces : ∀ s o, Bi_mirrorPlaces s = some o → Qi_mirrorPlaces (Ki_mirrorPlaces s) (Zi_mirrorPlaces s) o
 | .h1 t0 t1 t2 b3 l4, o, H =>
  eIf H (fun h1 H =>
  eCk H fun h2 H =>
  eBind H fun x3 hx3 H =>
  eBind H fun r4 hr4 H =>
  eCk H fun h5 H =>
  eN H fun r hn => gO [rg [hT 0], rg [hE 1 (I x3)], rg [hC 3 true [] (RI r4) [], hA 5 ((l4 ++ [r4]).length) (List.map I (l4 ++ [r4]))], r0, .canon [0, 3] [2, 5, 9, 10, 11]] (by kernel_rfl) (P2 ((decide (t2 < t1)) = true) (decide_eq_true h1)<|P1 h2<|P1 (int_lt_of_at h2 hx3)<|P1 (at_map I hx3)<|P1 (ci_mirrorIndex hr4)<|P1 (apL l4 [r4])<|P1 (apB h5)<|P1 (apM I l4 [r4])<|P0) hn)
  (fun h1 H =>
  eBind H fun r2 hr2 H =>
  eCk H fun h3 H =>
  eN H<|gE func94 [rg [hF 0], rg [hC 1 true [1] (Rslices_Sort_int r2) (Nslices_Sort_int r2)], r0] (by kernel_rfl) (P2 ((decide (t2 < t1)) = false) (decide_eq_false h1)<|P1 h3<|P1 (cslices_Sort_int hr2)<|P0))
theorem wi_mirrorPlaces : ∀ s r, loop Bi_mirrorPlaces s = some r → Wc X 94 0 (Ki_mirrorPlaces s) (Zi_mirrorPlaces s) (Ri_mirrorPlaces r) ((fun _ => []) r) := Nx.all (ni_mirrorPlaces)
theorem ci_mirrorPlaces {a0 : Gi_Map} {a1 : (List Int)} {r : (List Int)} (H : Di_mirrorPlaces a0 a1 = some r) : Ct X.P X.gl 94 [gi_Map a0, sl 1 I a1] [] (Ri_mirrorPlaces r) [] :=
 Ct.of func94 (c := bdy f94) (by kernel_rfl) (by kernel_rfl) <|
 gO [r0, r0, r0, .canon [0, 1] [2, 5, 9, 10, 11]] (by kernel_rfl) P0 (wi_mirrorPlaces _ _ H)
def Ri_mirrorScenario (r : Gi_Scenario) : List D := [.agg [.str r.Name, ow 5 goi_Terrain r.Board.Rules.Terrains, ow 6 gi_Kind r.Board.Rules.Kinds, I r.Board.Rules.Stack, I r.Board.Rules.River, I r.Board.Rules.Road, I r.Board.Rules.Supply, I r.Board.Rules.Turns, I r.Board.Map.Width, I r.Board.Map.Height, ow 1 I r.Board.Map.Terrain, ow 1 I r.Board.Map.Rivers, ow 1 I r.Board.Map.Roads, ow 2 gi_Odds r.Table.Columns, I r.Table.Dice, ow 1 (ow 1 I) r.Table.Results, I r.Start.Turn, I r.Start.Weather, ow 4 gi_Unit r.Start.Units, ow 2 gi_Goal r.Conditions.Goals, I r.Conditions.Step, I r.Conditions.Margin, ow 1 I r.First, ow 1 I r.Other]]
noncomputable def Ki_mirrorScenario : Si_mirrorScenario → List Item
 | .h1 .. => nav 300 4 [] [.code (bdy f45)]
 | .h2 .. => nav 300 6 [false] [.code (bdy f45)]
def Zi_mirrorScenario : Si_mirrorScenario → St
 | .h1 t0 t1 t2 b3 b4 b5 b6 b7 b8 b9 b10 b11 b12 b13 b14 b15 b16 b17 b18 b19 b20 b21 b22 b23 b24 b25 b26 b27 b28 b29 l30 l31 l32 l33 l34 l35 l36 l37 l38 l39 l40 => ⟨sts 82 [(1, .ptr 0 24 0 0), (2, .ptr 1 24 0 0), (3, .ptr 2 24 0 0), (18, sl 4 gi_Unit t0), (19, I t1), (20, I t2)], [some ⟨false, true, 24, 1, [gi_Scenario b3]⟩, some ⟨false, true, 24, 1, [.agg [.str b4, .nil, .nil, I b5, I b6, I b7, I b8, I b9, I b10, I b11, .nil, .nil, .nil, .nil, I b12, .nil, I b13, I b14, .nil, .nil, I b15, I b16, .nil, .nil]]⟩, some ⟨false, true, 24, 1, [.agg [.str b17, .ref 3 5 none, .ref 4 6 none, I b18, I b19, I b20, I b21, I b22, I b23, I b24, .ref 5 1 none, .ref 6 1 none, .ref 7 1 none, .ref 8 2 none, I b25, .ref 9 1 none, I b26, I b27, .ref 10 4 none, .ref 11 2 none, I b28, I b29, .ref 12 1 none, .ref 13 1 none]]⟩, some ⟨false, false, 5, l30.length, List.map goi_Terrain l30⟩, some ⟨false, false, 6, l31.length, List.map gi_Kind l31⟩, some ⟨false, false, 1, l32.length, List.map I l32⟩, some ⟨false, false, 1, l33.length, List.map I l33⟩, some ⟨false, false, 1, l34.length, List.map I l34⟩, some ⟨false, false, 2, l35.length, List.map gi_Odds l35⟩, some ⟨false, false, 1, l36.length, List.map (ow 1 I) l36⟩, some ⟨false, false, 4, l37.length, List.map gi_Unit l37⟩, some ⟨false, false, 2, l38.length, List.map gi_Goal l38⟩, some ⟨false, false, 1, l39.length, List.map I l39⟩, some ⟨false, false, 1, l40.length, List.map I l40⟩]⟩
 | .h2 t0 t1 t2 b3 b4 b5 b6 b7 b8 b9 b10 b11 b12 b13 b14 b15 b16 b17 b18 b19 b20 b21 b22 b23 b24 b25 b26 b27 b28 b29 l30 l31 l32 l33 l34 l35 l36 l37 l38 l39 l40 => ⟨sts 82 [(1, .ptr 0 24 0 0), (2, .ptr 1 24 0 0), (3, .ptr 2 24 0 0), (43, sl 2 gi_Goal t0), (44, I t1), (45, I t2)], [some ⟨false, true, 24, 1, [gi_Scenario b3]⟩, some ⟨false, true, 24, 1, [.agg [.str b4, .nil, .nil, I b5, I b6, I b7, I b8, I b9, I b10, I b11, .nil, .nil, .nil, .nil, I b12, .nil, I b13, I b14, .nil, .nil, I b15, I b16, .nil, .nil]]⟩, some ⟨false, true, 24, 1, [.agg [.str b17, .ref 3 5 none, .ref 4 6 none, I b18, I b19, I b20, I b21, I b22, I b23, I b24, .ref 5 1 none, .ref 6 1 none, .ref 7 1 none, .ref 8 2 none, I b25, .ref 9 1 none, I b26, I b27, .ref 10 4 none, .ref 11 2 none, I b28, I b29, .ref 12 1 none, .ref 13 1 none]]⟩, some ⟨false, false, 5, l30.length, List.map goi_Terrain l30⟩, some ⟨false, false, 6, l31.length, List.map gi_Kind l31⟩, some ⟨false, false, 1, l32.length, List.map I l32⟩, some ⟨false, false, 1, l33.length, List.map I l33⟩, some ⟨false, false, 1, l34.length, List.map I l34⟩, some ⟨false, false, 2, l35.length, List.map gi_Odds l35⟩, some ⟨false, false, 1, l36.length, List.map (ow 1 I) l36⟩, some ⟨false, false, 4, l37.length, List.map gi_Unit l37⟩, some ⟨false, false, 2, l38.length, List.map gi_Goal l38⟩, some ⟨false, false, 1, l39.length, List.map I l39⟩, some ⟨false, false, 1, l40.length, List.map I l40⟩]⟩
abbrev Qi_mirrorScenario := Nx X 45 0 Ki_mirrorScenario Zi_mirrorScenario Ri_mirrorScenario (fun _ => [])
theorem ni_mirrorScenario : ∀ s o, Bi_mirrorScenario s = some o → Qi_mirrorScenario (Ki_mirrorScenario s) (Zi_mirrorScenario s) o
 | .h1 t0 t1 t2 b3 b4 b5 b6 b7 b8 b9 b10 b11 b12 b13 b14 b15 b16 b17 b18 b19 b20 b21 b22 b23 b24 b25 b26 b27 b28 b29 l30 l31 l32 l33 l34 l35 l36 l37 l38 l39 l40, o, H =>
  eIf H (fun h1 H =>
  eCk H fun h2 H =>
  eBind H fun x3 hx3 H =>
  gN [rg [hT 0], rg [hE 2 (gi_Unit x3)]] (by kernel_rfl) (P2 ((decide (t2 < t1)) = true) (decide_eq_true h1)<|P1 h2<|P1 (int_lt_of_at h2 hx3)<|P1 (at_map gi_Unit hx3)<|P0) <|
  eIf H (fun h4 H =>
  eBind H fun r5 hr5 H =>
  eCk H fun h6 H =>
  eBind H fun x7 hx7 H =>
  eN H fun r hn => gO [rg [hT 2], rg [hC 9 true [] (RI r5) [], hA 12 ((List.set l37 (Int.toNat t2) (Gi_Unit.mk x7.Side x7.Kind r5 x7.Steps)).length) (List.map gi_Unit (List.set l37 (Int.toNat t2) (Gi_Unit.mk x7.Side x7.Kind r5 x7.Steps)))], r0, .canon [0, 1, 2, 3, 4, 5, 6, 7, 8, 9, 10, 11, 12, 13] [1, 2, 3, 18, 19, 20]] (by kernel_rfl) (P2 ((decide (x3.At ≥ 0)) = true) (decide_eq_true h4)<|P1 (ci_mirrorIndex hr5)<|P1 h6<|P1 (int_lt_of_at h6 hx7)<|P1 (lt_of_at hx7)<|P2 (setCells (List.map gi_Unit l37) (Int.toNat t2) 2 [I r5] = List.map gi_Unit (List.set l37 (Int.toNat t2) (Gi_Unit.mk x7.Side x7.Kind r5 x7.Steps))) (setCells_map hx7 rfl)<|P1 (setLen l37 (Int.toNat t2) (Gi_Unit.mk x7.Side x7.Kind r5 x7.Steps))<|P0) hn)
  (fun h4 H =>
  eN H fun r hn => gO [rg [hF 2], r0, .canon [0, 1, 2, 3, 4, 5, 6, 7, 8, 9, 10, 11, 12, 13] [1, 2, 3, 18, 19, 20]] (by kernel_rfl) (P2 ((decide (x3.At ≥ 0)) = false) (decide_eq_false h4)<|P0) hn))
  (fun h1 H =>
  eN H fun r hn => gO [rg [hF 0], r0, .canon [0, 1, 2, 3, 4, 5, 6, 7, 8, 9, 10, 11, 12, 13] [1, 2, 3, 43, 44, 45]] (by kernel_rfl) (P2 ((decide (t2 < t1)) = false) (decide_eq_false h1)<|P0) hn)
 | .h2 t0 t1 t2 b3 b4 b5 b6 b7 b8 b9 b10 b11 b12 b13 b14 b15 b16 b17 b18 b19 b20 b21 b22 b23 b24 b25 b26 b27 b28 b29 l30 l31 l32 l33 l34 l35 l36 l37 l38 l39 l40, o, H =>
  eIf H (fun h1 H =>
  eCk H fun h2 H =>
  eBind H fun x3 hx3 H =>
  eBind H fun r4 hr4 H =>
  eCk H fun h5 H =>
  eBind H fun x6 hx6 H =>
  eN H fun r hn => gO [rg [hT 0], rg [hE 2 (gi_Goal x3)], rg [hC 9 true [] (RI r4) [], hA 12 ((List.set l38 (Int.toNat t2) (Gi_Goal.mk r4 x6.Points)).length) (List.map gi_Goal (List.set l38 (Int.toNat t2) (Gi_Goal.mk r4 x6.Points)))], r0, .canon [0, 1, 2, 3, 4, 5, 6, 7, 8, 9, 10, 11, 12, 13] [1, 2, 3, 43, 44, 45]] (by kernel_rfl) (P2 ((decide (t2 < t1)) = true) (decide_eq_true h1)<|P1 h2<|P1 (int_lt_of_at h2 hx3)<|P1 (at_map gi_Goal hx3)<|P1 (ci_mirrorIndex hr4)<|P1 h5<|P1 (int_lt_of_at h5 hx6)<|P1 (lt_of_at hx6)<|P2 (setCells (List.map gi_Goal l38) (Int.toNat t2) 0 [I r4] = List.map gi_Goal (List.set l38 (Int.toNat t2) (Gi_Goal.mk r4 x6.Points))) (setCells_map hx6 rfl)<|P1 (setLen l38 (Int.toNat t2) (Gi_Goal.mk r4 x6.Points))<|P0) hn)
  (fun h1 H =>
  eBind H fun r2 hr2 H =>
  eCk H fun h3 H =>
  eBind H fun r4 hr4 H =>
  eBind H fun r5 hr5 H =>
  eN H<|gE func45 [rg [hF 0], rg [hC 3 true [11] (Rslices_SortFunc_i_Goal_i_mirrorScenario_1 r2) (Nslices_SortFunc_i_Goal_i_mirrorScenario_1 r2)], rg [hC 5 true [] (Ri_mirrorPlaces r4) [], hC 11 true [] (Ri_mirrorPlaces r5) []], r0] (by kernel_rfl) (P2 ((decide (t2 < t1)) = false) (decide_eq_false h1)<|P1 h3<|P1 (cslices_SortFunc_i_Goal_i_mirrorScenario_1 hr2)<|P1 (ci_mirrorPlaces hr4)<|P1 (ci_mirrorPlaces hr5)<|P0))
theorem wi_mirrorScenario : ∀ s r, loop Bi_mirrorScenario s = some r → Wc X 45 0 (Ki_mirrorScenario s) (Zi_mirrorScenario s) (Ri_mirrorScenario r) ((fun _ => []) r) := Nx.all (ni_mirrorScenario)
theorem ci_mirrorScenario {a0 : Gi_Scenario} {r : Gi_Scenario} (H : Di_mirrorScenario a0 = some r) : Ct X.P X.gl 45 [gi_Scenario a0] [] (Ri_mirrorScenario r) [] :=
 Ct.of func45 (c := bdy f45) (by kernel_rfl) (by kernel_rfl) <|
 eBind H fun r1 hr1 H =>
 eBind H fun r2 hr2 H =>
 gO [r0, rg [hC 1 true [] (Ri_cloneScenario r1) []], rg [hC 3 true [] (Ri_mirrorMap r2) []], r0, .canon [0, 1, 26, 3, 4, 29, 30, 31, 15, 17, 20, 21, 24, 25] [1, 2, 3, 18, 19, 20]] (by kernel_rfl) (P1 (ci_cloneScenario hr1)<|P1 (ci_mirrorMap hr2)<|P0) (wi_mirrorScenario _ _ H)
def Ri_MirrorScenario (r : Gi_Scenario × Bool) : List D := [.agg [.str r.1.Name, ow 5 goi_Terrain r.1.Board.Rules.Terrains, ow 6 gi_Kind r.1.Board.Rules.Kinds, I r.1.Board.Rules.Stack, I r.1.Board.Rules.River, I r.1.Board.Rules.Road, I r.1.Board.Rules.Supply, I r.1.Board.Rules.Turns, I r.1.Board.Map.Width, I r.1.Board.Map.Height, ow 1 I r.1.Board.Map.Terrain, ow 1 I r.1.Board.Map.Rivers, ow 1 I r.1.Board.Map.Roads, ow 2 gi_Odds r.1.Table.Columns, I r.1.Table.Dice, ow 1 (ow 1 I) r.1.Table.Results, I r.1.Start.Turn, I r.1.Start.Weather, ow 4 gi_Unit r.1.Start.Units, ow 2 gi_Goal r.1.Conditions.Goals, I r.1.Conditions.Step, I r.1.Conditions.Margin, ow 1 I r.1.First, ow 1 I r.1.Other], .bool r.2]
theorem ci_MirrorScenario {a0 : Gi_Scenario} {r : Gi_Scenario × Bool} (H : Di_MirrorScenario a0 = some r) : Ct X.P X.gl 15 [gi_Scenario a0] [] (Ri_MirrorScenario r) [] :=
 Ct.of func15 (c := bdy f15) (by kernel_rfl) (by kernel_rfl) <|
 eBind H fun r1 hr1 H =>
 gS [r0] (by kernel_rfl) P0 <|
 eIf H (fun h2 H =>
 eBind H fun r3 hr3 H =>
 eW Ri_MirrorScenario (fun _ => []) H<|gE func15 [rg [{ i := 1, call := some { cl := true, auto := true, ins := [], res := (RB r1), G' := [] }, dec := some true }], rg [hC 1 true [] (Ri_mirrorScenario r3) []]] (by kernel_rfl) (P1 (ci_IsScenario hr1)<|P2 (r1 = true) (h2)<|P1 (ci_mirrorScenario hr3)<|P0))
 (fun h2 H =>
 eW Ri_MirrorScenario (fun _ => []) H<|gE func15 [rg [{ i := 1, call := some { cl := true, auto := true, ins := [], res := (RB r1), G' := [] }, dec := some false }], r0] (by kernel_rfl) (P1 (ci_IsScenario hr1)<|P2 (r1 = false) (eqF h2)<|P0))
noncomputable def Kw_eqIntS : Sw_eqIntS → List Item
 | .h1 .. => nav 300 3 [false] [.code (bdy f9)]
def Zw_eqIntS : Sw_eqIntS → St
 | .h1 va0 b1 i2 => ⟨sts 26 [(0, sl 1 I va0), (1, sl 1 I b1), (5, I i2)], []⟩
abbrev Qw_eqIntS := Nx X 9 0 Kw_eqIntS Zw_eqIntS RB (fun _ => [])
theorem nw_eqIntS : ∀ s o, Bw_eqIntS s = some o → Qw_eqIntS (Kw_eqIntS s) (Zw_eqIntS s) o
 | .h1 va0 b1 i2, o, H =>
  eIf H (fun h1 H =>
  eCk H fun h2 H =>
  eBind H fun x3 hx3 H =>
  eCk H fun h4 H =>
  eBind H fun x5 hx5 H =>
  gN [rg [hT 3]] (by kernel_rfl) (P2 ((decide (i2 < ((va0.length : Nat) : Int))) = true) (decide_eq_true h1)<|P0) <|
  eIf H (fun h6 H =>
  eN H fun r hn => gO [rg [hE 3 (I x3), hE 7 (I x5), hF 8], r0, .canon [] [0, 1, 5]] (by kernel_rfl) (P1 h2<|P1 (int_lt_of_at h2 hx3)<|P1 (at_map I hx3)<|P1 h4<|P1 (int_lt_of_at h4 hx5)<|P1 (at_map I hx5)<|P2 (((x3 : Int) != x5) = false) (bneF h6)<|P0) hn)
  (fun h6 H =>
  eN H<|gE func9 [rg [hE 3 (I x3), hE 7 (I x5), hT 8], r0] (by kernel_rfl) (P1 h2<|P1 (int_lt_of_at h2 hx3)<|P1 (at_map I hx3)<|P1 h4<|P1 (int_lt_of_at h4 hx5)<|P1 (at_map I hx5)<|P2 (((x3 : Int) != x5) = true) (bneT h6)<|P0)))
  (fun h1 H =>
  eN H<|gE func9 [rg [hF 3], r0] (by kernel_rfl) (P2 ((decide (i2 < ((va0.length : Nat) : Int))) = false) (decide_eq_false h1)<|P0))
theorem ww_eqIntS : ∀ s r, loop Bw_eqIntS s = some r → Wc X 9 0 (Kw_eqIntS s) (Zw_eqIntS s) (RB r) ((fun _ => []) r) := Nx.all (nw_eqIntS)
theorem cw_eqIntS {a0 : (List Int)} {a1 : (List Int)} {r : Bool} (H : Dw_eqIntS a0 a1 = some r) : Ct X.P X.gl 9 [sl 1 I a0, sl 1 I a1] [] (RB r) [] :=
 Ct.of func9 (c := bdy f9) (by kernel_rfl) (by kernel_rfl) <|
 gS [r0] (by kernel_rfl) P0 <|
 eIf H (fun h1 H =>
 gO [rg [hF 4], r0, .canon [] [0, 1, 5]] (by kernel_rfl) (P2 (((((a0.length : Nat) : Int) : Int) != ((a1.length : Nat) : Int)) = false) (bneF h1)<|P0) (ww_eqIntS _ _ H))
 (fun h1 H =>
 eW RB (fun _ => []) H<|gE func9 [rg [hT 4], r0] (by kernel_rfl) (P2 (((((a0.length : Nat) : Int) : Int) != ((a1.length : Nat) : Int)) = true) (bneT h1)<|P0))
theorem cw_eqTerrain {a0 : Gi_Terrain} {a1 : Gi_Terrain} {r : Bool} (H : Dw_eqTerrain a0 a1 = some r) : Ct X.P X.gl 177 [gi_Terrain a0, gi_Terrain a1] [] (RB r) [] :=
 Ct.of func177 (c := bdy f177) (by kernel_rfl) (by kernel_rfl) <|
 gS [r0] (by kernel_rfl) P0 <|
 eIf H (fun h1 H =>
 eBind H fun r2 hr2 H =>
 gS [rg [hF 4]] (by kernel_rfl) (P2 ((!(a0.Name == a1.Name)) = false) (nbeqF h1)<|P0) <|
 eIf H (fun h3 H =>
 gS [rg [{ i := 4, call := some { cl := true, auto := true, ins := [], res := (RB r2), G' := [] }, dec := some true }]] (by kernel_rfl) (P1 (cw_eqIntS hr2)<|P2 (r2 = true) (h3)<|P0) <|
 eIf H (fun h4 H =>
 gS [rg [hF 4]] (by kernel_rfl) (P2 (((a0.Shift : Int) != a1.Shift) = false) (bneF h4)<|P0) <|
 eIf H (fun h5 H =>
 gS [rg [hF 4]] (by kernel_rfl) (P2 (((a0.Height : Int) != a1.Height) = false) (bneF h5)<|P0) <|
 eIf H (fun h6 H =>
 eW RB (fun _ => []) H<|gE func177 [rg [hT 4], r0] (by kernel_rfl) (P2 ((!(a0.Blocks == a1.Blocks)) = true) (h6)<|P0))
 (fun h6 H =>
 eW RB (fun _ => []) H<|gE func177 [rg [hF 4], r0] (by kernel_rfl) (P2 ((!(a0.Blocks == a1.Blocks)) = false) (eqF h6)<|P0)))
 (fun h5 H =>
 eW RB (fun _ => []) H<|gE func177 [rg [hT 4], r0] (by kernel_rfl) (P2 (((a0.Height : Int) != a1.Height) = true) (bneT h5)<|P0)))
 (fun h4 H =>
 eW RB (fun _ => []) H<|gE func177 [rg [hT 4], r0] (by kernel_rfl) (P2 (((a0.Shift : Int) != a1.Shift) = true) (bneT h4)<|P0)))
 (fun h3 H =>
 eW RB (fun _ => []) H<|gE func177 [rg [{ i := 4, call := some { cl := true, auto := true, ins := [], res := (RB r2), G' := [] }, dec := some false }], r0] (by kernel_rfl) (P1 (cw_eqIntS hr2)<|P2 (r2 = false) (eqF h3)<|P0)))
 (fun h1 H =>
 eW RB (fun _ => []) H<|gE func177 [rg [hT 4], r0] (by kernel_rfl) (P2 ((!(a0.Name == a1.Name)) = true) (nbeqT h1)<|P0))
noncomputable def Kw_eqTerrainS : Sw_eqTerrainS → List Item
 | .h1 .. => nav 300 3 [false] [.code (bdy f129)]
def Zw_eqTerrainS : Sw_eqTerrainS → St
 | .h1 va0 b1 i2 => ⟨sts 27 [(0, sl 5 gi_Terrain va0), (1, sl 5 gi_Terrain b1), (5, I i2)], []⟩
abbrev Qw_eqTerrainS := Nx X 129 0 Kw_eqTerrainS Zw_eqTerrainS RB (fun _ => [])
theorem nw_eqTerrainS : ∀ s o, Bw_eqTerrainS s = some o → Qw_eqTerrainS (Kw_eqTerrainS s) (Zw_eqTerrainS s) o
 | .h1 va0 b1 i2, o, H =>
  eIf H (fun h1 H =>
  eCk H fun h2 H =>
  eBind H fun x3 hx3 H =>
  eCk H fun h4 H =>
  eBind H fun x5 hx5 H =>
  eBind H fun r6 hr6 H =>
  gN [rg [hT 3]] (by kernel_rfl) (P2 ((decide (i2 < ((va0.length : Nat) : Int))) = true) (decide_eq_true h1)<|P0) <|
  eIf H (fun h7 H =>
  eN H fun r hn => gO [rg [hE 3 (gi_Terrain x3), hE 7 (gi_Terrain x5), { i := 8, call := some { cl := true, auto := true, ins := [], res := (RB r6), G' := [] }, dec := some true }], r0, .canon [] [0, 1, 5]] (by kernel_rfl) (P1 h2<|P1 (int_lt_of_at h2 hx3)<|P1 (at_map gi_Terrain hx3)<|P1 h4<|P1 (int_lt_of_at h4 hx5)<|P1 (at_map gi_Terrain hx5)<|P1 (cw_eqTerrain hr6)<|P2 (r6 = true) (h7)<|P0) hn)
  (fun h7 H =>
  eN H<|gE func129 [rg [hE 3 (gi_Terrain x3), hE 7 (gi_Terrain x5), { i := 8, call := some { cl := true, auto := true, ins := [], res := (RB r6), G' := [] }, dec := some false }], r0] (by kernel_rfl) (P1 h2<|P1 (int_lt_of_at h2 hx3)<|P1 (at_map gi_Terrain hx3)<|P1 h4<|P1 (int_lt_of_at h4 hx5)<|P1 (at_map gi_Terrain hx5)<|P1 (cw_eqTerrain hr6)<|P2 (r6 = false) (eqF h7)<|P0)))
  (fun h1 H =>
  eN H<|gE func129 [rg [hF 3], r0] (by kernel_rfl) (P2 ((decide (i2 < ((va0.length : Nat) : Int))) = false) (decide_eq_false h1)<|P0))
theorem ww_eqTerrainS : ∀ s r, loop Bw_eqTerrainS s = some r → Wc X 129 0 (Kw_eqTerrainS s) (Zw_eqTerrainS s) (RB r) ((fun _ => []) r) := Nx.all (nw_eqTerrainS)
theorem cw_eqTerrainS {a0 : (List Gi_Terrain)} {a1 : (List Gi_Terrain)} {r : Bool} (H : Dw_eqTerrainS a0 a1 = some r) : Ct X.P X.gl 129 [sl 5 gi_Terrain a0, sl 5 gi_Terrain a1] [] (RB r) [] :=
 Ct.of func129 (c := bdy f129) (by kernel_rfl) (by kernel_rfl) <|
 gS [r0] (by kernel_rfl) P0 <|
 eIf H (fun h1 H =>
 gO [rg [hF 4], r0, .canon [] [0, 1, 5]] (by kernel_rfl) (P2 (((((a0.length : Nat) : Int) : Int) != ((a1.length : Nat) : Int)) = false) (bneF h1)<|P0) (ww_eqTerrainS _ _ H))
 (fun h1 H =>
 eW RB (fun _ => []) H<|gE func129 [rg [hT 4], r0] (by kernel_rfl) (P2 (((((a0.length : Nat) : Int) : Int) != ((a1.length : Nat) : Int)) = true) (bneT h1)<|P0))
theorem cw_eqKind {a0 : Gi_Kind} {a1 : Gi_Kind} {r : Bool} (H : Dw_eqKind a0 a1 = some r) : Ct X.P X.gl 178 [gi_Kind a0, gi_Kind a1] [] (RB r) [] :=
 Ct.of func178 (c := bdy f178) (by kernel_rfl) (by kernel_rfl) <|
 gS [r0] (by kernel_rfl) P0 <|
 eIf H (fun h1 H =>
 gS [rg [hF 4]] (by kernel_rfl) (P2 ((!(a0.Name == a1.Name)) = false) (nbeqF h1)<|P0) <|
 eIf H (fun h2 H =>
 gS [rg [hF 4]] (by kernel_rfl) (P2 (((a0.Strength : Int) != a1.Strength) = false) (bneF h2)<|P0) <|
 eIf H (fun h3 H =>
 gS [rg [hF 4]] (by kernel_rfl) (P2 (((a0.Moves : Int) != a1.Moves) = false) (bneF h3)<|P0) <|
 eIf H (fun h4 H =>
 gS [rg [hF 4]] (by kernel_rfl) (P2 (((a0.Steps : Int) != a1.Steps) = false) (bneF h4)<|P0) <|
 eIf H (fun h5 H =>
 eW RB (fun _ => []) H<|gE func178 [rg [hT 4], r0] (by kernel_rfl) (P2 ((!(a0.Zone == a1.Zone)) = true) (h5)<|P0))
 (fun h5 H =>
 gS [rg [hF 4]] (by kernel_rfl) (P2 ((!(a0.Zone == a1.Zone)) = false) (eqF h5)<|P0) <|
 eIf H (fun h6 H =>
 eW RB (fun _ => []) H<|gE func178 [rg [hF 4], r0] (by kernel_rfl) (P2 (((a0.View : Int) != a1.View) = false) (bneF h6)<|P0))
 (fun h6 H =>
 eW RB (fun _ => []) H<|gE func178 [rg [hT 4], r0] (by kernel_rfl) (P2 (((a0.View : Int) != a1.View) = true) (bneT h6)<|P0))))
 (fun h4 H =>
 eW RB (fun _ => []) H<|gE func178 [rg [hT 4], r0] (by kernel_rfl) (P2 (((a0.Steps : Int) != a1.Steps) = true) (bneT h4)<|P0)))
 (fun h3 H =>
 eW RB (fun _ => []) H<|gE func178 [rg [hT 4], r0] (by kernel_rfl) (P2 (((a0.Moves : Int) != a1.Moves) = true) (bneT h3)<|P0)))
 (fun h2 H =>
 eW RB (fun _ => []) H<|gE func178 [rg [hT 4], r0] (by kernel_rfl) (P2 (((a0.Strength : Int) != a1.Strength) = true) (bneT h2)<|P0)))
 (fun h1 H =>
 eW RB (fun _ => []) H<|gE func178 [rg [hT 4], r0] (by kernel_rfl) (P2 ((!(a0.Name == a1.Name)) = true) (nbeqT h1)<|P0))
noncomputable def Kw_eqKindS : Sw_eqKindS → List Item
 | .h1 .. => nav 300 3 [false] [.code (bdy f130)]
def Zw_eqKindS : Sw_eqKindS → St
 | .h1 va0 b1 i2 => ⟨sts 27 [(0, sl 6 gi_Kind va0), (1, sl 6 gi_Kind b1), (5, I i2)], []⟩
abbrev Qw_eqKindS := Nx X 130 0 Kw_eqKindS Zw_eqKindS RB (fun _ => [])
theorem nw_eqKindS : ∀ s o, Bw_eqKindS s = some o → Qw_eqKindS (Kw_eqKindS s) (Zw_eqKindS s) o
 | .h1 va0 b1 i2, o, H =>
  eIf H (fun h1 H =>
  eCk H fun h2 H =>
  eBind H fun x3 hx3 H =>
  eCk H fun h4 H =>
  eBind H fun x5 hx5 H =>
  eBind H fun r6 hr6 H =>
  gN [rg [hT 3]] (by kernel_rfl) (P2 ((decide (i2 < ((va0.length : Nat) : Int))) = true) (decide_eq_true h1)<|P0) <|
  eIf H (fun h7 H =>
  eN H fun r hn => gO [rg [hE 3 (gi_Kind x3), hE 7 (gi_Kind x5), { i := 8, call := some { cl := true, auto := true, ins := [], res := (RB r6), G' := [] }, dec := some true }], r0, .canon [] [0, 1, 5]] (by kernel_rfl) (P1 h2<|P1 (int_lt_of_at h2 hx3)<|P1 (at_map gi_Kind hx3)<|P1 h4<|P1 (int_lt_of_at h4 hx5)<|P1 (at_map gi_Kind hx5)<|P1 (cw_eqKind hr6)<|P2 (r6 = true) (h7)<|P0) hn)
  (fun h7 H =>
  eN H<|gE func130 [rg [hE 3 (gi_Kind x3), hE 7 (gi_Kind x5), { i := 8, call := some { cl := true, auto := true, ins := [], res := (RB r6), G' := [] }, dec := some false }], r0] (by kernel_rfl) (P1 h2<|P1 (int_lt_of_at h2 hx3)<|P1 (at_map gi_Kind hx3)<|P1 h4<|P1 (int_lt_of_at h4 hx5)<|P1 (at_map gi_Kind hx5)<|P1 (cw_eqKind hr6)<|P2 (r6 = false) (eqF h7)<|P0)))
  (fun h1 H =>
  eN H<|gE func130 [rg [hF 3], r0] (by kernel_rfl) (P2 ((decide (i2 < ((va0.length : Nat) : Int))) = false) (decide_eq_false h1)<|P0))
theorem ww_eqKindS : ∀ s r, loop Bw_eqKindS s = some r → Wc X 130 0 (Kw_eqKindS s) (Zw_eqKindS s) (RB r) ((fun _ => []) r) := Nx.all (nw_eqKindS)
theorem cw_eqKindS {a0 : (List Gi_Kind)} {a1 : (List Gi_Kind)} {r : Bool} (H : Dw_eqKindS a0 a1 = some r) : Ct X.P X.gl 130 [sl 6 gi_Kind a0, sl 6 gi_Kind a1] [] (RB r) [] :=
 Ct.of func130 (c := bdy f130) (by kernel_rfl) (by kernel_rfl) <|
 gS [r0] (by kernel_rfl) P0 <|
 eIf H (fun h1 H =>
 gO [rg [hF 4], r0, .canon [] [0, 1, 5]] (by kernel_rfl) (P2 (((((a0.length : Nat) : Int) : Int) != ((a1.length : Nat) : Int)) = false) (bneF h1)<|P0) (ww_eqKindS _ _ H))
 (fun h1 H =>
 eW RB (fun _ => []) H<|gE func130 [rg [hT 4], r0] (by kernel_rfl) (P2 (((((a0.length : Nat) : Int) : Int) != ((a1.length : Nat) : Int)) = true) (bneT h1)<|P0))
theorem cw_eqRules {a0 : Gi_Rules} {a1 : Gi_Rules} {r : Bool} (H : Dw_eqRules a0 a1 = some r) : Ct X.P X.gl 73 [gi_Rules a0, gi_Rules a1] [] (RB r) [] :=
 Ct.of func73 (c := bdy f73) (by kernel_rfl) (by kernel_rfl) <|
 eBind H fun r1 hr1 H =>
 gS [r0] (by kernel_rfl) P0 <|
 eIf H (fun h2 H =>
 eBind H fun r3 hr3 H =>
 gS [rg [{ i := 4, call := some { cl := true, auto := true, ins := [], res := (RB r1), G' := [] }, dec := some true }]] (by kernel_rfl) (P1 (cw_eqTerrainS hr1)<|P2 (r1 = true) (h2)<|P0) <|
 eIf H (fun h4 H =>
 gS [rg [{ i := 4, call := some { cl := true, auto := true, ins := [], res := (RB r3), G' := [] }, dec := some true }]] (by kernel_rfl) (P1 (cw_eqKindS hr3)<|P2 (r3 = true) (h4)<|P0) <|
 eIf H (fun h5 H =>
 gS [rg [hF 4]] (by kernel_rfl) (P2 (((a0.Stack : Int) != a1.Stack) = false) (bneF h5)<|P0) <|
 eIf H (fun h6 H =>
 gS [rg [hF 4]] (by kernel_rfl) (P2 (((a0.River : Int) != a1.River) = false) (bneF h6)<|P0) <|
 eIf H (fun h7 H =>
 gS [rg [hF 4]] (by kernel_rfl) (P2 (((a0.Road : Int) != a1.Road) = false) (bneF h7)<|P0) <|
 eIf H (fun h8 H =>
 gS [rg [hF 4]] (by kernel_rfl) (P2 (((a0.Supply : Int) != a1.Supply) = false) (bneF h8)<|P0) <|
 eIf H (fun h9 H =>
 eW RB (fun _ => []) H<|gE func73 [rg [hF 4], r0] (by kernel_rfl) (P2 (((a0.Turns : Int) != a1.Turns) = false) (bneF h9)<|P0))
 (fun h9 H =>
 eW RB (fun _ => []) H<|gE func73 [rg [hT 4], r0] (by kernel_rfl) (P2 (((a0.Turns : Int) != a1.Turns) = true) (bneT h9)<|P0)))
 (fun h8 H =>
 eW RB (fun _ => []) H<|gE func73 [rg [hT 4], r0] (by kernel_rfl) (P2 (((a0.Supply : Int) != a1.Supply) = true) (bneT h8)<|P0)))
 (fun h7 H =>
 eW RB (fun _ => []) H<|gE func73 [rg [hT 4], r0] (by kernel_rfl) (P2 (((a0.Road : Int) != a1.Road) = true) (bneT h7)<|P0)))
 (fun h6 H =>
 eW RB (fun _ => []) H<|gE func73 [rg [hT 4], r0] (by kernel_rfl) (P2 (((a0.River : Int) != a1.River) = true) (bneT h6)<|P0)))
 (fun h5 H =>
 eW RB (fun _ => []) H<|gE func73 [rg [hT 4], r0] (by kernel_rfl) (P2 (((a0.Stack : Int) != a1.Stack) = true) (bneT h5)<|P0)))
 (fun h4 H =>
 eW RB (fun _ => []) H<|gE func73 [rg [{ i := 4, call := some { cl := true, auto := true, ins := [], res := (RB r3), G' := [] }, dec := some false }], r0] (by kernel_rfl) (P1 (cw_eqKindS hr3)<|P2 (r3 = false) (eqF h4)<|P0)))
 (fun h2 H =>
 eW RB (fun _ => []) H<|gE func73 [rg [{ i := 4, call := some { cl := true, auto := true, ins := [], res := (RB r1), G' := [] }, dec := some false }], r0] (by kernel_rfl) (P1 (cw_eqTerrainS hr1)<|P2 (r1 = false) (eqF h2)<|P0))
theorem cw_eqMap {a0 : Gi_Map} {a1 : Gi_Map} {r : Bool} (H : Dw_eqMap a0 a1 = some r) : Ct X.P X.gl 74 [gi_Map a0, gi_Map a1] [] (RB r) [] :=
 Ct.of func74 (c := bdy f74) (by kernel_rfl) (by kernel_rfl) <|
 gS [r0] (by kernel_rfl) P0 <|
 eIf H (fun h1 H =>
 gS [rg [hF 4]] (by kernel_rfl) (P2 (((a0.Width : Int) != a1.Width) = false) (bneF h1)<|P0) <|
 eIf H (fun h2 H =>
 eBind H fun r3 hr3 H =>
 gS [rg [hF 4]] (by kernel_rfl) (P2 (((a0.Height : Int) != a1.Height) = false) (bneF h2)<|P0) <|
 eIf H (fun h4 H =>
 eBind H fun r5 hr5 H =>
 gS [rg [{ i := 4, call := some { cl := true, auto := true, ins := [], res := (RB r3), G' := [] }, dec := some true }]] (by kernel_rfl) (P1 (cw_eqIntS hr3)<|P2 (r3 = true) (h4)<|P0) <|
 eIf H (fun h6 H =>
 eBind H fun r7 hr7 H =>
 gS [rg [{ i := 4, call := some { cl := true, auto := true, ins := [], res := (RB r5), G' := [] }, dec := some true }]] (by kernel_rfl) (P1 (cw_eqIntS hr5)<|P2 (r5 = true) (h6)<|P0) <|
 eIf H (fun h8 H =>
 eW RB (fun _ => []) H<|gE func74 [rg [{ i := 4, call := some { cl := true, auto := true, ins := [], res := (RB r7), G' := [] }, dec := some true }], r0] (by kernel_rfl) (P1 (cw_eqIntS hr7)<|P2 (r7 = true) (h8)<|P0))
 (fun h8 H =>
 eW RB (fun _ => []) H<|gE func74 [rg [{ i := 4, call := some { cl := true, auto := true, ins := [], res := (RB r7), G' := [] }, dec := some false }], r0] (by kernel_rfl) (P1 (cw_eqIntS hr7)<|P2 (r7 = false) (eqF h8)<|P0)))
 (fun h6 H =>
 eW RB (fun _ => []) H<|gE func74 [rg [{ i := 4, call := some { cl := true, auto := true, ins := [], res := (RB r5), G' := [] }, dec := some false }], r0] (by kernel_rfl) (P1 (cw_eqIntS hr5)<|P2 (r5 = false) (eqF h6)<|P0)))
 (fun h4 H =>
 eW RB (fun _ => []) H<|gE func74 [rg [{ i := 4, call := some { cl := true, auto := true, ins := [], res := (RB r3), G' := [] }, dec := some false }], r0] (by kernel_rfl) (P1 (cw_eqIntS hr3)<|P2 (r3 = false) (eqF h4)<|P0)))
 (fun h2 H =>
 eW RB (fun _ => []) H<|gE func74 [rg [hT 4], r0] (by kernel_rfl) (P2 (((a0.Height : Int) != a1.Height) = true) (bneT h2)<|P0)))
 (fun h1 H =>
 eW RB (fun _ => []) H<|gE func74 [rg [hT 4], r0] (by kernel_rfl) (P2 (((a0.Width : Int) != a1.Width) = true) (bneT h1)<|P0))
theorem cw_eqBoard {a0 : Gi_Board} {a1 : Gi_Board} {r : Bool} (H : Dw_eqBoard a0 a1 = some r) : Ct X.P X.gl 36 [gi_Board a0, gi_Board a1] [] (RB r) [] :=
 Ct.of func36 (c := bdy f36) (by kernel_rfl) (by kernel_rfl) <|
 eBind H fun r1 hr1 H =>
 gS [r0] (by kernel_rfl) P0 <|
 eIf H (fun h2 H =>
 eBind H fun r3 hr3 H =>
 gS [rg [{ i := 4, call := some { cl := true, auto := true, ins := [], res := (RB r1), G' := [] }, dec := some true }]] (by kernel_rfl) (P1 (cw_eqRules hr1)<|P2 (r1 = true) (h2)<|P0) <|
 eIf H (fun h4 H =>
 eW RB (fun _ => []) H<|gE func36 [rg [{ i := 4, call := some { cl := true, auto := true, ins := [], res := (RB r3), G' := [] }, dec := some true }], r0] (by kernel_rfl) (P1 (cw_eqMap hr3)<|P2 (r3 = true) (h4)<|P0))
 (fun h4 H =>
 eW RB (fun _ => []) H<|gE func36 [rg [{ i := 4, call := some { cl := true, auto := true, ins := [], res := (RB r3), G' := [] }, dec := some false }], r0] (by kernel_rfl) (P1 (cw_eqMap hr3)<|P2 (r3 = false) (eqF h4)<|P0)))
 (fun h2 H =>
 eW RB (fun _ => []) H<|gE func36 [rg [{ i := 4, call := some { cl := true, auto := true, ins := [], res := (RB r1), G' := [] }, dec := some false }], r0] (by kernel_rfl) (P1 (cw_eqRules hr1)<|P2 (r1 = false) (eqF h2)<|P0))
theorem cw_eqOdds {a0 : Gi_Odds} {a1 : Gi_Odds} {r : Bool} (H : Dw_eqOdds a0 a1 = some r) : Ct X.P X.gl 131 [gi_Odds a0, gi_Odds a1] [] (RB r) [] :=
 Ct.of func131 (c := bdy f131) (by kernel_rfl) (by kernel_rfl) <|
 gS [r0] (by kernel_rfl) P0 <|
 eIf H (fun h1 H =>
 gS [rg [hF 4]] (by kernel_rfl) (P2 (((a0.Num : Int) != a1.Num) = false) (bneF h1)<|P0) <|
 eIf H (fun h2 H =>
 eW RB (fun _ => []) H<|gE func131 [rg [hF 4], r0] (by kernel_rfl) (P2 (((a0.Den : Int) != a1.Den) = false) (bneF h2)<|P0))
 (fun h2 H =>
 eW RB (fun _ => []) H<|gE func131 [rg [hT 4], r0] (by kernel_rfl) (P2 (((a0.Den : Int) != a1.Den) = true) (bneT h2)<|P0)))
 (fun h1 H =>
 eW RB (fun _ => []) H<|gE func131 [rg [hT 4], r0] (by kernel_rfl) (P2 (((a0.Num : Int) != a1.Num) = true) (bneT h1)<|P0))
noncomputable def Kw_eqOddsS : Sw_eqOddsS → List Item
 | .h1 .. => nav 300 3 [false] [.code (bdy f75)]
def Zw_eqOddsS : Sw_eqOddsS → St
 | .h1 va0 b1 i2 => ⟨sts 27 [(0, sl 2 gi_Odds va0), (1, sl 2 gi_Odds b1), (5, I i2)], []⟩
abbrev Qw_eqOddsS := Nx X 75 0 Kw_eqOddsS Zw_eqOddsS RB (fun _ => [])
theorem nw_eqOddsS : ∀ s o, Bw_eqOddsS s = some o → Qw_eqOddsS (Kw_eqOddsS s) (Zw_eqOddsS s) o
 | .h1 va0 b1 i2, o, H =>
  eIf H (fun h1 H =>
  eCk H fun h2 H =>
  eBind H fun x3 hx3 H =>
  eCk H fun h4 H =>
  eBind H fun x5 hx5 H =>
  eBind H fun r6 hr6 H =>
  gN [rg [hT 3]] (by kernel_rfl) (P2 ((decide (i2 < ((va0.length : Nat) : Int))) = true) (decide_eq_true h1)<|P0) <|
  eIf H (fun h7 H =>
  eN H fun r hn => gO [rg [hE 3 (gi_Odds x3), hE 7 (gi_Odds x5), { i := 8, call := some { cl := true, auto := true, ins := [], res := (RB r6), G' := [] }, dec := some true }], r0, .canon [] [0, 1, 5]] (by kernel_rfl) (P1 h2<|P1 (int_lt_of_at h2 hx3)<|P1 (at_map gi_Odds hx3)<|P1 h4<|P1 (int_lt_of_at h4 hx5)<|P1 (at_map gi_Odds hx5)<|P1 (cw_eqOdds hr6)<|P2 (r6 = true) (h7)<|P0) hn)
  (fun h7 H =>
  eN H<|gE func75 [rg [hE 3 (gi_Odds x3), hE 7 (gi_Odds x5), { i := 8, call := some { cl := true, auto := true, ins := [], res := (RB r6), G' := [] }, dec := some false }], r0] (by kernel_rfl) (P1 h2<|P1 (int_lt_of_at h2 hx3)<|P1 (at_map gi_Odds hx3)<|P1 h4<|P1 (int_lt_of_at h4 hx5)<|P1 (at_map gi_Odds hx5)<|P1 (cw_eqOdds hr6)<|P2 (r6 = false) (eqF h7)<|P0)))
  (fun h1 H =>
  eN H<|gE func75 [rg [hF 3], r0] (by kernel_rfl) (P2 ((decide (i2 < ((va0.length : Nat) : Int))) = false) (decide_eq_false h1)<|P0))
theorem ww_eqOddsS : ∀ s r, loop Bw_eqOddsS s = some r → Wc X 75 0 (Kw_eqOddsS s) (Zw_eqOddsS s) (RB r) ((fun _ => []) r) := Nx.all (nw_eqOddsS)
theorem cw_eqOddsS {a0 : (List Gi_Odds)} {a1 : (List Gi_Odds)} {r : Bool} (H : Dw_eqOddsS a0 a1 = some r) : Ct X.P X.gl 75 [sl 2 gi_Odds a0, sl 2 gi_Odds a1] [] (RB r) [] :=
 Ct.of func75 (c := bdy f75) (by kernel_rfl) (by kernel_rfl) <|
 gS [r0] (by kernel_rfl) P0 <|
 eIf H (fun h1 H =>
 gO [rg [hF 4], r0, .canon [] [0, 1, 5]] (by kernel_rfl) (P2 (((((a0.length : Nat) : Int) : Int) != ((a1.length : Nat) : Int)) = false) (bneF h1)<|P0) (ww_eqOddsS _ _ H))
 (fun h1 H =>
 eW RB (fun _ => []) H<|gE func75 [rg [hT 4], r0] (by kernel_rfl) (P2 (((((a0.length : Nat) : Int) : Int) != ((a1.length : Nat) : Int)) = true) (bneT h1)<|P0))
noncomputable def Kw_eqIntSS : Sw_eqIntSS → List Item
 | .h1 .. => nav 300 3 [false] [.code (bdy f76)]
def Zw_eqIntSS : Sw_eqIntSS → St
 | .h1 va0 b1 i2 => ⟨sts 27 [(0, sl 1 (sl 1 I) va0), (1, sl 1 (sl 1 I) b1), (5, I i2)], []⟩
abbrev Qw_eqIntSS := Nx X 76 0 Kw_eqIntSS Zw_eqIntSS RB (fun _ => [])
theorem nw_eqIntSS : ∀ s o, Bw_eqIntSS s = some o → Qw_eqIntSS (Kw_eqIntSS s) (Zw_eqIntSS s) o
 | .h1 va0 b1 i2, o, H =>
  eIf H (fun h1 H =>
  eCk H fun h2 H =>
  eBind H fun x3 hx3 H =>
  eCk H fun h4 H =>
  eBind H fun x5 hx5 H =>
  eBind H fun r6 hr6 H =>
  gN [rg [hT 3]] (by kernel_rfl) (P2 ((decide (i2 < ((va0.length : Nat) : Int))) = true) (decide_eq_true h1)<|P0) <|
  eIf H (fun h7 H =>
  eN H fun r hn => gO [rg [hE 3 ((sl 1 I) x3), hE 7 ((sl 1 I) x5), { i := 8, call := some { cl := true, auto := true, ins := [], res := (RB r6), G' := [] }, dec := some true }], r0, .canon [] [0, 1, 5]] (by kernel_rfl) (P1 h2<|P1 (int_lt_of_at h2 hx3)<|P1 (at_map (sl 1 I) hx3)<|P1 h4<|P1 (int_lt_of_at h4 hx5)<|P1 (at_map (sl 1 I) hx5)<|P1 (cw_eqIntS hr6)<|P2 (r6 = true) (h7)<|P0) hn)
  (fun h7 H =>
  eN H<|gE func76 [rg [hE 3 ((sl 1 I) x3), hE 7 ((sl 1 I) x5), { i := 8, call := some { cl := true, auto := true, ins := [], res := (RB r6), G' := [] }, dec := some false }], r0] (by kernel_rfl) (P1 h2<|P1 (int_lt_of_at h2 hx3)<|P1 (at_map (sl 1 I) hx3)<|P1 h4<|P1 (int_lt_of_at h4 hx5)<|P1 (at_map (sl 1 I) hx5)<|P1 (cw_eqIntS hr6)<|P2 (r6 = false) (eqF h7)<|P0)))
  (fun h1 H =>
  eN H<|gE func76 [rg [hF 3], r0] (by kernel_rfl) (P2 ((decide (i2 < ((va0.length : Nat) : Int))) = false) (decide_eq_false h1)<|P0))
theorem ww_eqIntSS : ∀ s r, loop Bw_eqIntSS s = some r → Wc X 76 0 (Kw_eqIntSS s) (Zw_eqIntSS s) (RB r) ((fun _ => []) r) := Nx.all (nw_eqIntSS)
theorem cw_eqIntSS {a0 : (List (List Int))} {a1 : (List (List Int))} {r : Bool} (H : Dw_eqIntSS a0 a1 = some r) : Ct X.P X.gl 76 [sl 1 (sl 1 I) a0, sl 1 (sl 1 I) a1] [] (RB r) [] :=
 Ct.of func76 (c := bdy f76) (by kernel_rfl) (by kernel_rfl) <|
 gS [r0] (by kernel_rfl) P0 <|
 eIf H (fun h1 H =>
 gO [rg [hF 4], r0, .canon [] [0, 1, 5]] (by kernel_rfl) (P2 (((((a0.length : Nat) : Int) : Int) != ((a1.length : Nat) : Int)) = false) (bneF h1)<|P0) (ww_eqIntSS _ _ H))
 (fun h1 H =>
 eW RB (fun _ => []) H<|gE func76 [rg [hT 4], r0] (by kernel_rfl) (P2 (((((a0.length : Nat) : Int) : Int) != ((a1.length : Nat) : Int)) = true) (bneT h1)<|P0))
theorem cw_eqCombatTable {a0 : Gi_CombatTable} {a1 : Gi_CombatTable} {r : Bool} (H : Dw_eqCombatTable a0 a1 = some r) : Ct X.P X.gl 37 [gi_CombatTable a0, gi_CombatTable a1] [] (RB r) [] :=
 Ct.of func37 (c := bdy f37) (by kernel_rfl) (by kernel_rfl) <|
 eBind H fun r1 hr1 H =>
 gS [r0] (by kernel_rfl) P0 <|
 eIf H (fun h2 H =>
 gS [rg [{ i := 4, call := some { cl := true, auto := true, ins := [], res := (RB r1), G' := [] }, dec := some true }]] (by kernel_rfl) (P1 (cw_eqOddsS hr1)<|P2 (r1 = true) (h2)<|P0) <|
 eIf H (fun h3 H =>
 eBind H fun r4 hr4 H =>
 gS [rg [hF 4]] (by kernel_rfl) (P2 (((a0.Dice : Int) != a1.Dice) = false) (bneF h3)<|P0) <|
 eIf H (fun h5 H =>
 eW RB (fun _ => []) H<|gE func37 [rg [{ i := 4, call := some { cl := true, auto := true, ins := [], res := (RB r4), G' := [] }, dec := some true }], r0] (by kernel_rfl) (P1 (cw_eqIntSS hr4)<|P2 (r4 = true) (h5)<|P0))
 (fun h5 H =>
 eW RB (fun _ => []) H<|gE func37 [rg [{ i := 4, call := some { cl := true, auto := true, ins := [], res := (RB r4), G' := [] }, dec := some false }], r0] (by kernel_rfl) (P1 (cw_eqIntSS hr4)<|P2 (r4 = false) (eqF h5)<|P0)))
 (fun h3 H =>
 eW RB (fun _ => []) H<|gE func37 [rg [hT 4], r0] (by kernel_rfl) (P2 (((a0.Dice : Int) != a1.Dice) = true) (bneT h3)<|P0)))
 (fun h2 H =>
 eW RB (fun _ => []) H<|gE func37 [rg [{ i := 4, call := some { cl := true, auto := true, ins := [], res := (RB r1), G' := [] }, dec := some false }], r0] (by kernel_rfl) (P1 (cw_eqOddsS hr1)<|P2 (r1 = false) (eqF h2)<|P0))
theorem cw_eqUnit {a0 : Gi_Unit} {a1 : Gi_Unit} {r : Bool} (H : Dw_eqUnit a0 a1 = some r) : Ct X.P X.gl 132 [gi_Unit a0, gi_Unit a1] [] (RB r) [] :=
 Ct.of func132 (c := bdy f132) (by kernel_rfl) (by kernel_rfl) <|
 gS [r0] (by kernel_rfl) P0 <|
 eIf H (fun h1 H =>
 gS [rg [hF 4]] (by kernel_rfl) (P2 (((a0.Side : Int) != a1.Side) = false) (bneF h1)<|P0) <|
 eIf H (fun h2 H =>
 gS [rg [hF 4]] (by kernel_rfl) (P2 (((a0.Kind : Int) != a1.Kind) = false) (bneF h2)<|P0) <|
 eIf H (fun h3 H =>
 gS [rg [hF 4]] (by kernel_rfl) (P2 (((a0.At : Int) != a1.At) = false) (bneF h3)<|P0) <|
 eIf H (fun h4 H =>
 eW RB (fun _ => []) H<|gE func132 [rg [hF 4], r0] (by kernel_rfl) (P2 (((a0.Steps : Int) != a1.Steps) = false) (bneF h4)<|P0))
 (fun h4 H =>
 eW RB (fun _ => []) H<|gE func132 [rg [hT 4], r0] (by kernel_rfl) (P2 (((a0.Steps : Int) != a1.Steps) = true) (bneT h4)<|P0)))
 (fun h3 H =>
 eW RB (fun _ => []) H<|gE func132 [rg [hT 4], r0] (by kernel_rfl) (P2 (((a0.At : Int) != a1.At) = true) (bneT h3)<|P0)))
 (fun h2 H =>
 eW RB (fun _ => []) H<|gE func132 [rg [hT 4], r0] (by kernel_rfl) (P2 (((a0.Kind : Int) != a1.Kind) = true) (bneT h2)<|P0)))
 (fun h1 H =>
 eW RB (fun _ => []) H<|gE func132 [rg [hT 4], r0] (by kernel_rfl) (P2 (((a0.Side : Int) != a1.Side) = true) (bneT h1)<|P0))
noncomputable def Kw_eqUnitS : Sw_eqUnitS → List Item
 | .h1 .. => nav 300 3 [false] [.code (bdy f77)]
def Zw_eqUnitS : Sw_eqUnitS → St
 | .h1 va0 b1 i2 => ⟨sts 27 [(0, sl 4 gi_Unit va0), (1, sl 4 gi_Unit b1), (5, I i2)], []⟩
abbrev Qw_eqUnitS := Nx X 77 0 Kw_eqUnitS Zw_eqUnitS RB (fun _ => [])
theorem nw_eqUnitS : ∀ s o, Bw_eqUnitS s = some o → Qw_eqUnitS (Kw_eqUnitS s) (Zw_eqUnitS s) o
 | .h1 va0 b1 i2, o, H =>
  eIf H (fun h1 H =>
  eCk H fun h2 H =>
  eBind H fun x3 hx3 H =>
  eCk H fun h4 H =>
  eBind H fun x5 hx5 H =>
  eBind H fun r6 hr6 H =>
  gN [rg [hT 3]] (by kernel_rfl) (P2 ((decide (i2 < ((va0.length : Nat) : Int))) = true) (decide_eq_true h1)<|P0) <|
  eIf H (fun h7 H =>
  eN H fun r hn => gO [rg [hE 3 (gi_Unit x3), hE 7 (gi_Unit x5), { i := 8, call := some { cl := true, auto := true, ins := [], res := (RB r6), G' := [] }, dec := some true }], r0, .canon [] [0, 1, 5]] (by kernel_rfl) (P1 h2<|P1 (int_lt_of_at h2 hx3)<|P1 (at_map gi_Unit hx3)<|P1 h4<|P1 (int_lt_of_at h4 hx5)<|P1 (at_map gi_Unit hx5)<|P1 (cw_eqUnit hr6)<|P2 (r6 = true) (h7)<|P0) hn)
  (fun h7 H =>
  eN H<|gE func77 [rg [hE 3 (gi_Unit x3), hE 7 (gi_Unit x5), { i := 8, call := some { cl := true, auto := true, ins := [], res := (RB r6), G' := [] }, dec := some false }], r0] (by kernel_rfl) (P1 h2<|P1 (int_lt_of_at h2 hx3)<|P1 (at_map gi_Unit hx3)<|P1 h4<|P1 (int_lt_of_at h4 hx5)<|P1 (at_map gi_Unit hx5)<|P1 (cw_eqUnit hr6)<|P2 (r6 = false) (eqF h7)<|P0)))
  (fun h1 H =>
  eN H<|gE func77 [rg [hF 3], r0] (by kernel_rfl) (P2 ((decide (i2 < ((va0.length : Nat) : Int))) = false) (decide_eq_false h1)<|P0))
theorem ww_eqUnitS : ∀ s r, loop Bw_eqUnitS s = some r → Wc X 77 0 (Kw_eqUnitS s) (Zw_eqUnitS s) (RB r) ((fun _ => []) r) := Nx.all (nw_eqUnitS)
theorem cw_eqUnitS {a0 : (List Gi_Unit)} {a1 : (List Gi_Unit)} {r : Bool} (H : Dw_eqUnitS a0 a1 = some r) : Ct X.P X.gl 77 [sl 4 gi_Unit a0, sl 4 gi_Unit a1] [] (RB r) [] :=
 Ct.of func77 (c := bdy f77) (by kernel_rfl) (by kernel_rfl) <|
 gS [r0] (by kernel_rfl) P0 <|
 eIf H (fun h1 H =>
 gO [rg [hF 4], r0, .canon [] [0, 1, 5]] (by kernel_rfl) (P2 (((((a0.length : Nat) : Int) : Int) != ((a1.length : Nat) : Int)) = false) (bneF h1)<|P0) (ww_eqUnitS _ _ H))
 (fun h1 H =>
 eW RB (fun _ => []) H<|gE func77 [rg [hT 4], r0] (by kernel_rfl) (P2 (((((a0.length : Nat) : Int) : Int) != ((a1.length : Nat) : Int)) = true) (bneT h1)<|P0))
theorem cw_eqState {a0 : Gi_State} {a1 : Gi_State} {r : Bool} (H : Dw_eqState a0 a1 = some r) : Ct X.P X.gl 38 [gi_State a0, gi_State a1] [] (RB r) [] :=
 Ct.of func38 (c := bdy f38) (by kernel_rfl) (by kernel_rfl) <|
 gS [r0] (by kernel_rfl) P0 <|
 eIf H (fun h1 H =>
 gS [rg [hF 4]] (by kernel_rfl) (P2 (((a0.Turn : Int) != a1.Turn) = false) (bneF h1)<|P0) <|
 eIf H (fun h2 H =>
 eBind H fun r3 hr3 H =>
 gS [rg [hF 4]] (by kernel_rfl) (P2 (((a0.Weather : Int) != a1.Weather) = false) (bneF h2)<|P0) <|
 eIf H (fun h4 H =>
 eW RB (fun _ => []) H<|gE func38 [rg [{ i := 4, call := some { cl := true, auto := true, ins := [], res := (RB r3), G' := [] }, dec := some true }], r0] (by kernel_rfl) (P1 (cw_eqUnitS hr3)<|P2 (r3 = true) (h4)<|P0))
 (fun h4 H =>
 eW RB (fun _ => []) H<|gE func38 [rg [{ i := 4, call := some { cl := true, auto := true, ins := [], res := (RB r3), G' := [] }, dec := some false }], r0] (by kernel_rfl) (P1 (cw_eqUnitS hr3)<|P2 (r3 = false) (eqF h4)<|P0)))
 (fun h2 H =>
 eW RB (fun _ => []) H<|gE func38 [rg [hT 4], r0] (by kernel_rfl) (P2 (((a0.Weather : Int) != a1.Weather) = true) (bneT h2)<|P0)))
 (fun h1 H =>
 eW RB (fun _ => []) H<|gE func38 [rg [hT 4], r0] (by kernel_rfl) (P2 (((a0.Turn : Int) != a1.Turn) = true) (bneT h1)<|P0))
theorem cw_eqGoal {a0 : Gi_Goal} {a1 : Gi_Goal} {r : Bool} (H : Dw_eqGoal a0 a1 = some r) : Ct X.P X.gl 133 [gi_Goal a0, gi_Goal a1] [] (RB r) [] :=
 Ct.of func133 (c := bdy f133) (by kernel_rfl) (by kernel_rfl) <|
 gS [r0] (by kernel_rfl) P0 <|
 eIf H (fun h1 H =>
 gS [rg [hF 4]] (by kernel_rfl) (P2 (((a0.At : Int) != a1.At) = false) (bneF h1)<|P0) <|
 eIf H (fun h2 H =>
 eW RB (fun _ => []) H<|gE func133 [rg [hF 4], r0] (by kernel_rfl) (P2 (((a0.Points : Int) != a1.Points) = false) (bneF h2)<|P0))
 (fun h2 H =>
 eW RB (fun _ => []) H<|gE func133 [rg [hT 4], r0] (by kernel_rfl) (P2 (((a0.Points : Int) != a1.Points) = true) (bneT h2)<|P0)))
 (fun h1 H =>
 eW RB (fun _ => []) H<|gE func133 [rg [hT 4], r0] (by kernel_rfl) (P2 (((a0.At : Int) != a1.At) = true) (bneT h1)<|P0))
noncomputable def Kw_eqGoalS : Sw_eqGoalS → List Item
 | .h1 .. => nav 300 3 [false] [.code (bdy f78)]
def Zw_eqGoalS : Sw_eqGoalS → St
 | .h1 va0 b1 i2 => ⟨sts 27 [(0, sl 2 gi_Goal va0), (1, sl 2 gi_Goal b1), (5, I i2)], []⟩
abbrev Qw_eqGoalS := Nx X 78 0 Kw_eqGoalS Zw_eqGoalS RB (fun _ => [])
theorem nw_eqGoalS : ∀ s o, Bw_eqGoalS s = some o → Qw_eqGoalS (Kw_eqGoalS s) (Zw_eqGoalS s) o
 | .h1 va0 b1 i2, o, H =>
  eIf H (fun h1 H =>
  eCk H fun h2 H =>
  eBind H fun x3 hx3 H =>
  eCk H fun h4 H =>
  eBind H fun x5 hx5 H =>
  eBind H fun r6 hr6 H =>
  gN [rg [hT 3]] (by kernel_rfl) (P2 ((decide (i2 < ((va0.length : Nat) : Int))) = true) (decide_eq_true h1)<|P0) <|
  eIf H (fun h7 H =>
  eN H fun r hn => gO [rg [hE 3 (gi_Goal x3), hE 7 (gi_Goal x5), { i := 8, call := some { cl := true, auto := true, ins := [], res := (RB r6), G' := [] }, dec := some true }], r0, .canon [] [0, 1, 5]] (by kernel_rfl) (P1 h2<|P1 (int_lt_of_at h2 hx3)<|P1 (at_map gi_Goal hx3)<|P1 h4<|P1 (int_lt_of_at h4 hx5)<|P1 (at_map gi_Goal hx5)<|P1 (cw_eqGoal hr6)<|P2 (r6 = true) (h7)<|P0) hn)
  (fun h7 H =>
  eN H<|gE func78 [rg [hE 3 (gi_Goal x3), hE 7 (gi_Goal x5), { i := 8, call := some { cl := true, auto := true, ins := [], res := (RB r6), G' := [] }, dec := some false }], r0] (by kernel_rfl) (P1 h2<|P1 (int_lt_of_at h2 hx3)<|P1 (at_map gi_Goal hx3)<|P1 h4<|P1 (int_lt_of_at h4 hx5)<|P1 (at_map gi_Goal hx5)<|P1 (cw_eqGoal hr6)<|P2 (r6 = false) (eqF h7)<|P0)))
  (fun h1 H =>
  eN H<|gE func78 [rg [hF 3], r0] (by kernel_rfl) (P2 ((decide (i2 < ((va0.length : Nat) : Int))) = false) (decide_eq_false h1)<|P0))
theorem ww_eqGoalS : ∀ s r, loop Bw_eqGoalS s = some r → Wc X 78 0 (Kw_eqGoalS s) (Zw_eqGoalS s) (RB r) ((fun _ => []) r) := Nx.all (nw_eqGoalS)
theorem cw_eqGoalS {a0 : (List Gi_Goal)} {a1 : (List Gi_Goal)} {r : Bool} (H : Dw_eqGoalS a0 a1 = some r) : Ct X.P X.gl 78 [sl 2 gi_Goal a0, sl 2 gi_Goal a1] [] (RB r) [] :=
 Ct.of func78 (c := bdy f78) (by kernel_rfl) (by kernel_rfl) <|
 gS [r0] (by kernel_rfl) P0 <|
 eIf H (fun h1 H =>
 gO [rg [hF 4], r0, .canon [] [0, 1, 5]] (by kernel_rfl) (P2 (((((a0.length : Nat) : Int) : Int) != ((a1.length : Nat) : Int)) = false) (bneF h1)<|P0) (ww_eqGoalS _ _ H))
 (fun h1 H =>
 eW RB (fun _ => []) H<|gE func78 [rg [hT 4], r0] (by kernel_rfl) (P2 (((((a0.length : Nat) : Int) : Int) != ((a1.length : Nat) : Int)) = true) (bneT h1)<|P0))
theorem cw_eqConditions {a0 : Gi_Conditions} {a1 : Gi_Conditions} {r : Bool} (H : Dw_eqConditions a0 a1 = some r) : Ct X.P X.gl 39 [gi_Conditions a0, gi_Conditions a1] [] (RB r) [] :=
 Ct.of func39 (c := bdy f39) (by kernel_rfl) (by kernel_rfl) <|
 eBind H fun r1 hr1 H =>
 gS [r0] (by kernel_rfl) P0 <|
 eIf H (fun h2 H =>
 gS [rg [{ i := 4, call := some { cl := true, auto := true, ins := [], res := (RB r1), G' := [] }, dec := some true }]] (by kernel_rfl) (P1 (cw_eqGoalS hr1)<|P2 (r1 = true) (h2)<|P0) <|
 eIf H (fun h3 H =>
 gS [rg [hF 4]] (by kernel_rfl) (P2 (((a0.Step : Int) != a1.Step) = false) (bneF h3)<|P0) <|
 eIf H (fun h4 H =>
 eW RB (fun _ => []) H<|gE func39 [rg [hF 4], r0] (by kernel_rfl) (P2 (((a0.Margin : Int) != a1.Margin) = false) (bneF h4)<|P0))
 (fun h4 H =>
 eW RB (fun _ => []) H<|gE func39 [rg [hT 4], r0] (by kernel_rfl) (P2 (((a0.Margin : Int) != a1.Margin) = true) (bneT h4)<|P0)))
 (fun h3 H =>
 eW RB (fun _ => []) H<|gE func39 [rg [hT 4], r0] (by kernel_rfl) (P2 (((a0.Step : Int) != a1.Step) = true) (bneT h3)<|P0)))
 (fun h2 H =>
 eW RB (fun _ => []) H<|gE func39 [rg [{ i := 4, call := some { cl := true, auto := true, ins := [], res := (RB r1), G' := [] }, dec := some false }], r0] (by kernel_rfl) (P1 (cw_eqGoalS hr1)<|P2 (r1 = false) (eqF h2)<|P0))
theorem cw_eqScenario {a0 : Gi_Scenario} {a1 : Gi_Scenario} {r : Bool} (H : Dw_eqScenario a0 a1 = some r) : Ct X.P X.gl 10 [gi_Scenario a0, gi_Scenario a1] [] (RB r) [] :=
 Ct.of func10 (c := bdy f10) (by kernel_rfl) (by kernel_rfl) <|
 gS [r0] (by kernel_rfl) P0 <|
 eIf H (fun h1 H =>
 eBind H fun r2 hr2 H =>
 gS [rg [hF 4]] (by kernel_rfl) (P2 ((!(a0.Name == a1.Name)) = false) (nbeqF h1)<|P0) <|
 eIf H (fun h3 H =>
 eBind H fun r4 hr4 H =>
 gS [rg [{ i := 4, call := some { cl := true, auto := true, ins := [], res := (RB r2), G' := [] }, dec := some true }]] (by kernel_rfl) (P1 (cw_eqBoard hr2)<|P2 (r2 = true) (h3)<|P0) <|
 eIf H (fun h5 H =>
 eBind H fun r6 hr6 H =>
 gS [rg [{ i := 4, call := some { cl := true, auto := true, ins := [], res := (RB r4), G' := [] }, dec := some true }]] (by kernel_rfl) (P1 (cw_eqCombatTable hr4)<|P2 (r4 = true) (h5)<|P0) <|
 eIf H (fun h7 H =>
 eBind H fun r8 hr8 H =>
 gS [rg [{ i := 4, call := some { cl := true, auto := true, ins := [], res := (RB r6), G' := [] }, dec := some true }]] (by kernel_rfl) (P1 (cw_eqState hr6)<|P2 (r6 = true) (h7)<|P0) <|
 eIf H (fun h9 H =>
 eBind H fun r10 hr10 H =>
 gS [rg [{ i := 4, call := some { cl := true, auto := true, ins := [], res := (RB r8), G' := [] }, dec := some true }]] (by kernel_rfl) (P1 (cw_eqConditions hr8)<|P2 (r8 = true) (h9)<|P0) <|
 eIf H (fun h11 H =>
 eBind H fun r12 hr12 H =>
 gS [rg [{ i := 4, call := some { cl := true, auto := true, ins := [], res := (RB r10), G' := [] }, dec := some true }]] (by kernel_rfl) (P1 (cw_eqIntS hr10)<|P2 (r10 = true) (h11)<|P0) <|
 eIf H (fun h13 H =>
 eW RB (fun _ => []) H<|gE func10 [rg [{ i := 4, call := some { cl := true, auto := true, ins := [], res := (RB r12), G' := [] }, dec := some true }], r0] (by kernel_rfl) (P1 (cw_eqIntS hr12)<|P2 (r12 = true) (h13)<|P0))
 (fun h13 H =>
 eW RB (fun _ => []) H<|gE func10 [rg [{ i := 4, call := some { cl := true, auto := true, ins := [], res := (RB r12), G' := [] }, dec := some false }], r0] (by kernel_rfl) (P1 (cw_eqIntS hr12)<|P2 (r12 = false) (eqF h13)<|P0)))
 (fun h11 H =>
 eW RB (fun _ => []) H<|gE func10 [rg [{ i := 4, call := some { cl := true, auto := true, ins := [], res := (RB r10), G' := [] }, dec := some false }], r0] (by kernel_rfl) (P1 (cw_eqIntS hr10)<|P2 (r10 = false) (eqF h11)<|P0)))
 (fun h9 H =>
 eW RB (fun _ => []) H<|gE func10 [rg [{ i := 4, call := some { cl := true, auto := true, ins := [], res := (RB r8), G' := [] }, dec := some false }], r0] (by kernel_rfl) (P1 (cw_eqConditions hr8)<|P2 (r8 = false) (eqF h9)<|P0)))
 (fun h7 H =>
 eW RB (fun _ => []) H<|gE func10 [rg [{ i := 4, call := some { cl := true, auto := true, ins := [], res := (RB r6), G' := [] }, dec := some false }], r0] (by kernel_rfl) (P1 (cw_eqState hr6)<|P2 (r6 = false) (eqF h7)<|P0)))
 (fun h5 H =>
 eW RB (fun _ => []) H<|gE func10 [rg [{ i := 4, call := some { cl := true, auto := true, ins := [], res := (RB r4), G' := [] }, dec := some false }], r0] (by kernel_rfl) (P1 (cw_eqCombatTable hr4)<|P2 (r4 = false) (eqF h5)<|P0)))
 (fun h3 H =>
 eW RB (fun _ => []) H<|gE func10 [rg [{ i := 4, call := some { cl := true, auto := true, ins := [], res := (RB r2), G' := [] }, dec := some false }], r0] (by kernel_rfl) (P1 (cw_eqBoard hr2)<|P2 (r2 = false) (eqF h3)<|P0)))
 (fun h1 H =>
 eW RB (fun _ => []) H<|gE func10 [rg [hT 4], r0] (by kernel_rfl) (P2 ((!(a0.Name == a1.Name)) = true) (nbeqT h1)<|P0))
def Rw_markText (r : ByteArray) : List D := [.str r]
noncomputable def Kw_markText : Sw_markText → List Item
 | .h1 .. => nav 300 3 [false] [.code (bdy f179)]
def Zw_markText : Sw_markText → St
 | .h1 k0 out1 => ⟨sts 20 [(0, I k0), (3, .str out1)], []⟩
abbrev Qw_markText := Nx X 179 0 Kw_markText Zw_markText Rw_markText (fun _ => [])
theorem nw_markText : ∀ s o, Bw_markText s = some o → Qw_markText (Kw_markText s) (Zw_markText s) o
 | .h1 k0 out1, o, H =>
  eIf H (fun h1 H =>
  eCk H fun h2 H =>
  eCk H fun h3 H =>
  eN H fun r hn => gO [rg [hT 1], rg [{ i := 5, s := (bytesOf [(IntKind.wrap .u8 (IntKind.wrap .i64 (48 + (Int.tmod k0 10))))]) }], r0, .canon [] [0, 3]] (by kernel_rfl) (P2 ((decide (k0 > 0)) = true) (decide_eq_true h1)<|P2 (¬ (10 : Int) = 0) (by decide)<|P1 (bytesD_of h2)<|P1 h3<|P2 (¬ (10 : Int) = 0) (by decide)<|P0) hn)
  (fun h1 H =>
  eCk H fun h2 H =>
  eN H<|gE func179 [rg [hF 1], r0] (by kernel_rfl) (P2 ((decide (k0 > 0)) = false) (decide_eq_false h1)<|P1 h2<|P0))
theorem ww_markText : ∀ s r, loop Bw_markText s = some r → Wc X 179 0 (Kw_markText s) (Zw_markText s) (Rw_markText r) ((fun _ => []) r) := Nx.all (nw_markText)
theorem cw_markText {a0 : Int} {r : ByteArray} (H : Dw_markText a0 = some r) : Ct X.P X.gl 179 [I a0] [] (Rw_markText r) [] :=
 Ct.of func179 (c := bdy f179) (by kernel_rfl) (by kernel_rfl) <|
 gS [r0] (by kernel_rfl) P0 <|
 eIf H (fun h1 H =>
 eW Rw_markText (fun _ => []) H<|gE func179 [rg [hT 1], r0] (by kernel_rfl) (P2 ((decide (a0 ≤ 0)) = true) (decide_eq_true h1)<|P0))
 (fun h1 H =>
 gO [rg [hF 1], r0, .canon [] [0, 3]] (by kernel_rfl) (P2 ((decide (a0 ≤ 0)) = false) (decide_eq_false h1)<|P0) (ww_markText _ _ H))
def Rw_markIntS (r : Int × (List Int)) : List D := [I r.1]
def Nw_markIntS (r : Int × (List Int)) : List Root := [⟨false, false, 1, r.2.length, List.map I r.2⟩]
noncomputable def Kw_markIntS : Sw_markIntS → List Item
 | .h1 .. => nav 300 2 [] [.code (bdy f12)]
def Zw_markIntS : Sw_markIntS → St
 | .h1 k0 i1 l2 => ⟨sts 19 [(0, .ref 0 1 none), (1, I k0), (5, I i1)], [some ⟨false, false, 1, l2.length, List.map I l2⟩]⟩
abbrev Qw_markIntS := Nx X 12 1 Kw_markIntS Zw_markIntS Rw_markIntS Nw_markIntS
theorem nw_markIntS : ∀ s o, Bw_markIntS s = some o → Qw_markIntS (Kw_markIntS s) (Zw_markIntS s) o
 | .h1 k0 i1 l2, o, H =>
  eIf H (fun h1 H =>
  eCk H fun h2 H =>
  eBind H fun x3 hx3 H =>
  eN H fun r hn => gO [rg [hT 3], rg [hA 4 ((List.set l2 (Int.toNat i1) k0).length) (List.map I (List.set l2 (Int.toNat i1) k0))], r0, r0, .canon [0] [0, 1, 5]] (by kernel_rfl) (P2 ((decide (i1 < ((l2.length : Nat) : Int))) = true) (decide_eq_true h1)<|P1 h2<|P1 (int_lt_of_at h2 hx3)<|P1 (lt_of_at hx3)<|P2 (setCells (List.map I l2) (Int.toNat i1) 0 [I k0] = List.map I (List.set l2 (Int.toNat i1) k0)) (setCells_map hx3 rfl)<|P1 (setLen l2 (Int.toNat i1) k0)<|P0) hn)
  (fun h1 H =>
  eN H<|gE func12 [rg [hF 3], r0] (by kernel_rfl) (P2 ((decide (i1 < ((l2.length : Nat) : Int))) = false) (decide_eq_false h1)<|P0))
theorem ww_markIntS : ∀ s r, loop Bw_markIntS s = some r → Wc X 12 1 (Kw_markIntS s) (Zw_markIntS s) (Rw_markIntS r) (Nw_markIntS r) := Nx.all (nw_markIntS)
theorem cw_markIntS {a0 : (List Int)} {a1 : Int} {r : Int × (List Int)} (H : Dw_markIntS a0 a1 = some r) : Ct X.P X.gl 12 [.ref 0 1 none, I a1] [⟨false, false, 1, a0.length, List.map I a0⟩] (Rw_markIntS r) (Nw_markIntS r) :=
 Ct.of func12 (c := bdy f12) (by kernel_rfl) (by kernel_rfl) <|
 gO [r0, r0, .canon [0] [0, 1, 5]] (by kernel_rfl) P0 (ww_markIntS _ _ H)
def Rw_markTerrainS (r : Int × (List Gi_Terrain)) : List D := [I r.1]
def Nw_markTerrainS (r : Int × (List Gi_Terrain)) : List Root := [⟨false, false, 5, r.2.length, List.map goi_Terrain r.2⟩]
noncomputable def Kw_markTerrainS : Sw_markTerrainS → List Item
 | .h1 .. => nav 300 2 [] [.code (bdy f134)]
def Zw_markTerrainS : Sw_markTerrainS → St
 | .h1 k0 i1 l2 => ⟨sts 51 [(0, .ref 0 5 none), (1, I k0), (5, I i1)], [some ⟨false, false, 5, l2.length, List.map goi_Terrain l2⟩]⟩
abbrev Qw_markTerrainS := Nx X 134 1 Kw_markTerrainS Zw_markTerrainS Rw_markTerrainS Nw_markTerrainS
theorem nw_markTerrainS : ∀ s o, Bw_markTerrainS s = some o → Qw_markTerrainS (Kw_markTerrainS s) (Zw_markTerrainS s) o
 | .h1 k0 i1 l2, o, H =>
  eIf H (fun h1 H =>
  eBind H fun r2 hr2 H =>
  eCk H fun h3 H =>
  eBind H fun x4 hx4 H =>
  eCk H fun h5 H =>
  eBind H fun x6 hx6 H =>
  eBind H fun r7 hr7 H =>
  eCk H fun h8 H =>
  eCk H fun h9 H =>
  eBind H fun x10 hx10 H =>
  eCk H fun h11 H =>
  eBind H fun x12 hx12 H =>
  eCk H fun h13 H =>
  eBind H fun x14 hx14 H =>
  eN H fun r hn => gO [rg [hT 3], rg [hC 3 true [] (Rw_markText r2) [], hA 6 ((List.set l2 (Int.toNat i1) (Gi_Terrain.mk r2 x4.Cost x4.Shift x4.Height x4.Blocks)).length) (List.map goi_Terrain (List.set l2 (Int.toNat i1) (Gi_Terrain.mk r2 x4.Cost x4.Shift x4.Height x4.Blocks)))], r0, rg [{ i := 4, pre := [.take 0 (Int.toNat i1) 1 1 x6.Cost.length (List.map I x6.Cost) (List.set (List.map goi_Terrain (List.set l2 (Int.toNat i1) (Gi_Terrain.mk r2 x4.Cost x4.Shift x4.Height x4.Blocks))) (Int.toNat i1) (.agg [.str x6.Name, .ref 1 1 none, I x6.Shift, I x6.Height, .bool x6.Blocks]))], el := some (.agg [.str x6.Name, .ref 1 1 none, I x6.Shift, I x6.Height, .bool x6.Blocks]) }, { i := 6, call := some { cl := true, auto := true, ins := [1], res := (Rw_markIntS r7), G' := (Nw_markIntS r7) }, post := [.put 0 (Int.toNat i1) 1 1 (List.map goi_Terrain (List.set (List.set l2 (Int.toNat i1) (Gi_Terrain.mk r2 x4.Cost x4.Shift x4.Height x4.Blocks)) (Int.toNat i1) (Gi_Terrain.mk x6.Name r7.2 x6.Shift x6.Height x6.Blocks))), .own 0 (List.set (List.set l2 (Int.toNat i1) (Gi_Terrain.mk r2 x4.Cost x4.Shift x4.Height x4.Blocks)) (Int.toNat i1) (Gi_Terrain.mk x6.Name r7.2 x6.Shift x6.Height x6.Blocks)).length], xtra := [0] }], rg [hA 5 ((List.set (List.set (List.set l2 (Int.toNat i1) (Gi_Terrain.mk r2 x4.Cost x4.Shift x4.Height x4.Blocks)) (Int.toNat i1) (Gi_Terrain.mk x6.Name r7.2 x6.Shift x6.Height x6.Blocks)) (Int.toNat i1) (Gi_Terrain.mk x10.Name x10.Cost r7.1 x10.Height x10.Blocks)).length) (List.map goi_Terrain (List.set (List.set (List.set l2 (Int.toNat i1) (Gi_Terrain.mk r2 x4.Cost x4.Shift x4.Height x4.Blocks)) (Int.toNat i1) (Gi_Terrain.mk x6.Name r7.2 x6.Shift x6.Height x6.Blocks)) (Int.toNat i1) (Gi_Terrain.mk x10.Name x10.Cost r7.1 x10.Height x10.Blocks)))], r0, rg [hA 5 ((List.set (List.set (List.set (List.set l2 (Int.toNat i1) (Gi_Terrain.mk r2 x4.Cost x4.Shift x4.Height x4.Blocks)) (Int.toNat i1) (Gi_Terrain.mk x6.Name r7.2 x6.Shift x6.Height x6.Blocks)) (Int.toNat i1) (Gi_Terrain.mk x10.Name x10.Cost r7.1 x10.Height x10.Blocks)) (Int.toNat i1) (Gi_Terrain.mk x12.Name x12.Cost x12.Shift (IntKind.wrap .i64 (r7.1 + 1)) x12.Blocks)).length) (List.map goi_Terrain (List.set (List.set (List.set (List.set l2 (Int.toNat i1) (Gi_Terrain.mk r2 x4.Cost x4.Shift x4.Height x4.Blocks)) (Int.toNat i1) (Gi_Terrain.mk x6.Name r7.2 x6.Shift x6.Height x6.Blocks)) (Int.toNat i1) (Gi_Terrain.mk x10.Name x10.Cost r7.1 x10.Height x10.Blocks)) (Int.toNat i1) (Gi_Terrain.mk x12.Name x12.Cost x12.Shift (IntKind.wrap .i64 (r7.1 + 1)) x12.Blocks)))], r0, rg [hA 7 ((List.set (List.set (List.set (List.set (List.set l2 (Int.toNat i1) (Gi_Terrain.mk r2 x4.Cost x4.Shift x4.Height x4.Blocks)) (Int.toNat i1) (Gi_Terrain.mk x6.Name r7.2 x6.Shift x6.Height x6.Blocks)) (Int.toNat i1) (Gi_Terrain.mk x10.Name x10.Cost r7.1 x10.Height x10.Blocks)) (Int.toNat i1) (Gi_Terrain.mk x12.Name x12.Cost x12.Shift (IntKind.wrap .i64 (r7.1 + 1)) x12.Blocks)) (Int.toNat i1) (Gi_Terrain.mk x14.Name x14.Cost x14.Shift x14.Height (((Int.tmod (IntKind.wrap .i64 ((IntKind.wrap .i64 (r7.1 + 1)) + 1)) 3) : Int) == 0))).length) (List.map goi_Terrain (List.set (List.set (List.set (List.set (List.set l2 (Int.toNat i1) (Gi_Terrain.mk r2 x4.Cost x4.Shift x4.Height x4.Blocks)) (Int.toNat i1) (Gi_Terrain.mk x6.Name r7.2 x6.Shift x6.Height x6.Blocks)) (Int.toNat i1) (Gi_Terrain.mk x10.Name x10.Cost r7.1 x10.Height x10.Blocks)) (Int.toNat i1) (Gi_Terrain.mk x12.Name x12.Cost x12.Shift (IntKind.wrap .i64 (r7.1 + 1)) x12.Blocks)) (Int.toNat i1) (Gi_Terrain.mk x14.Name x14.Cost x14.Shift x14.Height (((Int.tmod (IntKind.wrap .i64 ((IntKind.wrap .i64 (r7.1 + 1)) + 1)) 3) : Int) == 0))))], r0, r0, .canon [0] [0, 1, 5]] (by kernel_rfl) (P2 ((decide (i1 < ((l2.length : Nat) : Int))) = true) (decide_eq_true h1)<|P1 (cw_markText hr2)<|P1 h3<|P1 (int_lt_of_at h3 hx4)<|P1 (lt_of_at hx4)<|P2 (setCells (List.map goi_Terrain l2) (Int.toNat i1) 0 [.str r2] = List.map goi_Terrain (List.set l2 (Int.toNat i1) (Gi_Terrain.mk r2 x4.Cost x4.Shift x4.Height x4.Blocks))) (setCells_map hx4 rfl)<|P1 (setLen l2 (Int.toNat i1) (Gi_Terrain.mk r2 x4.Cost x4.Shift x4.Height x4.Blocks))<|P1 h5<|P1 (int_lt_of_at h5 hx6)<|P2 (getCells (List.map goi_Terrain (List.set l2 (Int.toNat i1) (Gi_Terrain.mk r2 x4.Cost x4.Shift x4.Height x4.Blocks))) (Int.toNat i1) 1 1 = some [ow 1 I x6.Cost]) (getCells_at hx6 rfl)<|P2 (setCells (List.map goi_Terrain (List.set l2 (Int.toNat i1) (Gi_Terrain.mk r2 x4.Cost x4.Shift x4.Height x4.Blocks))) (Int.toNat i1) 1 [.ref 1 1 none] = List.set (List.map goi_Terrain (List.set l2 (Int.toNat i1) (Gi_Terrain.mk r2 x4.Cost x4.Shift x4.Height x4.Blocks))) (Int.toNat i1) (.agg [.str x6.Name, .ref 1 1 none, I x6.Shift, I x6.Height, .bool x6.Blocks])) (setCells_mapD hx6 rfl)<|P1 (at_set (f := goi_Terrain) (.agg [.str x6.Name, .ref 1 1 none, I x6.Shift, I x6.Height, .bool x6.Blocks]) hx6)<|P1 h8<|P1 (cw_markIntS hr7)<|P2 (getCells (List.set (List.map goi_Terrain (List.set l2 (Int.toNat i1) (Gi_Terrain.mk r2 x4.Cost x4.Shift x4.Height x4.Blocks))) (Int.toNat i1) (.agg [.str x6.Name, .ref 1 1 none, I x6.Shift, I x6.Height, .bool x6.Blocks])) (Int.toNat i1) 1 1 = some [.ref 1 1 none]) (getCells_set hx6 rfl)<|P2 (setCells (List.set (List.map goi_Terrain (List.set l2 (Int.toNat i1) (Gi_Terrain.mk r2 x4.Cost x4.Shift x4.Height x4.Blocks))) (Int.toNat i1) (.agg [.str x6.Name, .ref 1 1 none, I x6.Shift, I x6.Height, .bool x6.Blocks])) (Int.toNat i1) 1 [ow 1 I r7.2] = List.map goi_Terrain (List.set (List.set l2 (Int.toNat i1) (Gi_Terrain.mk r2 x4.Cost x4.Shift x4.Height x4.Blocks)) (Int.toNat i1) (Gi_Terrain.mk x6.Name r7.2 x6.Shift x6.Height x6.Blocks))) (setCells_set hx6 rfl)<|P1 (allOw_152 (List.set (List.set l2 (Int.toNat i1) (Gi_Terrain.mk r2 x4.Cost x4.Shift x4.Height x4.Blocks)) (Int.toNat i1) (Gi_Terrain.mk x6.Name r7.2 x6.Shift x6.Height x6.Blocks)))<|P1 (setLen (List.set l2 (Int.toNat i1) (Gi_Terrain.mk r2 x4.Cost x4.Shift x4.Height x4.Blocks)) (Int.toNat i1) (Gi_Terrain.mk x6.Name r7.2 x6.Shift x6.Height x6.Blocks))<|P1 h9<|P1 (int_lt_of_at h9 hx10)<|P1 (lt_of_at hx10)<|P2 (setCells (List.map goi_Terrain (List.set (List.set l2 (Int.toNat i1) (Gi_Terrain.mk r2 x4.Cost x4.Shift x4.Height x4.Blocks)) (Int.toNat i1) (Gi_Terrain.mk x6.Name r7.2 x6.Shift x6.Height x6.Blocks))) (Int.toNat i1) 2 [I r7.1] = List.map goi_Terrain (List.set (List.set (List.set l2 (Int.toNat i1) (Gi_Terrain.mk r2 x4.Cost x4.Shift x4.Height x4.Blocks)) (Int.toNat i1) (Gi_Terrain.mk x6.Name r7.2 x6.Shift x6.Height x6.Blocks)) (Int.toNat i1) (Gi_Terrain.mk x10.Name x10.Cost r7.1 x10.Height x10.Blocks))) (setCells_map hx10 rfl)<|P1 (setLen (List.set (List.set l2 (Int.toNat i1) (Gi_Terrain.mk r2 x4.Cost x4.Shift x4.Height x4.Blocks)) (Int.toNat i1) (Gi_Terrain.mk x6.Name r7.2 x6.Shift x6.Height x6.Blocks)) (Int.toNat i1) (Gi_Terrain.mk x10.Name x10.Cost r7.1 x10.Height x10.Blocks))<|P1 h11<|P1 (int_lt_of_at h11 hx12)<|P1 (lt_of_at hx12)<|P2 (setCells (List.map goi_Terrain (List.set (List.set (List.set l2 (Int.toNat i1) (Gi_Terrain.mk r2 x4.Cost x4.Shift x4.Height x4.Blocks)) (Int.toNat i1) (Gi_Terrain.mk x6.Name r7.2 x6.Shift x6.Height x6.Blocks)) (Int.toNat i1) (Gi_Terrain.mk x10.Name x10.Cost r7.1 x10.Height x10.Blocks))) (Int.toNat i1) 3 [I (IntKind.wrap .i64 (r7.1 + 1))] = List.map goi_Terrain (List.set (List.set (List.set (List.set l2 (Int.toNat i1) (Gi_Terrain.mk r2 x4.Cost x4.Shift x4.Height x4.Blocks)) (Int.toNat i1) (Gi_Terrain.mk x6.Name r7.2 x6.Shift x6.Height x6.Blocks)) (Int.toNat i1) (Gi_Terrain.mk x10.Name x10.Cost r7.1 x10.Height x10.Blocks)) (Int.toNat i1) (Gi_Terrain.mk x12.Name x12.Cost x12.Shift (IntKind.wrap .i64 (r7.1 + 1)) x12.Blocks))) (setCells_map hx12 rfl)<|P1 (setLen (List.set (List.set (List.set l2 (Int.toNat i1) (Gi_Terrain.mk r2 x4.Cost x4.Shift x4.Height x4.Blocks)) (Int.toNat i1) (Gi_Terrain.mk x6.Name r7.2 x6.Shift x6.Height x6.Blocks)) (Int.toNat i1) (Gi_Terrain.mk x10.Name x10.Cost r7.1 x10.Height x10.Blocks)) (Int.toNat i1) (Gi_Terrain.mk x12.Name x12.Cost x12.Shift (IntKind.wrap .i64 (r7.1 + 1)) x12.Blocks))<|P2 (¬ (3 : Int) = 0) (by decide)<|P1 h13<|P1 (int_lt_of_at h13 hx14)<|P1 (lt_of_at hx14)<|P2 (setCells (List.map goi_Terrain (List.set (List.set (List.set (List.set l2 (Int.toNat i1) (Gi_Terrain.mk r2 x4.Cost x4.Shift x4.Height x4.Blocks)) (Int.toNat i1) (Gi_Terrain.mk x6.Name r7.2 x6.Shift x6.Height x6.Blocks)) (Int.toNat i1) (Gi_Terrain.mk x10.Name x10.Cost r7.1 x10.Height x10.Blocks)) (Int.toNat i1) (Gi_Terrain.mk x12.Name x12.Cost x12.Shift (IntKind.wrap .i64 (r7.1 + 1)) x12.Blocks))) (Int.toNat i1) 4 [.bool (((Int.tmod (IntKind.wrap .i64 ((IntKind.wrap .i64 (r7.1 + 1)) + 1)) 3) : Int) == 0)] = List.map goi_Terrain (List.set (List.set (List.set (List.set (List.set l2 (Int.toNat i1) (Gi_Terrain.mk r2 x4.Cost x4.Shift x4.Height x4.Blocks)) (Int.toNat i1) (Gi_Terrain.mk x6.Name r7.2 x6.Shift x6.Height x6.Blocks)) (Int.toNat i1) (Gi_Terrain.mk x10.Name x10.Cost r7.1 x10.Height x10.Blocks)) (Int.toNat i1) (Gi_Terrain.mk x12.Name x12.Cost x12.Shift (IntKind.wrap .i64 (r7.1 + 1)) x12.Blocks)) (Int.toNat i1) (Gi_Terrain.mk x14.Name x14.Cost x14.Shift x14.Height (((Int.tmod (IntKind.wrap .i64 ((IntKind.wrap .i64 (r7.1 + 1)) + 1)) 3) : Int) == 0)))) (setCells_map hx14 rfl)<|P1 (setLen (List.set (List.set (List.set (List.set l2 (Int.toNat i1) (Gi_Terrain.mk r2 x4.Cost x4.Shift x4.Height x4.Blocks)) (Int.toNat i1) (Gi_Terrain.mk x6.Name r7.2 x6.Shift x6.Height x6.Blocks)) (Int.toNat i1) (Gi_Terrain.mk x10.Name x10.Cost r7.1 x10.Height x10.Blocks)) (Int.toNat i1) (Gi_Terrain.mk x12.Name x12.Cost x12.Shift (IntKind.wrap .i64 (r7.1 + 1)) x12.Blocks)) (Int.toNat i1) (Gi_Terrain.mk x14.Name x14.Cost x14.Shift x14.Height (((Int.tmod (IntKind.wrap .i64 ((IntKind.wrap .i64 (r7.1 + 1)) + 1)) 3) : Int) == 0)))<|P0) hn)
  (fun h1 H =>
  eN H<|gE func134 [rg [hF 3], r0] (by kernel_rfl) (P2 ((decide (i1 < ((l2.length : Nat) : Int))) = false) (decide_eq_false h1)<|P0))
theorem ww_markTerrainS : ∀ s r, loop Bw_markTerrainS s = some r → Wc X 134 1 (Kw_markTerrainS s) (Zw_markTerrainS s) (Rw_markTerrainS r) (Nw_markTerrainS r) := Nx.all (nw_markTerrainS)
theorem cw_markTerrainS {a0 : (List Gi_Terrain)} {a1 : Int} {r : Int × (List Gi_Terrain)} (H : Dw_markTerrainS a0 a1 = some r) : Ct X.P X.gl 134 [.ref 0 5 none, I a1] [⟨false, false, 5, a0.length, List.map goi_Terrain a0⟩] (Rw_markTerrainS r) (Nw_markTerrainS r) :=
 Ct.of func134 (c := bdy f134) (by kernel_rfl) (by kernel_rfl) <|
 gO [r0, r0, .canon [0] [0, 1, 5]] (by kernel_rfl) P0 (ww_markTerrainS _ _ H)
def Rw_markKindS (r : Int × (List Gi_Kind)) : List D := [I r.1]
def Nw_markKindS (r : Int × (List Gi_Kind)) : List Root := [⟨false, false, 6, r.2.length, List.map gi_Kind r.2⟩]
noncomputable def Kw_markKindS : Sw_markKindS → List Item
 | .h1 .. => nav 300 2 [] [.code (bdy f135)]
def Zw_markKindS : Sw_markKindS → St
 | .h1 k0 i1 l2 => ⟨sts 58 [(0, .ref 0 6 none), (1, I k0), (5, I i1)], [some ⟨false, false, 6, l2.length, List.map gi_Kind l2⟩]⟩
abbrev Qw_markKindS := Nx X 135 1 Kw_markKindS Zw_markKindS Rw_markKindS Nw_markKindS
theorem nw_markKindS : ∀ s o, Bw_markKindS s = some o → Qw_markKindS (Kw_markKindS s) (Zw_markKindS s) o
 | .h1 k0 i1 l2, o, H =>
  eIf H (fun h1 H =>
  eBind H fun r2 hr2 H =>
  eCk H fun h3 H =>
  eBind H fun x4 hx4 H =>
  eCk H fun h5 H =>
  eBind H fun x6 hx6 H =>
  eCk H fun h7 H =>
  eBind H fun x8 hx8 H =>
  eCk H fun h9 H =>
  eBind H fun x10 hx10 H =>
  eCk H fun h11 H =>
  eBind H fun x12 hx12 H =>
  eCk H fun h13 H =>
  eBind H fun x14 hx14 H =>
  eN H fun r hn => gO [rg [hT 3], rg [hC 3 true [] (Rw_markText r2) [], hA 6 ((List.set l2 (Int.toNat i1) (Gi_Kind.mk r2 x4.Strength x4.Moves x4.Steps x4.Zone x4.View)).length) (List.map gi_Kind (List.set l2 (Int.toNat i1) (Gi_Kind.mk r2 x4.Strength x4.Moves x4.Steps x4.Zone x4.View)))], r0, rg [hA 5 ((List.set (List.set l2 (Int.toNat i1) (Gi_Kind.mk r2 x4.Strength x4.Moves x4.Steps x4.Zone x4.View)) (Int.toNat i1) (Gi_Kind.mk x6.Name (IntKind.wrap .i64 (k0 + 1)) x6.Moves x6.Steps x6.Zone x6.View)).length) (List.map gi_Kind (List.set (List.set l2 (Int.toNat i1) (Gi_Kind.mk r2 x4.Strength x4.Moves x4.Steps x4.Zone x4.View)) (Int.toNat i1) (Gi_Kind.mk x6.Name (IntKind.wrap .i64 (k0 + 1)) x6.Moves x6.Steps x6.Zone x6.View)))], r0, rg [hA 5 ((List.set (List.set (List.set l2 (Int.toNat i1) (Gi_Kind.mk r2 x4.Strength x4.Moves x4.Steps x4.Zone x4.View)) (Int.toNat i1) (Gi_Kind.mk x6.Name (IntKind.wrap .i64 (k0 + 1)) x6.Moves x6.Steps x6.Zone x6.View)) (Int.toNat i1) (Gi_Kind.mk x8.Name x8.Strength (IntKind.wrap .i64 ((IntKind.wrap .i64 (k0 + 1)) + 1)) x8.Steps x8.Zone x8.View)).length) (List.map gi_Kind (List.set (List.set (List.set l2 (Int.toNat i1) (Gi_Kind.mk r2 x4.Strength x4.Moves x4.Steps x4.Zone x4.View)) (Int.toNat i1) (Gi_Kind.mk x6.Name (IntKind.wrap .i64 (k0 + 1)) x6.Moves x6.Steps x6.Zone x6.View)) (Int.toNat i1) (Gi_Kind.mk x8.Name x8.Strength (IntKind.wrap .i64 ((IntKind.wrap .i64 (k0 + 1)) + 1)) x8.Steps x8.Zone x8.View)))], r0, rg [hA 5 ((List.set (List.set (List.set (List.set l2 (Int.toNat i1) (Gi_Kind.mk r2 x4.Strength x4.Moves x4.Steps x4.Zone x4.View)) (Int.toNat i1) (Gi_Kind.mk x6.Name (IntKind.wrap .i64 (k0 + 1)) x6.Moves x6.Steps x6.Zone x6.View)) (Int.toNat i1) (Gi_Kind.mk x8.Name x8.Strength (IntKind.wrap .i64 ((IntKind.wrap .i64 (k0 + 1)) + 1)) x8.Steps x8.Zone x8.View)) (Int.toNat i1) (Gi_Kind.mk x10.Name x10.Strength x10.Moves (IntKind.wrap .i64 ((IntKind.wrap .i64 ((IntKind.wrap .i64 (k0 + 1)) + 1)) + 1)) x10.Zone x10.View)).length) (List.map gi_Kind (List.set (List.set (List.set (List.set l2 (Int.toNat i1) (Gi_Kind.mk r2 x4.Strength x4.Moves x4.Steps x4.Zone x4.View)) (Int.toNat i1) (Gi_Kind.mk x6.Name (IntKind.wrap .i64 (k0 + 1)) x6.Moves x6.Steps x6.Zone x6.View)) (Int.toNat i1) (Gi_Kind.mk x8.Name x8.Strength (IntKind.wrap .i64 ((IntKind.wrap .i64 (k0 + 1)) + 1)) x8.Steps x8.Zone x8.View)) (Int.toNat i1) (Gi_Kind.mk x10.Name x10.Strength x10.Moves (IntKind.wrap .i64 ((IntKind.wrap .i64 ((IntKind.wrap .i64 (k0 + 1)) + 1)) + 1)) x10.Zone x10.View)))], r0, rg [hA 7 ((List.set (List.set (List.set (List.set (List.set l2 (Int.toNat i1) (Gi_Kind.mk r2 x4.Strength x4.Moves x4.Steps x4.Zone x4.View)) (Int.toNat i1) (Gi_Kind.mk x6.Name (IntKind.wrap .i64 (k0 + 1)) x6.Moves x6.Steps x6.Zone x6.View)) (Int.toNat i1) (Gi_Kind.mk x8.Name x8.Strength (IntKind.wrap .i64 ((IntKind.wrap .i64 (k0 + 1)) + 1)) x8.Steps x8.Zone x8.View)) (Int.toNat i1) (Gi_Kind.mk x10.Name x10.Strength x10.Moves (IntKind.wrap .i64 ((IntKind.wrap .i64 ((IntKind.wrap .i64 (k0 + 1)) + 1)) + 1)) x10.Zone x10.View)) (Int.toNat i1) (Gi_Kind.mk x12.Name x12.Strength x12.Moves x12.Steps (((Int.tmod (IntKind.wrap .i64 ((IntKind.wrap .i64 ((IntKind.wrap .i64 ((IntKind.wrap .i64 (k0 + 1)) + 1)) + 1)) + 1)) 3) : Int) == 0) x12.View)).length) (List.map gi_Kind (List.set (List.set (List.set (List.set (List.set l2 (Int.toNat i1) (Gi_Kind.mk r2 x4.Strength x4.Moves x4.Steps x4.Zone x4.View)) (Int.toNat i1) (Gi_Kind.mk x6.Name (IntKind.wrap .i64 (k0 + 1)) x6.Moves x6.Steps x6.Zone x6.View)) (Int.toNat i1) (Gi_Kind.mk x8.Name x8.Strength (IntKind.wrap .i64 ((IntKind.wrap .i64 (k0 + 1)) + 1)) x8.Steps x8.Zone x8.View)) (Int.toNat i1) (Gi_Kind.mk x10.Name x10.Strength x10.Moves (IntKind.wrap .i64 ((IntKind.wrap .i64 ((IntKind.wrap .i64 (k0 + 1)) + 1)) + 1)) x10.Zone x10.View)) (Int.toNat i1) (Gi_Kind.mk x12.Name x12.Strength x12.Moves x12.Steps (((Int.tmod (IntKind.wrap .i64 ((IntKind.wrap .i64 ((IntKind.wrap .i64 ((IntKind.wrap .i64 (k0 + 1)) + 1)) + 1)) + 1)) 3) : Int) == 0) x12.View)))], r0, rg [hA 5 ((List.set (List.set (List.set (List.set (List.set (List.set l2 (Int.toNat i1) (Gi_Kind.mk r2 x4.Strength x4.Moves x4.Steps x4.Zone x4.View)) (Int.toNat i1) (Gi_Kind.mk x6.Name (IntKind.wrap .i64 (k0 + 1)) x6.Moves x6.Steps x6.Zone x6.View)) (Int.toNat i1) (Gi_Kind.mk x8.Name x8.Strength (IntKind.wrap .i64 ((IntKind.wrap .i64 (k0 + 1)) + 1)) x8.Steps x8.Zone x8.View)) (Int.toNat i1) (Gi_Kind.mk x10.Name x10.Strength x10.Moves (IntKind.wrap .i64 ((IntKind.wrap .i64 ((IntKind.wrap .i64 (k0 + 1)) + 1)) + 1)) x10.Zone x10.View)) (Int.toNat i1) (Gi_Kind.mk x12.Name x12.Strength x12.Moves x12.Steps (((Int.tmod (IntKind.wrap .i64 ((IntKind.wrap .i64 ((IntKind.wrap .i64 ((IntKind.wrap .i64 (k0 + 1)) + 1)) + 1)) + 1)) 3) : Int) == 0) x12.View)) (Int.toNat i1) (Gi_Kind.mk x14.Name x14.Strength x14.Moves x14.Steps x14.Zone (IntKind.wrap .i64 ((IntKind.wrap .i64 ((IntKind.wrap .i64 ((IntKind.wrap .i64 ((IntKind.wrap .i64 (k0 + 1)) + 1)) + 1)) + 1)) + 1)))).length) (List.map gi_Kind (List.set (List.set (List.set (List.set (List.set (List.set l2 (Int.toNat i1) (Gi_Kind.mk r2 x4.Strength x4.Moves x4.Steps x4.Zone x4.View)) (Int.toNat i1) (Gi_Kind.mk x6.Name (IntKind.wrap .i64 (k0 + 1)) x6.Moves x6.Steps x6.Zone x6.View)) (Int.toNat i1) (Gi_Kind.mk x8.Name x8.Strength (IntKind.wrap .i64 ((IntKind.wrap .i64 (k0 + 1)) + 1)) x8.Steps x8.Zone x8.View)) (Int.toNat i1) (Gi_Kind.mk x10.Name x10.Strength x10.Moves (IntKind.wrap .i64 ((IntKind.wrap .i64 ((IntKind.wrap .i64 (k0 + 1)) + 1)) + 1)) x10.Zone x10.View)) (Int.toNat i1) (Gi_Kind.mk x12.Name x12.Strength x12.Moves x12.Steps (((Int.tmod (IntKind.wrap .i64 ((IntKind.wrap .i64 ((IntKind.wrap .i64 ((IntKind.wrap .i64 (k0 + 1)) + 1)) + 1)) + 1)) 3) : Int) == 0) x12.View)) (Int.toNat i1) (Gi_Kind.mk x14.Name x14.Strength x14.Moves x14.Steps x14.Zone (IntKind.wrap .i64 ((IntKind.wrap .i64 ((IntKind.wrap .i64 ((IntKind.wrap .i64 ((IntKind.wrap .i64 (k0 + 1)) + 1)) + 1)) + 1)) + 1)))))], r0, r0, .canon [0] [0, 1, 5]] (by kernel_rfl) (P2 ((decide (i1 < ((l2.length : Nat) : Int))) = true) (decide_eq_true h1)<|P1 (cw_markText hr2)<|P1 h3<|P1 (int_lt_of_at h3 hx4)<|P1 (lt_of_at hx4)<|P2 (setCells (List.map gi_Kind l2) (Int.toNat i1) 0 [.str r2] = List.map gi_Kind (List.set l2 (Int.toNat i1) (Gi_Kind.mk r2 x4.Strength x4.Moves x4.Steps x4.Zone x4.View))) (setCells_map hx4 rfl)<|P1 (setLen l2 (Int.toNat i1) (Gi_Kind.mk r2 x4.Strength x4.Moves x4.Steps x4.Zone x4.View))<|P1 h5<|P1 (int_lt_of_at h5 hx6)<|P1 (lt_of_at hx6)<|P2 (setCells (List.map gi_Kind (List.set l2 (Int.toNat i1) (Gi_Kind.mk r2 x4.Strength x4.Moves x4.Steps x4.Zone x4.View))) (Int.toNat i1) 1 [I (IntKind.wrap .i64 (k0 + 1))] = List.map gi_Kind (List.set (List.set l2 (Int.toNat i1) (Gi_Kind.mk r2 x4.Strength x4.Moves x4.Steps x4.Zone x4.View)) (Int.toNat i1) (Gi_Kind.mk x6.Name (IntKind.wrap .i64 (k0 + 1)) x6.Moves x6.Steps x6.Zone x6.View))) (setCells_map hx6 rfl)<|P1 (setLen (List.set l2 (Int.toNat i1) (Gi_Kind.mk r2 x4.Strength x4.Moves x4.Steps x4.Zone x4.View)) (Int.toNat i1) (Gi_Kind.mk x6.Name (IntKind.wrap .i64 (k0 + 1)) x6.Moves x6.Steps x6.Zone x6.View))<|P1 h7<|P1 (int_lt_of_at h7 hx8)<|P1 (lt_of_at hx8)<|P2 (setCells (List.map gi_Kind (List.set (List.set l2 (Int.toNat i1) (Gi_Kind.mk r2 x4.Strength x4.Moves x4.Steps x4.Zone x4.View)) (Int.toNat i1) (Gi_Kind.mk x6.Name (IntKind.wrap .i64 (k0 + 1)) x6.Moves x6.Steps x6.Zone x6.View))) (Int.toNat i1) 2 [I (IntKind.wrap .i64 ((IntKind.wrap .i64 (k0 + 1)) + 1))] = List.map gi_Kind (List.set (List.set (List.set l2 (Int.toNat i1) (Gi_Kind.mk r2 x4.Strength x4.Moves x4.Steps x4.Zone x4.View)) (Int.toNat i1) (Gi_Kind.mk x6.Name (IntKind.wrap .i64 (k0 + 1)) x6.Moves x6.Steps x6.Zone x6.View)) (Int.toNat i1) (Gi_Kind.mk x8.Name x8.Strength (IntKind.wrap .i64 ((IntKind.wrap .i64 (k0 + 1)) + 1)) x8.Steps x8.Zone x8.View))) (setCells_map hx8 rfl)<|P1 (setLen (List.set (List.set l2 (Int.toNat i1) (Gi_Kind.mk r2 x4.Strength x4.Moves x4.Steps x4.Zone x4.View)) (Int.toNat i1) (Gi_Kind.mk x6.Name (IntKind.wrap .i64 (k0 + 1)) x6.Moves x6.Steps x6.Zone x6.View)) (Int.toNat i1) (Gi_Kind.mk x8.Name x8.Strength (IntKind.wrap .i64 ((IntKind.wrap .i64 (k0 + 1)) + 1)) x8.Steps x8.Zone x8.View))<|P1 h9<|P1 (int_lt_of_at h9 hx10)<|P1 (lt_of_at hx10)<|P2 (setCells (List.map gi_Kind (List.set (List.set (List.set l2 (Int.toNat i1) (Gi_Kind.mk r2 x4.Strength x4.Moves x4.Steps x4.Zone x4.View)) (Int.toNat i1) (Gi_Kind.mk x6.Name (IntKind.wrap .i64 (k0 + 1)) x6.Moves x6.Steps x6.Zone x6.View)) (Int.toNat i1) (Gi_Kind.mk x8.Name x8.Strength (IntKind.wrap .i64 ((IntKind.wrap .i64 (k0 + 1)) + 1)) x8.Steps x8.Zone x8.View))) (Int.toNat i1) 3 [I (IntKind.wrap .i64 ((IntKind.wrap .i64 ((IntKind.wrap .i64 (k0 + 1)) + 1)) + 1))] = List.map gi_Kind (List.set (List.set (List.set (List.set l2 (Int.toNat i1) (Gi_Kind.mk r2 x4.Strength x4.Moves x4.Steps x4.Zone x4.View)) (Int.toNat i1) (Gi_Kind.mk x6.Name (IntKind.wrap .i64 (k0 + 1)) x6.Moves x6.Steps x6.Zone x6.View)) (Int.toNat i1) (Gi_Kind.mk x8.Name x8.Strength (IntKind.wrap .i64 ((IntKind.wrap .i64 (k0 + 1)) + 1)) x8.Steps x8.Zone x8.View)) (Int.toNat i1) (Gi_Kind.mk x10.Name x10.Strength x10.Moves (IntKind.wrap .i64 ((IntKind.wrap .i64 ((IntKind.wrap .i64 (k0 + 1)) + 1)) + 1)) x10.Zone x10.View))) (setCells_map hx10 rfl)<|P1 (setLen (List.set (List.set (List.set l2 (Int.toNat i1) (Gi_Kind.mk r2 x4.Strength x4.Moves x4.Steps x4.Zone x4.View)) (Int.toNat i1) (Gi_Kind.mk x6.Name (IntKind.wrap .i64 (k0 + 1)) x6.Moves x6.Steps x6.Zone x6.View)) (Int.toNat i1) (Gi_Kind.mk x8.Name x8.Strength (IntKind.wrap .i64 ((IntKind.wrap .i64 (k0 + 1)) + 1)) x8.Steps x8.Zone x8.View)) (Int.toNat i1) (Gi_Kind.mk x10.Name x10.Strength x10.Moves (IntKind.wrap .i64 ((IntKind.wrap .i64 ((IntKind.wrap .i64 (k0 + 1)) + 1)) + 1)) x10.Zone x10.View))<|P2 (¬ (3 : Int) = 0) (by decide)<|P1 h11<|P1 (int_lt_of_at h11 hx12)<|P1 (lt_of_at hx12)<|P2 (setCells (List.map gi_Kind (List.set (List.set (List.set (List.set l2 (Int.toNat i1) (Gi_Kind.mk r2 x4.Strength x4.Moves x4.Steps x4.Zone x4.View)) (Int.toNat i1) (Gi_Kind.mk x6.Name (IntKind.wrap .i64 (k0 + 1)) x6.Moves x6.Steps x6.Zone x6.View)) (Int.toNat i1) (Gi_Kind.mk x8.Name x8.Strength (IntKind.wrap .i64 ((IntKind.wrap .i64 (k0 + 1)) + 1)) x8.Steps x8.Zone x8.View)) (Int.toNat i1) (Gi_Kind.mk x10.Name x10.Strength x10.Moves (IntKind.wrap .i64 ((IntKind.wrap .i64 ((IntKind.wrap .i64 (k0 + 1)) + 1)) + 1)) x10.Zone x10.View))) (Int.toNat i1) 4 [.bool (((Int.tmod (IntKind.wrap .i64 ((IntKind.wrap .i64 ((IntKind.wrap .i64 ((IntKind.wrap .i64 (k0 + 1)) + 1)) + 1)) + 1)) 3) : Int) == 0)] = List.map gi_Kind (List.set (List.set (List.set (List.set (List.set l2 (Int.toNat i1) (Gi_Kind.mk r2 x4.Strength x4.Moves x4.Steps x4.Zone x4.View)) (Int.toNat i1) (Gi_Kind.mk x6.Name (IntKind.wrap .i64 (k0 + 1)) x6.Moves x6.Steps x6.Zone x6.View)) (Int.toNat i1) (Gi_Kind.mk x8.Name x8.Strength (IntKind.wrap .i64 ((IntKind.wrap .i64 (k0 + 1)) + 1)) x8.Steps x8.Zone x8.View)) (Int.toNat i1) (Gi_Kind.mk x10.Name x10.Strength x10.Moves (IntKind.wrap .i64 ((IntKind.wrap .i64 ((IntKind.wrap .i64 (k0 + 1)) + 1)) + 1)) x10.Zone x10.View)) (Int.toNat i1) (Gi_Kind.mk x12.Name x12.Strength x12.Moves x12.Steps (((Int.tmod (IntKind.wrap .i64 ((IntKind.wrap .i64 ((IntKind.wrap .i64 ((IntKind.wrap .i64 (k0 + 1)) + 1)) + 1)) + 1)) 3) : Int) == 0) x12.View))) (setCells_map hx12 rfl)<|P1 (setLen (List.set (List.set (List.set (List.set l2 (Int.toNat i1) (Gi_Kind.mk r2 x4.Strength x4.Moves x4.Steps x4.Zone x4.View)) (Int.toNat i1) (Gi_Kind.mk x6.Name (IntKind.wrap .i64 (k0 + 1)) x6.Moves x6.Steps x6.Zone x6.View)) (Int.toNat i1) (Gi_Kind.mk x8.Name x8.Strength (IntKind.wrap .i64 ((IntKind.wrap .i64 (k0 + 1)) + 1)) x8.Steps x8.Zone x8.View)) (Int.toNat i1) (Gi_Kind.mk x10.Name x10.Strength x10.Moves (IntKind.wrap .i64 ((IntKind.wrap .i64 ((IntKind.wrap .i64 (k0 + 1)) + 1)) + 1)) x10.Zone x10.View)) (Int.toNat i1) (Gi_Kind.mk x12.Name x12.Strength x12.Moves x12.Steps (((Int.tmod (IntKind.wrap .i64 ((IntKind.wrap .i64 ((IntKind.wrap .i64 ((IntKind.wrap .i64 (k0 + 1)) + 1)) + 1)) + 1)) 3) : Int) == 0) x12.View))<|P1 h13<|P1 (int_lt_of_at h13 hx14)<|P1 (lt_of_at hx14)<|P2 (setCells (List.map gi_Kind (List.set (List.set (List.set (List.set (List.set l2 (Int.toNat i1) (Gi_Kind.mk r2 x4.Strength x4.Moves x4.Steps x4.Zone x4.View)) (Int.toNat i1) (Gi_Kind.mk x6.Name (IntKind.wrap .i64 (k0 + 1)) x6.Moves x6.Steps x6.Zone x6.View)) (Int.toNat i1) (Gi_Kind.mk x8.Name x8.Strength (IntKind.wrap .i64 ((IntKind.wrap .i64 (k0 + 1)) + 1)) x8.Steps x8.Zone x8.View)) (Int.toNat i1) (Gi_Kind.mk x10.Name x10.Strength x10.Moves (IntKind.wrap .i64 ((IntKind.wrap .i64 ((IntKind.wrap .i64 (k0 + 1)) + 1)) + 1)) x10.Zone x10.View)) (Int.toNat i1) (Gi_Kind.mk x12.Name x12.Strength x12.Moves x12.Steps (((Int.tmod (IntKind.wrap .i64 ((IntKind.wrap .i64 ((IntKind.wrap .i64 ((IntKind.wrap .i64 (k0 + 1)) + 1)) + 1)) + 1)) 3) : Int) == 0) x12.View))) (Int.toNat i1) 5 [I (IntKind.wrap .i64 ((IntKind.wrap .i64 ((IntKind.wrap .i64 ((IntKind.wrap .i64 ((IntKind.wrap .i64 (k0 + 1)) + 1)) + 1)) + 1)) + 1))] = List.map gi_Kind (List.set (List.set (List.set (List.set (List.set (List.set l2 (Int.toNat i1) (Gi_Kind.mk r2 x4.Strength x4.Moves x4.Steps x4.Zone x4.View)) (Int.toNat i1) (Gi_Kind.mk x6.Name (IntKind.wrap .i64 (k0 + 1)) x6.Moves x6.Steps x6.Zone x6.View)) (Int.toNat i1) (Gi_Kind.mk x8.Name x8.Strength (IntKind.wrap .i64 ((IntKind.wrap .i64 (k0 + 1)) + 1)) x8.Steps x8.Zone x8.View)) (Int.toNat i1) (Gi_Kind.mk x10.Name x10.Strength x10.Moves (IntKind.wrap .i64 ((IntKind.wrap .i64 ((IntKind.wrap .i64 (k0 + 1)) + 1)) + 1)) x10.Zone x10.View)) (Int.toNat i1) (Gi_Kind.mk x12.Name x12.Strength x12.Moves x12.Steps (((Int.tmod (IntKind.wrap .i64 ((IntKind.wrap .i64 ((IntKind.wrap .i64 ((IntKind.wrap .i64 (k0 + 1)) + 1)) + 1)) + 1)) 3) : Int) == 0) x12.View)) (Int.toNat i1) (Gi_Kind.mk x14.Name x14.Strength x14.Moves x14.Steps x14.Zone (IntKind.wrap .i64 ((IntKind.wrap .i64 ((IntKind.wrap .i64 ((IntKind.wrap .i64 ((IntKind.wrap .i64 (k0 + 1)) + 1)) + 1)) + 1)) + 1))))) (setCells_map hx14 rfl)<|P1 (setLen (List.set (List.set (List.set (List.set (List.set l2 (Int.toNat i1) (Gi_Kind.mk r2 x4.Strength x4.Moves x4.Steps x4.Zone x4.View)) (Int.toNat i1) (Gi_Kind.mk x6.Name (IntKind.wrap .i64 (k0 + 1)) x6.Moves x6.Steps x6.Zone x6.View)) (Int.toNat i1) (Gi_Kind.mk x8.Name x8.Strength (IntKind.wrap .i64 ((IntKind.wrap .i64 (k0 + 1)) + 1)) x8.Steps x8.Zone x8.View)) (Int.toNat i1) (Gi_Kind.mk x10.Name x10.Strength x10.Moves (IntKind.wrap .i64 ((IntKind.wrap .i64 ((IntKind.wrap .i64 (k0 + 1)) + 1)) + 1)) x10.Zone x10.View)) (Int.toNat i1) (Gi_Kind.mk x12.Name x12.Strength x12.Moves x12.Steps (((Int.tmod (IntKind.wrap .i64 ((IntKind.wrap .i64 ((IntKind.wrap .i64 ((IntKind.wrap .i64 (k0 + 1)) + 1)) + 1)) + 1)) 3) : Int) == 0) x12.View)) (Int.toNat i1) (Gi_Kind.mk x14.Name x14.Strength x14.Moves x14.Steps x14.Zone (IntKind.wrap .i64 ((IntKind.wrap .i64 ((IntKind.wrap .i64 ((IntKind.wrap .i64 ((IntKind.wrap .i64 (k0 + 1)) + 1)) + 1)) + 1)) + 1))))<|P0) hn)
  (fun h1 H =>
  eN H<|gE func135 [rg [hF 3], r0] (by kernel_rfl) (P2 ((decide (i1 < ((l2.length : Nat) : Int))) = false) (decide_eq_false h1)<|P0))
theorem ww_markKindS : ∀ s r, loop Bw_markKindS s = some r → Wc X 135 1 (Kw_markKindS s) (Zw_markKindS s) (Rw_markKindS r) (Nw_markKindS r) := Nx.all (nw_markKindS)
theorem cw_markKindS {a0 : (List Gi_Kind)} {a1 : Int} {r : Int × (List Gi_Kind)} (H : Dw_markKindS a0 a1 = some r) : Ct X.P X.gl 135 [.ref 0 6 none, I a1] [⟨false, false, 6, a0.length, List.map gi_Kind a0⟩] (Rw_markKindS r) (Nw_markKindS r) :=
 Ct.of func135 (c := bdy f135) (by kernel_rfl) (by kernel_rfl) <|
 gO [r0, r0, .canon [0] [0, 1, 5]] (by kernel_rfl) P0 (ww_markKindS _ _ H)
def Rw_markRules (r : Int × (List Gi_Terrain) × (List Gi_Kind)) : List D := [I r.1]
def Nw_markRules (r : Int × (List Gi_Terrain) × (List Gi_Kind)) : List Root := [⟨false, false, 5, r.2.1.length, List.map goi_Terrain r.2.1⟩, ⟨false, false, 6, r.2.2.length, List.map gi_Kind r.2.2⟩]
theorem cw_markRules {a0 : Gi_Rules} {a1 : Int} {r : Int × (List Gi_Terrain) × (List Gi_Kind)} (H : Dw_markRules a0 a1 = some r) : Ct X.P X.gl 79 [.agg [.ref 0 5 none, .ref 1 6 none, I a0.Stack, I a0.River, I a0.Road, I a0.Supply, I a0.Turns], I a1] [⟨false, false, 5, a0.Terrains.length, List.map goi_Terrain a0.Terrains⟩, ⟨false, false, 6, a0.Kinds.length, List.map gi_Kind a0.Kinds⟩] (Rw_markRules r) (Nw_markRules r) :=
 Ct.of func79 (c := bdy f79) (by kernel_rfl) (by kernel_rfl) <|
 eBind H fun r1 hr1 H =>
 eCk H fun h2 H =>
 eBind H fun r3 hr3 H =>
 eCk H fun h4 H =>
 eW Rw_markRules Nw_markRules H<|gE func79 [r0, rg [{ i := 3, call := some { cl := true, ins := [0], args := [.ref 0 5 none, I a1], res := Rw_markTerrainS r1, G' := Nw_markTerrainS r1 } }], rg [hC 3 true [1] (Rw_markKindS r3) (Nw_markKindS r3)], r0] (by kernel_rfl) (PN<|PI a1<|P1 h2<|P1 (cw_markTerrainS hr1)<|P1 h4<|P1 (cw_markKindS hr3)<|P0)
def Rw_markMap (r : Int × (List Int) × (List Int) × (List Int)) : List D := [I r.1]
def Nw_markMap (r : Int × (List Int) × (List Int) × (List Int)) : List Root := [⟨false, false, 1, r.2.1.length, List.map I r.2.1⟩, ⟨false, false, 1, r.2.2.1.length, List.map I r.2.2.1⟩, ⟨false, false, 1, r.2.2.2.length, List.map I r.2.2.2⟩]
theorem cw_markMap {a0 : Gi_Map} {a1 : Int} {r : Int × (List Int) × (List Int) × (List Int)} (H : Dw_markMap a0 a1 = some r) : Ct X.P X.gl 80 [.agg [I a0.Width, I a0.Height, .ref 0 1 none, .ref 1 1 none, .ref 2 1 none], I a1] [⟨false, false, 1, a0.Terrain.length, List.map I a0.Terrain⟩, ⟨false, false, 1, a0.Rivers.length, List.map I a0.Rivers⟩, ⟨false, false, 1, a0.Roads.length, List.map I a0.Roads⟩] (Rw_markMap r) (Nw_markMap r) :=
 Ct.of func80 (c := bdy f80) (by kernel_rfl) (by kernel_rfl) <|
 eBind H fun r1 hr1 H =>
 eCk H fun h2 H =>
 eBind H fun r3 hr3 H =>
 eCk H fun h4 H =>
 eBind H fun r5 hr5 H =>
 eCk H fun h6 H =>
 eW Rw_markMap Nw_markMap H<|gE func80 [r0, rg [hC 3 true [0] (Rw_markIntS r1) (Nw_markIntS r1)], rg [hC 3 true [1] (Rw_markIntS r3) (Nw_markIntS r3)], rg [hC 3 true [2] (Rw_markIntS r5) (Nw_markIntS r5)], r0] (by kernel_rfl) (P1 h2<|P1 (cw_markIntS hr1)<|P1 h4<|P1 (cw_markIntS hr3)<|P1 h6<|P1 (cw_markIntS hr5)<|P0)
def Rw_markBoard (r : Int × (List Gi_Terrain) × (List Gi_Kind) × (List Int) × (List Int) × (List Int)) : List D := [I r.1]
def Nw_markBoard (r : Int × (List Gi_Terrain) × (List Gi_Kind) × (List Int) × (List Int) × (List Int)) : List Root := [⟨false, false, 5, r.2.1.length, List.map goi_Terrain r.2.1⟩, ⟨false, false, 6, r.2.2.1.length, List.map gi_Kind r.2.2.1⟩, ⟨false, false, 1, r.2.2.2.1.length, List.map I r.2.2.2.1⟩, ⟨false, false, 1, r.2.2.2.2.1.length, List.map I r.2.2.2.2.1⟩, ⟨false, false, 1, r.2.2.2.2.2.length, List.map I r.2.2.2.2.2⟩]
theorem cw_markBoard {a0 : Gi_Board} {a1 : Int} {r : Int × (List Gi_Terrain) × (List Gi_Kind) × (List Int) × (List Int) × (List Int)} (H : Dw_markBoard a0 a1 = some r) : Ct X.P X.gl 40 [.agg [.ref 0 5 none, .ref 1 6 none, I a0.Rules.Stack, I a0.Rules.River, I a0.Rules.Road, I a0.Rules.Supply, I a0.Rules.Turns, I a0.Map.Width, I a0.Map.Height, .ref 2 1 none, .ref 3 1 none, .ref 4 1 none], I a1] [⟨false, false, 5, a0.Rules.Terrains.length, List.map goi_Terrain a0.Rules.Terrains⟩, ⟨false, false, 6, a0.Rules.Kinds.length, List.map gi_Kind a0.Rules.Kinds⟩, ⟨false, false, 1, a0.Map.Terrain.length, List.map I a0.Map.Terrain⟩, ⟨false, false, 1, a0.Map.Rivers.length, List.map I a0.Map.Rivers⟩, ⟨false, false, 1, a0.Map.Roads.length, List.map I a0.Map.Roads⟩] (Rw_markBoard r) (Nw_markBoard r) :=
 Ct.of func40 (c := bdy f40) (by kernel_rfl) (by kernel_rfl) <|
 eBind H fun r1 hr1 H =>
 eCk H fun h2 H =>
 eCk H fun h3 H =>
 eBind H fun r4 hr4 H =>
 eCk H fun h5 H =>
 eCk H fun h6 H =>
 eCk H fun h7 H =>
 eW Rw_markBoard Nw_markBoard H<|gE func40 [r0, rg [{ i := 3, call := some { cl := true, ins := [0, 1], args := [.agg [.ref 0 5 none, .ref 1 6 none, I a0.Rules.Stack, I a0.Rules.River, I a0.Rules.Road, I a0.Rules.Supply, I a0.Rules.Turns], I a1], res := Rw_markRules r1, G' := Nw_markRules r1 } }], rg [hC 3 true [2, 3, 4] (Rw_markMap r4) (Nw_markMap r4)], r0] (by kernel_rfl) (PN<|PN<|PI a0.Rules.Stack<|PI a0.Rules.River<|PI a0.Rules.Road<|PI a0.Rules.Supply<|PI a0.Rules.Turns<|PI a1<|P1 h2<|P1 h3<|P1 (cw_markRules hr1)<|P1 h5<|P1 h6<|P1 h7<|P1 (cw_markMap hr4)<|P0)
def Rw_markOddsS (r : Int × (List Gi_Odds)) : List D := [I r.1]
def Nw_markOddsS (r : Int × (List Gi_Odds)) : List Root := [⟨false, false, 2, r.2.length, List.map gi_Odds r.2⟩]
noncomputable def Kw_markOddsS : Sw_markOddsS → List Item
 | .h1 .. => nav 300 2 [] [.code (bdy f81)]
def Zw_markOddsS : Sw_markOddsS → St
 | .h1 k0 i1 l2 => ⟨sts 27 [(0, .ref 0 2 none), (1, I k0), (5, I i1)], [some ⟨false, false, 2, l2.length, List.map gi_Odds l2⟩]⟩
abbrev Qw_markOddsS := Nx X 81 1 Kw_markOddsS Zw_markOddsS Rw_markOddsS Nw_markOddsS
theorem nw_markOddsS : ∀ s o, Bw_markOddsS s = some o → Qw_markOddsS (Kw_markOddsS s) (Zw_markOddsS s) o
 | .h1 k0 i1 l2, o, H =>
  eIf H (fun h1 H =>
  eCk H fun h2 H =>
  eBind H fun x3 hx3 H =>
  eCk H fun h4 H =>
  eBind H fun x5 hx5 H =>
  eN H fun r hn => gO [rg [hT 3], rg [hA 5 ((List.set l2 (Int.toNat i1) (Gi_Odds.mk k0 x3.Den)).length) (List.map gi_Odds (List.set l2 (Int.toNat i1) (Gi_Odds.mk k0 x3.Den)))], r0, rg [hA 5 ((List.set (List.set l2 (Int.toNat i1) (Gi_Odds.mk k0 x3.Den)) (Int.toNat i1) (Gi_Odds.mk x5.Num (IntKind.wrap .i64 (k0 + 1)))).length) (List.map gi_Odds (List.set (List.set l2 (Int.toNat i1) (Gi_Odds.mk k0 x3.Den)) (Int.toNat i1) (Gi_Odds.mk x5.Num (IntKind.wrap .i64 (k0 + 1)))))], r0, r0, .canon [0] [0, 1, 5]] (by kernel_rfl) (P2 ((decide (i1 < ((l2.length : Nat) : Int))) = true) (decide_eq_true h1)<|P1 h2<|P1 (int_lt_of_at h2 hx3)<|P1 (lt_of_at hx3)<|P2 (setCells (List.map gi_Odds l2) (Int.toNat i1) 0 [I k0] = List.map gi_Odds (List.set l2 (Int.toNat i1) (Gi_Odds.mk k0 x3.Den))) (setCells_map hx3 rfl)<|P1 (setLen l2 (Int.toNat i1) (Gi_Odds.mk k0 x3.Den))<|P1 h4<|P1 (int_lt_of_at h4 hx5)<|P1 (lt_of_at hx5)<|P2 (setCells (List.map gi_Odds (List.set l2 (Int.toNat i1) (Gi_Odds.mk k0 x3.Den))) (Int.toNat i1) 1 [I (IntKind.wrap .i64 (k0 + 1))] = List.map gi_Odds (List.set (List.set l2 (Int.toNat i1) (Gi_Odds.mk k0 x3.Den)) (Int.toNat i1) (Gi_Odds.mk x5.Num (IntKind.wrap .i64 (k0 + 1))))) (setCells_map hx5 rfl)<|P1 (setLen (List.set l2 (Int.toNat i1) (Gi_Odds.mk k0 x3.Den)) (Int.toNat i1) (Gi_Odds.mk x5.Num (IntKind.wrap .i64 (k0 + 1))))<|P0) hn)
  (fun h1 H =>
  eN H<|gE func81 [rg [hF 3], r0] (by kernel_rfl) (P2 ((decide (i1 < ((l2.length : Nat) : Int))) = false) (decide_eq_false h1)<|P0))
theorem ww_markOddsS : ∀ s r, loop Bw_markOddsS s = some r → Wc X 81 1 (Kw_markOddsS s) (Zw_markOddsS s) (Rw_markOddsS r) (Nw_markOddsS r) := Nx.all (nw_markOddsS)
theorem cw_markOddsS {a0 : (List Gi_Odds)} {a1 : Int} {r : Int × (List Gi_Odds)} (H : Dw_markOddsS a0 a1 = some r) : Ct X.P X.gl 81 [.ref 0 2 none, I a1] [⟨false, false, 2, a0.length, List.map gi_Odds a0⟩] (Rw_markOddsS r) (Nw_markOddsS r) :=
 Ct.of func81 (c := bdy f81) (by kernel_rfl) (by kernel_rfl) <|
 gO [r0, r0, .canon [0] [0, 1, 5]] (by kernel_rfl) P0 (ww_markOddsS _ _ H)
def Rw_markIntSS (r : Int × (List (List Int))) : List D := [I r.1]
def Nw_markIntSS (r : Int × (List (List Int))) : List Root := [⟨false, false, 1, r.2.length, List.map (ow 1 I) r.2⟩]
noncomputable def Kw_markIntSS : Sw_markIntSS → List Item
 | .h1 .. => nav 300 2 [] [.code (bdy f82)]
def Zw_markIntSS : Sw_markIntSS → St
 | .h1 k0 i1 l2 => ⟨sts 19 [(0, .ref 0 1 none), (1, I k0), (5, I i1)], [some ⟨false, false, 1, l2.length, List.map (ow 1 I) l2⟩]⟩
abbrev Qw_markIntSS := Nx X 82 1 Kw_markIntSS Zw_markIntSS Rw_markIntSS Nw_markIntSS
theorem nw_markIntSS : ∀ s o, Bw_markIntSS s = some o → Qw_markIntSS (Kw_markIntSS s) (Zw_markIntSS s) o
 | .h1 k0 i1 l2, o, H =>
  eIf H (fun h1 H =>
  eCk H fun h2 H =>
  eBind H fun x3 hx3 H =>
  eBind H fun r4 hr4 H =>
  eCk H fun h5 H =>
  eN H fun r hn => gO [rg [hT 3], rg [{ i := 3, pre := [.take 0 (Int.toNat i1) 0 1 x3.length (List.map I x3) (List.set (List.map (ow 1 I) l2) (Int.toNat i1) (.ref 1 1 none))], el := some (.ref 1 1 none) }, { i := 5, call := some { cl := true, auto := true, ins := [1], res := (Rw_markIntS r4), G' := (Nw_markIntS r4) }, post := [.put 0 (Int.toNat i1) 0 1 (List.map (ow 1 I) (List.set l2 (Int.toNat i1) r4.2)), .own 0 (List.set l2 (Int.toNat i1) r4.2).length], xtra := [0] }], r0, .canon [0] [0, 1, 5]] (by kernel_rfl) (P2 ((decide (i1 < ((l2.length : Nat) : Int))) = true) (decide_eq_true h1)<|P1 h2<|P1 (int_lt_of_at h2 hx3)<|P2 (getCells (List.map (ow 1 I) l2) (Int.toNat i1) 0 1 = some [ow 1 I x3]) (getCells_at hx3 rfl)<|P2 (setCells (List.map (ow 1 I) l2) (Int.toNat i1) 0 [.ref 1 1 none] = List.set (List.map (ow 1 I) l2) (Int.toNat i1) (.ref 1 1 none)) (setCells_mapD hx3 rfl)<|P1 (at_set (f := (ow 1 I)) (.ref 1 1 none) hx3)<|P1 h5<|P1 (cw_markIntS hr4)<|P2 (getCells (List.set (List.map (ow 1 I) l2) (Int.toNat i1) (.ref 1 1 none)) (Int.toNat i1) 0 1 = some [.ref 1 1 none]) (getCells_set hx3 rfl)<|P2 (setCells (List.set (List.map (ow 1 I) l2) (Int.toNat i1) (.ref 1 1 none)) (Int.toNat i1) 0 [ow 1 I r4.2] = List.map (ow 1 I) (List.set l2 (Int.toNat i1) r4.2)) (setCells_set hx3 rfl)<|P1 (allOw_26 (List.set l2 (Int.toNat i1) r4.2))<|P1 (setLen l2 (Int.toNat i1) r4.2)<|P0) hn)
  (fun h1 H =>
  eN H<|gE func82 [rg [hF 3], r0] (by kernel_rfl) (P2 ((decide (i1 < ((l2.length : Nat) : Int))) = false) (decide_eq_false h1)<|P0))
theorem ww_markIntSS : ∀ s r, loop Bw_markIntSS s = some r → Wc X 82 1 (Kw_markIntSS s) (Zw_markIntSS s) (Rw_markIntSS r) (Nw_markIntSS r) := Nx.all (nw_markIntSS)
theorem cw_markIntSS {a0 : (List (List Int))} {a1 : Int} {r : Int × (List (List Int))} (H : Dw_markIntSS a0 a1 = some r) : Ct X.P X.gl 82 [.ref 0 1 none, I a1] [⟨false, false, 1, a0.length, List.map (ow 1 I) a0⟩] (Rw_markIntSS r) (Nw_markIntSS r) :=
 Ct.of func82 (c := bdy f82) (by kernel_rfl) (by kernel_rfl) <|
 gO [r0, r0, .canon [0] [0, 1, 5]] (by kernel_rfl) P0 (ww_markIntSS _ _ H)
def Rw_markCombatTable (r : Int × (List Gi_Odds) × (List (List Int))) : List D := [I r.1]
def Nw_markCombatTable (r : Int × (List Gi_Odds) × (List (List Int))) : List Root := [⟨false, false, 2, r.2.1.length, List.map gi_Odds r.2.1⟩, ⟨false, false, 1, r.2.2.length, List.map (ow 1 I) r.2.2⟩]
theorem cw_markCombatTable {a0 : Gi_CombatTable} {a1 : Int} {r : Int × (List Gi_Odds) × (List (List Int))} (H : Dw_markCombatTable a0 a1 = some r) : Ct X.P X.gl 41 [.agg [.ref 0 2 none, I a0.Dice, .ref 1 1 none], I a1] [⟨false, false, 2, a0.Columns.length, List.map gi_Odds a0.Columns⟩, ⟨false, false, 1, a0.Results.length, List.map (ow 1 I) a0.Results⟩] (Rw_markCombatTable r) (Nw_markCombatTable r) :=
 Ct.of func41 (c := bdy f41) (by kernel_rfl) (by kernel_rfl) <|
 eBind H fun r1 hr1 H =>
 eCk H fun h2 H =>
 eBind H fun r3 hr3 H =>
 eCk H fun h4 H =>
 eW Rw_markCombatTable Nw_markCombatTable H<|gE func41 [r0, rg [hC 3 true [0] (Rw_markOddsS r1) (Nw_markOddsS r1)], rg [{ i := 3, call := some { cl := true, ins := [1], args := [.ref 0 1 none, I r1.1], res := Rw_markIntSS r3, G' := Nw_markIntSS r3 } }], r0] (by kernel_rfl) (P1 h2<|P1 (cw_markOddsS hr1)<|PN<|PI r1.1<|P1 h4<|P1 (cw_markIntSS hr3)<|P0)
def Rw_markUnitS (r : Int × (List Gi_Unit)) : List D := [I r.1]
def Nw_markUnitS (r : Int × (List Gi_Unit)) : List Root := [⟨false, false, 4, r.2.length, List.map gi_Unit r.2⟩]
noncomputable def Kw_markUnitS : Sw_markUnitS → List Item
 | .h1 .. => nav 300 2 [] [.code (bdy f83)]
def Zw_markUnitS : Sw_markUnitS → St
 | .h1 k0 i1 l2 => ⟨sts 41 [(0, .ref 0 4 none), (1, I k0), (5, I i1)], [some ⟨false, false, 4, l2.length, List.map gi_Unit l2⟩]⟩
abbrev Qw_markUnitS := Nx X 83 1 Kw_markUnitS Zw_markUnitS Rw_markUnitS Nw_markUnitS
theorem nw_markUnitS : ∀ s o, Bw_markUnitS s = some o → Qw_markUnitS (Kw_markUnitS s) (Zw_markUnitS s) o
 | .h1 k0 i1 l2, o, H =>
  eIf H (fun h1 H =>
  eCk H fun h2 H =>
  eBind H fun x3 hx3 H =>
  eCk H fun h4 H =>
  eBind H fun x5 hx5 H =>
  eCk H fun h6 H =>
  eBind H fun x7 hx7 H =>
  eCk H fun h8 H =>
  eBind H fun x9 hx9 H =>
  eN H fun r hn => gO [rg [hT 3], rg [hA 5 ((List.set l2 (Int.toNat i1) (Gi_Unit.mk k0 x3.Kind x3.At x3.Steps)).length) (List.map gi_Unit (List.set l2 (Int.toNat i1) (Gi_Unit.mk k0 x3.Kind x3.At x3.Steps)))], r0, rg [hA 5 ((List.set (List.set l2 (Int.toNat i1) (Gi_Unit.mk k0 x3.Kind x3.At x3.Steps)) (Int.toNat i1) (Gi_Unit.mk x5.Side (IntKind.wrap .i64 (k0 + 1)) x5.At x5.Steps)).length) (List.map gi_Unit (List.set (List.set l2 (Int.toNat i1) (Gi_Unit.mk k0 x3.Kind x3.At x3.Steps)) (Int.toNat i1) (Gi_Unit.mk x5.Side (IntKind.wrap .i64 (k0 + 1)) x5.At x5.Steps)))], r0, rg [hA 5 ((List.set (List.set (List.set l2 (Int.toNat i1) (Gi_Unit.mk k0 x3.Kind x3.At x3.Steps)) (Int.toNat i1) (Gi_Unit.mk x5.Side (IntKind.wrap .i64 (k0 + 1)) x5.At x5.Steps)) (Int.toNat i1) (Gi_Unit.mk x7.Side x7.Kind (IntKind.wrap .i64 ((IntKind.wrap .i64 (k0 + 1)) + 1)) x7.Steps)).length) (List.map gi_Unit (List.set (List.set (List.set l2 (Int.toNat i1) (Gi_Unit.mk k0 x3.Kind x3.At x3.Steps)) (Int.toNat i1) (Gi_Unit.mk x5.Side (IntKind.wrap .i64 (k0 + 1)) x5.At x5.Steps)) (Int.toNat i1) (Gi_Unit.mk x7.Side x7.Kind (IntKind.wrap .i64 ((IntKind.wrap .i64 (k0 + 1)) + 1)) x7.Steps)))], r0, rg [hA 5 ((List.set (List.set (List.set (List.set l2 (Int.toNat i1) (Gi_Unit.mk k0 x3.Kind x3.At x3.Steps)) (Int.toNat i1) (Gi_Unit.mk x5.Side (IntKind.wrap .i64 (k0 + 1)) x5.At x5.Steps)) (Int.toNat i1) (Gi_Unit.mk x7.Side x7.Kind (IntKind.wrap .i64 ((IntKind.wrap .i64 (k0 + 1)) + 1)) x7.Steps)) (Int.toNat i1) (Gi_Unit.mk x9.Side x9.Kind x9.At (IntKind.wrap .i64 ((IntKind.wrap .i64 ((IntKind.wrap .i64 (k0 + 1)) + 1)) + 1)))).length) (List.map gi_Unit (List.set (List.set (List.set (List.set l2 (Int.toNat i1) (Gi_Unit.mk k0 x3.Kind x3.At x3.Steps)) (Int.toNat i1) (Gi_Unit.mk x5.Side (IntKind.wrap .i64 (k0 + 1)) x5.At x5.Steps)) (Int.toNat i1) (Gi_Unit.mk x7.Side x7.Kind (IntKind.wrap .i64 ((IntKind.wrap .i64 (k0 + 1)) + 1)) x7.Steps)) (Int.toNat i1) (Gi_Unit.mk x9.Side x9.Kind x9.At (IntKind.wrap .i64 ((IntKind.wrap .i64 ((IntKind.wrap .i64 (k0 + 1)) + 1)) + 1)))))], r0, r0, .canon [0] [0, 1, 5]] (by kernel_rfl) (P2 ((decide (i1 < ((l2.length : Nat) : Int))) = true) (decide_eq_true h1)<|P1 h2<|P1 (int_lt_of_at h2 hx3)<|P1 (lt_of_at hx3)<|P2 (setCells (List.map gi_Unit l2) (Int.toNat i1) 0 [I k0] = List.map gi_Unit (List.set l2 (Int.toNat i1) (Gi_Unit.mk k0 x3.Kind x3.At x3.Steps))) (setCells_map hx3 rfl)<|P1 (setLen l2 (Int.toNat i1) (Gi_Unit.mk k0 x3.Kind x3.At x3.Steps))<|P1 h4<|P1 (int_lt_of_at h4 hx5)<|P1 (lt_of_at hx5)<|P2 (setCells (List.map gi_Unit (List.set l2 (Int.toNat i1) (Gi_Unit.mk k0 x3.Kind x3.At x3.Steps))) (Int.toNat i1) 1 [I (IntKind.wrap .i64 (k0 + 1))] = List.map gi_Unit (List.set (List.set l2 (Int.toNat i1) (Gi_Unit.mk k0 x3.Kind x3.At x3.Steps)) (Int.toNat i1) (Gi_Unit.mk x5.Side (IntKind.wrap .i64 (k0 + 1)) x5.At x5.Steps))) (setCells_map hx5 rfl)<|P1 (setLen (List.set l2 (Int.toNat i1) (Gi_Unit.mk k0 x3.Kind x3.At x3.Steps)) (Int.toNat i1) (Gi_Unit.mk x5.Side (IntKind.wrap .i64 (k0 + 1)) x5.At x5.Steps))<|P1 h6<|P1 (int_lt_of_at h6 hx7)<|P1 (lt_of_at hx7)<|P2 (setCells (List.map gi_Unit (List.set (List.set l2 (Int.toNat i1) (Gi_Unit.mk k0 x3.Kind x3.At x3.Steps)) (Int.toNat i1) (Gi_Unit.mk x5.Side (IntKind.wrap .i64 (k0 + 1)) x5.At x5.Steps))) (Int.toNat i1) 2 [I (IntKind.wrap .i64 ((IntKind.wrap .i64 (k0 + 1)) + 1))] = List.map gi_Unit (List.set (List.set (List.set l2 (Int.toNat i1) (Gi_Unit.mk k0 x3.Kind x3.At x3.Steps)) (Int.toNat i1) (Gi_Unit.mk x5.Side (IntKind.wrap .i64 (k0 + 1)) x5.At x5.Steps)) (Int.toNat i1) (Gi_Unit.mk x7.Side x7.Kind (IntKind.wrap .i64 ((IntKind.wrap .i64 (k0 + 1)) + 1)) x7.Steps))) (setCells_map hx7 rfl)<|P1 (setLen (List.set (List.set l2 (Int.toNat i1) (Gi_Unit.mk k0 x3.Kind x3.At x3.Steps)) (Int.toNat i1) (Gi_Unit.mk x5.Side (IntKind.wrap .i64 (k0 + 1)) x5.At x5.Steps)) (Int.toNat i1) (Gi_Unit.mk x7.Side x7.Kind (IntKind.wrap .i64 ((IntKind.wrap .i64 (k0 + 1)) + 1)) x7.Steps))<|P1 h8<|P1 (int_lt_of_at h8 hx9)<|P1 (lt_of_at hx9)<|P2 (setCells (List.map gi_Unit (List.set (List.set (List.set l2 (Int.toNat i1) (Gi_Unit.mk k0 x3.Kind x3.At x3.Steps)) (Int.toNat i1) (Gi_Unit.mk x5.Side (IntKind.wrap .i64 (k0 + 1)) x5.At x5.Steps)) (Int.toNat i1) (Gi_Unit.mk x7.Side x7.Kind (IntKind.wrap .i64 ((IntKind.wrap .i64 (k0 + 1)) + 1)) x7.Steps))) (Int.toNat i1) 3 [I (IntKind.wrap .i64 ((IntKind.wrap .i64 ((IntKind.wrap .i64 (k0 + 1)) + 1)) + 1))] = List.map gi_Unit (List.set (List.set (List.set (List.set l2 (Int.toNat i1) (Gi_Unit.mk k0 x3.Kind x3.At x3.Steps)) (Int.toNat i1) (Gi_Unit.mk x5.Side (IntKind.wrap .i64 (k0 + 1)) x5.At x5.Steps)) (Int.toNat i1) (Gi_Unit.mk x7.Side x7.Kind (IntKind.wrap .i64 ((IntKind.wrap .i64 (k0 + 1)) + 1)) x7.Steps)) (Int.toNat i1) (Gi_Unit.mk x9.Side x9.Kind x9.At (IntKind.wrap .i64 ((IntKind.wrap .i64 ((IntKind.wrap .i64 (k0 + 1)) + 1)) + 1))))) (setCells_map hx9 rfl)<|P1 (setLen (List.set (List.set (List.set l2 (Int.toNat i1) (Gi_Unit.mk k0 x3.Kind x3.At x3.Steps)) (Int.toNat i1) (Gi_Unit.mk x5.Side (IntKind.wrap .i64 (k0 + 1)) x5.At x5.Steps)) (Int.toNat i1) (Gi_Unit.mk x7.Side x7.Kind (IntKind.wrap .i64 ((IntKind.wrap .i64 (k0 + 1)) + 1)) x7.Steps)) (Int.toNat i1) (Gi_Unit.mk x9.Side x9.Kind x9.At (IntKind.wrap .i64 ((IntKind.wrap .i64 ((IntKind.wrap .i64 (k0 + 1)) + 1)) + 1))))<|P0) hn)
  (fun h1 H =>
  eN H<|gE func83 [rg [hF 3], r0] (by kernel_rfl) (P2 ((decide (i1 < ((l2.length : Nat) : Int))) = false) (decide_eq_false h1)<|P0))
theorem ww_markUnitS : ∀ s r, loop Bw_markUnitS s = some r → Wc X 83 1 (Kw_markUnitS s) (Zw_markUnitS s) (Rw_markUnitS r) (Nw_markUnitS r) := Nx.all (nw_markUnitS)
theorem cw_markUnitS {a0 : (List Gi_Unit)} {a1 : Int} {r : Int × (List Gi_Unit)} (H : Dw_markUnitS a0 a1 = some r) : Ct X.P X.gl 83 [.ref 0 4 none, I a1] [⟨false, false, 4, a0.length, List.map gi_Unit a0⟩] (Rw_markUnitS r) (Nw_markUnitS r) :=
 Ct.of func83 (c := bdy f83) (by kernel_rfl) (by kernel_rfl) <|
 gO [r0, r0, .canon [0] [0, 1, 5]] (by kernel_rfl) P0 (ww_markUnitS _ _ H)
def Rw_markState (r : Int × (List Gi_Unit)) : List D := [I r.1]
def Nw_markState (r : Int × (List Gi_Unit)) : List Root := [⟨false, false, 4, r.2.length, List.map gi_Unit r.2⟩]
theorem cw_markState {a0 : Gi_State} {a1 : Int} {r : Int × (List Gi_Unit)} (H : Dw_markState a0 a1 = some r) : Ct X.P X.gl 42 [.agg [I a0.Turn, I a0.Weather, .ref 0 4 none], I a1] [⟨false, false, 4, a0.Units.length, List.map gi_Unit a0.Units⟩] (Rw_markState r) (Nw_markState r) :=
 Ct.of func42 (c := bdy f42) (by kernel_rfl) (by kernel_rfl) <|
 eBind H fun r1 hr1 H =>
 eCk H fun h2 H =>
 eW Rw_markState Nw_markState H<|gE func42 [r0, rg [hC 3 true [0] (Rw_markUnitS r1) (Nw_markUnitS r1)], r0] (by kernel_rfl) (P1 h2<|P1 (cw_markUnitS hr1)<|P0)
def Rw_markGoalS (r : Int × (List Gi_Goal)) : List D := [I r.1]
def Nw_markGoalS (r : Int × (List Gi_Goal)) : List Root := [⟨false, false, 2, r.2.length, List.map gi_Goal r.2⟩]
noncomputable def Kw_markGoalS : Sw_markGoalS → List Item
 | .h1 .. => nav 300 2 [] [.code (bdy f84)]
def Zw_markGoalS : Sw_markGoalS → St
 | .h1 k0 i1 l2 => ⟨sts 27 [(0, .ref 0 2 none), (1, I k0), (5, I i1)], [some ⟨false, false, 2, l2.length, List.map gi_Goal l2⟩]⟩
abbrev Qw_markGoalS := Nx X 84 1 Kw_markGoalS Zw_markGoalS Rw_markGoalS Nw_markGoalS
theorem nw_markGoalS : ∀ s o, Bw_markGoalS s = some o → Qw_markGoalS (Kw_markGoalS s) (Zw_markGoalS s) o
 | .h1 k0 i1 l2, o, H =>
  eIf H (fun h1 H =>
  eCk H fun h2 H =>
  eBind H fun x3 hx3 H =>
  eCk H fun h4 H =>
  eBind H fun x5 hx5 H =>
  eN H fun r hn => gO [rg [hT 3], rg [hA 5 ((List.set l2 (Int.toNat i1) (Gi_Goal.mk k0 x3.Points)).length) (List.map gi_Goal (List.set l2 (Int.toNat i1) (Gi_Goal.mk k0 x3.Points)))], r0, rg [hA 5 ((List.set (List.set l2 (Int.toNat i1) (Gi_Goal.mk k0 x3.Points)) (Int.toNat i1) (Gi_Goal.mk x5.At (IntKind.wrap .i64 (k0 + 1)))).length) (List.map gi_Goal (List.set (List.set l2 (Int.toNat i1) (Gi_Goal.mk k0 x3.Points)) (Int.toNat i1) (Gi_Goal.mk x5.At (IntKind.wrap .i64 (k0 + 1)))))], r0, r0, .canon [0] [0, 1, 5]] (by kernel_rfl) (P2 ((decide (i1 < ((l2.length : Nat) : Int))) = true) (decide_eq_true h1)<|P1 h2<|P1 (int_lt_of_at h2 hx3)<|P1 (lt_of_at hx3)<|P2 (setCells (List.map gi_Goal l2) (Int.toNat i1) 0 [I k0] = List.map gi_Goal (List.set l2 (Int.toNat i1) (Gi_Goal.mk k0 x3.Points))) (setCells_map hx3 rfl)<|P1 (setLen l2 (Int.toNat i1) (Gi_Goal.mk k0 x3.Points))<|P1 h4<|P1 (int_lt_of_at h4 hx5)<|P1 (lt_of_at hx5)<|P2 (setCells (List.map gi_Goal (List.set l2 (Int.toNat i1) (Gi_Goal.mk k0 x3.Points))) (Int.toNat i1) 1 [I (IntKind.wrap .i64 (k0 + 1))] = List.map gi_Goal (List.set (List.set l2 (Int.toNat i1) (Gi_Goal.mk k0 x3.Points)) (Int.toNat i1) (Gi_Goal.mk x5.At (IntKind.wrap .i64 (k0 + 1))))) (setCells_map hx5 rfl)<|P1 (setLen (List.set l2 (Int.toNat i1) (Gi_Goal.mk k0 x3.Points)) (Int.toNat i1) (Gi_Goal.mk x5.At (IntKind.wrap .i64 (k0 + 1))))<|P0) hn)
  (fun h1 H =>
  eN H<|gE func84 [rg [hF 3], r0] (by kernel_rfl) (P2 ((decide (i1 < ((l2.length : Nat) : Int))) = false) (decide_eq_false h1)<|P0))
theorem ww_markGoalS : ∀ s r, loop Bw_markGoalS s = some r → Wc X 84 1 (Kw_markGoalS s) (Zw_markGoalS s) (Rw_markGoalS r) (Nw_markGoalS r) := Nx.all (nw_markGoalS)
theorem cw_markGoalS {a0 : (List Gi_Goal)} {a1 : Int} {r : Int × (List Gi_Goal)} (H : Dw_markGoalS a0 a1 = some r) : Ct X.P X.gl 84 [.ref 0 2 none, I a1] [⟨false, false, 2, a0.length, List.map gi_Goal a0⟩] (Rw_markGoalS r) (Nw_markGoalS r) :=
 Ct.of func84 (c := bdy f84) (by kernel_rfl) (by kernel_rfl) <|
 gO [r0, r0, .canon [0] [0, 1, 5]] (by kernel_rfl) P0 (ww_markGoalS _ _ H)
def Rw_markConditions (r : Int × (List Gi_Goal)) : List D := [I r.1]
def Nw_markConditions (r : Int × (List Gi_Goal)) : List Root := [⟨false, false, 2, r.2.length, List.map gi_Goal r.2⟩]
theorem cw_markConditions {a0 : Gi_Conditions} {a1 : Int} {r : Int × (List Gi_Goal)} (H : Dw_markConditions a0 a1 = some r) : Ct X.P X.gl 43 [.agg [.ref 0 2 none, I a0.Step, I a0.Margin], I a1] [⟨false, false, 2, a0.Goals.length, List.map gi_Goal a0.Goals⟩] (Rw_markConditions r) (Nw_markConditions r) :=
 Ct.of func43 (c := bdy f43) (by kernel_rfl) (by kernel_rfl) <|
 eBind H fun r1 hr1 H =>
 eCk H fun h2 H =>
 eW Rw_markConditions Nw_markConditions H<|gE func43 [r0, rg [hC 3 true [0] (Rw_markGoalS r1) (Nw_markGoalS r1)], r0] (by kernel_rfl) (P1 h2<|P1 (cw_markGoalS hr1)<|P0)
def Rw_markScenario (r : Int × (List Gi_Terrain) × (List Gi_Kind) × (List Int) × (List Int) × (List Int) × (List Gi_Odds) × (List (List Int)) × (List Gi_Unit) × (List Gi_Goal) × (List Int) × (List Int)) : List D := [I r.1]
def Nw_markScenario (r : Int × (List Gi_Terrain) × (List Gi_Kind) × (List Int) × (List Int) × (List Int) × (List Gi_Odds) × (List (List Int)) × (List Gi_Unit) × (List Gi_Goal) × (List Int) × (List Int)) : List Root := [⟨false, false, 5, r.2.1.length, List.map goi_Terrain r.2.1⟩, ⟨false, false, 6, r.2.2.1.length, List.map gi_Kind r.2.2.1⟩, ⟨false, false, 1, r.2.2.2.1.length, List.map I r.2.2.2.1⟩, ⟨false, false, 1, r.2.2.2.2.1.length, List.map I r.2.2.2.2.1⟩, ⟨false, false, 1, r.2.2.2.2.2.1.length, List.map I r.2.2.2.2.2.1⟩, ⟨false, false, 2, r.2.2.2.2.2.2.1.length, List.map gi_Odds r.2.2.2.2.2.2.1⟩, ⟨false, false, 1, r.2.2.2.2.2.2.2.1.length, List.map (ow 1 I) r.2.2.2.2.2.2.2.1⟩, ⟨false, false, 4, r.2.2.2.2.2.2.2.2.1.length, List.map gi_Unit r.2.2.2.2.2.2.2.2.1⟩, ⟨false, false, 2, r.2.2.2.2.2.2.2.2.2.1.length, List.map gi_Goal r.2.2.2.2.2.2.2.2.2.1⟩, ⟨false, false, 1, r.2.2.2.2.2.2.2.2.2.2.1.length, List.map I r.2.2.2.2.2.2.2.2.2.2.1⟩, ⟨false, false, 1, r.2.2.2.2.2.2.2.2.2.2.2.length, List.map I r.2.2.2.2.2.2.2.2.2.2.2⟩]
theorem cw_markScenario {a0 : Gi_Scenario} {a1 : Int} {r : Int × (List Gi_Terrain) × (List Gi_Kind) × (List Int) × (List Int) × (List Int) × (List Gi_Odds) × (List (List Int)) × (List Gi_Unit) × (List Gi_Goal) × (List Int) × (List Int)} (H : Dw_markScenario a0 a1 = some r) : Ct X.P X.gl 11 [.agg [.str a0.Name, .ref 0 5 none, .ref 1 6 none, I a0.Board.Rules.Stack, I a0.Board.Rules.River, I a0.Board.Rules.Road, I a0.Board.Rules.Supply, I a0.Board.Rules.Turns, I a0.Board.Map.Width, I a0.Board.Map.Height, .ref 2 1 none, .ref 3 1 none, .ref 4 1 none, .ref 5 2 none, I a0.Table.Dice, .ref 6 1 none, I a0.Start.Turn, I a0.Start.Weather, .ref 7 4 none, .ref 8 2 none, I a0.Conditions.Step, I a0.Conditions.Margin, .ref 9 1 none, .ref 10 1 none], I a1] [⟨false, false, 5, a0.Board.Rules.Terrains.length, List.map goi_Terrain a0.Board.Rules.Terrains⟩, ⟨false, false, 6, a0.Board.Rules.Kinds.length, List.map gi_Kind a0.Board.Rules.Kinds⟩, ⟨false, false, 1, a0.Board.Map.Terrain.length, List.map I a0.Board.Map.Terrain⟩, ⟨false, false, 1, a0.Board.Map.Rivers.length, List.map I a0.Board.Map.Rivers⟩, ⟨false, false, 1, a0.Board.Map.Roads.length, List.map I a0.Board.Map.Roads⟩, ⟨false, false, 2, a0.Table.Columns.length, List.map gi_Odds a0.Table.Columns⟩, ⟨false, false, 1, a0.Table.Results.length, List.map (ow 1 I) a0.Table.Results⟩, ⟨false, false, 4, a0.Start.Units.length, List.map gi_Unit a0.Start.Units⟩, ⟨false, false, 2, a0.Conditions.Goals.length, List.map gi_Goal a0.Conditions.Goals⟩, ⟨false, false, 1, a0.First.length, List.map I a0.First⟩, ⟨false, false, 1, a0.Other.length, List.map I a0.Other⟩] (Rw_markScenario r) (Nw_markScenario r) :=
 Ct.of func11 (c := bdy f11) (by kernel_rfl) (by kernel_rfl) <|
 eBind H fun r1 hr1 H =>
 eCk H fun h2 H =>
 eCk H fun h3 H =>
 eCk H fun h4 H =>
 eCk H fun h5 H =>
 eCk H fun h6 H =>
 eBind H fun r7 hr7 H =>
 eCk H fun h8 H =>
 eCk H fun h9 H =>
 eBind H fun r10 hr10 H =>
 eCk H fun h11 H =>
 eBind H fun r12 hr12 H =>
 eCk H fun h13 H =>
 eBind H fun r14 hr14 H =>
 eCk H fun h15 H =>
 eBind H fun r16 hr16 H =>
 eCk H fun h17 H =>
 eW Rw_markScenario Nw_markScenario H<|gE func11 [r0, rg [{ i := 3, call := some { cl := true, ins := [0, 1, 2, 3, 4], args := [.agg [.ref 0 5 none, .ref 1 6 none, I a0.Board.Rules.Stack, I a0.Board.Rules.River, I a0.Board.Rules.Road, I a0.Board.Rules.Supply, I a0.Board.Rules.Turns, I a0.Board.Map.Width, I a0.Board.Map.Height, .ref 2 1 none, .ref 3 1 none, .ref 4 1 none], I a1], res := Rw_markBoard r1, G' := Nw_markBoard r1 } }], rg [{ i := 3, call := some { cl := true, ins := [5, 6], args := [.agg [.ref 0 2 none, I a0.Table.Dice, .ref 1 1 none], I r1.1], res := Rw_markCombatTable r7, G' := Nw_markCombatTable r7 } }], rg [hC 3 true [7] (Rw_markState r10) (Nw_markState r10)], rg [hC 3 true [8] (Rw_markConditions r12) (Nw_markConditions r12)], rg [hC 3 true [9] (Rw_markIntS r14) (Nw_markIntS r14)], rg [hC 3 true [10] (Rw_markIntS r16) (Nw_markIntS r16)], r0] (by kernel_rfl) (PN<|PN<|PI a0.Board.Rules.Stack<|PI a0.Board.Rules.River<|PI a0.Board.Rules.Road<|PI a0.Board.Rules.Supply<|PI a0.Board.Rules.Turns<|PI a0.Board.Map.Width<|PI a0.Board.Map.Height<|PN<|PN<|PN<|PI a1<|P1 h2<|P1 h3<|P1 h4<|P1 h5<|P1 h6<|P1 (cw_markBoard hr1)<|PN<|PI a0.Table.Dice<|PN<|PI r1.1<|P1 h8<|P1 h9<|P1 (cw_markCombatTable hr7)<|P1 h11<|P1 (cw_markState hr10)<|P1 h13<|P1 (cw_markConditions hr12)<|P1 h15<|P1 (cw_markIntS hr14)<|P1 h17<|P1 (cw_markIntS hr16)<|P0)
noncomputable def Kw_heldIntS : Sw_heldIntS → List Item
 | .h1 .. => nav 300 2 [] [.code (bdy f13)]
def Zw_heldIntS : Sw_heldIntS → St
 | .h1 va0 k1 i2 => ⟨sts 21 [(0, sl 1 I va0), (1, I k1), (5, I i2)], []⟩
abbrev Qw_heldIntS := Nx X 13 0 Kw_heldIntS Zw_heldIntS RI (fun _ => [])
theorem nw_heldIntS : ∀ s o, Bw_heldIntS s = some o → Qw_heldIntS (Kw_heldIntS s) (Zw_heldIntS s) o
 | .h1 va0 k1 i2, o, H =>
  eIf H (fun h1 H =>
  eCk H fun h2 H =>
  eBind H fun x3 hx3 H =>
  gN [rg [hT 3]] (by kernel_rfl) (P2 ((decide (i2 < ((va0.length : Nat) : Int))) = true) (decide_eq_true h1)<|P0) <|
  eIf H (fun h4 H =>
  eN H fun r hn => gO [rg [hE 3 (I x3), hF 5], r0, r0, .canon [] [0, 1, 5]] (by kernel_rfl) (P1 h2<|P1 (int_lt_of_at h2 hx3)<|P1 (at_map I hx3)<|P2 (((x3 : Int) != k1) = false) (bneF h4)<|P0) hn)
  (fun h4 H =>
  eN H<|gE func13 [rg [hE 3 (I x3), hT 5], r0] (by kernel_rfl) (P1 h2<|P1 (int_lt_of_at h2 hx3)<|P1 (at_map I hx3)<|P2 (((x3 : Int) != k1) = true) (bneT h4)<|P0)))
  (fun h1 H =>
  eN H<|gE func13 [rg [hF 3], r0] (by kernel_rfl) (P2 ((decide (i2 < ((va0.length : Nat) : Int))) = false) (decide_eq_false h1)<|P0))
theorem ww_heldIntS : ∀ s r, loop Bw_heldIntS s = some r → Wc X 13 0 (Kw_heldIntS s) (Zw_heldIntS s) (RI r) ((fun _ => []) r) := Nx.all (nw_heldIntS)
theorem cw_heldIntS {a0 : (List Int)} {a1 : Int} {r : Int} (H : Dw_heldIntS a0 a1 = some r) : Ct X.P X.gl 13 [sl 1 I a0, I a1] [] (RI r) [] :=
 Ct.of func13 (c := bdy f13) (by kernel_rfl) (by kernel_rfl) <|
 gO [r0, r0, .canon [] [0, 1, 5]] (by kernel_rfl) P0 (ww_heldIntS _ _ H)
noncomputable def Kw_heldTerrainS : Sw_heldTerrainS → List Item
 | .h1 .. => nav 300 2 [] [.code (bdy f152)]
def Zw_heldTerrainS : Sw_heldTerrainS → St
 | .h1 va0 k1 i2 => ⟨sts 61 [(0, sl 5 gi_Terrain va0), (1, I k1), (5, I i2)], []⟩
abbrev Qw_heldTerrainS := Nx X 152 0 Kw_heldTerrainS Zw_heldTerrainS RI (fun _ => [])
theorem nw_heldTerrainS : ∀ s o, Bw_heldTerrainS s = some o → Qw_heldTerrainS (Kw_heldTerrainS s) (Zw_heldTerrainS s) o
 | .h1 va0 k1 i2, o, H =>
  eIf H (fun h1 H =>
  eCk H fun h2 H =>
  eBind H fun x3 hx3 H =>
  eBind H fun r4 hr4 H =>
  gN [rg [hT 3]] (by kernel_rfl) (P2 ((decide (i2 < ((va0.length : Nat) : Int))) = true) (decide_eq_true h1)<|P0) <|
  eIf H (fun h5 H =>
  eCk H fun h6 H =>
  eBind H fun x7 hx7 H =>
  eBind H fun r8 hr8 H =>
  gN [rg [hE 4 (gi_Terrain x3), hC 6 true [] (Rw_markText r4) [], hF 7], r0, rg [hE 4 (gi_Terrain x7), hC 6 true [] (RI r8) []]] (by kernel_rfl) (P1 h2<|P1 (int_lt_of_at h2 hx3)<|P1 (at_map gi_Terrain hx3)<|P1 (cw_markText hr4)<|P2 ((!(x3.Name == r4)) = false) (nbeqF h5)<|P1 h6<|P1 (int_lt_of_at h6 hx7)<|P1 (at_map gi_Terrain hx7)<|P1 (cw_heldIntS hr8)<|P0) <|
  eIf H (fun h9 H =>
  eN H<|gE func152 [rg [hT 1], r0] (by kernel_rfl) (P2 ((decide (r8 < 0)) = true) (decide_eq_true h9)<|P0))
  (fun h9 H =>
  eCk H fun h10 H =>
  eBind H fun x11 hx11 H =>
  gN [rg [hF 1]] (by kernel_rfl) (P2 ((decide (r8 < 0)) = false) (decide_eq_false h9)<|P0) <|
  eIf H (fun h12 H =>
  eCk H fun h13 H =>
  eBind H fun x14 hx14 H =>
  gN [rg [hE 4 (gi_Terrain x11), hF 6], r0] (by kernel_rfl) (P1 h10<|P1 (int_lt_of_at h10 hx11)<|P1 (at_map gi_Terrain hx11)<|P2 (((x11.Shift : Int) != r8) = false) (bneF h12)<|P0) <|
  eIf H (fun h15 H =>
  eCk H fun h16 H =>
  eBind H fun x17 hx17 H =>
  gN [rg [hE 4 (gi_Terrain x14), hF 6], r0] (by kernel_rfl) (P1 h13<|P1 (int_lt_of_at h13 hx14)<|P1 (at_map gi_Terrain hx14)<|P2 (((x14.Height : Int) != (IntKind.wrap .i64 (r8 + 1))) = false) (bneF h15)<|P0) <|
  eIf H (fun h18 H =>
  eN H<|gE func152 [rg [hE 4 (gi_Terrain x17), hT 8], r0] (by kernel_rfl) (P1 h16<|P1 (int_lt_of_at h16 hx17)<|P1 (at_map gi_Terrain hx17)<|P2 (¬ (3 : Int) = 0) (by decide)<|P2 ((!(x17.Blocks == (((Int.tmod (IntKind.wrap .i64 ((IntKind.wrap .i64 (r8 + 1)) + 1)) 3) : Int) == 0))) = true) (h18)<|P0))
  (fun h18 H =>
  eN H fun r hn => gO [rg [hE 4 (gi_Terrain x17), hF 8], r0, r0, .canon [] [0, 1, 5]] (by kernel_rfl) (P1 h16<|P1 (int_lt_of_at h16 hx17)<|P1 (at_map gi_Terrain hx17)<|P2 (¬ (3 : Int) = 0) (by decide)<|P2 ((!(x17.Blocks == (((Int.tmod (IntKind.wrap .i64 ((IntKind.wrap .i64 (r8 + 1)) + 1)) 3) : Int) == 0))) = false) (eqF h18)<|P0) hn))
  (fun h15 H =>
  eN H<|gE func152 [rg [hE 4 (gi_Terrain x14), hT 6], r0] (by kernel_rfl) (P1 h13<|P1 (int_lt_of_at h13 hx14)<|P1 (at_map gi_Terrain hx14)<|P2 (((x14.Height : Int) != (IntKind.wrap .i64 (r8 + 1))) = true) (bneT h15)<|P0)))
  (fun h12 H =>
  eN H<|gE func152 [rg [hE 4 (gi_Terrain x11), hT 6], r0] (by kernel_rfl) (P1 h10<|P1 (int_lt_of_at h10 hx11)<|P1 (at_map gi_Terrain hx11)<|P2 (((x11.Shift : Int) != r8) = true) (bneT h12)<|P0))))
  (fun h5 H =>
  eN H<|gE func152 [rg [hE 4 (gi_Terrain x3), hC 6 true [] (Rw_markText r4) [], hT 7], r0] (by kernel_rfl) (P1 h2<|P1 (int_lt_of_at h2 hx3)<|P1 (at_map gi_Terrain hx3)<|P1 (cw_markText hr4)<|P2 ((!(x3.Name == r4)) = true) (nbeqT h5)<|P0)))
  (fun h1 H =>
  eN H<|gE func152 [rg [hF 3], r0] (by kernel_rfl) (P2 ((decide (i2 < ((va0.length : Nat) : Int))) = false) (decide_eq_false h1)<|P0))
theorem ww_heldTerrainS : ∀ s r, loop Bw_heldTerrainS s = some r → Wc X 152 0 (Kw_heldTerrainS s) (Zw_heldTerrainS s) (RI r) ((fun _ => []) r) := Nx.all (nw_heldTerrainS)
theorem cw_heldTerrainS {a0 : (List Gi_Terrain)} {a1 : Int} {r : Int} (H : Dw_heldTerrainS a0 a1 = some r) : Ct X.P X.gl 152 [sl 5 gi_Terrain a0, I a1] [] (RI r) [] :=
 Ct.of func152 (c := bdy f152) (by kernel_rfl) (by kernel_rfl) <|
 gO [r0, r0, .canon [] [0, 1, 5]] (by kernel_rfl) P0 (ww_heldTerrainS _ _ H)
noncomputable def Kw_heldKindS : Sw_heldKindS → List Item
 | .h1 .. => nav 300 2 [] [.code (bdy f153)]
def Zw_heldKindS : Sw_heldKindS → St
 | .h1 va0 k1 i2 => ⟨sts 70 [(0, sl 6 gi_Kind va0), (1, I k1), (5, I i2)], []⟩
abbrev Qw_heldKindS := Nx X 153 0 Kw_heldKindS Zw_heldKindS RI (fun _ => [])
theorem nw_heldKindS : ∀ s o, Bw_heldKindS s = some o → Qw_heldKindS (Kw_heldKindS s) (Zw_heldKindS s) o
 | .h1 va0 k1 i2, o, H =>
  eIf H (fun h1 H =>
  eCk H fun h2 H =>
  eBind H fun x3 hx3 H =>
  eBind H fun r4 hr4 H =>
  gN [rg [hT 3]] (by kernel_rfl) (P2 ((decide (i2 < ((va0.length : Nat) : Int))) = true) (decide_eq_true h1)<|P0) <|
  eIf H (fun h5 H =>
  eCk H fun h6 H =>
  eBind H fun x7 hx7 H =>
  gN [rg [hE 4 (gi_Kind x3), hC 6 true [] (Rw_markText r4) [], hF 7], r0] (by kernel_rfl) (P1 h2<|P1 (int_lt_of_at h2 hx3)<|P1 (at_map gi_Kind hx3)<|P1 (cw_markText hr4)<|P2 ((!(x3.Name == r4)) = false) (nbeqF h5)<|P0) <|
  eIf H (fun h8 H =>
  eCk H fun h9 H =>
  eBind H fun x10 hx10 H =>
  gN [rg [hE 4 (gi_Kind x7), hF 6], r0] (by kernel_rfl) (P1 h6<|P1 (int_lt_of_at h6 hx7)<|P1 (at_map gi_Kind hx7)<|P2 (((x7.Strength : Int) != (IntKind.wrap .i64 (k1 + 1))) = false) (bneF h8)<|P0) <|
  eIf H (fun h11 H =>
  eCk H fun h12 H =>
  eBind H fun x13 hx13 H =>
  gN [rg [hE 4 (gi_Kind x10), hF 6], r0] (by kernel_rfl) (P1 h9<|P1 (int_lt_of_at h9 hx10)<|P1 (at_map gi_Kind hx10)<|P2 (((x10.Moves : Int) != (IntKind.wrap .i64 ((IntKind.wrap .i64 (k1 + 1)) + 1))) = false) (bneF h11)<|P0) <|
  eIf H (fun h14 H =>
  eCk H fun h15 H =>
  eBind H fun x16 hx16 H =>
  gN [rg [hE 4 (gi_Kind x13), hF 6], r0] (by kernel_rfl) (P1 h12<|P1 (int_lt_of_at h12 hx13)<|P1 (at_map gi_Kind hx13)<|P2 (((x13.Steps : Int) != (IntKind.wrap .i64 ((IntKind.wrap .i64 ((IntKind.wrap .i64 (k1 + 1)) + 1)) + 1))) = false) (bneF h14)<|P0) <|
  eIf H (fun h17 H =>
  eN H<|gE func153 [rg [hE 4 (gi_Kind x16), hT 8], r0] (by kernel_rfl) (P1 h15<|P1 (int_lt_of_at h15 hx16)<|P1 (at_map gi_Kind hx16)<|P2 (¬ (3 : Int) = 0) (by decide)<|P2 ((!(x16.Zone == (((Int.tmod (IntKind.wrap .i64 ((IntKind.wrap .i64 ((IntKind.wrap .i64 ((IntKind.wrap .i64 (k1 + 1)) + 1)) + 1)) + 1)) 3) : Int) == 0))) = true) (h17)<|P0))
  (fun h17 H =>
  eCk H fun h18 H =>
  eBind H fun x19 hx19 H =>
  gN [rg [hE 4 (gi_Kind x16), hF 8], r0] (by kernel_rfl) (P1 h15<|P1 (int_lt_of_at h15 hx16)<|P1 (at_map gi_Kind hx16)<|P2 (¬ (3 : Int) = 0) (by decide)<|P2 ((!(x16.Zone == (((Int.tmod (IntKind.wrap .i64 ((IntKind.wrap .i64 ((IntKind.wrap .i64 ((IntKind.wrap .i64 (k1 + 1)) + 1)) + 1)) + 1)) 3) : Int) == 0))) = false) (eqF h17)<|P0) <|
  eIf H (fun h20 H =>
  eN H fun r hn => gO [rg [hE 4 (gi_Kind x19), hF 6], r0, r0, .canon [] [0, 1, 5]] (by kernel_rfl) (P1 h18<|P1 (int_lt_of_at h18 hx19)<|P1 (at_map gi_Kind hx19)<|P2 (((x19.View : Int) != (IntKind.wrap .i64 ((IntKind.wrap .i64 ((IntKind.wrap .i64 ((IntKind.wrap .i64 ((IntKind.wrap .i64 (k1 + 1)) + 1)) + 1)) + 1)) + 1))) = false) (bneF h20)<|P0) hn)
  (fun h20 H =>
  eN H<|gE func153 [rg [hE 4 (gi_Kind x19), hT 6], r0] (by kernel_rfl) (P1 h18<|P1 (int_lt_of_at h18 hx19)<|P1 (at_map gi_Kind hx19)<|P2 (((x19.View : Int) != (IntKind.wrap .i64 ((IntKind.wrap .i64 ((IntKind.wrap .i64 ((IntKind.wrap .i64 ((IntKind.wrap .i64 (k1 + 1)) + 1)) + 1)) + 1)) + 1))) = true) (bneT h20)<|P0))))
  (fun h14 H =>
  eN H<|gE func153 [rg [hE 4 (gi_Kind x13), hT 6], r0] (by kernel_rfl) (P1 h12<|P1 (int_lt_of_at h12 hx13)<|P1 (at_map gi_Kind hx13)<|P2 (((x13.Steps : Int) != (IntKind.wrap .i64 ((IntKind.wrap .i64 ((IntKind.wrap .i64 (k1 + 1)) + 1)) + 1))) = true) (bneT h14)<|P0)))
  (fun h11 H =>
  eN H<|gE func153 [rg [hE 4 (gi_Kind x10), hT 6], r0] (by kernel_rfl) (P1 h9<|P1 (int_lt_of_at h9 hx10)<|P1 (at_map gi_Kind hx10)<|P2 (((x10.Moves : Int) != (IntKind.wrap .i64 ((IntKind.wrap .i64 (k1 + 1)) + 1))) = true) (bneT h11)<|P0)))
  (fun h8 H =>
  eN H<|gE func153 [rg [hE 4 (gi_Kind x7), hT 6], r0] (by kernel_rfl) (P1 h6<|P1 (int_lt_of_at h6 hx7)<|P1 (at_map gi_Kind hx7)<|P2 (((x7.Strength : Int) != (IntKind.wrap .i64 (k1 + 1))) = true) (bneT h8)<|P0)))
  (fun h5 H =>
  eN H<|gE func153 [rg [hE 4 (gi_Kind x3), hC 6 true [] (Rw_markText r4) [], hT 7], r0] (by kernel_rfl) (P1 h2<|P1 (int_lt_of_at h2 hx3)<|P1 (at_map gi_Kind hx3)<|P1 (cw_markText hr4)<|P2 ((!(x3.Name == r4)) = true) (nbeqT h5)<|P0)))
  (fun h1 H =>
  eN H<|gE func153 [rg [hF 3], r0] (by kernel_rfl) (P2 ((decide (i2 < ((va0.length : Nat) : Int))) = false) (decide_eq_false h1)<|P0))
theorem ww_heldKindS : ∀ s r, loop Bw_heldKindS s = some r → Wc X 153 0 (Kw_heldKindS s) (Zw_heldKindS s) (RI r) ((fun _ => []) r) := Nx.all (nw_heldKindS)
theorem cw_heldKindS {a0 : (List Gi_Kind)} {a1 : Int} {r : Int} (H : Dw_heldKindS a0 a1 = some r) : Ct X.P X.gl 153 [sl 6 gi_Kind a0, I a1] [] (RI r) [] :=
 Ct.of func153 (c := bdy f153) (by kernel_rfl) (by kernel_rfl) <|
 gO [r0, r0, .canon [] [0, 1, 5]] (by kernel_rfl) P0 (ww_heldKindS _ _ H)
theorem cw_heldRules {a0 : Gi_Rules} {a1 : Int} {r : Int} (H : Dw_heldRules a0 a1 = some r) : Ct X.P X.gl 95 [gi_Rules a0, I a1] [] (RI r) [] :=
 Ct.of func95 (c := bdy f95) (by kernel_rfl) (by kernel_rfl) <|
 eBind H fun r1 hr1 H =>
 gS [r0, rg [hC 3 true [] (RI r1) []]] (by kernel_rfl) (P1 (cw_heldTerrainS hr1)<|P0) <|
 eIf H (fun h2 H =>
 eW RI (fun _ => []) H<|gE func95 [rg [hT 1], r0] (by kernel_rfl) (P2 ((decide (r1 < 0)) = true) (decide_eq_true h2)<|P0))
 (fun h2 H =>
 eBind H fun r3 hr3 H =>
 gS [rg [hF 1], rg [hC 3 true [] (RI r3) []]] (by kernel_rfl) (P2 ((decide (r1 < 0)) = false) (decide_eq_false h2)<|P1 (cw_heldKindS hr3)<|P0) <|
 eIf H (fun h4 H =>
 eW RI (fun _ => []) H<|gE func95 [rg [hT 1], r0] (by kernel_rfl) (P2 ((decide (r3 < 0)) = true) (decide_eq_true h4)<|P0))
 (fun h4 H =>
 eW RI (fun _ => []) H<|gE func95 [rg [hF 1], r0] (by kernel_rfl) (P2 ((decide (r3 < 0)) = false) (decide_eq_false h4)<|P0)))
theorem cw_heldMap {a0 : Gi_Map} {a1 : Int} {r : Int} (H : Dw_heldMap a0 a1 = some r) : Ct X.P X.gl 96 [gi_Map a0, I a1] [] (RI r) [] :=
 Ct.of func96 (c := bdy f96) (by kernel_rfl) (by kernel_rfl) <|
 eBind H fun r1 hr1 H =>
 gS [r0, rg [hC 3 true [] (RI r1) []]] (by kernel_rfl) (P1 (cw_heldIntS hr1)<|P0) <|
 eIf H (fun h2 H =>
 eW RI (fun _ => []) H<|gE func96 [rg [hT 1], r0] (by kernel_rfl) (P2 ((decide (r1 < 0)) = true) (decide_eq_true h2)<|P0))
 (fun h2 H =>
 eBind H fun r3 hr3 H =>
 gS [rg [hF 1], rg [hC 3 true [] (RI r3) []]] (by kernel_rfl) (P2 ((decide (r1 < 0)) = false) (decide_eq_false h2)<|P1 (cw_heldIntS hr3)<|P0) <|
 eIf H (fun h4 H =>
 eW RI (fun _ => []) H<|gE func96 [rg [hT 1], r0] (by kernel_rfl) (P2 ((decide (r3 < 0)) = true) (decide_eq_true h4)<|P0))
 (fun h4 H =>
 eBind H fun r5 hr5 H =>
 gS [rg [hF 1], rg [hC 3 true [] (RI r5) []]] (by kernel_rfl) (P2 ((decide (r3 < 0)) = false) (decide_eq_false h4)<|P1 (cw_heldIntS hr5)<|P0) <|
 eIf H (fun h6 H =>
 eW RI (fun _ => []) H<|gE func96 [rg [hT 1], r0] (by kernel_rfl) (P2 ((decide (r5 < 0)) = true) (decide_eq_true h6)<|P0))
 (fun h6 H =>
 eW RI (fun _ => []) H<|gE func96 [rg [hF 1], r0] (by kernel_rfl) (P2 ((decide (r5 < 0)) = false) (decide_eq_false h6)<|P0))))
theorem cw_heldBoard {a0 : Gi_Board} {a1 : Int} {r : Int} (H : Dw_heldBoard a0 a1 = some r) : Ct X.P X.gl 46 [gi_Board a0, I a1] [] (RI r) [] :=
 Ct.of func46 (c := bdy f46) (by kernel_rfl) (by kernel_rfl) <|
 eBind H fun r1 hr1 H =>
 gS [r0, rg [hC 3 true [] (RI r1) []]] (by kernel_rfl) (P1 (cw_heldRules hr1)<|P0) <|
 eIf H (fun h2 H =>
 eW RI (fun _ => []) H<|gE func46 [rg [hT 1], r0] (by kernel_rfl) (P2 ((decide (r1 < 0)) = true) (decide_eq_true h2)<|P0))
 (fun h2 H =>
 eBind H fun r3 hr3 H =>
 gS [rg [hF 1], rg [hC 3 true [] (RI r3) []]] (by kernel_rfl) (P2 ((decide (r1 < 0)) = false) (decide_eq_false h2)<|P1 (cw_heldMap hr3)<|P0) <|
 eIf H (fun h4 H =>
 eW RI (fun _ => []) H<|gE func46 [rg [hT 1], r0] (by kernel_rfl) (P2 ((decide (r3 < 0)) = true) (decide_eq_true h4)<|P0))
 (fun h4 H =>
 eW RI (fun _ => []) H<|gE func46 [rg [hF 1], r0] (by kernel_rfl) (P2 ((decide (r3 < 0)) = false) (decide_eq_false h4)<|P0)))
noncomputable def Kw_heldOddsS : Sw_heldOddsS → List Item
 | .h1 .. => nav 300 2 [] [.code (bdy f97)]
def Zw_heldOddsS : Sw_heldOddsS → St
 | .h1 va0 k1 i2 => ⟨sts 31 [(0, sl 2 gi_Odds va0), (1, I k1), (5, I i2)], []⟩
abbrev Qw_heldOddsS := Nx X 97 0 Kw_heldOddsS Zw_heldOddsS RI (fun _ => [])
theorem nw_heldOddsS : ∀ s o, Bw_heldOddsS s = some o → Qw_heldOddsS (Kw_heldOddsS s) (Zw_heldOddsS s) o
 | .h1 va0 k1 i2, o, H =>
  eIf H (fun h1 H =>
  eCk H fun h2 H =>
  eBind H fun x3 hx3 H =>
  gN [rg [hT 3]] (by kernel_rfl) (P2 ((decide (i2 < ((va0.length : Nat) : Int))) = true) (decide_eq_true h1)<|P0) <|
  eIf H (fun h4 H =>
  eCk H fun h5 H =>
  eBind H fun x6 hx6 H =>
  gN [rg [hE 4 (gi_Odds x3), hF 6], r0] (by kernel_rfl) (P1 h2<|P1 (int_lt_of_at h2 hx3)<|P1 (at_map gi_Odds hx3)<|P2 (((x3.Num : Int) != k1) = false) (bneF h4)<|P0) <|
  eIf H (fun h7 H =>
  eN H fun r hn => gO [rg [hE 4 (gi_Odds x6), hF 6], r0, r0, .canon [] [0, 1, 5]] (by kernel_rfl) (P1 h5<|P1 (int_lt_of_at h5 hx6)<|P1 (at_map gi_Odds hx6)<|P2 (((x6.Den : Int) != (IntKind.wrap .i64 (k1 + 1))) = false) (bneF h7)<|P0) hn)
  (fun h7 H =>
  eN H<|gE func97 [rg [hE 4 (gi_Odds x6), hT 6], r0] (by kernel_rfl) (P1 h5<|P1 (int_lt_of_at h5 hx6)<|P1 (at_map gi_Odds hx6)<|P2 (((x6.Den : Int) != (IntKind.wrap .i64 (k1 + 1))) = true) (bneT h7)<|P0)))
  (fun h4 H =>
  eN H<|gE func97 [rg [hE 4 (gi_Odds x3), hT 6], r0] (by kernel_rfl) (P1 h2<|P1 (int_lt_of_at h2 hx3)<|P1 (at_map gi_Odds hx3)<|P2 (((x3.Num : Int) != k1) = true) (bneT h4)<|P0)))
  (fun h1 H =>
  eN H<|gE func97 [rg [hF 3], r0] (by kernel_rfl) (P2 ((decide (i2 < ((va0.length : Nat) : Int))) = false) (decide_eq_false h1)<|P0))
theorem ww_heldOddsS : ∀ s r, loop Bw_heldOddsS s = some r → Wc X 97 0 (Kw_heldOddsS s) (Zw_heldOddsS s) (RI r) ((fun _ => []) r) := Nx.all (nw_heldOddsS)
theorem cw_heldOddsS {a0 : (List Gi_Odds)} {a1 : Int} {r : Int} (H : Dw_heldOddsS a0 a1 = some r) : Ct X.P X.gl 97 [sl 2 gi_Odds a0, I a1] [] (RI r) [] :=
 Ct.of func97 (c := bdy f97) (by kernel_rfl) (by kernel_rfl) <|
 gO [r0, r0, .canon [] [0, 1, 5]] (by kernel_rfl) P0 (ww_heldOddsS _ _ H)
end Go.Proofs.YtdafkeddonfjkaaGreatDoor.Ab
