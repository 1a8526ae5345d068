/- Part of the proof of FnZonesCard: no condition of its own. -/
import Derived.Test.YtpggeanoohlmjaaGreatDoorB4ZOC
set_option linter.unusedVariables false
set_option linter.unusedSimpArgs false
open Go Go.Proofs Go.Proofs.Tryz
namespace Go.Proofs.YtpggeanoohlmjaaGreatDoor.Ab
/-! loop example/g00886/impl IsMap -/
noncomputable def Ki_IsMap : Si_IsMap → List Item
  | .h1 .. => nav 300 3 [false] [.code (bdy f162)]
  | .h2 .. => nav 300 5 [false, false] [.code (bdy f162)]
  | .h3 .. => nav 300 9 [false, false, true, false] [.code (bdy f162)]
def Zi_IsMap : Si_IsMap → St
  | .h1 t0 t1 t2 b3 => ⟨sts 66 [(1, .ptr 0 5 0 0), (31, sl 1 I t0), (32, I t1), (33, I t2)], [some ⟨false, true, 5, 1, [.agg [I b3.Width, I b3.Height, sl 1 I b3.Terrain, sl 1 I b3.Rivers, sl 1 I b3.Roads]]⟩]⟩
  | .h2 t0 t1 b2 l3 => ⟨sts 66 [(1, .ptr 0 5 0 0), (45, .ref 1 1 none), (46, I t0), (47, I t1)], [some ⟨false, true, 5, 1, [.agg [I b2.Width, I b2.Height, sl 1 I b2.Terrain, sl 1 I b2.Rivers, sl 1 I b2.Roads]]⟩, some ⟨false, false, 1, l3.length, List.map (sl 1 I) l3⟩]⟩
  | .h3 t0 t1 t2 t3 t4 b5 l6 => ⟨sts 66 [(1, .ptr 0 5 0 0), (45, .ref 1 1 none), (46, I t0), (47, I t1), (54, sl 1 I t2), (55, I t3), (56, I t4)], [some ⟨false, true, 5, 1, [.agg [I b5.Width, I b5.Height, sl 1 I b5.Terrain, sl 1 I b5.Rivers, sl 1 I b5.Roads]]⟩, some ⟨false, false, 1, l6.length, List.map (sl 1 I) l6⟩]⟩
abbrev Qi_IsMap := Nx X 162 0 Ki_IsMap Zi_IsMap RB (fun _ => [])
theorem ni_IsMap : ∀ s o, Bi_IsMap s = some o → Qi_IsMap (Ki_IsMap s) (Zi_IsMap s) o
  | .h1 t0 t1 t2 b3, o, H =>
    eIf H (fun h1 H =>
      eCk H fun h2 H =>
      eBind H fun x3 hx3 H =>
      eBind H fun r4 hr4 H =>
      gN [rg [hT 0], rg [hE 1 (I x3)]] (by kernel_rfl) (P2 ((decide (t2 < t1)) = true) (decide_eq_true h1) <| P1 h2 <| P1 (int_lt_of_at h2 hx3) <| P1 (at_map I hx3) <| P0) <|
      eIf H (fun h5 H =>
        eN H fun r hn => gO [rg [{ i := 1, call := some { cl := true, auto := true, ins := [], res := (RB r4), G' := [] }, dec := some true }], r0, .canon [0] [1, 31, 32, 33]] (by kernel_rfl) (P1 (ci_isIndex hr4) <| P2 (r4 = true) (h5) <| P0) hn)
      (fun h5 H =>
        eN H <| gE func162 [rg [{ i := 1, call := some { cl := true, auto := true, ins := [], res := (RB r4), G' := [] }, dec := some false }], r0] (by kernel_rfl) (P1 (ci_isIndex hr4) <| P2 (r4 = false) (eqF h5) <| P0)))
    (fun h1 H =>
      eN H fun r hn => gO [rg [hF 0], r0, .canon [0, 1] [1, 45, 46, 47]] (by kernel_rfl) (P2 ((decide (t2 < t1)) = false) (decide_eq_false h1) <| P0) hn)
  | .h2 t0 t1 b2 l3, o, H =>
    eIf H (fun h1 H =>
      eCk H fun h2 H =>
      eBind H fun x3 hx3 H =>
      eBind H fun r4 hr4 H =>
      gN [rg [hT 0], rg [hE 1 ((sl 1 I) x3)]] (by kernel_rfl) (P2 ((decide (t1 < t0)) = true) (decide_eq_true h1) <| P1 h2 <| P1 (int_lt_of_at h2 hx3) <| P1 (at_map (sl 1 I) hx3) <| P0) <|
      eIf H (fun h5 H =>
        eN H fun r hn => gO [rg [{ i := 1, call := some { cl := true, auto := true, ins := [], res := (RB r4), G' := [] }, dec := some true }], r0, .canon [0, 1] [1, 45, 46, 47, 54, 55, 56]] (by kernel_rfl) (P1 (ci_increasing hr4) <| P2 (r4 = true) (h5) <| P0) hn)
      (fun h5 H =>
        eN H <| gE func162 [rg [{ i := 1, call := some { cl := true, auto := true, ins := [], res := (RB r4), G' := [] }, dec := some false }], r0] (by kernel_rfl) (P1 (ci_increasing hr4) <| P2 (r4 = false) (eqF h5) <| P0)))
    (fun h1 H =>
      eN H <| gE func162 [rg [hF 0], r0] (by kernel_rfl) (P2 ((decide (t1 < t0)) = false) (decide_eq_false h1) <| P0))
  | .h3 t0 t1 t2 t3 t4 b5 l6, o, H =>
    eIf H (fun h1 H =>
      eCk H fun h2 H =>
      eBind H fun x3 hx3 H =>
      eBind H fun r4 hr4 H =>
      gN [rg [hT 0], rg [hE 1 (I x3)]] (by kernel_rfl) (P2 ((decide (t4 < t3)) = true) (decide_eq_true h1) <| P1 h2 <| P1 (int_lt_of_at h2 hx3) <| P1 (at_map I hx3) <| P0) <|
      eIf H (fun h5 H =>
        eN H fun r hn => gO [rg [{ i := 2, call := some { cl := true, auto := true, ins := [], res := (RB r4), G' := [] }, dec := some true }], r0, .canon [0, 1] [1, 45, 46, 47, 54, 55, 56]] (by kernel_rfl) (P1 (ci_isEdge hr4) <| P2 (r4 = true) (h5) <| P0) hn)
      (fun h5 H =>
        eN H <| gE func162 [rg [{ i := 2, call := some { cl := true, auto := true, ins := [], res := (RB r4), G' := [] }, dec := some false }], r0] (by kernel_rfl) (P1 (ci_isEdge hr4) <| P2 (r4 = false) (eqF h5) <| P0)))
    (fun h1 H =>
      eN H fun r hn => gO [rg [hF 0], r0, .canon [0, 1] [1, 45, 46, 47]] (by kernel_rfl) (P2 ((decide (t4 < t3)) = false) (decide_eq_false h1) <| P0) hn)
theorem wi_IsMap : ∀ s r, loop Bi_IsMap s = some r → Wc X 162 0 (Ki_IsMap s) (Zi_IsMap s) (RB r) ((fun _ => []) r) := Nx.all ni_IsMap
theorem ci_IsMap {a0 : Gi_Map} {r : Bool} (H : Di_IsMap a0 = some r) : Ct X.P X.gl 162 [.agg [I a0.Width, I a0.Height, sl 1 I a0.Terrain, sl 1 I a0.Rivers, sl 1 I a0.Roads]] [] (RB r) [] :=
  Ct.of func162 (c := bdy f162) (by kernel_rfl) (by kernel_rfl) <|
  eBind H fun r1 hr1 H =>
  gS [r0] (by kernel_rfl) P0 <|
  eIf H (fun h2 H =>
    eBind H fun r3 hr3 H =>
    eIf H (fun h4 H =>
      eIf H (fun h5 H =>
        gO [rg [{ i := 2, call := some { cl := true, auto := true, ins := [], res := (RB r1), G' := [] }, dec := some true }, { i := 7, call := some { cl := true, auto := true, ins := [], res := (RB r3), G' := [] }, dec := some true }, hF 19], r0, .canon [0] [1, 31, 32, 33]] (by kernel_rfl) (P1 (ci_inRange hr1) <| P2 (r1 = true) (h2) <| P1 (ci_inRange hr3) <| P2 (r3 = true) (h4) <| P2 (((((a0.Terrain.length : Nat) : Int) : Int) != (IntKind.wrap .i64 (a0.Width * a0.Height))) = false) (bneF h5) <| P0) (wi_IsMap _ _ H))
      (fun h5 H =>
        eW RB (fun _ => []) H <| gE func162 [rg [{ i := 2, call := some { cl := true, auto := true, ins := [], res := (RB r1), G' := [] }, dec := some true }, { i := 7, call := some { cl := true, auto := true, ins := [], res := (RB r3), G' := [] }, dec := some true }, hT 19], r0] (by kernel_rfl) (P1 (ci_inRange hr1) <| P2 (r1 = true) (h2) <| P1 (ci_inRange hr3) <| P2 (r3 = true) (h4) <| P2 (((((a0.Terrain.length : Nat) : Int) : Int) != (IntKind.wrap .i64 (a0.Width * a0.Height))) = true) (bneT h5) <| P0)))
    (fun h4 H =>
      eW RB (fun _ => []) H <| gE func162 [rg [{ i := 2, call := some { cl := true, auto := true, ins := [], res := (RB r1), G' := [] }, dec := some true }, { i := 7, call := some { cl := true, auto := true, ins := [], res := (RB r3), G' := [] }, dec := some false }], r0] (by kernel_rfl) (P1 (ci_inRange hr1) <| P2 (r1 = true) (h2) <| P1 (ci_inRange hr3) <| P2 (r3 = false) (eqF h4) <| P0)))
  (fun h2 H =>
    eW RB (fun _ => []) H <| gE func162 [rg [{ i := 2, call := some { cl := true, auto := true, ins := [], res := (RB r1), G' := [] }, dec := some false }], r0] (by kernel_rfl) (P1 (ci_inRange hr1) <| P2 (r1 = false) (eqF h2) <| P0))
/-! loop example/g00886/impl IsBoard 1 -/
theorem ci_IsBoard_1 {a0 : Int} {a1 : Gi_Board} {r : Bool} (H : Di_IsBoard_1 a0 a1 = some r) : Ct X.P X.gl 163 [I a0, .fptr 12 [.agg [sl 5 gi_Terrain a1.Rules.Terrains, sl 6 gi_Kind a1.Rules.Kinds, I a1.Rules.Stack, I a1.Rules.River, I a1.Rules.Road, I a1.Rules.Supply, I a1.Rules.Turns, I a1.Map.Width, I a1.Map.Height, sl 1 I a1.Map.Terrain, sl 1 I a1.Map.Rivers, sl 1 I a1.Map.Roads]] 0 0] [] (RB r) [] :=
  Ct.of func163 (c := bdy f163) (by kernel_rfl) (by kernel_rfl) <|
  eW RB (fun _ => []) H <| gE func163 [r0, r0] (by kernel_rfl) P0
/-! slices IndexFunc   int int  -/
noncomputable def Kslices_IndexFunc_int_i_IsBoard_1 : Sslices_IndexFunc_int_i_IsBoard_1 → List Item
  | .h1 .. => nav 300 2 [] [.code (bdy f169)]
def Zslices_IndexFunc_int_i_IsBoard_1 : Sslices_IndexFunc_int_i_IsBoard_1 → St
  | .h1 s0 f1 t2 t3 => ⟨sts 19 [(0, sl 1 I s0), (1, .fn 163 [.fptr 12 [.agg [sl 5 gi_Terrain f1.Rules.Terrains, sl 6 gi_Kind f1.Rules.Kinds, I f1.Rules.Stack, I f1.Rules.River, I f1.Rules.Road, I f1.Rules.Supply, I f1.Rules.Turns, I f1.Map.Width, I f1.Map.Height, sl 1 I f1.Map.Terrain, sl 1 I f1.Map.Rivers, sl 1 I f1.Map.Roads]] 0 0]), (7, I t2), (8, I t3)], []⟩
abbrev Qslices_IndexFunc_int_i_IsBoard_1 := Nx X 169 0 Kslices_IndexFunc_int_i_IsBoard_1 Zslices_IndexFunc_int_i_IsBoard_1 RI (fun _ => [])
theorem nslices_IndexFunc_int_i_IsBoard_1 : ∀ s o, Bslices_IndexFunc_int_i_IsBoard_1 s = some o → Qslices_IndexFunc_int_i_IsBoard_1 (Kslices_IndexFunc_int_i_IsBoard_1 s) (Zslices_IndexFunc_int_i_IsBoard_1 s) o
  | .h1 s0 f1 t2 t3, o, H =>
    eIf H (fun h1 H =>
      eCk H fun h2 H =>
      eBind H fun x3 hx3 H =>
      eBind H fun r4 hr4 H =>
      gN [rg [hT 0], r0] (by kernel_rfl) (P2 ((decide (t3 < t2)) = true) (decide_eq_true h1) <| P0) <|
      eIf H (fun h5 H =>
        eN H <| gE func169 [rg [hE 4 (I x3), { i := 5, call := some { cl := true, auto := true, ins := [], res := (RB r4), G' := [] }, dec := some true }], r0] (by kernel_rfl) (P1 h2 <| P1 (int_lt_of_at h2 hx3) <| P1 (at_map I hx3) <| P1 (ci_IsBoard_1 hr4) <| P2 (r4 = true) (h5) <| P0))
      (fun h5 H =>
        eN H fun r hn => gO [rg [hE 4 (I x3), { i := 5, call := some { cl := true, auto := true, ins := [], res := (RB r4), G' := [] }, dec := some false }], r0, .canon [] [0, 1, 7, 8]] (by kernel_rfl) (P1 h2 <| P1 (int_lt_of_at h2 hx3) <| P1 (at_map I hx3) <| P1 (ci_IsBoard_1 hr4) <| P2 (r4 = false) (eqF h5) <| P0) hn))
    (fun h1 H =>
      eN H <| gE func169 [rg [hF 0], r0] (by kernel_rfl) (P2 ((decide (t3 < t2)) = false) (decide_eq_false h1) <| P0))
theorem wslices_IndexFunc_int_i_IsBoard_1 : ∀ s r, loop Bslices_IndexFunc_int_i_IsBoard_1 s = some r → Wc X 169 0 (Kslices_IndexFunc_int_i_IsBoard_1 s) (Zslices_IndexFunc_int_i_IsBoard_1 s) (RI r) ((fun _ => []) r) := Nx.all nslices_IndexFunc_int_i_IsBoard_1
theorem cslices_IndexFunc_int_i_IsBoard_1 {a0 : (List Int)} {a100 : Gi_Board} {r : Int} (H : Dslices_IndexFunc_int_i_IsBoard_1 a0 a100 = some r) : Ct X.P X.gl 169 [sl 1 I a0, .fn 163 [.fptr 12 [.agg [sl 5 gi_Terrain a100.Rules.Terrains, sl 6 gi_Kind a100.Rules.Kinds, I a100.Rules.Stack, I a100.Rules.River, I a100.Rules.Road, I a100.Rules.Supply, I a100.Rules.Turns, I a100.Map.Width, I a100.Map.Height, sl 1 I a100.Map.Terrain, sl 1 I a100.Map.Rivers, sl 1 I a100.Map.Roads]] 0 0]] [] (RI r) [] :=
  Ct.of func169 (c := bdy f169) (by kernel_rfl) (by kernel_rfl) <|
  gO [r0, r0, .canon [] [0, 1, 7, 8]] (by kernel_rfl) P0 (wslices_IndexFunc_int_i_IsBoard_1 _ _ H)
/-! slices ContainsFunc   int int  -/
theorem cslices_ContainsFunc_int_i_IsBoard_1 {a0 : (List Int)} {a100 : Gi_Board} {r : Bool} (H : Dslices_ContainsFunc_int_i_IsBoard_1 a0 a100 = some r) : Ct X.P X.gl 133 [sl 1 I a0, .fn 163 [.fptr 12 [.agg [sl 5 gi_Terrain a100.Rules.Terrains, sl 6 gi_Kind a100.Rules.Kinds, I a100.Rules.Stack, I a100.Rules.River, I a100.Rules.Road, I a100.Rules.Supply, I a100.Rules.Turns, I a100.Map.Width, I a100.Map.Height, sl 1 I a100.Map.Terrain, sl 1 I a100.Map.Rivers, sl 1 I a100.Map.Roads]] 0 0]] [] (RB r) [] :=
  Ct.of func133 (c := bdy f133) (by kernel_rfl) (by kernel_rfl) <|
  eBind H fun r1 hr1 H =>
  eW RB (fun _ => []) H <| gE func133 [r0, rg [hC 2 true [] (RI r1) []]] (by kernel_rfl) (P1 (cslices_IndexFunc_int_i_IsBoard_1 hr1) <| P0)
/-! loop example/g00886/impl IsBoard -/
theorem ci_IsBoard {a0 : Gi_Board} {r : Bool} (H : Di_IsBoard a0 = some r) : Ct X.P X.gl 123 [.agg [sl 5 gi_Terrain a0.Rules.Terrains, sl 6 gi_Kind a0.Rules.Kinds, I a0.Rules.Stack, I a0.Rules.River, I a0.Rules.Road, I a0.Rules.Supply, I a0.Rules.Turns, I a0.Map.Width, I a0.Map.Height, sl 1 I a0.Map.Terrain, sl 1 I a0.Map.Rivers, sl 1 I a0.Map.Roads]] [] (RB r) [] :=
  Ct.of func123 (c := bdy f123) (by kernel_rfl) (by kernel_rfl) <|
  eBind H fun r1 hr1 H =>
  gS [r0] (by kernel_rfl) P0 <|
  eIf H (fun h2 H =>
    eBind H fun r3 hr3 H =>
    eIf H (fun h4 H =>
      eBind H fun r5 hr5 H =>
      eW RB (fun _ => []) H <| gE func123 [rg [{ i := 2, call := some { cl := true, auto := true, ins := [], res := (RB r1), G' := [] }, dec := some true }, { i := 7, call := some { cl := true, auto := true, ins := [], res := (RB r3), G' := [] }, dec := some true }], rg [hC 4 false [] (RB r5) []]] (by kernel_rfl) (P1 (ci_IsRules hr1) <| P2 (r1 = true) (h2) <| P1 (ci_IsMap hr3) <| P2 (r3 = true) (h4) <| P1 (cslices_ContainsFunc_int_i_IsBoard_1 hr5) <| P0))
    (fun h4 H =>
      eW RB (fun _ => []) H <| gE func123 [rg [{ i := 2, call := some { cl := true, auto := true, ins := [], res := (RB r1), G' := [] }, dec := some true }, { i := 7, call := some { cl := true, auto := true, ins := [], res := (RB r3), G' := [] }, dec := some false }], r0] (by kernel_rfl) (P1 (ci_IsRules hr1) <| P2 (r1 = true) (h2) <| P1 (ci_IsMap hr3) <| P2 (r3 = false) (eqF h4) <| P0)))
  (fun h2 H =>
    eW RB (fun _ => []) H <| gE func123 [rg [{ i := 2, call := some { cl := true, auto := true, ins := [], res := (RB r1), G' := [] }, dec := some false }], r0] (by kernel_rfl) (P1 (ci_IsRules hr1) <| P2 (r1 = false) (eqF h2) <| P0))
/-! loop example/g00886/impl sizeOf -/
theorem ci_sizeOf {a0 : Gi_Board} {r : Int} (H : Di_sizeOf a0 = some r) : Ct X.P X.gl 96 [.agg [sl 5 gi_Terrain a0.Rules.Terrains, sl 6 gi_Kind a0.Rules.Kinds, I a0.Rules.Stack, I a0.Rules.River, I a0.Rules.Road, I a0.Rules.Supply, I a0.Rules.Turns, I a0.Map.Width, I a0.Map.Height, sl 1 I a0.Map.Terrain, sl 1 I a0.Map.Rivers, sl 1 I a0.Map.Roads]] [] (RI r) [] :=
  Ct.of func96 (c := bdy f96) (by kernel_rfl) (by kernel_rfl) <|
  eW RI (fun _ => []) H <| gE func96 [r0, r0] (by kernel_rfl) P0
/-! loop example/g00886/impl isSide -/
theorem ci_isSide {a0 : Int} {r : Bool} (H : Di_isSide a0 = some r) : Ct X.P X.gl 81 [I a0] [] (RB r) [] :=
  Ct.of func81 (c := bdy f81) (by kernel_rfl) (by kernel_rfl) <|
  eBind H fun r1 hr1 H =>
  eW RB (fun _ => []) H <| gE func81 [r0, rg [hC 1 true [] (RB r1) []]] (by kernel_rfl) (P1 (ci_inRange hr1) <| P0)
/-! loop example/g00886/impl terrainAt -/
def Ri_terrainAt (r : Gi_Terrain) : List D := [.agg [.str r.Name, sl 1 I r.Cost, I r.Shift, I r.Height, .bool r.Blocks]]
theorem ci_terrainAt {a0 : Gi_Board} {a1 : Int} {r : Gi_Terrain} (H : Di_terrainAt a0 a1 = some r) : Ct X.P X.gl 176 [.agg [sl 5 gi_Terrain a0.Rules.Terrains, sl 6 gi_Kind a0.Rules.Kinds, I a0.Rules.Stack, I a0.Rules.River, I a0.Rules.Road, I a0.Rules.Supply, I a0.Rules.Turns, I a0.Map.Width, I a0.Map.Height, sl 1 I a0.Map.Terrain, sl 1 I a0.Map.Rivers, sl 1 I a0.Map.Roads], I a1] [] (Ri_terrainAt r) [] :=
  Ct.of func176 (c := bdy f176) (by kernel_rfl) (by kernel_rfl) <|
  eCk H fun h1 H =>
  eBind H fun x2 hx2 H =>
  eCk H fun h3 H =>
  eBind H fun x4 hx4 H =>
  eW Ri_terrainAt (fun _ => []) H <| gE func176 [r0, rg [hE 8 (I x2), hE 10 (gi_Terrain x4)]] (by kernel_rfl) (P1 h1 <| P1 (int_lt_of_at h1 hx2) <| P1 (at_map I hx2) <| P1 h3 <| P1 (int_lt_of_at h3 hx4) <| P1 (at_map gi_Terrain hx4) <| P0)
/-! loop example/g00886/impl enterCost -/
theorem ci_enterCost {a0 : Gi_Board} {a1 : Int} {a2 : Int} {r : Int} (H : Di_enterCost a0 a1 a2 = some r) : Ct X.P X.gl 139 [.agg [sl 5 gi_Terrain a0.Rules.Terrains, sl 6 gi_Kind a0.Rules.Kinds, I a0.Rules.Stack, I a0.Rules.River, I a0.Rules.Road, I a0.Rules.Supply, I a0.Rules.Turns, I a0.Map.Width, I a0.Map.Height, sl 1 I a0.Map.Terrain, sl 1 I a0.Map.Rivers, sl 1 I a0.Map.Roads], I a1, I a2] [] (RI r) [] :=
  Ct.of func139 (c := bdy f139) (by kernel_rfl) (by kernel_rfl) <|
  eBind H fun r1 hr1 H =>
  eCk H fun h2 H =>
  eBind H fun x3 hx3 H =>
  eW RI (fun _ => []) H <| gE func139 [r0, rg [hC 2 true [] (Ri_terrainAt r1) [], hE 6 (I x3)]] (by kernel_rfl) (P1 (ci_terrainAt hr1) <| P1 h2 <| P1 (int_lt_of_at h2 hx3) <| P1 (at_map I hx3) <| P0)
/-! loop example/g00886/impl goodUnit -/
theorem ci_goodUnit {a0 : Gi_Board} {a1 : Gi_Unit} {r : Bool} (H : Di_goodUnit a0 a1 = some r) : Ct X.P X.gl 159 [.agg [sl 5 gi_Terrain a0.Rules.Terrains, sl 6 gi_Kind a0.Rules.Kinds, I a0.Rules.Stack, I a0.Rules.River, I a0.Rules.Road, I a0.Rules.Supply, I a0.Rules.Turns, I a0.Map.Width, I a0.Map.Height, sl 1 I a0.Map.Terrain, sl 1 I a0.Map.Rivers, sl 1 I a0.Map.Roads], .agg [I a1.Side, I a1.Kind, I a1.At, I a1.Steps]] [] (RB r) [] :=
  Ct.of func159 (c := bdy f159) (by kernel_rfl) (by kernel_rfl) <|
  eBind H fun r1 hr1 H =>
  gS [r0] (by kernel_rfl) P0 <|
  eIf H (fun h2 H =>
    eBind H fun r3 hr3 H =>
    eIf H (fun h4 H =>
      eCk H fun h5 H =>
      eBind H fun x6 hx6 H =>
      eBind H fun r7 hr7 H =>
      eIf H (fun h8 H =>
        gS [rg [{ i := 2, call := some { cl := true, auto := true, ins := [], res := (RB r1), G' := [] }, dec := some true }, { i := 11, call := some { cl := true, auto := true, ins := [], res := (RB r3), G' := [] }, dec := some true }, hE 24 (gi_Kind x6), { i := 25, call := some { cl := true, auto := true, ins := [], res := (RB r7), G' := [] }, dec := some true }]] (by kernel_rfl) (P1 (ci_isSide hr1) <| P2 (r1 = true) (h2) <| P1 (ci_isIndex hr3) <| P2 (r3 = true) (h4) <| P1 h5 <| P1 (int_lt_of_at h5 hx6) <| P1 (at_map gi_Kind hx6) <| P1 (ci_inRange hr7) <| P2 (r7 = true) (h8) <| P0) <|
        eIf H (fun h9 H =>
          eW RB (fun _ => []) H <| gE func159 [rg [hT 2], r0] (by kernel_rfl) (P2 (((a1.At : Int) == (-1)) = true) (beqT h9) <| P0))
        (fun h9 H =>
          gS [rg [hF 2]] (by kernel_rfl) (P2 (((a1.At : Int) == (-1)) = false) (beqF h9) <| P0) <|
          eIf H (fun h10 H =>
            eBind H fun r11 hr11 H =>
            eBind H fun r12 hr12 H =>
            eIf H (fun h13 H =>
              eBind H fun r14 hr14 H =>
              eW RB (fun _ => []) H <| gE func159 [rg [hT 2, hC 7 true [] (RI r11) [], { i := 8, call := some { cl := true, auto := true, ins := [], res := (RB r12), G' := [] }, dec := some true }, hC 16 true [] (RI r14) []]] (by kernel_rfl) (P2 ((decide (a1.Steps > 0)) = true) (decide_eq_true h10) <| P1 (ci_sizeOf hr11) <| P1 (ci_isIndex hr12) <| P2 (r12 = true) (h13) <| P1 (ci_enterCost hr14) <| P0))
            (fun h13 H =>
              eW RB (fun _ => []) H <| gE func159 [rg [hT 2, hC 7 true [] (RI r11) [], { i := 8, call := some { cl := true, auto := true, ins := [], res := (RB r12), G' := [] }, dec := some false }]] (by kernel_rfl) (P2 ((decide (a1.Steps > 0)) = true) (decide_eq_true h10) <| P1 (ci_sizeOf hr11) <| P1 (ci_isIndex hr12) <| P2 (r12 = false) (eqF h13) <| P0)))
          (fun h10 H =>
            eW RB (fun _ => []) H <| gE func159 [rg [hF 2]] (by kernel_rfl) (P2 ((decide (a1.Steps > 0)) = false) (decide_eq_false h10) <| P0))))
      (fun h8 H =>
        eW RB (fun _ => []) H <| gE func159 [rg [{ i := 2, call := some { cl := true, auto := true, ins := [], res := (RB r1), G' := [] }, dec := some true }, { i := 11, call := some { cl := true, auto := true, ins := [], res := (RB r3), G' := [] }, dec := some true }, hE 24 (gi_Kind x6), { i := 25, call := some { cl := true, auto := true, ins := [], res := (RB r7), G' := [] }, dec := some false }], r0] (by kernel_rfl) (P1 (ci_isSide hr1) <| P2 (r1 = true) (h2) <| P1 (ci_isIndex hr3) <| P2 (r3 = true) (h4) <| P1 h5 <| P1 (int_lt_of_at h5 hx6) <| P1 (at_map gi_Kind hx6) <| P1 (ci_inRange hr7) <| P2 (r7 = false) (eqF h8) <| P0)))
    (fun h4 H =>
      eW RB (fun _ => []) H <| gE func159 [rg [{ i := 2, call := some { cl := true, auto := true, ins := [], res := (RB r1), G' := [] }, dec := some true }, { i := 11, call := some { cl := true, auto := true, ins := [], res := (RB r3), G' := [] }, dec := some false }], r0] (by kernel_rfl) (P1 (ci_isSide hr1) <| P2 (r1 = true) (h2) <| P1 (ci_isIndex hr3) <| P2 (r3 = false) (eqF h4) <| P0)))
  (fun h2 H =>
    eW RB (fun _ => []) H <| gE func159 [rg [{ i := 2, call := some { cl := true, auto := true, ins := [], res := (RB r1), G' := [] }, dec := some false }], r0] (by kernel_rfl) (P1 (ci_isSide hr1) <| P2 (r1 = false) (eqF h2) <| P0))
/-! loop example/g00886/impl goodState -/
noncomputable def Ki_goodState : Si_goodState → List Item
  | .h1 .. => nav 300 4 [false] [.code (bdy f111)]
def Zi_goodState : Si_goodState → St
  | .h1 t0 t1 t2 b3 l4 => ⟨sts 80 [(2, .ptr 0 12 0 0), (5, .ref 1 2 none), (31, sl 4 gi_Unit t0), (32, I t1), (33, I t2)], [some ⟨false, true, 12, 1, [.agg [sl 5 gi_Terrain b3.Rules.Terrains, sl 6 gi_Kind b3.Rules.Kinds, I b3.Rules.Stack, I b3.Rules.River, I b3.Rules.Road, I b3.Rules.Supply, I b3.Rules.Turns, I b3.Map.Width, I b3.Map.Height, sl 1 I b3.Map.Terrain, sl 1 I b3.Map.Rivers, sl 1 I b3.Map.Roads]]⟩, some ⟨false, false, 2, l4.length, List.map gA2I l4⟩]⟩
abbrev Qi_goodState := Nx X 111 0 Ki_goodState Zi_goodState RB (fun _ => [])
theorem ni_goodState : ∀ s o, Bi_goodState s = some o → Qi_goodState (Ki_goodState s) (Zi_goodState s) o
  | .h1 t0 t1 t2 b3 l4, o, H =>
    eIf H (fun h1 H =>
      eCk H fun h2 H =>
      eBind H fun x3 hx3 H =>
      eBind H fun r4 hr4 H =>
      gN [rg [hT 0], rg [hE 1 (gi_Unit x3)]] (by kernel_rfl) (P2 ((decide (t2 < t1)) = true) (decide_eq_true h1) <| P1 h2 <| P1 (int_lt_of_at h2 hx3) <| P1 (at_map gi_Unit hx3) <| P0) <|
      eIf H (fun h5 H =>
        gN [rg [{ i := 2, call := some { cl := true, auto := true, ins := [], res := (RB r4), G' := [] }, dec := some true }]] (by kernel_rfl) (P1 (ci_goodUnit hr4) <| P2 (r4 = true) (h5) <| P0) <|
        eIf H (fun h6 H =>
          eN H fun r hn => gO [rg [hT 2], r0, .canon [0, 1] [2, 5, 31, 32, 33]] (by kernel_rfl) (P2 ((decide (x3.At < 0)) = true) (decide_eq_true h6) <| P0) hn)
        (fun h6 H =>
          eCk H fun h7 H =>
          eBind H fun x8 hx8 H =>
          gN [rg [hF 2]] (by kernel_rfl) (P2 ((decide (x3.At < 0)) = false) (decide_eq_false h6) <| P0) <|
          eIf H (fun h9 H =>
            eCk H fun h10 H =>
            eBind H fun x11 hx11 H =>
            eCk H fun h12 H =>
            eBind H fun x13 hx13 H =>
            gN [rg [{ i := 6, n := 0 }, hE 7 (gA2I x8), { i := 10, n := 0 }, hA 11 ((List.set l4 (Int.toNat x3.At) (GA2I.mk (IntKind.wrap .i64 (x8.c0 + 1)) x11.c1)).length) (List.map gA2I (List.set l4 (Int.toNat x3.At) (GA2I.mk (IntKind.wrap .i64 (x8.c0 + 1)) x11.c1)))]] (by kernel_rfl) (P1 h7 <| P1 (int_lt_of_at h7 hx8) <| P1 h9 <| P1 (at_map gA2I hx8) <| P1 h10 <| P1 (int_lt_of_at h10 hx11) <| P1 h9 <| P1 (lt_of_at hx11) <| P2 (setCells (List.map gA2I l4) (Int.toNat x3.At) 0 [I (IntKind.wrap .i64 (x8.c0 + 1))] = List.map gA2I (List.set l4 (Int.toNat x3.At) (GA2I.mk (IntKind.wrap .i64 (x8.c0 + 1)) x11.c1))) (setCells_map hx11 rfl) <| P1 (setLen l4 (Int.toNat x3.At) (GA2I.mk (IntKind.wrap .i64 (x8.c0 + 1)) x11.c1)) <| P0) <|
            eIf H (fun h14 H =>
              eIf H (fun h15 H =>
                eN H <| gE func111 [rg [{ i := 7, n := 0 }, hE 8 (gA2I x13), hT 9], r0] (by kernel_rfl) (P1 h12 <| P1 (int_lt_of_at h12 hx13) <| P1 h14 <| P1 (at_map gA2I hx13) <| P2 ((decide (x13.c0 > 0)) = true) (decide_eq_true h15) <| P0))
              (fun h15 H =>
                eCk H fun h16 H =>
                eBind H fun x17 hx17 H =>
                eIf H (fun h18 H =>
                  eN H <| gE func111 [rg [{ i := 7, n := 0 }, hE 8 (gA2I x13), hF 9, { i := 17, n := 0 }, hE 18 (gA2I x17), hT 22], r0] (by kernel_rfl) (P1 h12 <| P1 (int_lt_of_at h12 hx13) <| P1 h14 <| P1 (at_map gA2I hx13) <| P2 ((decide (x13.c0 > 0)) = false) (decide_eq_false h15) <| P1 h16 <| P1 (int_lt_of_at h16 hx17) <| P1 h9 <| P1 (at_map gA2I hx17) <| P2 ((decide (x17.c0 > b3.Rules.Stack)) = true) (decide_eq_true h18) <| P0))
                (fun h18 H =>
                  eN H fun r hn => gO [rg [{ i := 7, n := 0 }, hE 8 (gA2I x13), hF 9, { i := 17, n := 0 }, hE 18 (gA2I x17), hF 22], r0, .canon [0, 1] [2, 5, 31, 32, 33]] (by kernel_rfl) (P1 h12 <| P1 (int_lt_of_at h12 hx13) <| P1 h14 <| P1 (at_map gA2I hx13) <| P2 ((decide (x13.c0 > 0)) = false) (decide_eq_false h15) <| P1 h16 <| P1 (int_lt_of_at h16 hx17) <| P1 h9 <| P1 (at_map gA2I hx17) <| P2 ((decide (x17.c0 > b3.Rules.Stack)) = false) (decide_eq_false h18) <| P0) hn)))
            (fun h14 H =>
              eCk H fun h15 H =>
              eIf H (fun h16 H =>
                eN H <| gE func111 [rg [{ i := 7, n := 1 }, hE 8 (gA2I x13), hT 9], r0] (by kernel_rfl) (P1 h12 <| P1 (int_lt_of_at h12 hx13) <| P1 h15 <| P1 (at_map gA2I hx13) <| P2 ((decide (x13.c1 > 0)) = true) (decide_eq_true h16) <| P0))
              (fun h16 H =>
                eCk H fun h17 H =>
                eBind H fun x18 hx18 H =>
                eIf H (fun h19 H =>
                  eN H <| gE func111 [rg [{ i := 7, n := 1 }, hE 8 (gA2I x13), hF 9, { i := 17, n := 0 }, hE 18 (gA2I x18), hT 22], r0] (by kernel_rfl) (P1 h12 <| P1 (int_lt_of_at h12 hx13) <| P1 h15 <| P1 (at_map gA2I hx13) <| P2 ((decide (x13.c1 > 0)) = false) (decide_eq_false h16) <| P1 h17 <| P1 (int_lt_of_at h17 hx18) <| P1 h9 <| P1 (at_map gA2I hx18) <| P2 ((decide (x18.c0 > b3.Rules.Stack)) = true) (decide_eq_true h19) <| P0))
                (fun h19 H =>
                  eN H fun r hn => gO [rg [{ i := 7, n := 1 }, hE 8 (gA2I x13), hF 9, { i := 17, n := 0 }, hE 18 (gA2I x18), hF 22], r0, .canon [0, 1] [2, 5, 31, 32, 33]] (by kernel_rfl) (P1 h12 <| P1 (int_lt_of_at h12 hx13) <| P1 h15 <| P1 (at_map gA2I hx13) <| P2 ((decide (x13.c1 > 0)) = false) (decide_eq_false h16) <| P1 h17 <| P1 (int_lt_of_at h17 hx18) <| P1 h9 <| P1 (at_map gA2I hx18) <| P2 ((decide (x18.c0 > b3.Rules.Stack)) = false) (decide_eq_false h19) <| P0) hn))))
          (fun h9 H =>
            eCk H fun h10 H =>
            eCk H fun h11 H =>
            eBind H fun x12 hx12 H =>
            eCk H fun h13 H =>
            eBind H fun x14 hx14 H =>
            gN [rg [{ i := 6, n := 1 }, hE 7 (gA2I x8), { i := 10, n := 1 }, hA 11 ((List.set l4 (Int.toNat x3.At) (GA2I.mk x12.c0 (IntKind.wrap .i64 (x8.c1 + 1)))).length) (List.map gA2I (List.set l4 (Int.toNat x3.At) (GA2I.mk x12.c0 (IntKind.wrap .i64 (x8.c1 + 1)))))]] (by kernel_rfl) (P1 h7 <| P1 (int_lt_of_at h7 hx8) <| P1 h10 <| P1 (at_map gA2I hx8) <| P1 h11 <| P1 (int_lt_of_at h11 hx12) <| P1 h10 <| P1 (lt_of_at hx12) <| P2 (setCells (List.map gA2I l4) (Int.toNat x3.At) 1 [I (IntKind.wrap .i64 (x8.c1 + 1))] = List.map gA2I (List.set l4 (Int.toNat x3.At) (GA2I.mk x12.c0 (IntKind.wrap .i64 (x8.c1 + 1))))) (setCells_map hx12 rfl) <| P1 (setLen l4 (Int.toNat x3.At) (GA2I.mk x12.c0 (IntKind.wrap .i64 (x8.c1 + 1)))) <| P0) <|
            eIf H (fun h15 H =>
              eIf H (fun h16 H =>
                eN H <| gE func111 [rg [{ i := 7, n := 0 }, hE 8 (gA2I x14), hT 9], r0] (by kernel_rfl) (P1 h13 <| P1 (int_lt_of_at h13 hx14) <| P1 h15 <| P1 (at_map gA2I hx14) <| P2 ((decide (x14.c0 > 0)) = true) (decide_eq_true h16) <| P0))
              (fun h16 H =>
                eCk H fun h17 H =>
                eBind H fun x18 hx18 H =>
                eIf H (fun h19 H =>
                  eN H <| gE func111 [rg [{ i := 7, n := 0 }, hE 8 (gA2I x14), hF 9, { i := 17, n := 1 }, hE 18 (gA2I x18), hT 22], r0] (by kernel_rfl) (P1 h13 <| P1 (int_lt_of_at h13 hx14) <| P1 h15 <| P1 (at_map gA2I hx14) <| P2 ((decide (x14.c0 > 0)) = false) (decide_eq_false h16) <| P1 h17 <| P1 (int_lt_of_at h17 hx18) <| P1 h10 <| P1 (at_map gA2I hx18) <| P2 ((decide (x18.c1 > b3.Rules.Stack)) = true) (decide_eq_true h19) <| P0))
                (fun h19 H =>
                  eN H fun r hn => gO [rg [{ i := 7, n := 0 }, hE 8 (gA2I x14), hF 9, { i := 17, n := 1 }, hE 18 (gA2I x18), hF 22], r0, .canon [0, 1] [2, 5, 31, 32, 33]] (by kernel_rfl) (P1 h13 <| P1 (int_lt_of_at h13 hx14) <| P1 h15 <| P1 (at_map gA2I hx14) <| P2 ((decide (x14.c0 > 0)) = false) (decide_eq_false h16) <| P1 h17 <| P1 (int_lt_of_at h17 hx18) <| P1 h10 <| P1 (at_map gA2I hx18) <| P2 ((decide (x18.c1 > b3.Rules.Stack)) = false) (decide_eq_false h19) <| P0) hn)))
            (fun h15 H =>
              eCk H fun h16 H =>
              eIf H (fun h17 H =>
                eN H <| gE func111 [rg [{ i := 7, n := 1 }, hE 8 (gA2I x14), hT 9], r0] (by kernel_rfl) (P1 h13 <| P1 (int_lt_of_at h13 hx14) <| P1 h16 <| P1 (at_map gA2I hx14) <| P2 ((decide (x14.c1 > 0)) = true) (decide_eq_true h17) <| P0))
              (fun h17 H =>
                eCk H fun h18 H =>
                eBind H fun x19 hx19 H =>
                eIf H (fun h20 H =>
                  eN H <| gE func111 [rg [{ i := 7, n := 1 }, hE 8 (gA2I x14), hF 9, { i := 17, n := 1 }, hE 18 (gA2I x19), hT 22], r0] (by kernel_rfl) (P1 h13 <| P1 (int_lt_of_at h13 hx14) <| P1 h16 <| P1 (at_map gA2I hx14) <| P2 ((decide (x14.c1 > 0)) = false) (decide_eq_false h17) <| P1 h18 <| P1 (int_lt_of_at h18 hx19) <| P1 h10 <| P1 (at_map gA2I hx19) <| P2 ((decide (x19.c1 > b3.Rules.Stack)) = true) (decide_eq_true h20) <| P0))
                (fun h20 H =>
                  eN H fun r hn => gO [rg [{ i := 7, n := 1 }, hE 8 (gA2I x14), hF 9, { i := 17, n := 1 }, hE 18 (gA2I x19), hF 22], r0, .canon [0, 1] [2, 5, 31, 32, 33]] (by kernel_rfl) (P1 h13 <| P1 (int_lt_of_at h13 hx14) <| P1 h16 <| P1 (at_map gA2I hx14) <| P2 ((decide (x14.c1 > 0)) = false) (decide_eq_false h17) <| P1 h18 <| P1 (int_lt_of_at h18 hx19) <| P1 h10 <| P1 (at_map gA2I hx19) <| P2 ((decide (x19.c1 > b3.Rules.Stack)) = false) (decide_eq_false h20) <| P0) hn))))))
      (fun h5 H =>
        eN H <| gE func111 [rg [{ i := 2, call := some { cl := true, auto := true, ins := [], res := (RB r4), G' := [] }, dec := some false }], r0] (by kernel_rfl) (P1 (ci_goodUnit hr4) <| P2 (r4 = false) (eqF h5) <| P0)))
    (fun h1 H =>
      eN H <| gE func111 [rg [hF 0], r0] (by kernel_rfl) (P2 ((decide (t2 < t1)) = false) (decide_eq_false h1) <| P0))
theorem wi_goodState : ∀ s r, loop Bi_goodState s = some r → Wc X 111 0 (Ki_goodState s) (Zi_goodState s) (RB r) ((fun _ => []) r) := Nx.all ni_goodState
theorem ci_goodState {a0 : Gi_Board} {a1 : Gi_State} {r : Bool} (H : Di_goodState a0 a1 = some r) : Ct X.P X.gl 111 [.agg [sl 5 gi_Terrain a0.Rules.Terrains, sl 6 gi_Kind a0.Rules.Kinds, I a0.Rules.Stack, I a0.Rules.River, I a0.Rules.Road, I a0.Rules.Supply, I a0.Rules.Turns, I a0.Map.Width, I a0.Map.Height, sl 1 I a0.Map.Terrain, sl 1 I a0.Map.Rivers, sl 1 I a0.Map.Roads], .agg [I a1.Turn, I a1.Weather, sl 4 gi_Unit a1.Units]] [] (RB r) [] :=
  Ct.of func111 (c := bdy f111) (by kernel_rfl) (by kernel_rfl) <|
  eBind H fun r1 hr1 H =>
  gS [r0] (by kernel_rfl) P0 <|
  eIf H (fun h2 H =>
    eBind H fun r3 hr3 H =>
    eIf H (fun h4 H =>
      eIf H (fun h5 H =>
        eW RB (fun _ => []) H <| gE func111 [rg [{ i := 5, call := some { cl := true, auto := true, ins := [], res := (RB r1), G' := [] }, dec := some true }, { i := 10, call := some { cl := true, auto := true, ins := [], res := (RB r3), G' := [] }, dec := some true }, hT 17], r0] (by kernel_rfl) (P1 (ci_inRange hr1) <| P2 (r1 = true) (h2) <| P1 (ci_inRange hr3) <| P2 (r3 = true) (h4) <| P2 ((decide (((a1.Units.length : Nat) : Int) > 12)) = true) (decide_eq_true h5) <| P0))
      (fun h5 H =>
        eBind H fun r6 hr6 H =>
        eCk H fun h7 H =>
        eCk H fun h8 H =>
        gO [rg [{ i := 5, call := some { cl := true, auto := true, ins := [], res := (RB r1), G' := [] }, dec := some true }, { i := 10, call := some { cl := true, auto := true, ins := [], res := (RB r3), G' := [] }, dec := some true }, hF 17], rg [hC 1 true [] (RI r6) [], hA 2 ((List.replicate (Int.toNat r6) (GA2I.mk 0 0)).length) (List.map gA2I (List.replicate (Int.toNat r6) (GA2I.mk 0 0)))], r0, .canon [0, 2] [2, 5, 31, 32, 33]] (by kernel_rfl) (P1 (ci_inRange hr1) <| P2 (r1 = true) (h2) <| P1 (ci_inRange hr3) <| P2 (r3 = true) (h4) <| P2 ((decide (((a1.Units.length : Nat) : Int) > 12)) = false) (decide_eq_false h5) <| P1 (ci_sizeOf hr6) <| PI (r6 : Int) <| P2 ((0 : Int) ≤ r6) h7 <| P2 (Int.toNat r6 * 16 ≤ 140737488355328) h8 <| P1 (repLen (Int.toNat r6) (GA2I.mk 0 0)) <| P1 (repMap gA2I (Int.toNat r6) (GA2I.mk 0 0)) <| P0) (wi_goodState _ _ H)))
    (fun h4 H =>
      eW RB (fun _ => []) H <| gE func111 [rg [{ i := 5, call := some { cl := true, auto := true, ins := [], res := (RB r1), G' := [] }, dec := some true }, { i := 10, call := some { cl := true, auto := true, ins := [], res := (RB r3), G' := [] }, dec := some false }], r0] (by kernel_rfl) (P1 (ci_inRange hr1) <| P2 (r1 = true) (h2) <| P1 (ci_inRange hr3) <| P2 (r3 = false) (eqF h4) <| P0)))
  (fun h2 H =>
    eW RB (fun _ => []) H <| gE func111 [rg [{ i := 5, call := some { cl := true, auto := true, ins := [], res := (RB r1), G' := [] }, dec := some false }], r0] (by kernel_rfl) (P1 (ci_inRange hr1) <| P2 (r1 = false) (eqF h2) <| P0))
/-! loop example/g00886/impl fits -/
theorem ci_fits {a0 : Gi_Board} {a1 : Gi_State} {r : Bool} (H : Di_fits a0 a1 = some r) : Ct X.P X.gl 86 [.agg [sl 5 gi_Terrain a0.Rules.Terrains, sl 6 gi_Kind a0.Rules.Kinds, I a0.Rules.Stack, I a0.Rules.River, I a0.Rules.Road, I a0.Rules.Supply, I a0.Rules.Turns, I a0.Map.Width, I a0.Map.Height, sl 1 I a0.Map.Terrain, sl 1 I a0.Map.Rivers, sl 1 I a0.Map.Roads], .agg [I a1.Turn, I a1.Weather, sl 4 gi_Unit a1.Units]] [] (RB r) [] :=
  Ct.of func86 (c := bdy f86) (by kernel_rfl) (by kernel_rfl) <|
  eBind H fun r1 hr1 H =>
  gS [r0] (by kernel_rfl) P0 <|
  eIf H (fun h2 H =>
    eBind H fun r3 hr3 H =>
    eW RB (fun _ => []) H <| gE func86 [rg [{ i := 1, call := some { cl := true, auto := true, ins := [], res := (RB r1), G' := [] }, dec := some true }, hC 5 true [] (RB r3) []]] (by kernel_rfl) (P1 (ci_IsBoard hr1) <| P2 (r1 = true) (h2) <| P1 (ci_goodState hr3) <| P0))
  (fun h2 H =>
    eW RB (fun _ => []) H <| gE func86 [rg [{ i := 1, call := some { cl := true, auto := true, ins := [], res := (RB r1), G' := [] }, dec := some false }]] (by kernel_rfl) (P1 (ci_IsBoard hr1) <| P2 (r1 = false) (eqF h2) <| P0))
/-! loop example/g00886/impl hasHex -/
theorem ci_hasHex {a0 : Gi_Board} {a1 : Gi_State} {a2 : Int} {r : Bool} (H : Di_hasHex a0 a1 a2 = some r) : Ct X.P X.gl 80 [.agg [sl 5 gi_Terrain a0.Rules.Terrains, sl 6 gi_Kind a0.Rules.Kinds, I a0.Rules.Stack, I a0.Rules.River, I a0.Rules.Road, I a0.Rules.Supply, I a0.Rules.Turns, I a0.Map.Width, I a0.Map.Height, sl 1 I a0.Map.Terrain, sl 1 I a0.Map.Rivers, sl 1 I a0.Map.Roads], .agg [I a1.Turn, I a1.Weather, sl 4 gi_Unit a1.Units], I a2] [] (RB r) [] :=
  Ct.of func80 (c := bdy f80) (by kernel_rfl) (by kernel_rfl) <|
  eBind H fun r1 hr1 H =>
  gS [r0] (by kernel_rfl) P0 <|
  eIf H (fun h2 H =>
    eBind H fun r3 hr3 H =>
    eBind H fun r4 hr4 H =>
    eW RB (fun _ => []) H <| gE func80 [rg [{ i := 2, call := some { cl := true, auto := true, ins := [], res := (RB r1), G' := [] }, dec := some true }, hC 6 true [] (RI r3) [], hC 7 true [] (RB r4) []]] (by kernel_rfl) (P1 (ci_fits hr1) <| P2 (r1 = true) (h2) <| P1 (ci_sizeOf hr3) <| P1 (ci_isIndex hr4) <| P0))
  (fun h2 H =>
    eW RB (fun _ => []) H <| gE func80 [rg [{ i := 2, call := some { cl := true, auto := true, ins := [], res := (RB r1), G' := [] }, dec := some false }]] (by kernel_rfl) (P1 (ci_fits hr1) <| P2 (r1 = false) (eqF h2) <| P0))
/-! loop example/g00886/impl edgeOf -/
theorem ci_edgeOf {a0 : Gi_Map} {a1 : Int} {a2 : Int} {r : Int} (H : Di_edgeOf a0 a1 a2 = some r) : Ct X.P X.gl 140 [.agg [I a0.Width, I a0.Height, sl 1 I a0.Terrain, sl 1 I a0.Rivers, sl 1 I a0.Roads], I a1, I a2] [] (RI r) [] :=
  Ct.of func140 (c := bdy f140) (by kernel_rfl) (by kernel_rfl) <|
  eBind H fun r1 hr1 H =>
  gS [r0, rg [hC 3 true [] (RI r1) []]] (by kernel_rfl) (P1 (ci_nextTo hr1) <| P0) <|
  eIf H (fun h2 H =>
    eW RI (fun _ => []) H <| gE func140 [rg [hT 1], r0] (by kernel_rfl) (P2 ((decide (r1 < 0)) = true) (decide_eq_true h2) <| P0))
  (fun h2 H =>
    gS [rg [hF 1]] (by kernel_rfl) (P2 ((decide (r1 < 0)) = false) (decide_eq_false h2) <| P0) <|
    eIf H (fun h3 H =>
      eW RI (fun _ => []) H <| gE func140 [rg [hT 1], r0] (by kernel_rfl) (P2 ((decide (a2 < 3)) = true) (decide_eq_true h3) <| P0))
    (fun h3 H =>
      eW RI (fun _ => []) H <| gE func140 [rg [hF 1], r0] (by kernel_rfl) (P2 ((decide (a2 < 3)) = false) (decide_eq_false h3) <| P0)))
/-! slices Index   int int  -/
noncomputable def Kslices_Index_int : Sslices_Index_int → List Item
  | .h1 .. => nav 300 2 [] [.code (bdy f177)]
def Zslices_Index_int : Sslices_Index_int → St
  | .h1 s0 v1 t2 t3 => ⟨sts 19 [(0, sl 1 I s0), (1, I v1), (7, I t2), (8, I t3)], []⟩
abbrev Qslices_Index_int := Nx X 177 0 Kslices_Index_int Zslices_Index_int RI (fun _ => [])
theorem nslices_Index_int : ∀ s o, Bslices_Index_int s = some o → Qslices_Index_int (Kslices_Index_int s) (Zslices_Index_int s) o
  | .h1 s0 v1 t2 t3, o, H =>
    eIf H (fun h1 H =>
      eCk H fun h2 H =>
      eBind H fun x3 hx3 H =>
      gN [rg [hT 0], r0] (by kernel_rfl) (P2 ((decide (t3 < t2)) = true) (decide_eq_true h1) <| P0) <|
      eIf H (fun h4 H =>
        eN H <| gE func177 [rg [hE 4 (I x3), hT 5], r0] (by kernel_rfl) (P1 h2 <| P1 (int_lt_of_at h2 hx3) <| P1 (at_map I hx3) <| P2 (((v1 : Int) == x3) = true) (beqT h4) <| P0))
      (fun h4 H =>
        eN H fun r hn => gO [rg [hE 4 (I x3), hF 5], r0, .canon [] [0, 1, 7, 8]] (by kernel_rfl) (P1 h2 <| P1 (int_lt_of_at h2 hx3) <| P1 (at_map I hx3) <| P2 (((v1 : Int) == x3) = false) (beqF h4) <| P0) hn))
    (fun h1 H =>
      eN H <| gE func177 [rg [hF 0], r0] (by kernel_rfl) (P2 ((decide (t3 < t2)) = false) (decide_eq_false h1) <| P0))
theorem wslices_Index_int : ∀ s r, loop Bslices_Index_int s = some r → Wc X 177 0 (Kslices_Index_int s) (Zslices_Index_int s) (RI r) ((fun _ => []) r) := Nx.all nslices_Index_int
theorem cslices_Index_int {a0 : (List Int)} {a1 : Int} {r : Int} (H : Dslices_Index_int a0 a1 = some r) : Ct X.P X.gl 177 [sl 1 I a0, I a1] [] (RI r) [] :=
  Ct.of func177 (c := bdy f177) (by kernel_rfl) (by kernel_rfl) <|
  gO [r0, r0, .canon [] [0, 1, 7, 8]] (by kernel_rfl) P0 (wslices_Index_int _ _ H)
/-! slices Contains   int int  -/
theorem cslices_Contains_int {a0 : (List Int)} {a1 : Int} {r : Bool} (H : Dslices_Contains_int a0 a1 = some r) : Ct X.P X.gl 141 [sl 1 I a0, I a1] [] (RB r) [] :=
  Ct.of func141 (c := bdy f141) (by kernel_rfl) (by kernel_rfl) <|
  eBind H fun r1 hr1 H =>
  eW RB (fun _ => []) H <| gE func141 [r0, rg [hC 2 true [] (RI r1) []]] (by kernel_rfl) (P1 (cslices_Index_int hr1) <| P0)
/-! loop example/g00886/impl crossesFreely -/
theorem ci_crossesFreely {a0 : Gi_Map} {a1 : Int} {r : Bool} (H : Di_crossesFreely a0 a1 = some r) : Ct X.P X.gl 143 [.agg [I a0.Width, I a0.Height, sl 1 I a0.Terrain, sl 1 I a0.Rivers, sl 1 I a0.Roads], I a1] [] (RB r) [] :=
  Ct.of func143 (c := bdy f143) (by kernel_rfl) (by kernel_rfl) <|
  eBind H fun r1 hr1 H =>
  gS [r0] (by kernel_rfl) P0 <|
  eIf H (fun h2 H =>
    eBind H fun r3 hr3 H =>
    eW RB (fun _ => []) H <| gE func143 [rg [{ i := 3, call := some { cl := true, auto := true, ins := [], res := (RB r1), G' := [] }, dec := some true }, hC 9 true [] (RB r3) []]] (by kernel_rfl) (P1 (cslices_Contains_int hr1) <| P2 (r1 = true) (h2) <| P1 (cslices_Contains_int hr3) <| P0))
  (fun h2 H =>
    eW RB (fun _ => []) H <| gE func143 [rg [{ i := 3, call := some { cl := true, auto := true, ins := [], res := (RB r1), G' := [] }, dec := some false }]] (by kernel_rfl) (P1 (cslices_Contains_int hr1) <| P2 (r1 = false) (eqF h2) <| P0))
/-! loop example/g00886/impl controls -/
noncomputable def Ki_controls : Si_controls → List Item
  | .h1 .. => nav 300 3 [false] [.code (bdy f82)]
def Zi_controls : Si_controls → St
  | .h1 i0 t1 b2 b3 => ⟨sts 51 [(2, I i0), (3, .ptr 0 12 0 0), (4, .ptr 1 4 0 0), (30, I t1)], [some ⟨false, true, 12, 1, [.agg [sl 5 gi_Terrain b2.Rules.Terrains, sl 6 gi_Kind b2.Rules.Kinds, I b2.Rules.Stack, I b2.Rules.River, I b2.Rules.Road, I b2.Rules.Supply, I b2.Rules.Turns, I b2.Map.Width, I b2.Map.Height, sl 1 I b2.Map.Terrain, sl 1 I b2.Map.Rivers, sl 1 I b2.Map.Roads]]⟩, some ⟨false, true, 4, 1, [.agg [I b3.Side, I b3.Kind, I b3.At, I b3.Steps]]⟩]⟩
abbrev Qi_controls := Nx X 82 0 Ki_controls Zi_controls RB (fun _ => [])
theorem ni_controls : ∀ s o, Bi_controls s = some o → Qi_controls (Ki_controls s) (Zi_controls s) o
  | .h1 i0 t1 b2 b3, o, H =>
    eIf H (fun h1 H =>
      eBind H fun r2 hr2 H =>
      gN [rg [hT 0], r0] (by kernel_rfl) (P2 ((decide (t1 < 6)) = true) (decide_eq_true h1) <| P0) <|
      eIf H (fun h3 H =>
        eBind H fun r4 hr4 H =>
        eBind H fun r5 hr5 H =>
        eN H <| gE func82 [rg [hC 5 true [] (RI r2) [], hT 7], rg [hC 7 true [] (RI r4) [], hC 8 true [] (RB r5) []]] (by kernel_rfl) (P1 (ci_nextTo hr2) <| P2 (((r2 : Int) == i0) = true) (beqT h3) <| P1 (ci_edgeOf hr4) <| P1 (ci_crossesFreely hr5) <| P0))
      (fun h3 H =>
        eN H fun r hn => gO [rg [hC 5 true [] (RI r2) [], hF 7], r0, .canon [0, 1] [2, 3, 4, 30]] (by kernel_rfl) (P1 (ci_nextTo hr2) <| P2 (((r2 : Int) == i0) = false) (beqF h3) <| P0) hn))
    (fun h1 H =>
      eN H <| gE func82 [rg [hF 0], r0] (by kernel_rfl) (P2 ((decide (t1 < 6)) = false) (decide_eq_false h1) <| P0))
theorem wi_controls : ∀ s r, loop Bi_controls s = some r → Wc X 82 0 (Ki_controls s) (Zi_controls s) (RB r) ((fun _ => []) r) := Nx.all ni_controls
theorem ci_controls {a0 : Gi_Board} {a1 : Gi_Unit} {a2 : Int} {r : Bool} (H : Di_controls a0 a1 a2 = some r) : Ct X.P X.gl 82 [.agg [sl 5 gi_Terrain a0.Rules.Terrains, sl 6 gi_Kind a0.Rules.Kinds, I a0.Rules.Stack, I a0.Rules.River, I a0.Rules.Road, I a0.Rules.Supply, I a0.Rules.Turns, I a0.Map.Width, I a0.Map.Height, sl 1 I a0.Map.Terrain, sl 1 I a0.Map.Rivers, sl 1 I a0.Map.Roads], .agg [I a1.Side, I a1.Kind, I a1.At, I a1.Steps], I a2] [] (RB r) [] :=
  Ct.of func82 (c := bdy f82) (by kernel_rfl) (by kernel_rfl) <|
  gS [r0] (by kernel_rfl) P0 <|
  eIf H (fun h1 H =>
    eW RB (fun _ => []) H <| gE func82 [rg [hT 2], r0] (by kernel_rfl) (P2 ((decide (a1.At < 0)) = true) (decide_eq_true h1) <| P0))
  (fun h1 H =>
    eCk H fun h2 H =>
    eBind H fun x3 hx3 H =>
    eIf H (fun h4 H =>
      eBind H fun r5 hr5 H =>
      eIf H (fun h6 H =>
        eW RB (fun _ => []) H <| gE func82 [rg [hF 2, { i := 11, el := some (gi_Kind x3), dec := some true }, hC 19 true [] (RI r5) [], hT 20], r0] (by kernel_rfl) (P2 ((decide (a1.At < 0)) = false) (decide_eq_false h1) <| P1 h2 <| P1 (int_lt_of_at h2 hx3) <| P1 (at_map gi_Kind hx3) <| P2 (x3.Zone = true) (h4) <| P1 (ci_enterCost hr5) <| P2 (((r5 : Int) == 0) = true) (beqT h6) <| P0))
      (fun h6 H =>
        gO [rg [hF 2, { i := 11, el := some (gi_Kind x3), dec := some true }, hC 19 true [] (RI r5) [], hF 20], r0, .canon [0, 1] [2, 3, 4, 30]] (by kernel_rfl) (P2 ((decide (a1.At < 0)) = false) (decide_eq_false h1) <| P1 h2 <| P1 (int_lt_of_at h2 hx3) <| P1 (at_map gi_Kind hx3) <| P2 (x3.Zone = true) (h4) <| P1 (ci_enterCost hr5) <| P2 (((r5 : Int) == 0) = false) (beqF h6) <| P0) (wi_controls _ _ H)))
    (fun h4 H =>
      eW RB (fun _ => []) H <| gE func82 [rg [hF 2, { i := 11, el := some (gi_Kind x3), dec := some false }], r0] (by kernel_rfl) (P2 ((decide (a1.At < 0)) = false) (decide_eq_false h1) <| P1 h2 <| P1 (int_lt_of_at h2 hx3) <| P1 (at_map gi_Kind hx3) <| P2 (x3.Zone = false) (eqF h4) <| P0)))
/-! loop example/g00886/impl ZoneSources -/
def Ri_ZoneSources (r : (List Int) × Bool) : List D := [ow 1 I r.1, .bool r.2]
noncomputable def Ki_ZoneSources : Si_ZoneSources → List Item
  | .h1 .. => nav 300 4 [false] [.code (bdy f19)]
def Zi_ZoneSources : Si_ZoneSources → St
  | .h1 side0 i1 t2 t3 t4 b5 l6 => ⟨sts 48 [(2, I side0), (3, I i1), (4, .ptr 0 12 0 0), (10, .ref 1 1 none), (25, sl 4 gi_Unit t2), (26, I t3), (27, I t4)], [some ⟨false, true, 12, 1, [.agg [sl 5 gi_Terrain b5.Rules.Terrains, sl 6 gi_Kind b5.Rules.Kinds, I b5.Rules.Stack, I b5.Rules.River, I b5.Rules.Road, I b5.Rules.Supply, I b5.Rules.Turns, I b5.Map.Width, I b5.Map.Height, sl 1 I b5.Map.Terrain, sl 1 I b5.Map.Rivers, sl 1 I b5.Map.Roads]]⟩, some ⟨false, false, 1, l6.length, List.map I l6⟩]⟩
abbrev Qi_ZoneSources := Nx X 19 0 Ki_ZoneSources Zi_ZoneSources Ri_ZoneSources (fun _ => [])
theorem ni_ZoneSources : ∀ s o, Bi_ZoneSources s = some o → Qi_ZoneSources (Ki_ZoneSources s) (Zi_ZoneSources s) o
  | .h1 side0 i1 t2 t3 t4 b5 l6, o, H =>
    eIf H (fun h1 H =>
      eCk H fun h2 H =>
      eBind H fun x3 hx3 H =>
      gN [rg [hT 0], rg [hE 2 (gi_Unit x3)]] (by kernel_rfl) (P2 ((decide (t4 < t3)) = true) (decide_eq_true h1) <| P1 h2 <| P1 (int_lt_of_at h2 hx3) <| P1 (at_map gi_Unit hx3) <| P0) <|
      eIf H (fun h4 H =>
        eBind H fun r5 hr5 H =>
        eIf H (fun h6 H =>
          eCk H fun h7 H =>
          eN H fun r hn => gO [rg [hT 3, { i := 8, call := some { cl := true, auto := true, ins := [], res := (RB r5), G' := [] }, dec := some true }], rg [hA 3 ((l6 ++ [t4]).length) (List.map I (l6 ++ [t4]))], r0, .canon [0, 4] [2, 3, 4, 10, 25, 26, 27]] (by kernel_rfl) (P2 (((x3.Side : Int) == side0) = true) (beqT h4) <| P1 (ci_controls hr5) <| P2 (r5 = true) (h6) <| P1 (apL l6 [t4]) <| P1 (apB h7) <| P1 (apM I l6 [t4]) <| P0) hn)
        (fun h6 H =>
          eN H fun r hn => gO [rg [hT 3, { i := 8, call := some { cl := true, auto := true, ins := [], res := (RB r5), G' := [] }, dec := some false }], r0, .canon [0, 1] [2, 3, 4, 10, 25, 26, 27]] (by kernel_rfl) (P2 (((x3.Side : Int) == side0) = true) (beqT h4) <| P1 (ci_controls hr5) <| P2 (r5 = false) (eqF h6) <| P0) hn))
      (fun h4 H =>
        eN H fun r hn => gO [rg [hF 3], r0, .canon [0, 1] [2, 3, 4, 10, 25, 26, 27]] (by kernel_rfl) (P2 (((x3.Side : Int) == side0) = false) (beqF h4) <| P0) hn))
    (fun h1 H =>
      eN H <| gE func19 [rg [hF 0], r0] (by kernel_rfl) (P2 ((decide (t4 < t3)) = false) (decide_eq_false h1) <| P0))
theorem wi_ZoneSources : ∀ s r, loop Bi_ZoneSources s = some r → Wc X 19 0 (Ki_ZoneSources s) (Zi_ZoneSources s) (Ri_ZoneSources r) ((fun _ => []) r) := Nx.all ni_ZoneSources
theorem ci_ZoneSources {a0 : Gi_Board} {a1 : Gi_State} {a2 : Int} {a3 : Int} {r : (List Int) × Bool} (H : Di_ZoneSources a0 a1 a2 a3 = some r) : Ct X.P X.gl 19 [.agg [sl 5 gi_Terrain a0.Rules.Terrains, sl 6 gi_Kind a0.Rules.Kinds, I a0.Rules.Stack, I a0.Rules.River, I a0.Rules.Road, I a0.Rules.Supply, I a0.Rules.Turns, I a0.Map.Width, I a0.Map.Height, sl 1 I a0.Map.Terrain, sl 1 I a0.Map.Rivers, sl 1 I a0.Map.Roads], .agg [I a1.Turn, I a1.Weather, sl 4 gi_Unit a1.Units], I a2, I a3] [] (Ri_ZoneSources r) [] :=
  Ct.of func19 (c := bdy f19) (by kernel_rfl) (by kernel_rfl) <|
  eBind H fun r1 hr1 H =>
  gS [r0] (by kernel_rfl) P0 <|
  eIf H (fun h2 H =>
    eBind H fun r3 hr3 H =>
    eIf H (fun h4 H =>
      gO [rg [{ i := 3, call := some { cl := true, auto := true, ins := [], res := (RB r1), G' := [] }, dec := some true }, { i := 7, call := some { cl := true, auto := true, ins := [], res := (RB r3), G' := [] }, dec := some true }], r0, r0, .canon [0, 2] [2, 3, 4, 10, 25, 26, 27]] (by kernel_rfl) (P1 (ci_hasHex hr1) <| P2 (r1 = true) (h2) <| P1 (ci_isSide hr3) <| P2 (r3 = true) (h4) <| P0) (wi_ZoneSources _ _ H))
    (fun h4 H =>
      eW Ri_ZoneSources (fun _ => []) H <| gE func19 [rg [{ i := 3, call := some { cl := true, auto := true, ins := [], res := (RB r1), G' := [] }, dec := some true }, { i := 7, call := some { cl := true, auto := true, ins := [], res := (RB r3), G' := [] }, dec := some false }], r0] (by kernel_rfl) (P1 (ci_hasHex hr1) <| P2 (r1 = true) (h2) <| P1 (ci_isSide hr3) <| P2 (r3 = false) (eqF h4) <| P0)))
  (fun h2 H =>
    eW Ri_ZoneSources (fun _ => []) H <| gE func19 [rg [{ i := 3, call := some { cl := true, auto := true, ins := [], res := (RB r1), G' := [] }, dec := some false }], r0] (by kernel_rfl) (P1 (ci_hasHex hr1) <| P2 (r1 = false) (eqF h2) <| P0))
/-! loop example/g00886/spec sHex -/
theorem cs_sHex {a0 : Gi_Board} {a1 : Gi_State} {a2 : Int} {r : Bool} (H : Ds_sHex a0 a1 a2 = some r) : Ct X.P X.gl 83 [.agg [sl 5 gi_Terrain a0.Rules.Terrains, sl 6 gi_Kind a0.Rules.Kinds, I a0.Rules.Stack, I a0.Rules.River, I a0.Rules.Road, I a0.Rules.Supply, I a0.Rules.Turns, I a0.Map.Width, I a0.Map.Height, sl 1 I a0.Map.Terrain, sl 1 I a0.Map.Rivers, sl 1 I a0.Map.Roads], .agg [I a1.Turn, I a1.Weather, sl 4 gi_Unit a1.Units], I a2] [] (RB r) [] :=
  Ct.of func83 (c := bdy f83) (by kernel_rfl) (by kernel_rfl) <|
  eBind H fun r1 hr1 H =>
  gS [r0] (by kernel_rfl) P0 <|
  eIf H (fun h2 H =>
    eBind H fun r3 hr3 H =>
    eBind H fun r4 hr4 H =>
    eW RB (fun _ => []) H <| gE func83 [rg [{ i := 2, call := some { cl := true, auto := true, ins := [], res := (RB r1), G' := [] }, dec := some true }, hC 7 true [] (RI r3) [], hC 9 true [] (RB r4) []]] (by kernel_rfl) (P1 (cs_sGood hr1) <| P2 (r1 = true) (h2) <| P1 (cs_mSize hr3) <| P1 (cs_l1In hr4) <| P0))
  (fun h2 H =>
    eW RB (fun _ => []) H <| gE func83 [rg [{ i := 2, call := some { cl := true, auto := true, ins := [], res := (RB r1), G' := [] }, dec := some false }]] (by kernel_rfl) (P1 (cs_sGood hr1) <| P2 (r1 = false) (eqF h2) <| P0))
/-! loop example/g00886/spec l1Has -/
noncomputable def Ks_l1Has : Ss_l1Has → List Item
  | .h1 .. => nav 300 2 [] [.code (bdy f193)]
def Zs_l1Has : Ss_l1Has → St
  | .h1 n0 t1 t2 t3 => ⟨sts 17 [(1, I n0), (7, sl 1 I t1), (8, I t2), (9, I t3)], []⟩
abbrev Qs_l1Has := Nx X 193 0 Ks_l1Has Zs_l1Has RB (fun _ => [])
theorem ns_l1Has : ∀ s o, Bs_l1Has s = some o → Qs_l1Has (Ks_l1Has s) (Zs_l1Has s) o
  | .h1 n0 t1 t2 t3, o, H =>
    eIf H (fun h1 H =>
      eCk H fun h2 H =>
      eBind H fun x3 hx3 H =>
      gN [rg [hT 0], rg [hE 1 (I x3)]] (by kernel_rfl) (P2 ((decide (t3 < t2)) = true) (decide_eq_true h1) <| P1 h2 <| P1 (int_lt_of_at h2 hx3) <| P1 (at_map I hx3) <| P0) <|
      eIf H (fun h4 H =>
        eN H <| gE func193 [rg [hT 2], r0] (by kernel_rfl) (P2 (((x3 : Int) == n0) = true) (beqT h4) <| P0))
      (fun h4 H =>
        eN H fun r hn => gO [rg [hF 2], r0, .canon [] [1, 7, 8, 9]] (by kernel_rfl) (P2 (((x3 : Int) == n0) = false) (beqF h4) <| P0) hn))
    (fun h1 H =>
      eN H <| gE func193 [rg [hF 0], r0] (by kernel_rfl) (P2 ((decide (t3 < t2)) = false) (decide_eq_false h1) <| P0))
theorem ws_l1Has : ∀ s r, loop Bs_l1Has s = some r → Wc X 193 0 (Ks_l1Has s) (Zs_l1Has s) (RB r) ((fun _ => []) r) := Nx.all ns_l1Has
theorem cs_l1Has {a0 : (List Int)} {a1 : Int} {r : Bool} (H : Ds_l1Has a0 a1 = some r) : Ct X.P X.gl 193 [sl 1 I a0, I a1] [] (RB r) [] :=
  Ct.of func193 (c := bdy f193) (by kernel_rfl) (by kernel_rfl) <|
  gO [r0, r0, .canon [] [1, 7, 8, 9]] (by kernel_rfl) P0 (ws_l1Has _ _ H)
/-! loop example/g00886/spec mRiver -/
theorem cs_mRiver {a0 : Gi_Map} {a1 : Int} {a2 : Int} {r : Bool} (H : Ds_mRiver a0 a1 a2 = some r) : Ct X.P X.gl 174 [.agg [I a0.Width, I a0.Height, sl 1 I a0.Terrain, sl 1 I a0.Rivers, sl 1 I a0.Roads], I a1, I a2] [] (RB r) [] :=
  Ct.of func174 (c := bdy f174) (by kernel_rfl) (by kernel_rfl) <|
  eBind H fun r1 hr1 H =>
  eBind H fun r2 hr2 H =>
  eW RB (fun _ => []) H <| gE func174 [r0, rg [hC 5 true [] (RI r1) [], hC 6 true [] (RB r2) []]] (by kernel_rfl) (P1 (cs_mEdge hr1) <| P1 (cs_l1Has hr2) <| P0)
/-! loop example/g00886/spec mRoad -/
theorem cs_mRoad {a0 : Gi_Map} {a1 : Int} {a2 : Int} {r : Bool} (H : Ds_mRoad a0 a1 a2 = some r) : Ct X.P X.gl 172 [.agg [I a0.Width, I a0.Height, sl 1 I a0.Terrain, sl 1 I a0.Rivers, sl 1 I a0.Roads], I a1, I a2] [] (RB r) [] :=
  Ct.of func172 (c := bdy f172) (by kernel_rfl) (by kernel_rfl) <|
  eBind H fun r1 hr1 H =>
  eBind H fun r2 hr2 H =>
  eW RB (fun _ => []) H <| gE func172 [r0, rg [hC 5 true [] (RI r1) [], hC 6 true [] (RB r2) []]] (by kernel_rfl) (P1 (cs_mEdge hr1) <| P1 (cs_l1Has hr2) <| P0)
/-! loop example/g00886/spec zExerts -/
noncomputable def Ks_zExerts : Ss_zExerts → List Item
  | .h1 .. => nav 300 4 [false] [.code (bdy f144)]
def Zs_zExerts : Ss_zExerts → St
  | .h1 t0 t1 b2 b3 => ⟨sts 65 [(3, I t0), (4, .ptr 0 12 0 0), (9, .ptr 1 4 0 0), (10, I t1)], [some ⟨false, true, 12, 1, [.agg [sl 5 gi_Terrain b2.Rules.Terrains, sl 6 gi_Kind b2.Rules.Kinds, I b2.Rules.Stack, I b2.Rules.River, I b2.Rules.Road, I b2.Rules.Supply, I b2.Rules.Turns, I b2.Map.Width, I b2.Map.Height, sl 1 I b2.Map.Terrain, sl 1 I b2.Map.Rivers, sl 1 I b2.Map.Roads]]⟩, some ⟨false, true, 4, 1, [.agg [I b3.Side, I b3.Kind, I b3.At, I b3.Steps]]⟩]⟩
abbrev Qs_zExerts := Nx X 144 0 Ks_zExerts Zs_zExerts RB (fun _ => [])
theorem ns_zExerts : ∀ s o, Bs_zExerts s = some o → Qs_zExerts (Ks_zExerts s) (Zs_zExerts s) o
  | .h1 t0 t1 b2 b3, o, H =>
    eIf H (fun h1 H =>
      eBind H fun r2 hr2 H =>
      gN [rg [hT 1]] (by kernel_rfl) (P2 ((decide (t1 < 6)) = true) (decide_eq_true h1) <| P0) <|
      eIf H (fun h3 H =>
        eBind H fun r4 hr4 H =>
        gN [rg [hC 5 true [] (RI r2) [], hT 7]] (by kernel_rfl) (P1 (cs_mNext hr2) <| P2 (((r2 : Int) == t0) = true) (beqT h3) <| P0) <|
        eIf H (fun h5 H =>
          eBind H fun r6 hr6 H =>
          eN H <| gE func144 [rg [{ i := 5, call := some { cl := true, auto := true, ins := [], res := (RB r4), G' := [] }, dec := some true }, hC 13 true [] (RB r6) []]] (by kernel_rfl) (P1 (cs_mRiver hr4) <| P2 (r4 = true) (h5) <| P1 (cs_mRoad hr6) <| P0))
        (fun h5 H =>
          eN H <| gE func144 [rg [{ i := 5, call := some { cl := true, auto := true, ins := [], res := (RB r4), G' := [] }, dec := some false }]] (by kernel_rfl) (P1 (cs_mRiver hr4) <| P2 (r4 = false) (eqF h5) <| P0)))
      (fun h3 H =>
        eN H fun r hn => gO [rg [hC 5 true [] (RI r2) [], hF 7], r0, .canon [0, 1] [3, 4, 9, 10]] (by kernel_rfl) (P1 (cs_mNext hr2) <| P2 (((r2 : Int) == t0) = false) (beqF h3) <| P0) hn))
    (fun h1 H =>
      eN H <| gE func144 [rg [hF 1], r0] (by kernel_rfl) (P2 ((decide (t1 < 6)) = false) (decide_eq_false h1) <| P0))
theorem ws_zExerts : ∀ s r, loop Bs_zExerts s = some r → Wc X 144 0 (Ks_zExerts s) (Zs_zExerts s) (RB r) ((fun _ => []) r) := Nx.all ns_zExerts
theorem cs_zExerts {a0 : Gi_Board} {a1 : Gi_State} {a2 : Int} {a3 : Int} {r : Bool} (H : Ds_zExerts a0 a1 a2 a3 = some r) : Ct X.P X.gl 144 [.agg [sl 5 gi_Terrain a0.Rules.Terrains, sl 6 gi_Kind a0.Rules.Kinds, I a0.Rules.Stack, I a0.Rules.River, I a0.Rules.Road, I a0.Rules.Supply, I a0.Rules.Turns, I a0.Map.Width, I a0.Map.Height, sl 1 I a0.Map.Terrain, sl 1 I a0.Map.Rivers, sl 1 I a0.Map.Roads], .agg [I a1.Turn, I a1.Weather, sl 4 gi_Unit a1.Units], I a2, I a3] [] (RB r) [] :=
  Ct.of func144 (c := bdy f144) (by kernel_rfl) (by kernel_rfl) <|
  eCk H fun h1 H =>
  eBind H fun x2 hx2 H =>
  gS [r0, rg [hE 4 (gi_Unit x2)]] (by kernel_rfl) (P1 h1 <| P1 (int_lt_of_at h1 hx2) <| P1 (at_map gi_Unit hx2) <| P0) <|
  eIf H (fun h3 H =>
    eW RB (fun _ => []) H <| gE func144 [rg [hT 2], r0] (by kernel_rfl) (P2 ((decide (x2.At < 0)) = true) (decide_eq_true h3) <| P0))
  (fun h3 H =>
    eCk H fun h4 H =>
    eBind H fun x5 hx5 H =>
    eIf H (fun h6 H =>
      eBind H fun r7 hr7 H =>
      eIf H (fun h8 H =>
        eW RB (fun _ => []) H <| gE func144 [rg [hF 2, { i := 11, el := some (gi_Kind x5), dec := some true }, hC 19 true [] (RI r7) [], hT 20], r0] (by kernel_rfl) (P2 ((decide (x2.At < 0)) = false) (decide_eq_false h3) <| P1 h4 <| P1 (int_lt_of_at h4 hx5) <| P1 (at_map gi_Kind hx5) <| P2 (x5.Zone = true) (h6) <| P1 (cs_bCost hr7) <| P2 (((r7 : Int) == 0) = true) (beqT h8) <| P0))
      (fun h8 H =>
        gO [rg [hF 2, { i := 11, el := some (gi_Kind x5), dec := some true }, hC 19 true [] (RI r7) [], hF 20], r0, .canon [0, 2] [3, 4, 9, 10]] (by kernel_rfl) (P2 ((decide (x2.At < 0)) = false) (decide_eq_false h3) <| P1 h4 <| P1 (int_lt_of_at h4 hx5) <| P1 (at_map gi_Kind hx5) <| P2 (x5.Zone = true) (h6) <| P1 (cs_bCost hr7) <| P2 (((r7 : Int) == 0) = false) (beqF h8) <| P0) (ws_zExerts _ _ H)))
    (fun h6 H =>
      eW RB (fun _ => []) H <| gE func144 [rg [hF 2, { i := 11, el := some (gi_Kind x5), dec := some false }], r0] (by kernel_rfl) (P2 ((decide (x2.At < 0)) = false) (decide_eq_false h3) <| P1 h4 <| P1 (int_lt_of_at h4 hx5) <| P1 (at_map gi_Kind hx5) <| P2 (x5.Zone = false) (eqF h6) <| P0)))
/-! loop example/g00886/spec zSources -/
def Rs_zSources (r : (List Int)) : List D := [ow 1 I r]
noncomputable def Ks_zSources : Ss_zSources → List Item
  | .h1 .. => nav 300 3 [] [.code (bdy f84)]
def Zs_zSources : Ss_zSources → St
  | .h1 side0 i1 t2 t3 t4 b5 b6 l7 => ⟨sts 37 [(2, I side0), (3, I i1), (4, .ptr 0 12 0 0), (5, .ptr 1 3 0 0), (9, .ref 2 1 none), (13, sl 4 gi_Unit t2), (14, I t3), (15, I t4)], [some ⟨false, true, 12, 1, [.agg [sl 5 gi_Terrain b5.Rules.Terrains, sl 6 gi_Kind b5.Rules.Kinds, I b5.Rules.Stack, I b5.Rules.River, I b5.Rules.Road, I b5.Rules.Supply, I b5.Rules.Turns, I b5.Map.Width, I b5.Map.Height, sl 1 I b5.Map.Terrain, sl 1 I b5.Map.Rivers, sl 1 I b5.Map.Roads]]⟩, some ⟨false, true, 3, 1, [.agg [I b6.Turn, I b6.Weather, sl 4 gi_Unit b6.Units]]⟩, some ⟨false, false, 1, l7.length, List.map I l7⟩]⟩
abbrev Qs_zSources := Nx X 84 0 Ks_zSources Zs_zSources Rs_zSources (fun _ => [])
theorem ns_zSources : ∀ s o, Bs_zSources s = some o → Qs_zSources (Ks_zSources s) (Zs_zSources s) o
  | .h1 side0 i1 t2 t3 t4 b5 b6 l7, o, H =>
    eIf H (fun h1 H =>
      eCk H fun h2 H =>
      eBind H fun x3 hx3 H =>
      gN [rg [hT 0], rg [hE 2 (gi_Unit x3)]] (by kernel_rfl) (P2 ((decide (t4 < t3)) = true) (decide_eq_true h1) <| P1 h2 <| P1 (int_lt_of_at h2 hx3) <| P1 (at_map gi_Unit hx3) <| P0) <|
      eIf H (fun h4 H =>
        eBind H fun r5 hr5 H =>
        eIf H (fun h6 H =>
          eCk H fun h7 H =>
          eN H fun r hn => gO [rg [hT 3, { i := 9, call := some { cl := true, auto := true, ins := [], res := (RB r5), G' := [] }, dec := some true }], rg [hA 3 ((l7 ++ [t4]).length) (List.map I (l7 ++ [t4]))], r0, .canon [0, 1, 5] [2, 3, 4, 5, 9, 13, 14, 15]] (by kernel_rfl) (P2 (((x3.Side : Int) == side0) = true) (beqT h4) <| P1 (cs_zExerts hr5) <| P2 (r5 = true) (h6) <| P1 (apL l7 [t4]) <| P1 (apB h7) <| P1 (apM I l7 [t4]) <| P0) hn)
        (fun h6 H =>
          eN H fun r hn => gO [rg [hT 3, { i := 9, call := some { cl := true, auto := true, ins := [], res := (RB r5), G' := [] }, dec := some false }], r0, .canon [0, 1, 2] [2, 3, 4, 5, 9, 13, 14, 15]] (by kernel_rfl) (P2 (((x3.Side : Int) == side0) = true) (beqT h4) <| P1 (cs_zExerts hr5) <| P2 (r5 = false) (eqF h6) <| P0) hn))
      (fun h4 H =>
        eN H fun r hn => gO [rg [hF 3], r0, .canon [0, 1, 2] [2, 3, 4, 5, 9, 13, 14, 15]] (by kernel_rfl) (P2 (((x3.Side : Int) == side0) = false) (beqF h4) <| P0) hn))
    (fun h1 H =>
      eN H <| gE func84 [rg [hF 0], r0] (by kernel_rfl) (P2 ((decide (t4 < t3)) = false) (decide_eq_false h1) <| P0))
theorem ws_zSources : ∀ s r, loop Bs_zSources s = some r → Wc X 84 0 (Ks_zSources s) (Zs_zSources s) (Rs_zSources r) ((fun _ => []) r) := Nx.all ns_zSources
theorem cs_zSources {a0 : Gi_Board} {a1 : Gi_State} {a2 : Int} {a3 : Int} {r : (List Int)} (H : Ds_zSources a0 a1 a2 a3 = some r) : Ct X.P X.gl 84 [.agg [sl 5 gi_Terrain a0.Rules.Terrains, sl 6 gi_Kind a0.Rules.Kinds, I a0.Rules.Stack, I a0.Rules.River, I a0.Rules.Road, I a0.Rules.Supply, I a0.Rules.Turns, I a0.Map.Width, I a0.Map.Height, sl 1 I a0.Map.Terrain, sl 1 I a0.Map.Rivers, sl 1 I a0.Map.Roads], .agg [I a1.Turn, I a1.Weather, sl 4 gi_Unit a1.Units], I a2, I a3] [] (Rs_zSources r) [] :=
  Ct.of func84 (c := bdy f84) (by kernel_rfl) (by kernel_rfl) <|
  gO [r0, r0, r0, .own 9 1, .canon [0, 1, 2] [2, 3, 4, 5, 9, 13, 14, 15]] (by kernel_rfl) P0 (ws_zSources _ _ H)
/-! loop example/g00886/spec ZoneSources -/
def Rs_ZoneSources (r : (List Int) × Bool) : List D := [ow 1 I r.1, .bool r.2]
theorem cs_ZoneSources {a0 : Gi_Board} {a1 : Gi_State} {a2 : Int} {a3 : Int} {r : (List Int) × Bool} (H : Ds_ZoneSources a0 a1 a2 a3 = some r) : Ct X.P X.gl 20 [.agg [sl 5 gi_Terrain a0.Rules.Terrains, sl 6 gi_Kind a0.Rules.Kinds, I a0.Rules.Stack, I a0.Rules.River, I a0.Rules.Road, I a0.Rules.Supply, I a0.Rules.Turns, I a0.Map.Width, I a0.Map.Height, sl 1 I a0.Map.Terrain, sl 1 I a0.Map.Rivers, sl 1 I a0.Map.Roads], .agg [I a1.Turn, I a1.Weather, sl 4 gi_Unit a1.Units], I a2, I a3] [] (Rs_ZoneSources r) [] :=
  Ct.of func20 (c := bdy f20) (by kernel_rfl) (by kernel_rfl) <|
  eBind H fun r1 hr1 H =>
  gS [r0] (by kernel_rfl) P0 <|
  eIf H (fun h2 H =>
    eBind H fun r3 hr3 H =>
    eIf H (fun h4 H =>
      eBind H fun r5 hr5 H =>
      eW Rs_ZoneSources (fun _ => []) H <| gE func20 [rg [{ i := 3, call := some { cl := true, auto := true, ins := [], res := (RB r1), G' := [] }, dec := some true }, { i := 7, call := some { cl := true, auto := true, ins := [], res := (RB r3), G' := [] }, dec := some true }], rg [hC 4 true [] (Rs_zSources r5) []]] (by kernel_rfl) (P1 (cs_sHex hr1) <| P2 (r1 = true) (h2) <| P1 (cs_l1In hr3) <| P2 (r3 = true) (h4) <| P1 (cs_zSources hr5) <| P0))
    (fun h4 H =>
      eW Rs_ZoneSources (fun _ => []) H <| gE func20 [rg [{ i := 3, call := some { cl := true, auto := true, ins := [], res := (RB r1), G' := [] }, dec := some true }, { i := 7, call := some { cl := true, auto := true, ins := [], res := (RB r3), G' := [] }, dec := some false }], r0] (by kernel_rfl) (P1 (cs_sHex hr1) <| P2 (r1 = true) (h2) <| P1 (cs_l1In hr3) <| P2 (r3 = false) (eqF h4) <| P0)))
  (fun h2 H =>
    eW Rs_ZoneSources (fun _ => []) H <| gE func20 [rg [{ i := 3, call := some { cl := true, auto := true, ins := [], res := (RB r1), G' := [] }, dec := some false }], r0] (by kernel_rfl) (P1 (cs_sHex hr1) <| P2 (r1 = false) (eqF h2) <| P0))
/-! loop example/g00886/spec DrawIsState -/
def Rs_DrawIsState (r : Gi_Board × Gi_State) : List D := [.agg [sl 5 gi_Terrain r.1.Rules.Terrains, sl 6 gi_Kind r.1.Rules.Kinds, I r.1.Rules.Stack, I r.1.Rules.River, I r.1.Rules.Road, I r.1.Rules.Supply, I r.1.Rules.Turns, I r.1.Map.Width, I r.1.Map.Height, sl 1 I r.1.Map.Terrain, sl 1 I r.1.Map.Rivers, sl 1 I r.1.Map.Roads], .agg [I r.2.Turn, I r.2.Weather, ow 4 gi_Unit r.2.Units]]
theorem cs_DrawIsState {a0 : (List Int)} {r : Gi_Board × Gi_State} (H : Ds_DrawIsState a0 = some r) : Ct X.P X.gl 85 [sl 1 (D.int .u8) a0] [] (Rs_DrawIsState r) [] :=
  Ct.of func85 (c := bdy f85) (by kernel_rfl) (by kernel_rfl) <|
  eBind H fun r1 hr1 H =>
  eW Rs_DrawIsState (fun _ => []) H <| gE func85 [r0, r0, rg [hC 1 true [2] (Rs_l1Cur_game r1) (Ns_l1Cur_game r1)]] (by kernel_rfl) (PI (1 : Nat) <| P1 (cs_l1Cur_game hr1) <| P0)
/-! loop example/g00886/spec DrawContestedHexes -/
def Rs_DrawContestedHexes (r : Gi_Board × Gi_State) : List D := [.agg [sl 5 gi_Terrain r.1.Rules.Terrains, sl 6 gi_Kind r.1.Rules.Kinds, I r.1.Rules.Stack, I r.1.Rules.River, I r.1.Rules.Road, I r.1.Rules.Supply, I r.1.Rules.Turns, I r.1.Map.Width, I r.1.Map.Height, sl 1 I r.1.Map.Terrain, sl 1 I r.1.Map.Rivers, sl 1 I r.1.Map.Roads], .agg [I r.2.Turn, I r.2.Weather, ow 4 gi_Unit r.2.Units]]
theorem cs_DrawContestedHexes {a0 : (List Int)} {r : Gi_Board × Gi_State} (H : Ds_DrawContestedHexes a0 = some r) : Ct X.P X.gl 21 [sl 1 (D.int .u8) a0] [] (Rs_DrawContestedHexes r) [] :=
  Ct.of func21 (c := bdy f21) (by kernel_rfl) (by kernel_rfl) <|
  eBind H fun r1 hr1 H =>
  eW Rs_DrawContestedHexes (fun _ => []) H <| gE func21 [r0, rg [hC 1 true [] (Rs_DrawIsState r1) []]] (by kernel_rfl) (P1 (cs_DrawIsState hr1) <| P0)
/-! loop example/g00886/impl inZone -/
noncomputable def Ki_inZone : Si_inZone → List Item
  | .h1 .. => nav 300 2 [] [.code (bdy f89)]
def Zi_inZone : Si_inZone → St
  | .h1 side0 i1 t2 t3 t4 b5 => ⟨sts 29 [(2, I side0), (3, I i1), (4, .ptr 0 12 0 0), (12, sl 4 gi_Unit t2), (13, I t3), (14, I t4)], [some ⟨false, true, 12, 1, [.agg [sl 5 gi_Terrain b5.Rules.Terrains, sl 6 gi_Kind b5.Rules.Kinds, I b5.Rules.Stack, I b5.Rules.River, I b5.Rules.Road, I b5.Rules.Supply, I b5.Rules.Turns, I b5.Map.Width, I b5.Map.Height, sl 1 I b5.Map.Terrain, sl 1 I b5.Map.Rivers, sl 1 I b5.Map.Roads]]⟩]⟩
abbrev Qi_inZone := Nx X 89 0 Ki_inZone Zi_inZone RB (fun _ => [])
theorem ni_inZone : ∀ s o, Bi_inZone s = some o → Qi_inZone (Ki_inZone s) (Zi_inZone s) o
  | .h1 side0 i1 t2 t3 t4 b5, o, H =>
    eIf H (fun h1 H =>
      eCk H fun h2 H =>
      eBind H fun x3 hx3 H =>
      gN [rg [hT 0], rg [hE 1 (gi_Unit x3)]] (by kernel_rfl) (P2 ((decide (t4 < t3)) = true) (decide_eq_true h1) <| P1 h2 <| P1 (int_lt_of_at h2 hx3) <| P1 (at_map gi_Unit hx3) <| P0) <|
      eIf H (fun h4 H =>
        eBind H fun r5 hr5 H =>
        eIf H (fun h6 H =>
          eN H <| gE func89 [rg [hT 3, { i := 8, call := some { cl := true, auto := true, ins := [], res := (RB r5), G' := [] }, dec := some true }], r0] (by kernel_rfl) (P2 (((x3.Side : Int) == side0) = true) (beqT h4) <| P1 (ci_controls hr5) <| P2 (r5 = true) (h6) <| P0))
        (fun h6 H =>
          eN H fun r hn => gO [rg [hT 3, { i := 8, call := some { cl := true, auto := true, ins := [], res := (RB r5), G' := [] }, dec := some false }], r0, .canon [0] [2, 3, 4, 12, 13, 14]] (by kernel_rfl) (P2 (((x3.Side : Int) == side0) = true) (beqT h4) <| P1 (ci_controls hr5) <| P2 (r5 = false) (eqF h6) <| P0) hn))
      (fun h4 H =>
        eN H fun r hn => gO [rg [hF 3], r0, .canon [0] [2, 3, 4, 12, 13, 14]] (by kernel_rfl) (P2 (((x3.Side : Int) == side0) = false) (beqF h4) <| P0) hn))
    (fun h1 H =>
      eN H <| gE func89 [rg [hF 0], r0] (by kernel_rfl) (P2 ((decide (t4 < t3)) = false) (decide_eq_false h1) <| P0))
theorem wi_inZone : ∀ s r, loop Bi_inZone s = some r → Wc X 89 0 (Ki_inZone s) (Zi_inZone s) (RB r) ((fun _ => []) r) := Nx.all ni_inZone
theorem ci_inZone {a0 : Gi_Board} {a1 : Gi_State} {a2 : Int} {a3 : Int} {r : Bool} (H : Di_inZone a0 a1 a2 a3 = some r) : Ct X.P X.gl 89 [.agg [sl 5 gi_Terrain a0.Rules.Terrains, sl 6 gi_Kind a0.Rules.Kinds, I a0.Rules.Stack, I a0.Rules.River, I a0.Rules.Road, I a0.Rules.Supply, I a0.Rules.Turns, I a0.Map.Width, I a0.Map.Height, sl 1 I a0.Map.Terrain, sl 1 I a0.Map.Rivers, sl 1 I a0.Map.Roads], .agg [I a1.Turn, I a1.Weather, sl 4 gi_Unit a1.Units], I a2, I a3] [] (RB r) [] :=
  Ct.of func89 (c := bdy f89) (by kernel_rfl) (by kernel_rfl) <|
  gO [r0, r0, .canon [0] [2, 3, 4, 12, 13, 14]] (by kernel_rfl) P0 (wi_inZone _ _ H)
/-! loop example/g00886/impl ContestedHexes 1 -/
theorem ci_ContestedHexes_1 {a0 : Int} {a1 : Gi_Board} {a2 : Gi_State} {r : Bool} (H : Di_ContestedHexes_1 a0 a1 a2 = some r) : Ct X.P X.gl 88 [I a0, .fptr 12 [.agg [sl 5 gi_Terrain a1.Rules.Terrains, sl 6 gi_Kind a1.Rules.Kinds, I a1.Rules.Stack, I a1.Rules.River, I a1.Rules.Road, I a1.Rules.Supply, I a1.Rules.Turns, I a1.Map.Width, I a1.Map.Height, sl 1 I a1.Map.Terrain, sl 1 I a1.Map.Rivers, sl 1 I a1.Map.Roads]] 0 0, .fptr 3 [.agg [I a2.Turn, I a2.Weather, sl 4 gi_Unit a2.Units]] 0 0] [] (RB r) [] :=
  Ct.of func88 (c := bdy f88) (by kernel_rfl) (by kernel_rfl) <|
  eBind H fun r1 hr1 H =>
  gS [r0] (by kernel_rfl) P0 <|
  eIf H (fun h2 H =>
    eBind H fun r3 hr3 H =>
    eW RB (fun _ => []) H <| gE func88 [rg [{ i := 3, call := some { cl := true, auto := true, ins := [], res := (RB r1), G' := [] }, dec := some true }, hC 8 true [] (RB r3) []]] (by kernel_rfl) (P1 (ci_inZone hr1) <| P2 (r1 = true) (h2) <| P1 (ci_inZone hr3) <| P0))
  (fun h2 H =>
    eW RB (fun _ => []) H <| gE func88 [rg [{ i := 3, call := some { cl := true, auto := true, ins := [], res := (RB r1), G' := [] }, dec := some false }]] (by kernel_rfl) (P1 (ci_inZone hr1) <| P2 (r1 = false) (eqF h2) <| P0))
/-! loop example/g00886/impl hexesThat -/
def Ri_hexesThat_i_ContestedHexes_1 (r : (List Int)) : List D := [ow 1 I r]
noncomputable def Ki_hexesThat_i_ContestedHexes_1 : Si_hexesThat_i_ContestedHexes_1 → List Item
  | .h1 .. => nav 300 3 [] [.code (bdy f87)]
def Zi_hexesThat_i_ContestedHexes_1 : Si_hexesThat_i_ContestedHexes_1 → St
  | .h1 fit0 fit1 t2 t3 l4 => ⟨sts 24 [(1, .fn 88 [.fptr 12 [.agg [sl 5 gi_Terrain fit0.Rules.Terrains, sl 6 gi_Kind fit0.Rules.Kinds, I fit0.Rules.Stack, I fit0.Rules.River, I fit0.Rules.Road, I fit0.Rules.Supply, I fit0.Rules.Turns, I fit0.Map.Width, I fit0.Map.Height, sl 1 I fit0.Map.Terrain, sl 1 I fit0.Map.Rivers, sl 1 I fit0.Map.Roads]] 0 0, .fptr 3 [.agg [I fit1.Turn, I fit1.Weather, sl 4 gi_Unit fit1.Units]] 0 0]), (5, .ref 0 1 none), (11, I t2), (12, I t3)], [some ⟨false, false, 1, l4.length, List.map I l4⟩]⟩
abbrev Qi_hexesThat_i_ContestedHexes_1 := Nx X 87 0 Ki_hexesThat_i_ContestedHexes_1 Zi_hexesThat_i_ContestedHexes_1 Ri_hexesThat_i_ContestedHexes_1 (fun _ => [])
theorem ni_hexesThat_i_ContestedHexes_1 : ∀ s o, Bi_hexesThat_i_ContestedHexes_1 s = some o → Qi_hexesThat_i_ContestedHexes_1 (Ki_hexesThat_i_ContestedHexes_1 s) (Zi_hexesThat_i_ContestedHexes_1 s) o
  | .h1 fit0 fit1 t2 t3 l4, o, H =>
    eIf H (fun h1 H =>
      eBind H fun r2 hr2 H =>
      gN [rg [hT 0], r0] (by kernel_rfl) (P2 ((decide (t3 < t2)) = true) (decide_eq_true h1) <| P0) <|
      eIf H (fun h3 H =>
        eCk H fun h4 H =>
        eN H fun r hn => gO [rg [{ i := 2, call := some { cl := true, auto := true, ins := [], res := (RB r2), G' := [] }, dec := some true }], rg [hA 3 ((l4 ++ [t3]).length) (List.map I (l4 ++ [t3]))], r0, .canon [2] [1, 5, 11, 12]] (by kernel_rfl) (P1 (ci_ContestedHexes_1 hr2) <| P2 (r2 = true) (h3) <| P1 (apL l4 [t3]) <| P1 (apB h4) <| P1 (apM I l4 [t3]) <| P0) hn)
      (fun h3 H =>
        eN H fun r hn => gO [rg [{ i := 2, call := some { cl := true, auto := true, ins := [], res := (RB r2), G' := [] }, dec := some false }], r0, .canon [0] [1, 5, 11, 12]] (by kernel_rfl) (P1 (ci_ContestedHexes_1 hr2) <| P2 (r2 = false) (eqF h3) <| P0) hn))
    (fun h1 H =>
      eN H <| gE func87 [rg [hF 0], r0] (by kernel_rfl) (P2 ((decide (t3 < t2)) = false) (decide_eq_false h1) <| P0))
theorem wi_hexesThat_i_ContestedHexes_1 : ∀ s r, loop Bi_hexesThat_i_ContestedHexes_1 s = some r → Wc X 87 0 (Ki_hexesThat_i_ContestedHexes_1 s) (Zi_hexesThat_i_ContestedHexes_1 s) (Ri_hexesThat_i_ContestedHexes_1 r) ((fun _ => []) r) := Nx.all ni_hexesThat_i_ContestedHexes_1
theorem ci_hexesThat_i_ContestedHexes_1 {a0 : Gi_Board} {a100 : Gi_Board} {a101 : Gi_State} {r : (List Int)} (H : Di_hexesThat_i_ContestedHexes_1 a0 a100 a101 = some r) : Ct X.P X.gl 87 [.agg [sl 5 gi_Terrain a0.Rules.Terrains, sl 6 gi_Kind a0.Rules.Kinds, I a0.Rules.Stack, I a0.Rules.River, I a0.Rules.Road, I a0.Rules.Supply, I a0.Rules.Turns, I a0.Map.Width, I a0.Map.Height, sl 1 I a0.Map.Terrain, sl 1 I a0.Map.Rivers, sl 1 I a0.Map.Roads], .fn 88 [.fptr 12 [.agg [sl 5 gi_Terrain a100.Rules.Terrains, sl 6 gi_Kind a100.Rules.Kinds, I a100.Rules.Stack, I a100.Rules.River, I a100.Rules.Road, I a100.Rules.Supply, I a100.Rules.Turns, I a100.Map.Width, I a100.Map.Height, sl 1 I a100.Map.Terrain, sl 1 I a100.Map.Rivers, sl 1 I a100.Map.Roads]] 0 0, .fptr 3 [.agg [I a101.Turn, I a101.Weather, sl 4 gi_Unit a101.Units]] 0 0]] [] (Ri_hexesThat_i_ContestedHexes_1 r) [] :=
  Ct.of func87 (c := bdy f87) (by kernel_rfl) (by kernel_rfl) <|
  gO [r0, r0, r0, .canon [1] [1, 5, 11, 12]] (by kernel_rfl) P0 (wi_hexesThat_i_ContestedHexes_1 _ _ H)
/-! loop example/g00886/impl ContestedHexes -/
def Ri_ContestedHexes (r : (List Int) × Bool) : List D := [ow 1 I r.1, .bool r.2]
theorem ci_ContestedHexes {a0 : Gi_Board} {a1 : Gi_State} {r : (List Int) × Bool} (H : Di_ContestedHexes a0 a1 = some r) : Ct X.P X.gl 22 [.agg [sl 5 gi_Terrain a0.Rules.Terrains, sl 6 gi_Kind a0.Rules.Kinds, I a0.Rules.Stack, I a0.Rules.River, I a0.Rules.Road, I a0.Rules.Supply, I a0.Rules.Turns, I a0.Map.Width, I a0.Map.Height, sl 1 I a0.Map.Terrain, sl 1 I a0.Map.Rivers, sl 1 I a0.Map.Roads], .agg [I a1.Turn, I a1.Weather, sl 4 gi_Unit a1.Units]] [] (Ri_ContestedHexes r) [] :=
  Ct.of func22 (c := bdy f22) (by kernel_rfl) (by kernel_rfl) <|
  eBind H fun r1 hr1 H =>
  gS [r0] (by kernel_rfl) P0 <|
  eIf H (fun h2 H =>
    eBind H fun r3 hr3 H =>
    eW Ri_ContestedHexes (fun _ => []) H <| gE func22 [rg [{ i := 2, call := some { cl := true, auto := true, ins := [], res := (RB r1), G' := [] }, dec := some true }], rg [hC 2 false [] (Ri_hexesThat_i_ContestedHexes_1 r3) []]] (by kernel_rfl) (P1 (ci_fits hr1) <| P2 (r1 = true) (h2) <| P2 (nfL (List.flatMap D.cells (Ri_hexesThat_i_ContestedHexes_1 r3))) ⟨nfL_map nf_3 _, trivial⟩ <| P2 (nfG []) trivial <| P1 (ci_hexesThat_i_ContestedHexes_1 hr3) <| P0))
  (fun h2 H =>
    eW Ri_ContestedHexes (fun _ => []) H <| gE func22 [rg [{ i := 2, call := some { cl := true, auto := true, ins := [], res := (RB r1), G' := [] }, dec := some false }], r0] (by kernel_rfl) (P1 (ci_fits hr1) <| P2 (r1 = false) (eqF h2) <| P0))
/-! loop example/g00886/spec zIn -/
theorem cs_zIn {a0 : Gi_Board} {a1 : Gi_State} {a2 : Int} {a3 : Int} {r : Bool} (H : Ds_zIn a0 a1 a2 a3 = some r) : Ct X.P X.gl 92 [.agg [sl 5 gi_Terrain a0.Rules.Terrains, sl 6 gi_Kind a0.Rules.Kinds, I a0.Rules.Stack, I a0.Rules.River, I a0.Rules.Road, I a0.Rules.Supply, I a0.Rules.Turns, I a0.Map.Width, I a0.Map.Height, sl 1 I a0.Map.Terrain, sl 1 I a0.Map.Rivers, sl 1 I a0.Map.Roads], .agg [I a1.Turn, I a1.Weather, sl 4 gi_Unit a1.Units], I a2, I a3] [] (RB r) [] :=
  Ct.of func92 (c := bdy f92) (by kernel_rfl) (by kernel_rfl) <|
  eBind H fun r1 hr1 H =>
  eW RB (fun _ => []) H <| gE func92 [r0, rg [hC 4 true [] (Rs_zSources r1) []]] (by kernel_rfl) (P1 (cs_zSources hr1) <| P0)
/-! loop example/g00886/spec ContestedHexes -/
def Rs_ContestedHexes (r : (List Int) × Bool) : List D := [ow 1 I r.1, .bool r.2]
noncomputable def Ks_ContestedHexes : Ss_ContestedHexes → List Item
  | .h1 .. => nav 300 4 [false] [.code (bdy f23)]
def Zs_ContestedHexes : Ss_ContestedHexes → St
  | .h1 i0 b1 b2 l3 => ⟨sts 34 [(2, .ptr 0 12 0 0), (3, .ptr 1 3 0 0), (6, .ref 2 1 none), (7, I i0)], [some ⟨false, true, 12, 1, [.agg [sl 5 gi_Terrain b1.Rules.Terrains, sl 6 gi_Kind b1.Rules.Kinds, I b1.Rules.Stack, I b1.Rules.River, I b1.Rules.Road, I b1.Rules.Supply, I b1.Rules.Turns, I b1.Map.Width, I b1.Map.Height, sl 1 I b1.Map.Terrain, sl 1 I b1.Map.Rivers, sl 1 I b1.Map.Roads]]⟩, some ⟨false, true, 3, 1, [.agg [I b2.Turn, I b2.Weather, sl 4 gi_Unit b2.Units]]⟩, some ⟨false, false, 1, l3.length, List.map I l3⟩]⟩
abbrev Qs_ContestedHexes := Nx X 23 0 Ks_ContestedHexes Zs_ContestedHexes Rs_ContestedHexes (fun _ => [])
theorem ns_ContestedHexes : ∀ s o, Bs_ContestedHexes s = some o → Qs_ContestedHexes (Ks_ContestedHexes s) (Zs_ContestedHexes s) o
  | .h1 i0 b1 b2 l3, o, H =>
    have H := (Bs_ContestedHexes.eq_1 ..).symm.trans H
    eBind H fun r1 hr1 H =>
    eIf H (fun h2 H =>
      eBind H fun r3 hr3 H =>
      gN [rg [hC 3 true [] (RI r1) [], hT 4]] (by kernel_rfl) (P1 (cs_mSize hr1) <| P2 ((decide (i0 < r1)) = true) (decide_eq_true h2) <| P0) <|
      eIf H (fun h4 H =>
        eBind H fun r5 hr5 H =>
        eIf H (fun h6 H =>
          eCk H fun h7 H =>
          eN H fun r hn => gO [rg [{ i := 3, call := some { cl := true, auto := true, ins := [], res := (RB r3), G' := [] }, dec := some true }, { i := 8, call := some { cl := true, auto := true, ins := [], res := (RB r5), G' := [] }, dec := some true }], rg [hA 3 ((l3 ++ [i0]).length) (List.map I (l3 ++ [i0]))], r0, .canon [0, 1, 4] [2, 3, 6, 7]] (by kernel_rfl) (P1 (cs_zIn hr3) <| P2 (r3 = true) (h4) <| P1 (cs_zIn hr5) <| P2 (r5 = true) (h6) <| P1 (apL l3 [i0]) <| P1 (apB h7) <| P1 (apM I l3 [i0]) <| P0) hn)
        (fun h6 H =>
          eN H fun r hn => gO [rg [{ i := 3, call := some { cl := true, auto := true, ins := [], res := (RB r3), G' := [] }, dec := some true }, { i := 8, call := some { cl := true, auto := true, ins := [], res := (RB r5), G' := [] }, dec := some false }], r0, .canon [0, 1, 2] [2, 3, 6, 7]] (by kernel_rfl) (P1 (cs_zIn hr3) <| P2 (r3 = true) (h4) <| P1 (cs_zIn hr5) <| P2 (r5 = false) (eqF h6) <| P0) hn))
      (fun h4 H =>
        eN H fun r hn => gO [rg [{ i := 3, call := some { cl := true, auto := true, ins := [], res := (RB r3), G' := [] }, dec := some false }], r0, .canon [0, 1, 2] [2, 3, 6, 7]] (by kernel_rfl) (P1 (cs_zIn hr3) <| P2 (r3 = false) (eqF h4) <| P0) hn))
    (fun h2 H =>
      eN H <| gE func23 [rg [hC 3 true [] (RI r1) [], hF 4], r0] (by kernel_rfl) (P1 (cs_mSize hr1) <| P2 ((decide (i0 < r1)) = false) (decide_eq_false h2) <| P0))
theorem ws_ContestedHexes : ∀ s r, loop Bs_ContestedHexes s = some r → Wc X 23 0 (Ks_ContestedHexes s) (Zs_ContestedHexes s) (Rs_ContestedHexes r) ((fun _ => []) r) := Nx.all ns_ContestedHexes
theorem cs_ContestedHexes {a0 : Gi_Board} {a1 : Gi_State} {r : (List Int) × Bool} (H : Ds_ContestedHexes a0 a1 = some r) : Ct X.P X.gl 23 [.agg [sl 5 gi_Terrain a0.Rules.Terrains, sl 6 gi_Kind a0.Rules.Kinds, I a0.Rules.Stack, I a0.Rules.River, I a0.Rules.Road, I a0.Rules.Supply, I a0.Rules.Turns, I a0.Map.Width, I a0.Map.Height, sl 1 I a0.Map.Terrain, sl 1 I a0.Map.Rivers, sl 1 I a0.Map.Roads], .agg [I a1.Turn, I a1.Weather, sl 4 gi_Unit a1.Units]] [] (Rs_ContestedHexes r) [] :=
  Ct.of func23 (c := bdy f23) (by kernel_rfl) (by kernel_rfl) <|
  eBind H fun r1 hr1 H =>
  gS [r0] (by kernel_rfl) P0 <|
  eIf H (fun h2 H =>
    gO [rg [{ i := 2, call := some { cl := true, auto := true, ins := [], res := (RB r1), G' := [] }, dec := some true }], r0, r0, .own 6 1, .canon [0, 1, 2] [2, 3, 6, 7]] (by kernel_rfl) (P1 (cs_sGood hr1) <| P2 (r1 = true) (h2) <| P0) (ws_ContestedHexes _ _ H))
  (fun h2 H =>
    eW Rs_ContestedHexes (fun _ => []) H <| gE func23 [rg [{ i := 2, call := some { cl := true, auto := true, ins := [], res := (RB r1), G' := [] }, dec := some false }], r0] (by kernel_rfl) (P1 (cs_sGood hr1) <| P2 (r1 = false) (eqF h2) <| P0))
/-! loop example/g00886/laws qInts -/
noncomputable def Kw_qInts : Sw_qInts → List Item
  | .h1 .. => nav 300 3 [false] [.code (bdy f15)]
def Zw_qInts : Sw_qInts → St
  | .h1 va0 b1 t2 t3 => ⟨sts 26 [(0, sl 1 I va0), (1, sl 1 I b1), (12, I t2), (13, I t3)], []⟩
abbrev Qw_qInts := Nx X 15 0 Kw_qInts Zw_qInts RB (fun _ => [])
theorem nw_qInts : ∀ s o, Bw_qInts s = some o → Qw_qInts (Kw_qInts s) (Zw_qInts s) o
  | .h1 va0 b1 t2 t3, o, H =>
    eIf H (fun h1 H =>
      eCk H fun h2 H =>
      eBind H fun x3 hx3 H =>
      eCk H fun h4 H =>
      eBind H fun x5 hx5 H =>
      gN [rg [hT 0], r0] (by kernel_rfl) (P2 ((decide (t3 < t2)) = true) (decide_eq_true h1) <| P0) <|
      eIf H (fun h6 H =>
        eN H fun r hn => gO [rg [hE 3 (I x3), hE 7 (I x5), hF 8], r0, .canon [] [0, 1, 12, 13]] (by kernel_rfl) (P1 h2 <| P1 (int_lt_of_at h2 hx3) <| P1 (at_map I hx3) <| P1 h4 <| P1 (int_lt_of_at h4 hx5) <| P1 (at_map I hx5) <| P2 (((x3 : Int) != x5) = false) (bneF h6) <| P0) hn)
      (fun h6 H =>
        eN H <| gE func15 [rg [hE 3 (I x3), hE 7 (I x5), hT 8], r0] (by kernel_rfl) (P1 h2 <| P1 (int_lt_of_at h2 hx3) <| P1 (at_map I hx3) <| P1 h4 <| P1 (int_lt_of_at h4 hx5) <| P1 (at_map I hx5) <| P2 (((x3 : Int) != x5) = true) (bneT h6) <| P0)))
    (fun h1 H =>
      eN H <| gE func15 [rg [hF 0], r0] (by kernel_rfl) (P2 ((decide (t3 < t2)) = false) (decide_eq_false h1) <| P0))
theorem ww_qInts : ∀ s r, loop Bw_qInts s = some r → Wc X 15 0 (Kw_qInts s) (Zw_qInts s) (RB r) ((fun _ => []) r) := Nx.all nw_qInts
theorem cw_qInts {a0 : (List Int)} {a1 : (List Int)} {r : Bool} (H : Dw_qInts a0 a1 = some r) : Ct X.P X.gl 15 [sl 1 I a0, sl 1 I a1] [] (RB r) [] :=
  Ct.of func15 (c := bdy f15) (by kernel_rfl) (by kernel_rfl) <|
  gS [r0] (by kernel_rfl) P0 <|
  eIf H (fun h1 H =>
    gO [rg [hF 4], r0, .canon [] [0, 1, 12, 13]] (by kernel_rfl) (P2 (((((a0.length : Nat) : Int) : Int) != ((a1.length : Nat) : Int)) = false) (bneF h1) <| P0) (ww_qInts _ _ H))
  (fun h1 H =>
    eW RB (fun _ => []) H <| gE func15 [rg [hT 4], r0] (by kernel_rfl) (P2 (((((a0.length : Nat) : Int) : Int) != ((a1.length : Nat) : Int)) = true) (bneT h1) <| P0))
/-! loop example/g00886/impl ZoneHexes 1 -/
theorem ci_ZoneHexes_1 {a0 : Int} {a1 : Gi_Board} {a2 : Gi_State} {a3 : Int} {r : Bool} (H : Di_ZoneHexes_1 a0 a1 a2 a3 = some r) : Ct X.P X.gl 93 [I a0, .fptr 12 [.agg [sl 5 gi_Terrain a1.Rules.Terrains, sl 6 gi_Kind a1.Rules.Kinds, I a1.Rules.Stack, I a1.Rules.River, I a1.Rules.Road, I a1.Rules.Supply, I a1.Rules.Turns, I a1.Map.Width, I a1.Map.Height, sl 1 I a1.Map.Terrain, sl 1 I a1.Map.Rivers, sl 1 I a1.Map.Roads]] 0 0, .fptr 3 [.agg [I a2.Turn, I a2.Weather, sl 4 gi_Unit a2.Units]] 0 0, .fptr 1 [.agg [I a3]] 0 0] [] (RB r) [] :=
  Ct.of func93 (c := bdy f93) (by kernel_rfl) (by kernel_rfl) <|
  eBind H fun r1 hr1 H =>
  eW RB (fun _ => []) H <| gE func93 [r0, rg [hC 4 true [] (RB r1) []]] (by kernel_rfl) (P1 (ci_inZone hr1) <| P0)
/-! loop example/g00886/impl hexesThat -/
def Ri_hexesThat_i_ZoneHexes_1 (r : (List Int)) : List D := [ow 1 I r]
noncomputable def Ki_hexesThat_i_ZoneHexes_1 : Si_hexesThat_i_ZoneHexes_1 → List Item
  | .h1 .. => nav 300 3 [] [.code (bdy f87)]
def Zi_hexesThat_i_ZoneHexes_1 : Si_hexesThat_i_ZoneHexes_1 → St
  | .h1 fit0 fit1 fit2 t3 t4 l5 => ⟨sts 24 [(1, .fn 93 [.fptr 12 [.agg [sl 5 gi_Terrain fit0.Rules.Terrains, sl 6 gi_Kind fit0.Rules.Kinds, I fit0.Rules.Stack, I fit0.Rules.River, I fit0.Rules.Road, I fit0.Rules.Supply, I fit0.Rules.Turns, I fit0.Map.Width, I fit0.Map.Height, sl 1 I fit0.Map.Terrain, sl 1 I fit0.Map.Rivers, sl 1 I fit0.Map.Roads]] 0 0, .fptr 3 [.agg [I fit1.Turn, I fit1.Weather, sl 4 gi_Unit fit1.Units]] 0 0, .fptr 1 [.agg [I fit2]] 0 0]), (5, .ref 0 1 none), (11, I t3), (12, I t4)], [some ⟨false, false, 1, l5.length, List.map I l5⟩]⟩
abbrev Qi_hexesThat_i_ZoneHexes_1 := Nx X 87 0 Ki_hexesThat_i_ZoneHexes_1 Zi_hexesThat_i_ZoneHexes_1 Ri_hexesThat_i_ZoneHexes_1 (fun _ => [])
theorem ni_hexesThat_i_ZoneHexes_1 : ∀ s o, Bi_hexesThat_i_ZoneHexes_1 s = some o → Qi_hexesThat_i_ZoneHexes_1 (Ki_hexesThat_i_ZoneHexes_1 s) (Zi_hexesThat_i_ZoneHexes_1 s) o
  | .h1 fit0 fit1 fit2 t3 t4 l5, o, H =>
    eIf H (fun h1 H =>
      eBind H fun r2 hr2 H =>
      gN [rg [hT 0], r0] (by kernel_rfl) (P2 ((decide (t4 < t3)) = true) (decide_eq_true h1) <| P0) <|
      eIf H (fun h3 H =>
        eCk H fun h4 H =>
        eN H fun r hn => gO [rg [{ i := 2, call := some { cl := true, auto := true, ins := [], res := (RB r2), G' := [] }, dec := some true }], rg [hA 3 ((l5 ++ [t4]).length) (List.map I (l5 ++ [t4]))], r0, .canon [2] [1, 5, 11, 12]] (by kernel_rfl) (P1 (ci_ZoneHexes_1 hr2) <| P2 (r2 = true) (h3) <| P1 (apL l5 [t4]) <| P1 (apB h4) <| P1 (apM I l5 [t4]) <| P0) hn)
      (fun h3 H =>
        eN H fun r hn => gO [rg [{ i := 2, call := some { cl := true, auto := true, ins := [], res := (RB r2), G' := [] }, dec := some false }], r0, .canon [0] [1, 5, 11, 12]] (by kernel_rfl) (P1 (ci_ZoneHexes_1 hr2) <| P2 (r2 = false) (eqF h3) <| P0) hn))
    (fun h1 H =>
      eN H <| gE func87 [rg [hF 0], r0] (by kernel_rfl) (P2 ((decide (t4 < t3)) = false) (decide_eq_false h1) <| P0))
theorem wi_hexesThat_i_ZoneHexes_1 : ∀ s r, loop Bi_hexesThat_i_ZoneHexes_1 s = some r → Wc X 87 0 (Ki_hexesThat_i_ZoneHexes_1 s) (Zi_hexesThat_i_ZoneHexes_1 s) (Ri_hexesThat_i_ZoneHexes_1 r) ((fun _ => []) r) := Nx.all ni_hexesThat_i_ZoneHexes_1
theorem ci_hexesThat_i_ZoneHexes_1 {a0 : Gi_Board} {a100 : Gi_Board} {a101 : Gi_State} {a102 : Int} {r : (List Int)} (H : Di_hexesThat_i_ZoneHexes_1 a0 a100 a101 a102 = some r) : Ct X.P X.gl 87 [.agg [sl 5 gi_Terrain a0.Rules.Terrains, sl 6 gi_Kind a0.Rules.Kinds, I a0.Rules.Stack, I a0.Rules.River, I a0.Rules.Road, I a0.Rules.Supply, I a0.Rules.Turns, I a0.Map.Width, I a0.Map.Height, sl 1 I a0.Map.Terrain, sl 1 I a0.Map.Rivers, sl 1 I a0.Map.Roads], .fn 93 [.fptr 12 [.agg [sl 5 gi_Terrain a100.Rules.Terrains, sl 6 gi_Kind a100.Rules.Kinds, I a100.Rules.Stack, I a100.Rules.River, I a100.Rules.Road, I a100.Rules.Supply, I a100.Rules.Turns, I a100.Map.Width, I a100.Map.Height, sl 1 I a100.Map.Terrain, sl 1 I a100.Map.Rivers, sl 1 I a100.Map.Roads]] 0 0, .fptr 3 [.agg [I a101.Turn, I a101.Weather, sl 4 gi_Unit a101.Units]] 0 0, .fptr 1 [.agg [I a102]] 0 0]] [] (Ri_hexesThat_i_ZoneHexes_1 r) [] :=
  Ct.of func87 (c := bdy f87) (by kernel_rfl) (by kernel_rfl) <|
  gO [r0, r0, r0, .canon [1] [1, 5, 11, 12]] (by kernel_rfl) P0 (wi_hexesThat_i_ZoneHexes_1 _ _ H)
/-! loop example/g00886/impl ZoneHexes -/
def Ri_ZoneHexes (r : (List Int) × Bool) : List D := [ow 1 I r.1, .bool r.2]
theorem ci_ZoneHexes {a0 : Gi_Board} {a1 : Gi_State} {a2 : Int} {r : (List Int) × Bool} (H : Di_ZoneHexes a0 a1 a2 = some r) : Ct X.P X.gl 24 [.agg [sl 5 gi_Terrain a0.Rules.Terrains, sl 6 gi_Kind a0.Rules.Kinds, I a0.Rules.Stack, I a0.Rules.River, I a0.Rules.Road, I a0.Rules.Supply, I a0.Rules.Turns, I a0.Map.Width, I a0.Map.Height, sl 1 I a0.Map.Terrain, sl 1 I a0.Map.Rivers, sl 1 I a0.Map.Roads], .agg [I a1.Turn, I a1.Weather, sl 4 gi_Unit a1.Units], I a2] [] (Ri_ZoneHexes r) [] :=
  Ct.of func24 (c := bdy f24) (by kernel_rfl) (by kernel_rfl) <|
  eBind H fun r1 hr1 H =>
  gS [r0] (by kernel_rfl) P0 <|
  eIf H (fun h2 H =>
    eBind H fun r3 hr3 H =>
    eIf H (fun h4 H =>
      eBind H fun r5 hr5 H =>
      eW Ri_ZoneHexes (fun _ => []) H <| gE func24 [rg [{ i := 2, call := some { cl := true, auto := true, ins := [], res := (RB r1), G' := [] }, dec := some true }, { i := 6, call := some { cl := true, auto := true, ins := [], res := (RB r3), G' := [] }, dec := some true }], rg [hC 2 false [] (Ri_hexesThat_i_ZoneHexes_1 r5) []]] (by kernel_rfl) (P1 (ci_fits hr1) <| P2 (r1 = true) (h2) <| P1 (ci_isSide hr3) <| P2 (r3 = true) (h4) <| P2 (nfL (List.flatMap D.cells (Ri_hexesThat_i_ZoneHexes_1 r5))) ⟨nfL_map nf_3 _, trivial⟩ <| P2 (nfG []) trivial <| P1 (ci_hexesThat_i_ZoneHexes_1 hr5) <| P0))
    (fun h4 H =>
      eW Ri_ZoneHexes (fun _ => []) H <| gE func24 [rg [{ i := 2, call := some { cl := true, auto := true, ins := [], res := (RB r1), G' := [] }, dec := some true }, { i := 6, call := some { cl := true, auto := true, ins := [], res := (RB r3), G' := [] }, dec := some false }], r0] (by kernel_rfl) (P1 (ci_fits hr1) <| P2 (r1 = true) (h2) <| P1 (ci_isSide hr3) <| P2 (r3 = false) (eqF h4) <| P0)))
  (fun h2 H =>
    eW Ri_ZoneHexes (fun _ => []) H <| gE func24 [rg [{ i := 2, call := some { cl := true, auto := true, ins := [], res := (RB r1), G' := [] }, dec := some false }], r0] (by kernel_rfl) (P1 (ci_fits hr1) <| P2 (r1 = false) (eqF h2) <| P0))
/-! loop example/g00886/impl InZone -/
def Ri_InZone (r : Bool × Bool) : List D := [.bool r.1, .bool r.2]
theorem ci_InZone {a0 : Gi_Board} {a1 : Gi_State} {a2 : Int} {a3 : Int} {r : Bool × Bool} (H : Di_InZone a0 a1 a2 a3 = some r) : Ct X.P X.gl 26 [.agg [sl 5 gi_Terrain a0.Rules.Terrains, sl 6 gi_Kind a0.Rules.Kinds, I a0.Rules.Stack, I a0.Rules.River, I a0.Rules.Road, I a0.Rules.Supply, I a0.Rules.Turns, I a0.Map.Width, I a0.Map.Height, sl 1 I a0.Map.Terrain, sl 1 I a0.Map.Rivers, sl 1 I a0.Map.Roads], .agg [I a1.Turn, I a1.Weather, sl 4 gi_Unit a1.Units], I a2, I a3] [] (Ri_InZone r) [] :=
  Ct.of func26 (c := bdy f26) (by kernel_rfl) (by kernel_rfl) <|
  eBind H fun r1 hr1 H =>
  gS [r0] (by kernel_rfl) P0 <|
  eIf H (fun h2 H =>
    eBind H fun r3 hr3 H =>
    eIf H (fun h4 H =>
      eBind H fun r5 hr5 H =>
      eW Ri_InZone (fun _ => []) H <| gE func26 [rg [{ i := 3, call := some { cl := true, auto := true, ins := [], res := (RB r1), G' := [] }, dec := some true }, { i := 7, call := some { cl := true, auto := true, ins := [], res := (RB r3), G' := [] }, dec := some true }], rg [hC 4 true [] (RB r5) []]] (by kernel_rfl) (P1 (ci_hasHex hr1) <| P2 (r1 = true) (h2) <| P1 (ci_isSide hr3) <| P2 (r3 = true) (h4) <| P1 (ci_inZone hr5) <| P0))
    (fun h4 H =>
      eW Ri_InZone (fun _ => []) H <| gE func26 [rg [{ i := 3, call := some { cl := true, auto := true, ins := [], res := (RB r1), G' := [] }, dec := some true }, { i := 7, call := some { cl := true, auto := true, ins := [], res := (RB r3), G' := [] }, dec := some false }], r0] (by kernel_rfl) (P1 (ci_hasHex hr1) <| P2 (r1 = true) (h2) <| P1 (ci_isSide hr3) <| P2 (r3 = false) (eqF h4) <| P0)))
  (fun h2 H =>
    eW Ri_InZone (fun _ => []) H <| gE func26 [rg [{ i := 3, call := some { cl := true, auto := true, ins := [], res := (RB r1), G' := [] }, dec := some false }], r0] (by kernel_rfl) (P1 (ci_hasHex hr1) <| P2 (r1 = false) (eqF h2) <| P0))
/-! loop example/g00886/laws qHas -/
noncomputable def Kw_qHas : Sw_qHas → List Item
  | .h1 .. => nav 300 2 [] [.code (bdy f25)]
def Zw_qHas : Sw_qHas → St
  | .h1 n0 t1 t2 t3 => ⟨sts 17 [(1, I n0), (7, sl 1 I t1), (8, I t2), (9, I t3)], []⟩
abbrev Qw_qHas := Nx X 25 0 Kw_qHas Zw_qHas RB (fun _ => [])
theorem nw_qHas : ∀ s o, Bw_qHas s = some o → Qw_qHas (Kw_qHas s) (Zw_qHas s) o
  | .h1 n0 t1 t2 t3, o, H =>
    eIf H (fun h1 H =>
      eCk H fun h2 H =>
      eBind H fun x3 hx3 H =>
      gN [rg [hT 0], rg [hE 1 (I x3)]] (by kernel_rfl) (P2 ((decide (t3 < t2)) = true) (decide_eq_true h1) <| P1 h2 <| P1 (int_lt_of_at h2 hx3) <| P1 (at_map I hx3) <| P0) <|
      eIf H (fun h4 H =>
        eN H <| gE func25 [rg [hT 2], r0] (by kernel_rfl) (P2 (((x3 : Int) == n0) = true) (beqT h4) <| P0))
      (fun h4 H =>
        eN H fun r hn => gO [rg [hF 2], r0, .canon [] [1, 7, 8, 9]] (by kernel_rfl) (P2 (((x3 : Int) == n0) = false) (beqF h4) <| P0) hn))
    (fun h1 H =>
      eN H <| gE func25 [rg [hF 0], r0] (by kernel_rfl) (P2 ((decide (t3 < t2)) = false) (decide_eq_false h1) <| P0))
theorem ww_qHas : ∀ s r, loop Bw_qHas s = some r → Wc X 25 0 (Kw_qHas s) (Zw_qHas s) (RB r) ((fun _ => []) r) := Nx.all nw_qHas
theorem cw_qHas {a0 : (List Int)} {a1 : Int} {r : Bool} (H : Dw_qHas a0 a1 = some r) : Ct X.P X.gl 25 [sl 1 I a0, I a1] [] (RB r) [] :=
  Ct.of func25 (c := bdy f25) (by kernel_rfl) (by kernel_rfl) <|
  gO [r0, r0, .canon [] [1, 7, 8, 9]] (by kernel_rfl) P0 (ww_qHas _ _ H)
/-! loop example/g00886/impl hasUnit -/
theorem ci_hasUnit {a0 : Gi_Board} {a1 : Gi_State} {a2 : Int} {r : Bool} (H : Di_hasUnit a0 a1 a2 = some r) : Ct X.P X.gl 94 [.agg [sl 5 gi_Terrain a0.Rules.Terrains, sl 6 gi_Kind a0.Rules.Kinds, I a0.Rules.Stack, I a0.Rules.River, I a0.Rules.Road, I a0.Rules.Supply, I a0.Rules.Turns, I a0.Map.Width, I a0.Map.Height, sl 1 I a0.Map.Terrain, sl 1 I a0.Map.Rivers, sl 1 I a0.Map.Roads], .agg [I a1.Turn, I a1.Weather, sl 4 gi_Unit a1.Units], I a2] [] (RB r) [] :=
  Ct.of func94 (c := bdy f94) (by kernel_rfl) (by kernel_rfl) <|
  eBind H fun r1 hr1 H =>
  gS [r0] (by kernel_rfl) P0 <|
  eIf H (fun h2 H =>
    eBind H fun r3 hr3 H =>
    eW RB (fun _ => []) H <| gE func94 [rg [{ i := 2, call := some { cl := true, auto := true, ins := [], res := (RB r1), G' := [] }, dec := some true }, hC 8 true [] (RB r3) []]] (by kernel_rfl) (P1 (ci_fits hr1) <| P2 (r1 = true) (h2) <| P1 (ci_isIndex hr3) <| P0))
  (fun h2 H =>
    eW RB (fun _ => []) H <| gE func94 [rg [{ i := 2, call := some { cl := true, auto := true, ins := [], res := (RB r1), G' := [] }, dec := some false }]] (by kernel_rfl) (P1 (ci_fits hr1) <| P2 (r1 = false) (eqF h2) <| P0))
/-! loop example/g00886/impl MustStop -/
def Ri_MustStop (r : Bool × Bool) : List D := [.bool r.1, .bool r.2]
theorem ci_MustStop {a0 : Gi_Board} {a1 : Gi_State} {a2 : Int} {a3 : Int} {r : Bool × Bool} (H : Di_MustStop a0 a1 a2 a3 = some r) : Ct X.P X.gl 27 [.agg [sl 5 gi_Terrain a0.Rules.Terrains, sl 6 gi_Kind a0.Rules.Kinds, I a0.Rules.Stack, I a0.Rules.River, I a0.Rules.Road, I a0.Rules.Supply, I a0.Rules.Turns, I a0.Map.Width, I a0.Map.Height, sl 1 I a0.Map.Terrain, sl 1 I a0.Map.Rivers, sl 1 I a0.Map.Roads], .agg [I a1.Turn, I a1.Weather, sl 4 gi_Unit a1.Units], I a2, I a3] [] (Ri_MustStop r) [] :=
  Ct.of func27 (c := bdy f27) (by kernel_rfl) (by kernel_rfl) <|
  eBind H fun r1 hr1 H =>
  gS [r0] (by kernel_rfl) P0 <|
  eIf H (fun h2 H =>
    eBind H fun r3 hr3 H =>
    eBind H fun r4 hr4 H =>
    eIf H (fun h5 H =>
      eCk H fun h6 H =>
      eBind H fun x7 hx7 H =>
      eBind H fun r8 hr8 H =>
      eW Ri_MustStop (fun _ => []) H <| gE func27 [rg [{ i := 3, call := some { cl := true, auto := true, ins := [], res := (RB r1), G' := [] }, dec := some true }, hC 8 true [] (RI r3) [], { i := 9, call := some { cl := true, auto := true, ins := [], res := (RB r4), G' := [] }, dec := some true }], rg [hE 7 (gi_Unit x7), hC 10 true [] (RB r8) []]] (by kernel_rfl) (P1 (ci_hasUnit hr1) <| P2 (r1 = true) (h2) <| P1 (ci_sizeOf hr3) <| P1 (ci_isIndex hr4) <| P2 (r4 = true) (h5) <| P1 h6 <| P1 (int_lt_of_at h6 hx7) <| P1 (at_map gi_Unit hx7) <| P1 (ci_inZone hr8) <| P0))
    (fun h5 H =>
      eW Ri_MustStop (fun _ => []) H <| gE func27 [rg [{ i := 3, call := some { cl := true, auto := true, ins := [], res := (RB r1), G' := [] }, dec := some true }, hC 8 true [] (RI r3) [], { i := 9, call := some { cl := true, auto := true, ins := [], res := (RB r4), G' := [] }, dec := some false }], r0] (by kernel_rfl) (P1 (ci_hasUnit hr1) <| P2 (r1 = true) (h2) <| P1 (ci_sizeOf hr3) <| P1 (ci_isIndex hr4) <| P2 (r4 = false) (eqF h5) <| P0)))
  (fun h2 H =>
    eW Ri_MustStop (fun _ => []) H <| gE func27 [rg [{ i := 3, call := some { cl := true, auto := true, ins := [], res := (RB r1), G' := [] }, dec := some false }], r0] (by kernel_rfl) (P1 (ci_hasUnit hr1) <| P2 (r1 = false) (eqF h2) <| P0))
/-! loop example/g00886/laws FnZones -/
noncomputable def Kw_FnZones : Sw_FnZones → List Item
  | .h1 .. => nav 300 14 [false, false, true, false] [.code (bdy f4)]
  | .h2 .. => nav 300 10 [false, false, false] [.code (bdy f4)]
  | .h3 .. => nav 300 14 [false, false, false, false] [.code (bdy f4)]
def Zw_FnZones : Sw_FnZones → St
  | .h1 t0 t1 t2 t3 t4 b5 b6 l7 l8 l9 l10 => ⟨sts 207 [(5, .ptr 0 12 0 0), (6, .ptr 1 3 0 0), (7, I t0), (8, I t1), (9, .ref 2 1 none), (10, .bool t2), (19, .ref 3 1 none), (21, .ref 4 1 none), (120, .ref 5 1 none), (121, I t3), (122, I t4)], [some ⟨false, true, 12, 1, [.agg [sl 5 gi_Terrain b5.Rules.Terrains, sl 6 gi_Kind b5.Rules.Kinds, I b5.Rules.Stack, I b5.Rules.River, I b5.Rules.Road, I b5.Rules.Supply, I b5.Rules.Turns, I b5.Map.Width, I b5.Map.Height, sl 1 I b5.Map.Terrain, sl 1 I b5.Map.Rivers, sl 1 I b5.Map.Roads]]⟩, some ⟨false, true, 3, 1, [.agg [I b6.Turn, I b6.Weather, sl 4 gi_Unit b6.Units]]⟩, some ⟨false, false, 1, l7.length, List.map I l7⟩, some ⟨false, false, 1, l8.length, List.map I l8⟩, some ⟨false, false, 1, l9.length, List.map I l9⟩, some ⟨false, false, 1, l10.length, List.map I l10⟩]⟩
  | .h2 t0 t1 t2 b3 b4 l5 => ⟨sts 207 [(5, .ptr 0 12 0 0), (6, .ptr 1 3 0 0), (7, I t0), (8, I t1), (9, .ref 2 1 none), (10, .bool t2)], [some ⟨false, true, 12, 1, [.agg [sl 5 gi_Terrain b3.Rules.Terrains, sl 6 gi_Kind b3.Rules.Kinds, I b3.Rules.Stack, I b3.Rules.River, I b3.Rules.Road, I b3.Rules.Supply, I b3.Rules.Turns, I b3.Map.Width, I b3.Map.Height, sl 1 I b3.Map.Terrain, sl 1 I b3.Map.Rivers, sl 1 I b3.Map.Roads]]⟩, some ⟨false, true, 3, 1, [.agg [I b4.Turn, I b4.Weather, sl 4 gi_Unit b4.Units]]⟩, some ⟨false, false, 1, l5.length, List.map I l5⟩]⟩
  | .h3 t0 t1 t2 t3 t4 t5 t6 b7 b8 l9 l10 => ⟨sts 207 [(5, .ptr 0 12 0 0), (6, .ptr 1 3 0 0), (7, I t0), (8, I t1), (9, .ref 2 1 none), (25, .bool t2), (26, .bool t3), (27, .ref 3 1 none), (28, .bool t4), (154, .ref 2 1 none), (155, I t5), (156, I t6)], [some ⟨false, true, 12, 1, [.agg [sl 5 gi_Terrain b7.Rules.Terrains, sl 6 gi_Kind b7.Rules.Kinds, I b7.Rules.Stack, I b7.Rules.River, I b7.Rules.Road, I b7.Rules.Supply, I b7.Rules.Turns, I b7.Map.Width, I b7.Map.Height, sl 1 I b7.Map.Terrain, sl 1 I b7.Map.Rivers, sl 1 I b7.Map.Roads]]⟩, some ⟨false, true, 3, 1, [.agg [I b8.Turn, I b8.Weather, sl 4 gi_Unit b8.Units]]⟩, some ⟨false, false, 1, l9.length, List.map I l9⟩, some ⟨false, false, 1, l10.length, List.map I l10⟩]⟩
abbrev Qw_FnZones := Nx X 4 0 Kw_FnZones Zw_FnZones RB (fun _ => [])
theorem nw_FnZones : ∀ s o, Bw_FnZones s = some o → Qw_FnZones (Kw_FnZones s) (Zw_FnZones s) o
  | .h1 t0 t1 t2 t3 t4 b5 b6 l7 l8 l9 l10, o, H =>
    eIf H (fun h1 H =>
      eCk H fun h2 H =>
      eBind H fun x3 hx3 H =>
      eBind H fun r4 hr4 H =>
      gN [rg [hT 0], rg [hE 1 (I x3)]] (by kernel_rfl) (P2 ((decide (t4 < t3)) = true) (decide_eq_true h1) <| P1 h2 <| P1 (int_lt_of_at h2 hx3) <| P1 (at_map I hx3) <| P0) <|
      eIf H (fun h5 H =>
        eBind H fun r6 hr6 H =>
        eIf H (fun h7 H =>
          eN H fun r hn => gO [rg [{ i := 2, call := some { cl := false, auto := true, ins := [], res := (RB r4), G' := [] }, dec := some true }, { i := 7, call := some { cl := false, auto := true, ins := [], res := (RB r6), G' := [] }, dec := some true }], r0, .canon [0, 1, 2, 3, 4, 5] [5, 6, 7, 8, 9, 10, 19, 21, 120, 121, 122]] (by kernel_rfl) (P1 (cw_qHas hr4) <| P2 (r4 = true) (h5) <| P1 (cw_qHas hr6) <| P2 (r6 = true) (h7) <| P0) hn)
        (fun h7 H =>
          eN H <| gE func4 [rg [{ i := 2, call := some { cl := false, auto := true, ins := [], res := (RB r4), G' := [] }, dec := some true }, { i := 7, call := some { cl := false, auto := true, ins := [], res := (RB r6), G' := [] }, dec := some false }], r0] (by kernel_rfl) (P1 (cw_qHas hr4) <| P2 (r4 = true) (h5) <| P1 (cw_qHas hr6) <| P2 (r6 = false) (eqF h7) <| P0)))
      (fun h5 H =>
        eN H <| gE func4 [rg [{ i := 2, call := some { cl := false, auto := true, ins := [], res := (RB r4), G' := [] }, dec := some false }], r0] (by kernel_rfl) (P1 (cw_qHas hr4) <| P2 (r4 = false) (eqF h5) <| P0)))
    (fun h1 H =>
      eN H fun r hn => gO [rg [hF 0], .canon [0, 1, 2] [5, 6, 7, 8, 9, 10]] (by kernel_rfl) (P2 ((decide (t4 < t3)) = false) (decide_eq_false h1) <| P0) hn)
  | .h2 t0 t1 true b3 b4 l5, o, H =>
    eBind H fun r1 hr1 H =>
    eBind H fun r2 hr2 H =>
    eN H fun r hn => gO [r0, rg [hC 4 true [] (Ri_InZone r1) []], rg [hC 3 true [] (Ri_ZoneHexes r2) []], r0, .canon [0, 1, 2, 3] [5, 6, 7, 8, 9, 25, 26, 27, 28, 154, 155, 156]] (by kernel_rfl) (P1 (ci_InZone hr1) <| P1 (ci_ZoneHexes hr2) <| P0) hn
  | .h2 t0 t1 false b3 b4 l5, o, H =>
    eN H <| gE func4 [r0, r0] (by kernel_rfl) P0
  | .h3 t0 t1 t2 true true t5 t6 b7 b8 l9 l10, o, H =>
    eIf H (fun h1 H =>
      eCk H fun h2 H =>
      eBind H fun x3 hx3 H =>
      eBind H fun r4 hr4 H =>
      gN [rg [hT 0], rg [hE 1 (I x3)]] (by kernel_rfl) (P2 ((decide (t6 < t5)) = true) (decide_eq_true h1) <| P1 h2 <| P1 (int_lt_of_at h2 hx3) <| P1 (at_map I hx3) <| P0) <|
      eIf H (fun h5 H =>
        eBind H fun r6 hr6 H =>
        gN [rg [hC 4 true [] (Ri_MustStop r4) [], hT 7]] (by kernel_rfl) (P1 (ci_MustStop hr4) <| P2 (r4.2 = true) (h5) <| P0) <|
        eIf H (fun h7 H =>
          gN [rg [hC 5 true [] (Ri_InZone r6) [], hT 8]] (by kernel_rfl) (P1 (ci_InZone hr6) <| P2 (r6.2 = true) (h7) <| P0) <|
          eIf H (fun h8 H =>
            eN H <| gE func4 [rg [hT 9], r0] (by kernel_rfl) (P2 ((!(r4.1 == r6.1)) = true) (h8) <| P0))
          (fun h8 H =>
            eN H fun r hn => gO [rg [hF 9], r0, .canon [0, 1, 2, 3] [5, 6, 7, 8, 9, 25, 26, 27, 28, 154, 155, 156]] (by kernel_rfl) (P2 ((!(r4.1 == r6.1)) = false) (eqF h8) <| P0) hn))
        (fun h7 H =>
          eN H <| gE func4 [rg [hC 5 true [] (Ri_InZone r6) [], hF 8], r0, r0] (by kernel_rfl) (P1 (ci_InZone hr6) <| P2 (r6.2 = false) (eqF h7) <| P0)))
      (fun h5 H =>
        eBind H fun r6 hr6 H =>
        eN H <| gE func4 [rg [hC 4 true [] (Ri_MustStop r4) [], hF 7], rg [hC 5 true [] (Ri_InZone r6) []], r0, r0] (by kernel_rfl) (P1 (ci_MustStop hr4) <| P2 (r4.2 = false) (eqF h5) <| P1 (ci_InZone hr6) <| P0)))
    (fun h1 H =>
      gN [rg [hF 0]] (by kernel_rfl) (P2 ((decide (t6 < t5)) = false) (decide_eq_false h1) <| P0) <|
      eIf H (fun h2 H =>
        eBind H fun r3 hr3 H =>
        eN H <| gE func4 [rg [hT 9, hC 15 false [] (RB r3) []]] (by kernel_rfl) (P2 ((t2 == (decide (((l9.length : Nat) : Int) > 0))) = true) (h2) <| P1 (cw_qHas hr3) <| P0))
      (fun h2 H =>
        eN H <| gE func4 [rg [hF 9]] (by kernel_rfl) (P2 ((t2 == (decide (((l9.length : Nat) : Int) > 0))) = false) (eqF h2) <| P0)))
  | .h3 t0 t1 t2 true false t5 t6 b7 b8 l9 l10, o, H =>
    eIf H (fun h1 H =>
      eCk H fun h2 H =>
      eBind H fun x3 hx3 H =>
      eBind H fun r4 hr4 H =>
      gN [rg [hT 0], rg [hE 1 (I x3)]] (by kernel_rfl) (P2 ((decide (t6 < t5)) = true) (decide_eq_true h1) <| P1 h2 <| P1 (int_lt_of_at h2 hx3) <| P1 (at_map I hx3) <| P0) <|
      eIf H (fun h5 H =>
        eBind H fun r6 hr6 H =>
        gN [rg [hC 4 true [] (Ri_MustStop r4) [], hT 7]] (by kernel_rfl) (P1 (ci_MustStop hr4) <| P2 (r4.2 = true) (h5) <| P0) <|
        eIf H (fun h7 H =>
          gN [rg [hC 5 true [] (Ri_InZone r6) [], hT 8]] (by kernel_rfl) (P1 (ci_InZone hr6) <| P2 (r6.2 = true) (h7) <| P0) <|
          eIf H (fun h8 H =>
            eN H <| gE func4 [rg [hT 9], r0] (by kernel_rfl) (P2 ((!(r4.1 == r6.1)) = true) (h8) <| P0))
          (fun h8 H =>
            eN H fun r hn => gO [rg [hF 9], r0, .canon [0, 1, 2, 3] [5, 6, 7, 8, 9, 25, 26, 27, 28, 154, 155, 156]] (by kernel_rfl) (P2 ((!(r4.1 == r6.1)) = false) (eqF h8) <| P0) hn))
        (fun h7 H =>
          eN H <| gE func4 [rg [hC 5 true [] (Ri_InZone r6) [], hF 8], r0, r0] (by kernel_rfl) (P1 (ci_InZone hr6) <| P2 (r6.2 = false) (eqF h7) <| P0)))
      (fun h5 H =>
        eBind H fun r6 hr6 H =>
        eN H <| gE func4 [rg [hC 4 true [] (Ri_MustStop r4) [], hF 7], rg [hC 5 true [] (Ri_InZone r6) []], r0, r0] (by kernel_rfl) (P1 (ci_MustStop hr4) <| P2 (r4.2 = false) (eqF h5) <| P1 (ci_InZone hr6) <| P0)))
    (fun h1 H =>
      eN H <| gE func4 [rg [hF 0], r0] (by kernel_rfl) (P2 ((decide (t6 < t5)) = false) (decide_eq_false h1) <| P0))
  | .h3 t0 t1 t2 false true t5 t6 b7 b8 l9 l10, o, H =>
    eIf H (fun h1 H =>
      eCk H fun h2 H =>
      eBind H fun x3 hx3 H =>
      eBind H fun r4 hr4 H =>
      gN [rg [hT 0], rg [hE 1 (I x3)]] (by kernel_rfl) (P2 ((decide (t6 < t5)) = true) (decide_eq_true h1) <| P1 h2 <| P1 (int_lt_of_at h2 hx3) <| P1 (at_map I hx3) <| P0) <|
      eIf H (fun h5 H =>
        eBind H fun r6 hr6 H =>
        gN [rg [hC 4 true [] (Ri_MustStop r4) [], hT 7]] (by kernel_rfl) (P1 (ci_MustStop hr4) <| P2 (r4.2 = true) (h5) <| P0) <|
        eIf H (fun h7 H =>
          gN [rg [hC 5 true [] (Ri_InZone r6) [], hT 8]] (by kernel_rfl) (P1 (ci_InZone hr6) <| P2 (r6.2 = true) (h7) <| P0) <|
          eIf H (fun h8 H =>
            eN H <| gE func4 [rg [hT 9], r0] (by kernel_rfl) (P2 ((!(r4.1 == r6.1)) = true) (h8) <| P0))
          (fun h8 H =>
            eN H fun r hn => gO [rg [hF 9], r0, .canon [0, 1, 2, 3] [5, 6, 7, 8, 9, 25, 26, 27, 28, 154, 155, 156]] (by kernel_rfl) (P2 ((!(r4.1 == r6.1)) = false) (eqF h8) <| P0) hn))
        (fun h7 H =>
          eN H <| gE func4 [rg [hC 5 true [] (Ri_InZone r6) [], hF 8], r0, r0] (by kernel_rfl) (P1 (ci_InZone hr6) <| P2 (r6.2 = false) (eqF h7) <| P0)))
      (fun h5 H =>
        eBind H fun r6 hr6 H =>
        eN H <| gE func4 [rg [hC 4 true [] (Ri_MustStop r4) [], hF 7], rg [hC 5 true [] (Ri_InZone r6) []], r0, r0] (by kernel_rfl) (P1 (ci_MustStop hr4) <| P2 (r4.2 = false) (eqF h5) <| P1 (ci_InZone hr6) <| P0)))
    (fun h1 H =>
      eN H <| gE func4 [rg [hF 0], r0] (by kernel_rfl) (P2 ((decide (t6 < t5)) = false) (decide_eq_false h1) <| P0))
  | .h3 t0 t1 t2 false false t5 t6 b7 b8 l9 l10, o, H =>
    eIf H (fun h1 H =>
      eCk H fun h2 H =>
      eBind H fun x3 hx3 H =>
      eBind H fun r4 hr4 H =>
      gN [rg [hT 0], rg [hE 1 (I x3)]] (by kernel_rfl) (P2 ((decide (t6 < t5)) = true) (decide_eq_true h1) <| P1 h2 <| P1 (int_lt_of_at h2 hx3) <| P1 (at_map I hx3) <| P0) <|
      eIf H (fun h5 H =>
        eBind H fun r6 hr6 H =>
        gN [rg [hC 4 true [] (Ri_MustStop r4) [], hT 7]] (by kernel_rfl) (P1 (ci_MustStop hr4) <| P2 (r4.2 = true) (h5) <| P0) <|
        eIf H (fun h7 H =>
          gN [rg [hC 5 true [] (Ri_InZone r6) [], hT 8]] (by kernel_rfl) (P1 (ci_InZone hr6) <| P2 (r6.2 = true) (h7) <| P0) <|
          eIf H (fun h8 H =>
            eN H <| gE func4 [rg [hT 9], r0] (by kernel_rfl) (P2 ((!(r4.1 == r6.1)) = true) (h8) <| P0))
          (fun h8 H =>
            eN H fun r hn => gO [rg [hF 9], r0, .canon [0, 1, 2, 3] [5, 6, 7, 8, 9, 25, 26, 27, 28, 154, 155, 156]] (by kernel_rfl) (P2 ((!(r4.1 == r6.1)) = false) (eqF h8) <| P0) hn))
        (fun h7 H =>
          eN H <| gE func4 [rg [hC 5 true [] (Ri_InZone r6) [], hF 8], r0, r0] (by kernel_rfl) (P1 (ci_InZone hr6) <| P2 (r6.2 = false) (eqF h7) <| P0)))
      (fun h5 H =>
        eBind H fun r6 hr6 H =>
        eN H <| gE func4 [rg [hC 4 true [] (Ri_MustStop r4) [], hF 7], rg [hC 5 true [] (Ri_InZone r6) []], r0, r0] (by kernel_rfl) (P1 (ci_MustStop hr4) <| P2 (r4.2 = false) (eqF h5) <| P1 (ci_InZone hr6) <| P0)))
    (fun h1 H =>
      eN H <| gE func4 [rg [hF 0], r0] (by kernel_rfl) (P2 ((decide (t6 < t5)) = false) (decide_eq_false h1) <| P0))
theorem ww_FnZones : ∀ s r, loop Bw_FnZones s = some r → Wc X 4 0 (Kw_FnZones s) (Zw_FnZones s) (RB r) ((fun _ => []) r) := Nx.all nw_FnZones
theorem cw_FnZones {a0 : (List Int)} {a1 : (List Int)} {r : Bool} (H : Dw_FnZones a0 a1 = some r) : Ct X.P X.gl 4 [sl 1 (D.int .u8) a0, sl 1 (D.int .u8) a1] [] (RB r) [] :=
  Ct.of func4 (c := bdy f4) (by kernel_rfl) (by kernel_rfl) <|
  gS [r0] (by kernel_rfl) P0 <|
  eIf H (fun h1 H =>
    eW RB (fun _ => []) H <| gE func4 [rg [hT 5], r0] (by kernel_rfl) (P2 ((decide ((IntKind.wrap .i64 (((a0.length : Nat) : Int) + ((a1.length : Nat) : Int))) > 1048576)) = true) (decide_eq_true h1) <| P0))
  (fun h1 H =>
    eBind H fun r2 hr2 H =>
    eBind H fun r3 hr3 H =>
    eBind H fun r4 hr4 H =>
    eBind H fun r5 hr5 H =>
    eBind H fun r6 hr6 H =>
    gS [rg [hF 5], rg [hC 1 true [] (Rs_DrawZoneSources r2) []], rg [hC 4 true [] (Ri_ZoneSources r3) []], rg [hC 4 true [] (Rs_ZoneSources r4) []], rg [hC 1 true [] (Rs_DrawContestedHexes r5) []]] (by kernel_rfl) (P2 ((decide ((IntKind.wrap .i64 (((a0.length : Nat) : Int) + ((a1.length : Nat) : Int))) > 1048576)) = false) (decide_eq_false h1) <| P1 (cs_DrawZoneSources hr2) <| P1 (ci_ZoneSources hr3) <| P1 (cs_ZoneSources hr4) <| P1 (cs_DrawContestedHexes hr5) <| P0) <|
    eIf H (fun h7 H =>
      eBind H fun r8 hr8 H =>
      gS [rg [hC 2 false [] (Ri_ContestedHexes r6) [], hT 5], rg [hC 2 false [] (Rs_ContestedHexes r8) []]] (by kernel_rfl) (P2 (nfL (List.flatMap D.cells (Ri_ContestedHexes r6))) ⟨nfL_map nf_3 _, trivial, trivial⟩ <| P2 (nfG []) trivial <| P1 (ci_ContestedHexes hr6) <| P2 (r6.2 = true) (h7) <| P2 (nfL (List.flatMap D.cells (Rs_ContestedHexes r8))) ⟨nfL_map nf_3 _, trivial, trivial⟩ <| P2 (nfG []) trivial <| P1 (cs_ContestedHexes hr8) <| P0) <|
      eIf H (fun h9 H =>
        eW RB (fun _ => []) H <| gE func4 [rg [hT 2], r0] (by kernel_rfl) (P2 ((!(r3.2 == r4.2)) = true) (h9) <| P0))
      (fun h9 H =>
        eBind H fun r10 hr10 H =>
        eIf H (fun h11 H =>
          eIf H (fun h12 H =>
            eW RB (fun _ => []) H <| gE func4 [rg [hF 2, { i := 6, call := some { cl := false, auto := true, ins := [], res := (RB r10), G' := [] }, dec := some true }, hT 12], r0] (by kernel_rfl) (P2 ((!(r3.2 == r4.2)) = false) (eqF h9) <| P1 (cw_qInts hr10) <| P2 (r10 = true) (h11) <| P2 ((!(true == r8.2)) = true) (h12) <| P0))
          (fun h12 H =>
            eBind H fun r13 hr13 H =>
            eIf H (fun h14 H =>
              eBind H fun r15 hr15 H =>
              gS [rg [hF 2, { i := 6, call := some { cl := false, auto := true, ins := [], res := (RB r10), G' := [] }, dec := some true }, hF 12, { i := 17, call := some { cl := false, auto := true, ins := [], res := (RB r13), G' := [] }, dec := some true }], r0] (by kernel_rfl) (P2 ((!(r3.2 == r4.2)) = false) (eqF h9) <| P1 (cw_qInts hr10) <| P2 (r10 = true) (h11) <| P2 ((!(true == r8.2)) = false) (eqF h12) <| P1 (cw_qInts hr13) <| P2 (r13 = true) (h14) <| P0) <|
              eIf H (fun h16 H =>
                eBind H fun r17 hr17 H =>
                gS [rg [hC 2 false [] (Ri_ZoneHexes r15) [], hT 5]] (by kernel_rfl) (P2 (nfL (List.flatMap D.cells (Ri_ZoneHexes r15))) ⟨nfL_map nf_3 _, trivial, trivial⟩ <| P2 (nfG []) trivial <| P1 (ci_ZoneHexes hr15) <| P2 (r15.2 = true) (h16) <| P0) <|
                eIf H (fun h18 H =>
                  gO [rg [hC 2 false [] (Ri_ZoneHexes r17) [], hT 5], r0, r0, .canon [0, 1, 2, 23, 24, 21] [5, 6, 7, 8, 9, 10, 19, 21, 120, 121, 122]] (by kernel_rfl) (P2 (nfL (List.flatMap D.cells (Ri_ZoneHexes r17))) ⟨nfL_map nf_3 _, trivial, trivial⟩ <| P2 (nfG []) trivial <| P1 (ci_ZoneHexes hr17) <| P2 (r17.2 = true) (h18) <| P0) (ww_FnZones _ _ H))
                (fun h18 H =>
                  eW RB (fun _ => []) H <| gE func4 [rg [hC 2 false [] (Ri_ZoneHexes r17) [], hF 5], r0, r0] (by kernel_rfl) (P2 (nfL (List.flatMap D.cells (Ri_ZoneHexes r17))) ⟨nfL_map nf_3 _, trivial, trivial⟩ <| P2 (nfG []) trivial <| P1 (ci_ZoneHexes hr17) <| P2 (r17.2 = false) (eqF h18) <| P0)))
              (fun h16 H =>
                eBind H fun r17 hr17 H =>
                eW RB (fun _ => []) H <| gE func4 [rg [hC 2 false [] (Ri_ZoneHexes r15) [], hF 5], rg [hC 2 false [] (Ri_ZoneHexes r17) []], r0, r0] (by kernel_rfl) (P2 (nfL (List.flatMap D.cells (Ri_ZoneHexes r15))) ⟨nfL_map nf_3 _, trivial, trivial⟩ <| P2 (nfG []) trivial <| P1 (ci_ZoneHexes hr15) <| P2 (r15.2 = false) (eqF h16) <| P2 (nfL (List.flatMap D.cells (Ri_ZoneHexes r17))) ⟨nfL_map nf_3 _, trivial, trivial⟩ <| P2 (nfG []) trivial <| P1 (ci_ZoneHexes hr17) <| P0)))
            (fun h14 H =>
              eW RB (fun _ => []) H <| gE func4 [rg [hF 2, { i := 6, call := some { cl := false, auto := true, ins := [], res := (RB r10), G' := [] }, dec := some true }, hF 12, { i := 17, call := some { cl := false, auto := true, ins := [], res := (RB r13), G' := [] }, dec := some false }], r0] (by kernel_rfl) (P2 ((!(r3.2 == r4.2)) = false) (eqF h9) <| P1 (cw_qInts hr10) <| P2 (r10 = true) (h11) <| P2 ((!(true == r8.2)) = false) (eqF h12) <| P1 (cw_qInts hr13) <| P2 (r13 = false) (eqF h14) <| P0))))
        (fun h11 H =>
          eW RB (fun _ => []) H <| gE func4 [rg [hF 2, { i := 6, call := some { cl := false, auto := true, ins := [], res := (RB r10), G' := [] }, dec := some false }], r0] (by kernel_rfl) (P2 ((!(r3.2 == r4.2)) = false) (eqF h9) <| P1 (cw_qInts hr10) <| P2 (r10 = false) (eqF h11) <| P0))))
    (fun h7 H =>
      eBind H fun r8 hr8 H =>
      gS [rg [hC 2 false [] (Ri_ContestedHexes r6) [], hF 5], rg [hC 2 false [] (Rs_ContestedHexes r8) []]] (by kernel_rfl) (P2 (nfL (List.flatMap D.cells (Ri_ContestedHexes r6))) ⟨nfL_map nf_3 _, trivial, trivial⟩ <| P2 (nfG []) trivial <| P1 (ci_ContestedHexes hr6) <| P2 (r6.2 = false) (eqF h7) <| P2 (nfL (List.flatMap D.cells (Rs_ContestedHexes r8))) ⟨nfL_map nf_3 _, trivial, trivial⟩ <| P2 (nfG []) trivial <| P1 (cs_ContestedHexes hr8) <| P0) <|
      eIf H (fun h9 H =>
        eW RB (fun _ => []) H <| gE func4 [rg [hT 2], r0] (by kernel_rfl) (P2 ((!(r3.2 == r4.2)) = true) (h9) <| P0))
      (fun h9 H =>
        eBind H fun r10 hr10 H =>
        eIf H (fun h11 H =>
          eIf H (fun h12 H =>
            eW RB (fun _ => []) H <| gE func4 [rg [hF 2, { i := 6, call := some { cl := false, auto := true, ins := [], res := (RB r10), G' := [] }, dec := some true }, hT 12], r0] (by kernel_rfl) (P2 ((!(r3.2 == r4.2)) = false) (eqF h9) <| P1 (cw_qInts hr10) <| P2 (r10 = true) (h11) <| P2 ((!(false == r8.2)) = true) (h12) <| P0))
          (fun h12 H =>
            eBind H fun r13 hr13 H =>
            eIf H (fun h14 H =>
              gO [rg [hF 2, { i := 6, call := some { cl := false, auto := true, ins := [], res := (RB r10), G' := [] }, dec := some true }, hF 12, { i := 17, call := some { cl := false, auto := true, ins := [], res := (RB r13), G' := [] }, dec := some true }], r0, .canon [0, 1, 2] [5, 6, 7, 8, 9, 10]] (by kernel_rfl) (P2 ((!(r3.2 == r4.2)) = false) (eqF h9) <| P1 (cw_qInts hr10) <| P2 (r10 = true) (h11) <| P2 ((!(false == r8.2)) = false) (eqF h12) <| P1 (cw_qInts hr13) <| P2 (r13 = true) (h14) <| P0) (ww_FnZones _ _ H))
            (fun h14 H =>
              eW RB (fun _ => []) H <| gE func4 [rg [hF 2, { i := 6, call := some { cl := false, auto := true, ins := [], res := (RB r10), G' := [] }, dec := some true }, hF 12, { i := 17, call := some { cl := false, auto := true, ins := [], res := (RB r13), G' := [] }, dec := some false }], r0] (by kernel_rfl) (P2 ((!(r3.2 == r4.2)) = false) (eqF h9) <| P1 (cw_qInts hr10) <| P2 (r10 = true) (h11) <| P2 ((!(false == r8.2)) = false) (eqF h12) <| P1 (cw_qInts hr13) <| P2 (r13 = false) (eqF h14) <| P0))))
        (fun h11 H =>
          eW RB (fun _ => []) H <| gE func4 [rg [hF 2, { i := 6, call := some { cl := false, auto := true, ins := [], res := (RB r10), G' := [] }, dec := some false }], r0] (by kernel_rfl) (P2 ((!(r3.2 == r4.2)) = false) (eqF h9) <| P1 (cw_qInts hr10) <| P2 (r10 = false) (eqF h11) <| P0)))))
end Go.Proofs.YtpggeanoohlmjaaGreatDoor.Ab
