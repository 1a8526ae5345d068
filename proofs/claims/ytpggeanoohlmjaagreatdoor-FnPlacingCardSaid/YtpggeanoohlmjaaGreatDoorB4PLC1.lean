/- Part of the proof of FnPlacingCard: no condition of its own. -/
import Derived.Test.YtpggeanoohlmjaaGreatDoorB4PLC
set_option linter.unusedVariables false
set_option linter.unusedSimpArgs false
open Go Go.Proofs Go.Proofs.Tryz
namespace Go.Proofs.YtpggeanoohlmjaaGreatDoor.Ab
/-! loop example/g00886/impl IsMap -/
noncomputable def Ki_IsMap : Si_IsMap → List Item
  | .h1 .. => nav 300 3 [false] [.code (bdy f162)]
  | .h2 .. => nav 300 5 [false, false] [.code (bdy f162)]
  | .h3 .. => nav 300 9 [false, false, true, false] [.code (bdy f162)]
def Zi_IsMap : Si_IsMap → St
  | .h1 t0 t1 t2 b3 => ⟨sts 66 [(1, .ptr 0 5 0 0), (31, sl 1 I t0), (32, I t1), (33, I t2)], [some ⟨false, true, 5, 1, [.agg [I b3.Width, I b3.Height, sl 1 I b3.Terrain, sl 1 I b3.Rivers, sl 1 I b3.Roads]]⟩]⟩
  | .h2 t0 t1 b2 l3 => ⟨sts 66 [(1, .ptr 0 5 0 0), (45, .ref 1 1 none), (46, I t0), (47, I t1)], [some ⟨false, true, 5, 1, [.agg [I b2.Width, I b2.Height, sl 1 I b2.Terrain, sl 1 I b2.Rivers, sl 1 I b2.Roads]]⟩, some ⟨false, false, 1, l3.length, List.map (sl 1 I) l3⟩]⟩
  | .h3 t0 t1 t2 t3 t4 b5 l6 => ⟨sts 66 [(1, .ptr 0 5 0 0), (45, .ref 1 1 none), (46, I t0), (47, I t1), (54, sl 1 I t2), (55, I t3), (56, I t4)], [some ⟨false, true, 5, 1, [.agg [I b5.Width, I b5.Height, sl 1 I b5.Terrain, sl 1 I b5.Rivers, sl 1 I b5.Roads]]⟩, some ⟨false, false, 1, l6.length, List.map (sl 1 I) l6⟩]⟩
abbrev Qi_IsMap := Nx X 162 0 Ki_IsMap Zi_IsMap RB (fun _ => [])
theorem ni_IsMap : ∀ s o, Bi_IsMap s = some o → Qi_IsMap (Ki_IsMap s) (Zi_IsMap s) o
  | .h1 t0 t1 t2 b3, o, H =>
    eIf H (fun h1 H =>
      eCk H fun h2 H =>
      eBind H fun x3 hx3 H =>
      eBind H fun r4 hr4 H =>
      gN [rg [hT 0], rg [hE 1 (I x3)]] (by kernel_rfl) (P2 ((decide (t2 < t1)) = true) (decide_eq_true h1) <| P1 h2 <| P1 (int_lt_of_at h2 hx3) <| P1 (at_map I hx3) <| P0) <|
      eIf H (fun h5 H =>
        eN H fun r hn => gO [rg [{ i := 1, call := some { cl := true, auto := true, ins := [], res := (RB r4), G' := [] }, dec := some true }], r0, .canon [0] [1, 31, 32, 33]] (by kernel_rfl) (P1 (ci_isIndex hr4) <| P2 (r4 = true) (h5) <| P0) hn)
      (fun h5 H =>
        eN H <| gE func162 [rg [{ i := 1, call := some { cl := true, auto := true, ins := [], res := (RB r4), G' := [] }, dec := some false }], r0] (by kernel_rfl) (P1 (ci_isIndex hr4) <| P2 (r4 = false) (eqF h5) <| P0)))
    (fun h1 H =>
      eN H fun r hn => gO [rg [hF 0], r0, .canon [0, 1] [1, 45, 46, 47]] (by kernel_rfl) (P2 ((decide (t2 < t1)) = false) (decide_eq_false h1) <| P0) hn)
  | .h2 t0 t1 b2 l3, o, H =>
    eIf H (fun h1 H =>
      eCk H fun h2 H =>
      eBind H fun x3 hx3 H =>
      eBind H fun r4 hr4 H =>
      gN [rg [hT 0], rg [hE 1 ((sl 1 I) x3)]] (by kernel_rfl) (P2 ((decide (t1 < t0)) = true) (decide_eq_true h1) <| P1 h2 <| P1 (int_lt_of_at h2 hx3) <| P1 (at_map (sl 1 I) hx3) <| P0) <|
      eIf H (fun h5 H =>
        eN H fun r hn => gO [rg [{ i := 1, call := some { cl := true, auto := true, ins := [], res := (RB r4), G' := [] }, dec := some true }], r0, .canon [0, 1] [1, 45, 46, 47, 54, 55, 56]] (by kernel_rfl) (P1 (ci_increasing hr4) <| P2 (r4 = true) (h5) <| P0) hn)
      (fun h5 H =>
        eN H <| gE func162 [rg [{ i := 1, call := some { cl := true, auto := true, ins := [], res := (RB r4), G' := [] }, dec := some false }], r0] (by kernel_rfl) (P1 (ci_increasing hr4) <| P2 (r4 = false) (eqF h5) <| P0)))
    (fun h1 H =>
      eN H <| gE func162 [rg [hF 0], r0] (by kernel_rfl) (P2 ((decide (t1 < t0)) = false) (decide_eq_false h1) <| P0))
  | .h3 t0 t1 t2 t3 t4 b5 l6, o, H =>
    eIf H (fun h1 H =>
      eCk H fun h2 H =>
      eBind H fun x3 hx3 H =>
      eBind H fun r4 hr4 H =>
      gN [rg [hT 0], rg [hE 1 (I x3)]] (by kernel_rfl) (P2 ((decide (t4 < t3)) = true) (decide_eq_true h1) <| P1 h2 <| P1 (int_lt_of_at h2 hx3) <| P1 (at_map I hx3) <| P0) <|
      eIf H (fun h5 H =>
        eN H fun r hn => gO [rg [{ i := 2, call := some { cl := true, auto := true, ins := [], res := (RB r4), G' := [] }, dec := some true }], r0, .canon [0, 1] [1, 45, 46, 47, 54, 55, 56]] (by kernel_rfl) (P1 (ci_isEdge hr4) <| P2 (r4 = true) (h5) <| P0) hn)
      (fun h5 H =>
        eN H <| gE func162 [rg [{ i := 2, call := some { cl := true, auto := true, ins := [], res := (RB r4), G' := [] }, dec := some false }], r0] (by kernel_rfl) (P1 (ci_isEdge hr4) <| P2 (r4 = false) (eqF h5) <| P0)))
    (fun h1 H =>
      eN H fun r hn => gO [rg [hF 0], r0, .canon [0, 1] [1, 45, 46, 47]] (by kernel_rfl) (P2 ((decide (t4 < t3)) = false) (decide_eq_false h1) <| P0) hn)
theorem wi_IsMap : ∀ s r, loop Bi_IsMap s = some r → Wc X 162 0 (Ki_IsMap s) (Zi_IsMap s) (RB r) ((fun _ => []) r) := Nx.all ni_IsMap
theorem ci_IsMap {a0 : Gi_Map} {r : Bool} (H : Di_IsMap a0 = some r) : Ct X.P X.gl 162 [.agg [I a0.Width, I a0.Height, sl 1 I a0.Terrain, sl 1 I a0.Rivers, sl 1 I a0.Roads]] [] (RB r) [] :=
  Ct.of func162 (c := bdy f162) (by kernel_rfl) (by kernel_rfl) <|
  eBind H fun r1 hr1 H =>
  gS [r0] (by kernel_rfl) P0 <|
  eIf H (fun h2 H =>
    eBind H fun r3 hr3 H =>
    eIf H (fun h4 H =>
      eIf H (fun h5 H =>
        gO [rg [{ i := 2, call := some { cl := true, auto := true, ins := [], res := (RB r1), G' := [] }, dec := some true }, { i := 7, call := some { cl := true, auto := true, ins := [], res := (RB r3), G' := [] }, dec := some true }, hF 19], r0, .canon [0] [1, 31, 32, 33]] (by kernel_rfl) (P1 (ci_inRange hr1) <| P2 (r1 = true) (h2) <| P1 (ci_inRange hr3) <| P2 (r3 = true) (h4) <| P2 (((((a0.Terrain.length : Nat) : Int) : Int) != (IntKind.wrap .i64 (a0.Width * a0.Height))) = false) (bneF h5) <| P0) (wi_IsMap _ _ H))
      (fun h5 H =>
        eW RB (fun _ => []) H <| gE func162 [rg [{ i := 2, call := some { cl := true, auto := true, ins := [], res := (RB r1), G' := [] }, dec := some true }, { i := 7, call := some { cl := true, auto := true, ins := [], res := (RB r3), G' := [] }, dec := some true }, hT 19], r0] (by kernel_rfl) (P1 (ci_inRange hr1) <| P2 (r1 = true) (h2) <| P1 (ci_inRange hr3) <| P2 (r3 = true) (h4) <| P2 (((((a0.Terrain.length : Nat) : Int) : Int) != (IntKind.wrap .i64 (a0.Width * a0.Height))) = true) (bneT h5) <| P0)))
    (fun h4 H =>
      eW RB (fun _ => []) H <| gE func162 [rg [{ i := 2, call := some { cl := true, auto := true, ins := [], res := (RB r1), G' := [] }, dec := some true }, { i := 7, call := some { cl := true, auto := true, ins := [], res := (RB r3), G' := [] }, dec := some false }], r0] (by kernel_rfl) (P1 (ci_inRange hr1) <| P2 (r1 = true) (h2) <| P1 (ci_inRange hr3) <| P2 (r3 = false) (eqF h4) <| P0)))
  (fun h2 H =>
    eW RB (fun _ => []) H <| gE func162 [rg [{ i := 2, call := some { cl := true, auto := true, ins := [], res := (RB r1), G' := [] }, dec := some false }], r0] (by kernel_rfl) (P1 (ci_inRange hr1) <| P2 (r1 = false) (eqF h2) <| P0))
/-! loop example/g00886/impl IsBoard 1 -/
theorem ci_IsBoard_1 {a0 : Int} {a1 : Gi_Board} {r : Bool} (H : Di_IsBoard_1 a0 a1 = some r) : Ct X.P X.gl 163 [I a0, .fptr 12 [.agg [sl 5 gi_Terrain a1.Rules.Terrains, sl 6 gi_Kind a1.Rules.Kinds, I a1.Rules.Stack, I a1.Rules.River, I a1.Rules.Road, I a1.Rules.Supply, I a1.Rules.Turns, I a1.Map.Width, I a1.Map.Height, sl 1 I a1.Map.Terrain, sl 1 I a1.Map.Rivers, sl 1 I a1.Map.Roads]] 0 0] [] (RB r) [] :=
  Ct.of func163 (c := bdy f163) (by kernel_rfl) (by kernel_rfl) <|
  eW RB (fun _ => []) H <| gE func163 [r0, r0] (by kernel_rfl) P0
/-! slices IndexFunc   int int  -/
noncomputable def Kslices_IndexFunc_int_i_IsBoard_1 : Sslices_IndexFunc_int_i_IsBoard_1 → List Item
  | .h1 .. => nav 300 2 [] [.code (bdy f169)]
def Zslices_IndexFunc_int_i_IsBoard_1 : Sslices_IndexFunc_int_i_IsBoard_1 → St
  | .h1 s0 f1 t2 t3 => ⟨sts 19 [(0, sl 1 I s0), (1, .fn 163 [.fptr 12 [.agg [sl 5 gi_Terrain f1.Rules.Terrains, sl 6 gi_Kind f1.Rules.Kinds, I f1.Rules.Stack, I f1.Rules.River, I f1.Rules.Road, I f1.Rules.Supply, I f1.Rules.Turns, I f1.Map.Width, I f1.Map.Height, sl 1 I f1.Map.Terrain, sl 1 I f1.Map.Rivers, sl 1 I f1.Map.Roads]] 0 0]), (7, I t2), (8, I t3)], []⟩
abbrev Qslices_IndexFunc_int_i_IsBoard_1 := Nx X 169 0 Kslices_IndexFunc_int_i_IsBoard_1 Zslices_IndexFunc_int_i_IsBoard_1 RI (fun _ => [])
theorem nslices_IndexFunc_int_i_IsBoard_1 : ∀ s o, Bslices_IndexFunc_int_i_IsBoard_1 s = some o → Qslices_IndexFunc_int_i_IsBoard_1 (Kslices_IndexFunc_int_i_IsBoard_1 s) (Zslices_IndexFunc_int_i_IsBoard_1 s) o
  | .h1 s0 f1 t2 t3, o, H =>
    eIf H (fun h1 H =>
      eCk H fun h2 H =>
      eBind H fun x3 hx3 H =>
      eBind H fun r4 hr4 H =>
      gN [rg [hT 0], r0] (by kernel_rfl) (P2 ((decide (t3 < t2)) = true) (decide_eq_true h1) <| P0) <|
      eIf H (fun h5 H =>
        eN H <| gE func169 [rg [hE 4 (I x3), { i := 5, call := some { cl := true, auto := true, ins := [], res := (RB r4), G' := [] }, dec := some true }], r0] (by kernel_rfl) (P1 h2 <| P1 (int_lt_of_at h2 hx3) <| P1 (at_map I hx3) <| P1 (ci_IsBoard_1 hr4) <| P2 (r4 = true) (h5) <| P0))
      (fun h5 H =>
        eN H fun r hn => gO [rg [hE 4 (I x3), { i := 5, call := some { cl := true, auto := true, ins := [], res := (RB r4), G' := [] }, dec := some false }], r0, .canon [] [0, 1, 7, 8]] (by kernel_rfl) (P1 h2 <| P1 (int_lt_of_at h2 hx3) <| P1 (at_map I hx3) <| P1 (ci_IsBoard_1 hr4) <| P2 (r4 = false) (eqF h5) <| P0) hn))
    (fun h1 H =>
      eN H <| gE func169 [rg [hF 0], r0] (by kernel_rfl) (P2 ((decide (t3 < t2)) = false) (decide_eq_false h1) <| P0))
theorem wslices_IndexFunc_int_i_IsBoard_1 : ∀ s r, loop Bslices_IndexFunc_int_i_IsBoard_1 s = some r → Wc X 169 0 (Kslices_IndexFunc_int_i_IsBoard_1 s) (Zslices_IndexFunc_int_i_IsBoard_1 s) (RI r) ((fun _ => []) r) := Nx.all nslices_IndexFunc_int_i_IsBoard_1
theorem cslices_IndexFunc_int_i_IsBoard_1 {a0 : (List Int)} {a100 : Gi_Board} {r : Int} (H : Dslices_IndexFunc_int_i_IsBoard_1 a0 a100 = some r) : Ct X.P X.gl 169 [sl 1 I a0, .fn 163 [.fptr 12 [.agg [sl 5 gi_Terrain a100.Rules.Terrains, sl 6 gi_Kind a100.Rules.Kinds, I a100.Rules.Stack, I a100.Rules.River, I a100.Rules.Road, I a100.Rules.Supply, I a100.Rules.Turns, I a100.Map.Width, I a100.Map.Height, sl 1 I a100.Map.Terrain, sl 1 I a100.Map.Rivers, sl 1 I a100.Map.Roads]] 0 0]] [] (RI r) [] :=
  Ct.of func169 (c := bdy f169) (by kernel_rfl) (by kernel_rfl) <|
  gO [r0, r0, .canon [] [0, 1, 7, 8]] (by kernel_rfl) P0 (wslices_IndexFunc_int_i_IsBoard_1 _ _ H)
/-! slices ContainsFunc   int int  -/
theorem cslices_ContainsFunc_int_i_IsBoard_1 {a0 : (List Int)} {a100 : Gi_Board} {r : Bool} (H : Dslices_ContainsFunc_int_i_IsBoard_1 a0 a100 = some r) : Ct X.P X.gl 133 [sl 1 I a0, .fn 163 [.fptr 12 [.agg [sl 5 gi_Terrain a100.Rules.Terrains, sl 6 gi_Kind a100.Rules.Kinds, I a100.Rules.Stack, I a100.Rules.River, I a100.Rules.Road, I a100.Rules.Supply, I a100.Rules.Turns, I a100.Map.Width, I a100.Map.Height, sl 1 I a100.Map.Terrain, sl 1 I a100.Map.Rivers, sl 1 I a100.Map.Roads]] 0 0]] [] (RB r) [] :=
  Ct.of func133 (c := bdy f133) (by kernel_rfl) (by kernel_rfl) <|
  eBind H fun r1 hr1 H =>
  eW RB (fun _ => []) H <| gE func133 [r0, rg [hC 2 true [] (RI r1) []]] (by kernel_rfl) (P1 (cslices_IndexFunc_int_i_IsBoard_1 hr1) <| P0)
/-! loop example/g00886/impl IsBoard -/
theorem ci_IsBoard {a0 : Gi_Board} {r : Bool} (H : Di_IsBoard a0 = some r) : Ct X.P X.gl 123 [.agg [sl 5 gi_Terrain a0.Rules.Terrains, sl 6 gi_Kind a0.Rules.Kinds, I a0.Rules.Stack, I a0.Rules.River, I a0.Rules.Road, I a0.Rules.Supply, I a0.Rules.Turns, I a0.Map.Width, I a0.Map.Height, sl 1 I a0.Map.Terrain, sl 1 I a0.Map.Rivers, sl 1 I a0.Map.Roads]] [] (RB r) [] :=
  Ct.of func123 (c := bdy f123) (by kernel_rfl) (by kernel_rfl) <|
  eBind H fun r1 hr1 H =>
  gS [r0] (by kernel_rfl) P0 <|
  eIf H (fun h2 H =>
    eBind H fun r3 hr3 H =>
    eIf H (fun h4 H =>
      eBind H fun r5 hr5 H =>
      eW RB (fun _ => []) H <| gE func123 [rg [{ i := 2, call := some { cl := true, auto := true, ins := [], res := (RB r1), G' := [] }, dec := some true }, { i := 7, call := some { cl := true, auto := true, ins := [], res := (RB r3), G' := [] }, dec := some true }], rg [hC 4 false [] (RB r5) []]] (by kernel_rfl) (P1 (ci_IsRules hr1) <| P2 (r1 = true) (h2) <| P1 (ci_IsMap hr3) <| P2 (r3 = true) (h4) <| P1 (cslices_ContainsFunc_int_i_IsBoard_1 hr5) <| P0))
    (fun h4 H =>
      eW RB (fun _ => []) H <| gE func123 [rg [{ i := 2, call := some { cl := true, auto := true, ins := [], res := (RB r1), G' := [] }, dec := some true }, { i := 7, call := some { cl := true, auto := true, ins := [], res := (RB r3), G' := [] }, dec := some false }], r0] (by kernel_rfl) (P1 (ci_IsRules hr1) <| P2 (r1 = true) (h2) <| P1 (ci_IsMap hr3) <| P2 (r3 = false) (eqF h4) <| P0)))
  (fun h2 H =>
    eW RB (fun _ => []) H <| gE func123 [rg [{ i := 2, call := some { cl := true, auto := true, ins := [], res := (RB r1), G' := [] }, dec := some false }], r0] (by kernel_rfl) (P1 (ci_IsRules hr1) <| P2 (r1 = false) (eqF h2) <| P0))
/-! loop example/g00886/impl sizeOf -/
theorem ci_sizeOf {a0 : Gi_Board} {r : Int} (H : Di_sizeOf a0 = some r) : Ct X.P X.gl 96 [.agg [sl 5 gi_Terrain a0.Rules.Terrains, sl 6 gi_Kind a0.Rules.Kinds, I a0.Rules.Stack, I a0.Rules.River, I a0.Rules.Road, I a0.Rules.Supply, I a0.Rules.Turns, I a0.Map.Width, I a0.Map.Height, sl 1 I a0.Map.Terrain, sl 1 I a0.Map.Rivers, sl 1 I a0.Map.Roads]] [] (RI r) [] :=
  Ct.of func96 (c := bdy f96) (by kernel_rfl) (by kernel_rfl) <|
  eW RI (fun _ => []) H <| gE func96 [r0, r0] (by kernel_rfl) P0
/-! loop example/g00886/impl isSide -/
theorem ci_isSide {a0 : Int} {r : Bool} (H : Di_isSide a0 = some r) : Ct X.P X.gl 81 [I a0] [] (RB r) [] :=
  Ct.of func81 (c := bdy f81) (by kernel_rfl) (by kernel_rfl) <|
  eBind H fun r1 hr1 H =>
  eW RB (fun _ => []) H <| gE func81 [r0, rg [hC 1 true [] (RB r1) []]] (by kernel_rfl) (P1 (ci_inRange hr1) <| P0)
/-! loop example/g00886/impl terrainAt -/
def Ri_terrainAt (r : Gi_Terrain) : List D := [.agg [.str r.Name, sl 1 I r.Cost, I r.Shift, I r.Height, .bool r.Blocks]]
theorem ci_terrainAt {a0 : Gi_Board} {a1 : Int} {r : Gi_Terrain} (H : Di_terrainAt a0 a1 = some r) : Ct X.P X.gl 176 [.agg [sl 5 gi_Terrain a0.Rules.Terrains, sl 6 gi_Kind a0.Rules.Kinds, I a0.Rules.Stack, I a0.Rules.River, I a0.Rules.Road, I a0.Rules.Supply, I a0.Rules.Turns, I a0.Map.Width, I a0.Map.Height, sl 1 I a0.Map.Terrain, sl 1 I a0.Map.Rivers, sl 1 I a0.Map.Roads], I a1] [] (Ri_terrainAt r) [] :=
  Ct.of func176 (c := bdy f176) (by kernel_rfl) (by kernel_rfl) <|
  eCk H fun h1 H =>
  eBind H fun x2 hx2 H =>
  eCk H fun h3 H =>
  eBind H fun x4 hx4 H =>
  eW Ri_terrainAt (fun _ => []) H <| gE func176 [r0, rg [hE 8 (I x2), hE 10 (gi_Terrain x4)]] (by kernel_rfl) (P1 h1 <| P1 (int_lt_of_at h1 hx2) <| P1 (at_map I hx2) <| P1 h3 <| P1 (int_lt_of_at h3 hx4) <| P1 (at_map gi_Terrain hx4) <| P0)
/-! loop example/g00886/impl enterCost -/
theorem ci_enterCost {a0 : Gi_Board} {a1 : Int} {a2 : Int} {r : Int} (H : Di_enterCost a0 a1 a2 = some r) : Ct X.P X.gl 139 [.agg [sl 5 gi_Terrain a0.Rules.Terrains, sl 6 gi_Kind a0.Rules.Kinds, I a0.Rules.Stack, I a0.Rules.River, I a0.Rules.Road, I a0.Rules.Supply, I a0.Rules.Turns, I a0.Map.Width, I a0.Map.Height, sl 1 I a0.Map.Terrain, sl 1 I a0.Map.Rivers, sl 1 I a0.Map.Roads], I a1, I a2] [] (RI r) [] :=
  Ct.of func139 (c := bdy f139) (by kernel_rfl) (by kernel_rfl) <|
  eBind H fun r1 hr1 H =>
  eCk H fun h2 H =>
  eBind H fun x3 hx3 H =>
  eW RI (fun _ => []) H <| gE func139 [r0, rg [hC 2 true [] (Ri_terrainAt r1) [], hE 6 (I x3)]] (by kernel_rfl) (P1 (ci_terrainAt hr1) <| P1 h2 <| P1 (int_lt_of_at h2 hx3) <| P1 (at_map I hx3) <| P0)
/-! loop example/g00886/impl goodUnit -/
theorem ci_goodUnit {a0 : Gi_Board} {a1 : Gi_Unit} {r : Bool} (H : Di_goodUnit a0 a1 = some r) : Ct X.P X.gl 159 [.agg [sl 5 gi_Terrain a0.Rules.Terrains, sl 6 gi_Kind a0.Rules.Kinds, I a0.Rules.Stack, I a0.Rules.River, I a0.Rules.Road, I a0.Rules.Supply, I a0.Rules.Turns, I a0.Map.Width, I a0.Map.Height, sl 1 I a0.Map.Terrain, sl 1 I a0.Map.Rivers, sl 1 I a0.Map.Roads], .agg [I a1.Side, I a1.Kind, I a1.At, I a1.Steps]] [] (RB r) [] :=
  Ct.of func159 (c := bdy f159) (by kernel_rfl) (by kernel_rfl) <|
  eBind H fun r1 hr1 H =>
  gS [r0] (by kernel_rfl) P0 <|
  eIf H (fun h2 H =>
    eBind H fun r3 hr3 H =>
    eIf H (fun h4 H =>
      eCk H fun h5 H =>
      eBind H fun x6 hx6 H =>
      eBind H fun r7 hr7 H =>
      eIf H (fun h8 H =>
        gS [rg [{ i := 2, call := some { cl := true, auto := true, ins := [], res := (RB r1), G' := [] }, dec := some true }, { i := 11, call := some { cl := true, auto := true, ins := [], res := (RB r3), G' := [] }, dec := some true }, hE 24 (gi_Kind x6), { i := 25, call := some { cl := true, auto := true, ins := [], res := (RB r7), G' := [] }, dec := some true }]] (by kernel_rfl) (P1 (ci_isSide hr1) <| P2 (r1 = true) (h2) <| P1 (ci_isIndex hr3) <| P2 (r3 = true) (h4) <| P1 h5 <| P1 (int_lt_of_at h5 hx6) <| P1 (at_map gi_Kind hx6) <| P1 (ci_inRange hr7) <| P2 (r7 = true) (h8) <| P0) <|
        eIf H (fun h9 H =>
          eW RB (fun _ => []) H <| gE func159 [rg [hT 2], r0] (by kernel_rfl) (P2 (((a1.At : Int) == (-1)) = true) (beqT h9) <| P0))
        (fun h9 H =>
          gS [rg [hF 2]] (by kernel_rfl) (P2 (((a1.At : Int) == (-1)) = false) (beqF h9) <| P0) <|
          eIf H (fun h10 H =>
            eBind H fun r11 hr11 H =>
            eBind H fun r12 hr12 H =>
            eIf H (fun h13 H =>
              eBind H fun r14 hr14 H =>
              eW RB (fun _ => []) H <| gE func159 [rg [hT 2, hC 7 true [] (RI r11) [], { i := 8, call := some { cl := true, auto := true, ins := [], res := (RB r12), G' := [] }, dec := some true }, hC 16 true [] (RI r14) []]] (by kernel_rfl) (P2 ((decide (a1.Steps > 0)) = true) (decide_eq_true h10) <| P1 (ci_sizeOf hr11) <| P1 (ci_isIndex hr12) <| P2 (r12 = true) (h13) <| P1 (ci_enterCost hr14) <| P0))
            (fun h13 H =>
              eW RB (fun _ => []) H <| gE func159 [rg [hT 2, hC 7 true [] (RI r11) [], { i := 8, call := some { cl := true, auto := true, ins := [], res := (RB r12), G' := [] }, dec := some false }]] (by kernel_rfl) (P2 ((decide (a1.Steps > 0)) = true) (decide_eq_true h10) <| P1 (ci_sizeOf hr11) <| P1 (ci_isIndex hr12) <| P2 (r12 = false) (eqF h13) <| P0)))
          (fun h10 H =>
            eW RB (fun _ => []) H <| gE func159 [rg [hF 2]] (by kernel_rfl) (P2 ((decide (a1.Steps > 0)) = false) (decide_eq_false h10) <| P0))))
      (fun h8 H =>
        eW RB (fun _ => []) H <| gE func159 [rg [{ i := 2, call := some { cl := true, auto := true, ins := [], res := (RB r1), G' := [] }, dec := some true }, { i := 11, call := some { cl := true, auto := true, ins := [], res := (RB r3), G' := [] }, dec := some true }, hE 24 (gi_Kind x6), { i := 25, call := some { cl := true, auto := true, ins := [], res := (RB r7), G' := [] }, dec := some false }], r0] (by kernel_rfl) (P1 (ci_isSide hr1) <| P2 (r1 = true) (h2) <| P1 (ci_isIndex hr3) <| P2 (r3 = true) (h4) <| P1 h5 <| P1 (int_lt_of_at h5 hx6) <| P1 (at_map gi_Kind hx6) <| P1 (ci_inRange hr7) <| P2 (r7 = false) (eqF h8) <| P0)))
    (fun h4 H =>
      eW RB (fun _ => []) H <| gE func159 [rg [{ i := 2, call := some { cl := true, auto := true, ins := [], res := (RB r1), G' := [] }, dec := some true }, { i := 11, call := some { cl := true, auto := true, ins := [], res := (RB r3), G' := [] }, dec := some false }], r0] (by kernel_rfl) (P1 (ci_isSide hr1) <| P2 (r1 = true) (h2) <| P1 (ci_isIndex hr3) <| P2 (r3 = false) (eqF h4) <| P0)))
  (fun h2 H =>
    eW RB (fun _ => []) H <| gE func159 [rg [{ i := 2, call := some { cl := true, auto := true, ins := [], res := (RB r1), G' := [] }, dec := some false }], r0] (by kernel_rfl) (P1 (ci_isSide hr1) <| P2 (r1 = false) (eqF h2) <| P0))
/-! loop example/g00886/impl goodState -/
noncomputable def Ki_goodState : Si_goodState → List Item
  | .h1 .. => nav 300 4 [false] [.code (bdy f111)]
def Zi_goodState : Si_goodState → St
  | .h1 t0 t1 t2 b3 l4 => ⟨sts 80 [(2, .ptr 0 12 0 0), (5, .ref 1 2 none), (31, sl 4 gi_Unit t0), (32, I t1), (33, I t2)], [some ⟨false, true, 12, 1, [.agg [sl 5 gi_Terrain b3.Rules.Terrains, sl 6 gi_Kind b3.Rules.Kinds, I b3.Rules.Stack, I b3.Rules.River, I b3.Rules.Road, I b3.Rules.Supply, I b3.Rules.Turns, I b3.Map.Width, I b3.Map.Height, sl 1 I b3.Map.Terrain, sl 1 I b3.Map.Rivers, sl 1 I b3.Map.Roads]]⟩, some ⟨false, false, 2, l4.length, List.map gA2I l4⟩]⟩
abbrev Qi_goodState := Nx X 111 0 Ki_goodState Zi_goodState RB (fun _ => [])
theorem ni_goodState : ∀ s o, Bi_goodState s = some o → Qi_goodState (Ki_goodState s) (Zi_goodState s) o
  | .h1 t0 t1 t2 b3 l4, o, H =>
    eIf H (fun h1 H =>
      eCk H fun h2 H =>
      eBind H fun x3 hx3 H =>
      eBind H fun r4 hr4 H =>
      gN [rg [hT 0], rg [hE 1 (gi_Unit x3)]] (by kernel_rfl) (P2 ((decide (t2 < t1)) = true) (decide_eq_true h1) <| P1 h2 <| P1 (int_lt_of_at h2 hx3) <| P1 (at_map gi_Unit hx3) <| P0) <|
      eIf H (fun h5 H =>
        gN [rg [{ i := 2, call := some { cl := true, auto := true, ins := [], res := (RB r4), G' := [] }, dec := some true }]] (by kernel_rfl) (P1 (ci_goodUnit hr4) <| P2 (r4 = true) (h5) <| P0) <|
        eIf H (fun h6 H =>
          eN H fun r hn => gO [rg [hT 2], r0, .canon [0, 1] [2, 5, 31, 32, 33]] (by kernel_rfl) (P2 ((decide (x3.At < 0)) = true) (decide_eq_true h6) <| P0) hn)
        (fun h6 H =>
          eCk H fun h7 H =>
          eBind H fun x8 hx8 H =>
          gN [rg [hF 2]] (by kernel_rfl) (P2 ((decide (x3.At < 0)) = false) (decide_eq_false h6) <| P0) <|
          eIf H (fun h9 H =>
            eCk H fun h10 H =>
            eBind H fun x11 hx11 H =>
            eCk H fun h12 H =>
            eBind H fun x13 hx13 H =>
            gN [rg [{ i := 6, n := 0 }, hE 7 (gA2I x8), { i := 10, n := 0 }, hA 11 ((List.set l4 (Int.toNat x3.At) (GA2I.mk (IntKind.wrap .i64 (x8.c0 + 1)) x11.c1)).length) (List.map gA2I (List.set l4 (Int.toNat x3.At) (GA2I.mk (IntKind.wrap .i64 (x8.c0 + 1)) x11.c1)))]] (by kernel_rfl) (P1 h7 <| P1 (int_lt_of_at h7 hx8) <| P1 h9 <| P1 (at_map gA2I hx8) <| P1 h10 <| P1 (int_lt_of_at h10 hx11) <| P1 h9 <| P1 (lt_of_at hx11) <| P2 (setCells (List.map gA2I l4) (Int.toNat x3.At) 0 [I (IntKind.wrap .i64 (x8.c0 + 1))] = List.map gA2I (List.set l4 (Int.toNat x3.At) (GA2I.mk (IntKind.wrap .i64 (x8.c0 + 1)) x11.c1))) (setCells_map hx11 rfl) <| P1 (setLen l4 (Int.toNat x3.At) (GA2I.mk (IntKind.wrap .i64 (x8.c0 + 1)) x11.c1)) <| P0) <|
            eIf H (fun h14 H =>
              eIf H (fun h15 H =>
                eN H <| gE func111 [rg [{ i := 7, n := 0 }, hE 8 (gA2I x13), hT 9], r0] (by kernel_rfl) (P1 h12 <| P1 (int_lt_of_at h12 hx13) <| P1 h14 <| P1 (at_map gA2I hx13) <| P2 ((decide (x13.c0 > 0)) = true) (decide_eq_true h15) <| P0))
              (fun h15 H =>
                eCk H fun h16 H =>
                eBind H fun x17 hx17 H =>
                eIf H (fun h18 H =>
                  eN H <| gE func111 [rg [{ i := 7, n := 0 }, hE 8 (gA2I x13), hF 9, { i := 17, n := 0 }, hE 18 (gA2I x17), hT 22], r0] (by kernel_rfl) (P1 h12 <| P1 (int_lt_of_at h12 hx13) <| P1 h14 <| P1 (at_map gA2I hx13) <| P2 ((decide (x13.c0 > 0)) = false) (decide_eq_false h15) <| P1 h16 <| P1 (int_lt_of_at h16 hx17) <| P1 h9 <| P1 (at_map gA2I hx17) <| P2 ((decide (x17.c0 > b3.Rules.Stack)) = true) (decide_eq_true h18) <| P0))
                (fun h18 H =>
                  eN H fun r hn => gO [rg [{ i := 7, n := 0 }, hE 8 (gA2I x13), hF 9, { i := 17, n := 0 }, hE 18 (gA2I x17), hF 22], r0, .canon [0, 1] [2, 5, 31, 32, 33]] (by kernel_rfl) (P1 h12 <| P1 (int_lt_of_at h12 hx13) <| P1 h14 <| P1 (at_map gA2I hx13) <| P2 ((decide (x13.c0 > 0)) = false) (decide_eq_false h15) <| P1 h16 <| P1 (int_lt_of_at h16 hx17) <| P1 h9 <| P1 (at_map gA2I hx17) <| P2 ((decide (x17.c0 > b3.Rules.Stack)) = false) (decide_eq_false h18) <| P0) hn)))
            (fun h14 H =>
              eCk H fun h15 H =>
              eIf H (fun h16 H =>
                eN H <| gE func111 [rg [{ i := 7, n := 1 }, hE 8 (gA2I x13), hT 9], r0] (by kernel_rfl) (P1 h12 <| P1 (int_lt_of_at h12 hx13) <| P1 h15 <| P1 (at_map gA2I hx13) <| P2 ((decide (x13.c1 > 0)) = true) (decide_eq_true h16) <| P0))
              (fun h16 H =>
                eCk H fun h17 H =>
                eBind H fun x18 hx18 H =>
                eIf H (fun h19 H =>
                  eN H <| gE func111 [rg [{ i := 7, n := 1 }, hE 8 (gA2I x13), hF 9, { i := 17, n := 0 }, hE 18 (gA2I x18), hT 22], r0] (by kernel_rfl) (P1 h12 <| P1 (int_lt_of_at h12 hx13) <| P1 h15 <| P1 (at_map gA2I hx13) <| P2 ((decide (x13.c1 > 0)) = false) (decide_eq_false h16) <| P1 h17 <| P1 (int_lt_of_at h17 hx18) <| P1 h9 <| P1 (at_map gA2I hx18) <| P2 ((decide (x18.c0 > b3.Rules.Stack)) = true) (decide_eq_true h19) <| P0))
                (fun h19 H =>
                  eN H fun r hn => gO [rg [{ i := 7, n := 1 }, hE 8 (gA2I x13), hF 9, { i := 17, n := 0 }, hE 18 (gA2I x18), hF 22], r0, .canon [0, 1] [2, 5, 31, 32, 33]] (by kernel_rfl) (P1 h12 <| P1 (int_lt_of_at h12 hx13) <| P1 h15 <| P1 (at_map gA2I hx13) <| P2 ((decide (x13.c1 > 0)) = false) (decide_eq_false h16) <| P1 h17 <| P1 (int_lt_of_at h17 hx18) <| P1 h9 <| P1 (at_map gA2I hx18) <| P2 ((decide (x18.c0 > b3.Rules.Stack)) = false) (decide_eq_false h19) <| P0) hn))))
          (fun h9 H =>
            eCk H fun h10 H =>
            eCk H fun h11 H =>
            eBind H fun x12 hx12 H =>
            eCk H fun h13 H =>
            eBind H fun x14 hx14 H =>
            gN [rg [{ i := 6, n := 1 }, hE 7 (gA2I x8), { i := 10, n := 1 }, hA 11 ((List.set l4 (Int.toNat x3.At) (GA2I.mk x12.c0 (IntKind.wrap .i64 (x8.c1 + 1)))).length) (List.map gA2I (List.set l4 (Int.toNat x3.At) (GA2I.mk x12.c0 (IntKind.wrap .i64 (x8.c1 + 1)))))]] (by kernel_rfl) (P1 h7 <| P1 (int_lt_of_at h7 hx8) <| P1 h10 <| P1 (at_map gA2I hx8) <| P1 h11 <| P1 (int_lt_of_at h11 hx12) <| P1 h10 <| P1 (lt_of_at hx12) <| P2 (setCells (List.map gA2I l4) (Int.toNat x3.At) 1 [I (IntKind.wrap .i64 (x8.c1 + 1))] = List.map gA2I (List.set l4 (Int.toNat x3.At) (GA2I.mk x12.c0 (IntKind.wrap .i64 (x8.c1 + 1))))) (setCells_map hx12 rfl) <| P1 (setLen l4 (Int.toNat x3.At) (GA2I.mk x12.c0 (IntKind.wrap .i64 (x8.c1 + 1)))) <| P0) <|
            eIf H (fun h15 H =>
              eIf H (fun h16 H =>
                eN H <| gE func111 [rg [{ i := 7, n := 0 }, hE 8 (gA2I x14), hT 9], r0] (by kernel_rfl) (P1 h13 <| P1 (int_lt_of_at h13 hx14) <| P1 h15 <| P1 (at_map gA2I hx14) <| P2 ((decide (x14.c0 > 0)) = true) (decide_eq_true h16) <| P0))
              (fun h16 H =>
                eCk H fun h17 H =>
                eBind H fun x18 hx18 H =>
                eIf H (fun h19 H =>
                  eN H <| gE func111 [rg [{ i := 7, n := 0 }, hE 8 (gA2I x14), hF 9, { i := 17, n := 1 }, hE 18 (gA2I x18), hT 22], r0] (by kernel_rfl) (P1 h13 <| P1 (int_lt_of_at h13 hx14) <| P1 h15 <| P1 (at_map gA2I hx14) <| P2 ((decide (x14.c0 > 0)) = false) (decide_eq_false h16) <| P1 h17 <| P1 (int_lt_of_at h17 hx18) <| P1 h10 <| P1 (at_map gA2I hx18) <| P2 ((decide (x18.c1 > b3.Rules.Stack)) = true) (decide_eq_true h19) <| P0))
                (fun h19 H =>
                  eN H fun r hn => gO [rg [{ i := 7, n := 0 }, hE 8 (gA2I x14), hF 9, { i := 17, n := 1 }, hE 18 (gA2I x18), hF 22], r0, .canon [0, 1] [2, 5, 31, 32, 33]] (by kernel_rfl) (P1 h13 <| P1 (int_lt_of_at h13 hx14) <| P1 h15 <| P1 (at_map gA2I hx14) <| P2 ((decide (x14.c0 > 0)) = false) (decide_eq_false h16) <| P1 h17 <| P1 (int_lt_of_at h17 hx18) <| P1 h10 <| P1 (at_map gA2I hx18) <| P2 ((decide (x18.c1 > b3.Rules.Stack)) = false) (decide_eq_false h19) <| P0) hn)))
            (fun h15 H =>
              eCk H fun h16 H =>
              eIf H (fun h17 H =>
                eN H <| gE func111 [rg [{ i := 7, n := 1 }, hE 8 (gA2I x14), hT 9], r0] (by kernel_rfl) (P1 h13 <| P1 (int_lt_of_at h13 hx14) <| P1 h16 <| P1 (at_map gA2I hx14) <| P2 ((decide (x14.c1 > 0)) = true) (decide_eq_true h17) <| P0))
              (fun h17 H =>
                eCk H fun h18 H =>
                eBind H fun x19 hx19 H =>
                eIf H (fun h20 H =>
                  eN H <| gE func111 [rg [{ i := 7, n := 1 }, hE 8 (gA2I x14), hF 9, { i := 17, n := 1 }, hE 18 (gA2I x19), hT 22], r0] (by kernel_rfl) (P1 h13 <| P1 (int_lt_of_at h13 hx14) <| P1 h16 <| P1 (at_map gA2I hx14) <| P2 ((decide (x14.c1 > 0)) = false) (decide_eq_false h17) <| P1 h18 <| P1 (int_lt_of_at h18 hx19) <| P1 h10 <| P1 (at_map gA2I hx19) <| P2 ((decide (x19.c1 > b3.Rules.Stack)) = true) (decide_eq_true h20) <| P0))
                (fun h20 H =>
                  eN H fun r hn => gO [rg [{ i := 7, n := 1 }, hE 8 (gA2I x14), hF 9, { i := 17, n := 1 }, hE 18 (gA2I x19), hF 22], r0, .canon [0, 1] [2, 5, 31, 32, 33]] (by kernel_rfl) (P1 h13 <| P1 (int_lt_of_at h13 hx14) <| P1 h16 <| P1 (at_map gA2I hx14) <| P2 ((decide (x14.c1 > 0)) = false) (decide_eq_false h17) <| P1 h18 <| P1 (int_lt_of_at h18 hx19) <| P1 h10 <| P1 (at_map gA2I hx19) <| P2 ((decide (x19.c1 > b3.Rules.Stack)) = false) (decide_eq_false h20) <| P0) hn))))))
      (fun h5 H =>
        eN H <| gE func111 [rg [{ i := 2, call := some { cl := true, auto := true, ins := [], res := (RB r4), G' := [] }, dec := some false }], r0] (by kernel_rfl) (P1 (ci_goodUnit hr4) <| P2 (r4 = false) (eqF h5) <| P0)))
    (fun h1 H =>
      eN H <| gE func111 [rg [hF 0], r0] (by kernel_rfl) (P2 ((decide (t2 < t1)) = false) (decide_eq_false h1) <| P0))
theorem wi_goodState : ∀ s r, loop Bi_goodState s = some r → Wc X 111 0 (Ki_goodState s) (Zi_goodState s) (RB r) ((fun _ => []) r) := Nx.all ni_goodState
theorem ci_goodState {a0 : Gi_Board} {a1 : Gi_State} {r : Bool} (H : Di_goodState a0 a1 = some r) : Ct X.P X.gl 111 [.agg [sl 5 gi_Terrain a0.Rules.Terrains, sl 6 gi_Kind a0.Rules.Kinds, I a0.Rules.Stack, I a0.Rules.River, I a0.Rules.Road, I a0.Rules.Supply, I a0.Rules.Turns, I a0.Map.Width, I a0.Map.Height, sl 1 I a0.Map.Terrain, sl 1 I a0.Map.Rivers, sl 1 I a0.Map.Roads], .agg [I a1.Turn, I a1.Weather, sl 4 gi_Unit a1.Units]] [] (RB r) [] :=
  Ct.of func111 (c := bdy f111) (by kernel_rfl) (by kernel_rfl) <|
  eBind H fun r1 hr1 H =>
  gS [r0] (by kernel_rfl) P0 <|
  eIf H (fun h2 H =>
    eBind H fun r3 hr3 H =>
    eIf H (fun h4 H =>
      eIf H (fun h5 H =>
        eW RB (fun _ => []) H <| gE func111 [rg [{ i := 5, call := some { cl := true, auto := true, ins := [], res := (RB r1), G' := [] }, dec := some true }, { i := 10, call := some { cl := true, auto := true, ins := [], res := (RB r3), G' := [] }, dec := some true }, hT 17], r0] (by kernel_rfl) (P1 (ci_inRange hr1) <| P2 (r1 = true) (h2) <| P1 (ci_inRange hr3) <| P2 (r3 = true) (h4) <| P2 ((decide (((a1.Units.length : Nat) : Int) > 12)) = true) (decide_eq_true h5) <| P0))
      (fun h5 H =>
        eBind H fun r6 hr6 H =>
        eCk H fun h7 H =>
        eCk H fun h8 H =>
        gO [rg [{ i := 5, call := some { cl := true, auto := true, ins := [], res := (RB r1), G' := [] }, dec := some true }, { i := 10, call := some { cl := true, auto := true, ins := [], res := (RB r3), G' := [] }, dec := some true }, hF 17], rg [hC 1 true [] (RI r6) [], hA 2 ((List.replicate (Int.toNat r6) (GA2I.mk 0 0)).length) (List.map gA2I (List.replicate (Int.toNat r6) (GA2I.mk 0 0)))], r0, .canon [0, 2] [2, 5, 31, 32, 33]] (by kernel_rfl) (P1 (ci_inRange hr1) <| P2 (r1 = true) (h2) <| P1 (ci_inRange hr3) <| P2 (r3 = true) (h4) <| P2 ((decide (((a1.Units.length : Nat) : Int) > 12)) = false) (decide_eq_false h5) <| P1 (ci_sizeOf hr6) <| PI (r6 : Int) <| P2 ((0 : Int) ≤ r6) h7 <| P2 (Int.toNat r6 * 16 ≤ 140737488355328) h8 <| P1 (repLen (Int.toNat r6) (GA2I.mk 0 0)) <| P1 (repMap gA2I (Int.toNat r6) (GA2I.mk 0 0)) <| P0) (wi_goodState _ _ H)))
    (fun h4 H =>
      eW RB (fun _ => []) H <| gE func111 [rg [{ i := 5, call := some { cl := true, auto := true, ins := [], res := (RB r1), G' := [] }, dec := some true }, { i := 10, call := some { cl := true, auto := true, ins := [], res := (RB r3), G' := [] }, dec := some false }], r0] (by kernel_rfl) (P1 (ci_inRange hr1) <| P2 (r1 = true) (h2) <| P1 (ci_inRange hr3) <| P2 (r3 = false) (eqF h4) <| P0)))
  (fun h2 H =>
    eW RB (fun _ => []) H <| gE func111 [rg [{ i := 5, call := some { cl := true, auto := true, ins := [], res := (RB r1), G' := [] }, dec := some false }], r0] (by kernel_rfl) (P1 (ci_inRange hr1) <| P2 (r1 = false) (eqF h2) <| P0))
/-! loop example/g00886/impl fits -/
theorem ci_fits {a0 : Gi_Board} {a1 : Gi_State} {r : Bool} (H : Di_fits a0 a1 = some r) : Ct X.P X.gl 86 [.agg [sl 5 gi_Terrain a0.Rules.Terrains, sl 6 gi_Kind a0.Rules.Kinds, I a0.Rules.Stack, I a0.Rules.River, I a0.Rules.Road, I a0.Rules.Supply, I a0.Rules.Turns, I a0.Map.Width, I a0.Map.Height, sl 1 I a0.Map.Terrain, sl 1 I a0.Map.Rivers, sl 1 I a0.Map.Roads], .agg [I a1.Turn, I a1.Weather, sl 4 gi_Unit a1.Units]] [] (RB r) [] :=
  Ct.of func86 (c := bdy f86) (by kernel_rfl) (by kernel_rfl) <|
  eBind H fun r1 hr1 H =>
  gS [r0] (by kernel_rfl) P0 <|
  eIf H (fun h2 H =>
    eBind H fun r3 hr3 H =>
    eW RB (fun _ => []) H <| gE func86 [rg [{ i := 1, call := some { cl := true, auto := true, ins := [], res := (RB r1), G' := [] }, dec := some true }, hC 5 true [] (RB r3) []]] (by kernel_rfl) (P1 (ci_IsBoard hr1) <| P2 (r1 = true) (h2) <| P1 (ci_goodState hr3) <| P0))
  (fun h2 H =>
    eW RB (fun _ => []) H <| gE func86 [rg [{ i := 1, call := some { cl := true, auto := true, ins := [], res := (RB r1), G' := [] }, dec := some false }]] (by kernel_rfl) (P1 (ci_IsBoard hr1) <| P2 (r1 = false) (eqF h2) <| P0))
/-! loop example/g00886/impl hasUnit -/
theorem ci_hasUnit {a0 : Gi_Board} {a1 : Gi_State} {a2 : Int} {r : Bool} (H : Di_hasUnit a0 a1 a2 = some r) : Ct X.P X.gl 94 [.agg [sl 5 gi_Terrain a0.Rules.Terrains, sl 6 gi_Kind a0.Rules.Kinds, I a0.Rules.Stack, I a0.Rules.River, I a0.Rules.Road, I a0.Rules.Supply, I a0.Rules.Turns, I a0.Map.Width, I a0.Map.Height, sl 1 I a0.Map.Terrain, sl 1 I a0.Map.Rivers, sl 1 I a0.Map.Roads], .agg [I a1.Turn, I a1.Weather, sl 4 gi_Unit a1.Units], I a2] [] (RB r) [] :=
  Ct.of func94 (c := bdy f94) (by kernel_rfl) (by kernel_rfl) <|
  eBind H fun r1 hr1 H =>
  gS [r0] (by kernel_rfl) P0 <|
  eIf H (fun h2 H =>
    eBind H fun r3 hr3 H =>
    eW RB (fun _ => []) H <| gE func94 [rg [{ i := 2, call := some { cl := true, auto := true, ins := [], res := (RB r1), G' := [] }, dec := some true }, hC 8 true [] (RB r3) []]] (by kernel_rfl) (P1 (ci_fits hr1) <| P2 (r1 = true) (h2) <| P1 (ci_isIndex hr3) <| P0))
  (fun h2 H =>
    eW RB (fun _ => []) H <| gE func94 [rg [{ i := 2, call := some { cl := true, auto := true, ins := [], res := (RB r1), G' := [] }, dec := some false }]] (by kernel_rfl) (P1 (ci_fits hr1) <| P2 (r1 = false) (eqF h2) <| P0))
/-! slices Clone -/
def Rslices_Clone_i_Unit (r : List Gi_Unit) : List D := [ow 4 gi_Unit r]
theorem cslices_Clone_i_Unit {l r : List Gi_Unit} (H : Dslices_Clone_i_Unit l = some r) : Ct X.P X.gl 158 [sl 4 gi_Unit l] [] (Rslices_Clone_i_Unit r) [] :=
  eCk H fun h H => eRet (P := fun r => Ct X.P X.gl 158 [sl 4 gi_Unit l] [] (Rslices_Clone_i_Unit r) []) H <|
    Ct.of func158 (c := bdy f158) (by kernel_rfl) (by kernel_rfl) <| by
      by_cases h0 : 0 < l.length
      · exact gE func158 [r0, rg [{ i := 1, keep := true }], rg [{ i := 2, n := l.length, xs := List.map gi_Unit l }]] (by kernel_rfl) (P1 h0 <| P1 (allFl_95 l) <| P2 (l.length = 0 + l.length) (by simp) <| P2 ((0 + l.length) * 32 ≤ 70368744177664) (by simpa using h) <| P2 (([] : List D) ++ List.map gi_Unit l = List.map gi_Unit l) rfl P0)
      · have e : l = [] := by cases l with | nil => rfl | cons x l => exact absurd (Nat.succ_pos _) h0
        subst e
        refine gO [r0, r0, .stop] (k' := nav 300 2 [] [.code (bdy f158)]) (σ' := ⟨sts 8 [(0, sl 4 gi_Unit []), (2, .nil), (3, sl 4 gi_Unit []), (4, .anyb)], []⟩) (by kernel_rfl) P0 (Wc.anyb 4 (by kernel_rfl) fun b => ?_)
        cases b with
        | true => exact gE func158 [r0] (by kernel_rfl) P0
        | false =>
          have h : ([] : List Gi_Unit).length * 32 ≤ 70368744177664 := by decide
          have : Wc X 158 0 (nav 300 2 [] [.code (bdy f158)]) ⟨sts 8 [(0, sl 4 gi_Unit []), (2, .nil), (3, sl 4 gi_Unit []), (4, .bool false)], []⟩ (Rslices_Clone_i_Unit []) [] := by
            generalize hl : ([] : List Gi_Unit) = l at h ⊢
            exact gE func158 [ rg [{ i := 2, n := l.length, xs := List.map gi_Unit l }]] (by kernel_rfl) ( P1 (allFl_95 l) <| P2 (l.length = 0 + l.length) (by simp) <| P2 ((0 + l.length) * 32 ≤ 70368744177664) (by simpa using h) <| P2 (([] : List D) ++ List.map gi_Unit l = List.map gi_Unit l) rfl P0)
          exact this
/-! loop example/g00886/impl cloneState -/
def Ri_cloneState (r : Gi_State) : List D := [.agg [I r.Turn, I r.Weather, ow 4 gi_Unit r.Units]]
theorem ci_cloneState {a0 : Gi_State} {r : Gi_State} (H : Di_cloneState a0 = some r) : Ct X.P X.gl 110 [.agg [I a0.Turn, I a0.Weather, sl 4 gi_Unit a0.Units]] [] (Ri_cloneState r) [] :=
  Ct.of func110 (c := bdy f110) (by kernel_rfl) (by kernel_rfl) <|
  eBind H fun r1 hr1 H =>
  eW Ri_cloneState (fun _ => []) H <| gE func110 [r0, rg [hC 2 true [] (Rslices_Clone_i_Unit r1) []], r0] (by kernel_rfl) (P1 (cslices_Clone_i_Unit hr1) <| P0)
/-! loop example/g00886/impl PlaceUnit -/
def Ri_PlaceUnit (r : Gi_State × Bool) : List D := [.agg [I r.1.Turn, I r.1.Weather, ow 4 gi_Unit r.1.Units], .bool r.2]
theorem ci_PlaceUnit {a0 : Gi_Board} {a1 : Gi_State} {a2 : Int} {a3 : Int} {r : Gi_State × Bool} (H : Di_PlaceUnit a0 a1 a2 a3 = some r) : Ct X.P X.gl 44 [.agg [sl 5 gi_Terrain a0.Rules.Terrains, sl 6 gi_Kind a0.Rules.Kinds, I a0.Rules.Stack, I a0.Rules.River, I a0.Rules.Road, I a0.Rules.Supply, I a0.Rules.Turns, I a0.Map.Width, I a0.Map.Height, sl 1 I a0.Map.Terrain, sl 1 I a0.Map.Rivers, sl 1 I a0.Map.Roads], .agg [I a1.Turn, I a1.Weather, sl 4 gi_Unit a1.Units], I a2, I a3] [] (Ri_PlaceUnit r) [] :=
  Ct.of func44 (c := bdy f44) (by kernel_rfl) (by kernel_rfl) <|
  eBind H fun r1 hr1 H =>
  gS [r0] (by kernel_rfl) P0 <|
  eIf H (fun h2 H =>
    eBind H fun r3 hr3 H =>
    eBind H fun r4 hr4 H =>
    eIf H (fun h5 H =>
      eBind H fun r6 hr6 H =>
      eCk H fun h7 H =>
      eBind H fun x8 hx8 H =>
      eBind H fun r9 hr9 H =>
      gS [rg [{ i := 3, call := some { cl := true, auto := true, ins := [], res := (RB r1), G' := [] }, dec := some true }, hC 8 true [] (RI r3) [], { i := 10, call := some { cl := true, auto := true, ins := [], res := (RB r4), G' := [] }, dec := some true }], rg [hC 1 true [] (Ri_cloneState r6) []], rg [hA 6 ((List.set r6.Units (Int.toNat a2) (Gi_Unit.mk x8.Side x8.Kind a3 x8.Steps)).length) (List.map gi_Unit (List.set r6.Units (Int.toNat a2) (Gi_Unit.mk x8.Side x8.Kind a3 x8.Steps)))]] (by kernel_rfl) (P1 (ci_hasUnit hr1) <| P2 (r1 = true) (h2) <| P1 (ci_sizeOf hr3) <| P1 (ci_inRange hr4) <| P2 (r4 = true) (h5) <| P1 (ci_cloneState hr6) <| P1 h7 <| P1 (int_lt_of_at h7 hx8) <| P1 (lt_of_at hx8) <| P2 (setCells (List.map gi_Unit r6.Units) (Int.toNat a2) 2 [I a3] = List.map gi_Unit (List.set r6.Units (Int.toNat a2) (Gi_Unit.mk x8.Side x8.Kind a3 x8.Steps))) (setCells_map hx8 rfl) <| P1 (setLen r6.Units (Int.toNat a2) (Gi_Unit.mk x8.Side x8.Kind a3 x8.Steps)) <| P0) <|
      eIf H (fun h10 H =>
        eW Ri_PlaceUnit (fun _ => []) H <| gE func44 [rg [{ i := 2, call := some { cl := false, auto := true, ins := [], res := (RB r9), G' := [] }, dec := some true }], r0] (by kernel_rfl) (P1 (ci_goodState hr9) <| P2 (r9 = true) (h10) <| P0))
      (fun h10 H =>
        eW Ri_PlaceUnit (fun _ => []) H <| gE func44 [rg [{ i := 2, call := some { cl := false, auto := true, ins := [], res := (RB r9), G' := [] }, dec := some false }], r0] (by kernel_rfl) (P1 (ci_goodState hr9) <| P2 (r9 = false) (eqF h10) <| P0)))
    (fun h5 H =>
      eW Ri_PlaceUnit (fun _ => []) H <| gE func44 [rg [{ i := 3, call := some { cl := true, auto := true, ins := [], res := (RB r1), G' := [] }, dec := some true }, hC 8 true [] (RI r3) [], { i := 10, call := some { cl := true, auto := true, ins := [], res := (RB r4), G' := [] }, dec := some false }], r0] (by kernel_rfl) (P1 (ci_hasUnit hr1) <| P2 (r1 = true) (h2) <| P1 (ci_sizeOf hr3) <| P1 (ci_inRange hr4) <| P2 (r4 = false) (eqF h5) <| P0)))
  (fun h2 H =>
    eW Ri_PlaceUnit (fun _ => []) H <| gE func44 [rg [{ i := 3, call := some { cl := true, auto := true, ins := [], res := (RB r1), G' := [] }, dec := some false }], r0] (by kernel_rfl) (P1 (ci_hasUnit hr1) <| P2 (r1 = false) (eqF h2) <| P0))
/-! loop example/g00886/spec sHex -/
theorem cs_sHex {a0 : Gi_Board} {a1 : Gi_State} {a2 : Int} {r : Bool} (H : Ds_sHex a0 a1 a2 = some r) : Ct X.P X.gl 83 [.agg [sl 5 gi_Terrain a0.Rules.Terrains, sl 6 gi_Kind a0.Rules.Kinds, I a0.Rules.Stack, I a0.Rules.River, I a0.Rules.Road, I a0.Rules.Supply, I a0.Rules.Turns, I a0.Map.Width, I a0.Map.Height, sl 1 I a0.Map.Terrain, sl 1 I a0.Map.Rivers, sl 1 I a0.Map.Roads], .agg [I a1.Turn, I a1.Weather, sl 4 gi_Unit a1.Units], I a2] [] (RB r) [] :=
  Ct.of func83 (c := bdy f83) (by kernel_rfl) (by kernel_rfl) <|
  eBind H fun r1 hr1 H =>
  gS [r0] (by kernel_rfl) P0 <|
  eIf H (fun h2 H =>
    eBind H fun r3 hr3 H =>
    eBind H fun r4 hr4 H =>
    eW RB (fun _ => []) H <| gE func83 [rg [{ i := 2, call := some { cl := true, auto := true, ins := [], res := (RB r1), G' := [] }, dec := some true }, hC 7 true [] (RI r3) [], hC 9 true [] (RB r4) []]] (by kernel_rfl) (P1 (cs_sGood hr1) <| P2 (r1 = true) (h2) <| P1 (cs_mSize hr3) <| P1 (cs_l1In hr4) <| P0))
  (fun h2 H =>
    eW RB (fun _ => []) H <| gE func83 [rg [{ i := 2, call := some { cl := true, auto := true, ins := [], res := (RB r1), G' := [] }, dec := some false }]] (by kernel_rfl) (P1 (cs_sGood hr1) <| P2 (r1 = false) (eqF h2) <| P0))
/-! loop example/g00886/spec sOwn -/
def Rs_sOwn (r : Gi_State) : List D := [.agg [I r.Turn, I r.Weather, ow 4 gi_Unit r.Units]]
theorem cs_sOwn {a0 : Gi_State} {r : Gi_State} (H : Ds_sOwn a0 = some r) : Ct X.P X.gl 112 [.agg [I a0.Turn, I a0.Weather, sl 4 gi_Unit a0.Units]] [] (Rs_sOwn r) [] :=
  Ct.of func112 (c := bdy f112) (by kernel_rfl) (by kernel_rfl) <|
  eCk H fun h1 H =>
  eW Rs_sOwn (fun _ => []) H <| gE func112 [r0, rg [hA 7 a0.Units.length (List.map gi_Unit a0.Units)]] (by kernel_rfl) (P2 (AllFl (List.map gi_Unit a0.Units)) (allFl_95 _) <| P2 (a0.Units.length = ([] : List Gi_Unit).length + a0.Units.length) (by simp <;> omega) <| P2 ((([] : List Gi_Unit).length + a0.Units.length) * 32 ≤ 70368744177664) (by have := h1; simp at this ⊢ <;> omega) <| P2 (List.map gi_Unit ([] : List Gi_Unit) ++ List.map gi_Unit a0.Units = List.map gi_Unit a0.Units) (by simp) <| P0)
/-! loop example/g00886/spec sIf -/
def Rs_sIf (r : Gi_State × Bool) : List D := [.agg [I r.1.Turn, I r.1.Weather, sl 4 gi_Unit r.1.Units], .bool r.2]
theorem cs_sIf {a0 : Gi_Board} {a1 : Gi_State} {r : Gi_State × Bool} (H : Ds_sIf a0 a1 = some r) : Ct X.P X.gl 113 [.agg [sl 5 gi_Terrain a0.Rules.Terrains, sl 6 gi_Kind a0.Rules.Kinds, I a0.Rules.Stack, I a0.Rules.River, I a0.Rules.Road, I a0.Rules.Supply, I a0.Rules.Turns, I a0.Map.Width, I a0.Map.Height, sl 1 I a0.Map.Terrain, sl 1 I a0.Map.Rivers, sl 1 I a0.Map.Roads], .agg [I a1.Turn, I a1.Weather, sl 4 gi_Unit a1.Units]] [] (Rs_sIf r) [] :=
  Ct.of func113 (c := bdy f113) (by kernel_rfl) (by kernel_rfl) <|
  eBind H fun r1 hr1 H =>
  gS [r0] (by kernel_rfl) P0 <|
  eIf H (fun h2 H =>
    eW Rs_sIf (fun _ => []) H <| gE func113 [rg [{ i := 2, call := some { cl := true, auto := true, ins := [], res := (RB r1), G' := [] }, dec := some true }], r0] (by kernel_rfl) (P1 (cs_sGood hr1) <| P2 (r1 = true) (h2) <| P0))
  (fun h2 H =>
    eW Rs_sIf (fun _ => []) H <| gE func113 [rg [{ i := 2, call := some { cl := true, auto := true, ins := [], res := (RB r1), G' := [] }, dec := some false }], r0] (by kernel_rfl) (P1 (cs_sGood hr1) <| P2 (r1 = false) (eqF h2) <| P0))
/-! loop example/g00886/spec PlaceUnit -/
def Rs_PlaceUnit (r : Gi_State × Bool) : List D := [.agg [I r.1.Turn, I r.1.Weather, sl 4 gi_Unit r.1.Units], .bool r.2]
theorem cs_PlaceUnit {a0 : Gi_Board} {a1 : Gi_State} {a2 : Int} {a3 : Int} {r : Gi_State × Bool} (H : Ds_PlaceUnit a0 a1 a2 a3 = some r) : Ct X.P X.gl 45 [.agg [sl 5 gi_Terrain a0.Rules.Terrains, sl 6 gi_Kind a0.Rules.Kinds, I a0.Rules.Stack, I a0.Rules.River, I a0.Rules.Road, I a0.Rules.Supply, I a0.Rules.Turns, I a0.Map.Width, I a0.Map.Height, sl 1 I a0.Map.Terrain, sl 1 I a0.Map.Rivers, sl 1 I a0.Map.Roads], .agg [I a1.Turn, I a1.Weather, sl 4 gi_Unit a1.Units], I a2, I a3] [] (Rs_PlaceUnit r) [] :=
  Ct.of func45 (c := bdy f45) (by kernel_rfl) (by kernel_rfl) <|
  eBind H fun r1 hr1 H =>
  gS [r0] (by kernel_rfl) P0 <|
  eIf H (fun h2 H =>
    eBind H fun r3 hr3 H =>
    eIf H (fun h4 H =>
      eIf H (fun h5 H =>
        eBind H fun r6 hr6 H =>
        eCk H fun h7 H =>
        eBind H fun x8 hx8 H =>
        eBind H fun r9 hr9 H =>
        eW Rs_PlaceUnit (fun _ => []) H <| gE func45 [rg [{ i := 2, call := some { cl := true, auto := true, ins := [], res := (RB r1), G' := [] }, dec := some true }, { i := 10, call := some { cl := true, auto := true, ins := [], res := (RB r3), G' := [] }, dec := some true }, hF 15], rg [hC 1 true [] (Rs_sOwn r6) []], rg [hA 6 ((List.set r6.Units (Int.toNat a2) (Gi_Unit.mk x8.Side x8.Kind a3 x8.Steps)).length) (List.map gi_Unit (List.set r6.Units (Int.toNat a2) (Gi_Unit.mk x8.Side x8.Kind a3 x8.Steps)))], rg [{ i := 2, frz := [5], call := some { cl := true, auto := true, ins := [], res := (Rs_sIf r9), G' := [] } }]] (by kernel_rfl) (P1 (cs_sGood hr1) <| P2 (r1 = true) (h2) <| P1 (cs_l1In hr3) <| P2 (r3 = true) (h4) <| P2 (((a3 : Int) != (-1)) = false) (bneF h5) <| P1 (cs_sOwn hr6) <| P1 h7 <| P1 (int_lt_of_at h7 hx8) <| P1 (lt_of_at hx8) <| P2 (setCells (List.map gi_Unit r6.Units) (Int.toNat a2) 2 [I a3] = List.map gi_Unit (List.set r6.Units (Int.toNat a2) (Gi_Unit.mk x8.Side x8.Kind a3 x8.Steps))) (setCells_map hx8 rfl) <| P1 (setLen r6.Units (Int.toNat a2) (Gi_Unit.mk x8.Side x8.Kind a3 x8.Steps)) <| P1 (cs_sIf hr9) <| P0))
      (fun h5 H =>
        eBind H fun r6 hr6 H =>
        eIf H (fun h7 H =>
          eBind H fun r8 hr8 H =>
          eCk H fun h9 H =>
          eBind H fun x10 hx10 H =>
          eBind H fun r11 hr11 H =>
          eW Rs_PlaceUnit (fun _ => []) H <| gE func45 [rg [{ i := 2, call := some { cl := true, auto := true, ins := [], res := (RB r1), G' := [] }, dec := some true }, { i := 10, call := some { cl := true, auto := true, ins := [], res := (RB r3), G' := [] }, dec := some true }, hT 15, { i := 20, call := some { cl := true, auto := true, ins := [], res := (RB r6), G' := [] }, dec := some true }], rg [hC 1 true [] (Rs_sOwn r8) []], rg [hA 6 ((List.set r8.Units (Int.toNat a2) (Gi_Unit.mk x10.Side x10.Kind a3 x10.Steps)).length) (List.map gi_Unit (List.set r8.Units (Int.toNat a2) (Gi_Unit.mk x10.Side x10.Kind a3 x10.Steps)))], rg [{ i := 2, frz := [5], call := some { cl := true, auto := true, ins := [], res := (Rs_sIf r11), G' := [] } }]] (by kernel_rfl) (P1 (cs_sGood hr1) <| P2 (r1 = true) (h2) <| P1 (cs_l1In hr3) <| P2 (r3 = true) (h4) <| P2 (((a3 : Int) != (-1)) = true) (bneT h5) <| P1 (cs_sHex hr6) <| P2 (r6 = true) (h7) <| P1 (cs_sOwn hr8) <| P1 h9 <| P1 (int_lt_of_at h9 hx10) <| P1 (lt_of_at hx10) <| P2 (setCells (List.map gi_Unit r8.Units) (Int.toNat a2) 2 [I a3] = List.map gi_Unit (List.set r8.Units (Int.toNat a2) (Gi_Unit.mk x10.Side x10.Kind a3 x10.Steps))) (setCells_map hx10 rfl) <| P1 (setLen r8.Units (Int.toNat a2) (Gi_Unit.mk x10.Side x10.Kind a3 x10.Steps)) <| P1 (cs_sIf hr11) <| P0))
        (fun h7 H =>
          eW Rs_PlaceUnit (fun _ => []) H <| gE func45 [rg [{ i := 2, call := some { cl := true, auto := true, ins := [], res := (RB r1), G' := [] }, dec := some true }, { i := 10, call := some { cl := true, auto := true, ins := [], res := (RB r3), G' := [] }, dec := some true }, hT 15, { i := 20, call := some { cl := true, auto := true, ins := [], res := (RB r6), G' := [] }, dec := some false }], r0] (by kernel_rfl) (P1 (cs_sGood hr1) <| P2 (r1 = true) (h2) <| P1 (cs_l1In hr3) <| P2 (r3 = true) (h4) <| P2 (((a3 : Int) != (-1)) = true) (bneT h5) <| P1 (cs_sHex hr6) <| P2 (r6 = false) (eqF h7) <| P0))))
    (fun h4 H =>
      eW Rs_PlaceUnit (fun _ => []) H <| gE func45 [rg [{ i := 2, call := some { cl := true, auto := true, ins := [], res := (RB r1), G' := [] }, dec := some true }, { i := 10, call := some { cl := true, auto := true, ins := [], res := (RB r3), G' := [] }, dec := some false }], r0] (by kernel_rfl) (P1 (cs_sGood hr1) <| P2 (r1 = true) (h2) <| P1 (cs_l1In hr3) <| P2 (r3 = false) (eqF h4) <| P0)))
  (fun h2 H =>
    eW Rs_PlaceUnit (fun _ => []) H <| gE func45 [rg [{ i := 2, call := some { cl := true, auto := true, ins := [], res := (RB r1), G' := [] }, dec := some false }], r0] (by kernel_rfl) (P1 (cs_sGood hr1) <| P2 (r1 = false) (eqF h2) <| P0))
/-! loop example/g00886/spec DrawLoseSteps -/
def Rs_DrawLoseSteps (r : Gi_Board × Gi_State × Int × Int) : List D := [.agg [sl 5 gi_Terrain r.1.Rules.Terrains, sl 6 gi_Kind r.1.Rules.Kinds, I r.1.Rules.Stack, I r.1.Rules.River, I r.1.Rules.Road, I r.1.Rules.Supply, I r.1.Rules.Turns, I r.1.Map.Width, I r.1.Map.Height, sl 1 I r.1.Map.Terrain, sl 1 I r.1.Map.Rivers, sl 1 I r.1.Map.Roads], .agg [I r.2.1.Turn, I r.2.1.Weather, ow 4 gi_Unit r.2.1.Units], I r.2.2.1, I r.2.2.2]
theorem cs_DrawLoseSteps {a0 : (List Int)} {r : Gi_Board × Gi_State × Int × Int} (H : Ds_DrawLoseSteps a0 = some r) : Ct X.P X.gl 46 [sl 1 (D.int .u8) a0] [] (Rs_DrawLoseSteps r) [] :=
  Ct.of func46 (c := bdy f46) (by kernel_rfl) (by kernel_rfl) <|
  eBind H fun r1 hr1 H =>
  eBind H fun r2 hr2 H =>
  eBind H fun r3 hr3 H =>
  eBind H fun r4 hr4 H =>
  eW Rs_DrawLoseSteps (fun _ => []) H <| gE func46 [r0, r0, rg [hC 1 true [2] (Rs_l1Cur_game r1) (Ns_l1Cur_game r1)], rg [hC 7 true [2] (Rs_l1Cur_pick r2) (Ns_l1Cur_pick r2), hC 9 true [2] (Rs_l1Cur_pick r3) (Ns_l1Cur_pick r3), { i := 14, frz := [20], call := some { cl := true, auto := true, ins := [2], res := (Rs_l1Cur_among r4), G' := (Ns_l1Cur_among r4) } }]] (by kernel_rfl) (PI (1 : Nat) <| P1 (cs_l1Cur_game hr1) <| PI (1 : Nat) <| P1 (cs_l1Cur_pick hr2) <| PI (1 : Nat) <| P1 (cs_l1Cur_pick hr3) <| P2 (¬ (15 : Int) = 0) (by decide) <| PI (1 : Nat) <| P1 (cs_l1Cur_among hr4) <| P0)
/-! loop example/g00886/impl loseSteps -/
def Ri_loseSteps (r : (List Gi_Unit)) : List D := []
def Ni_loseSteps (r : (List Gi_Unit)) : List Root := [⟨false, false, 4, r.length, List.map gi_Unit r⟩]
theorem ci_loseSteps {a0 : Gi_State} {a1 : Int} {a2 : Int} {r : (List Gi_Unit)} (H : Di_loseSteps a0 a1 a2 = some r) : Ct X.P X.gl 114 [.agg [I a0.Turn, I a0.Weather, .ref 0 4 none], I a1, I a2] [⟨false, false, 4, a0.Units.length, List.map gi_Unit a0.Units⟩] (Ri_loseSteps r) (Ni_loseSteps r) :=
  Ct.of func114 (c := bdy f114) (by kernel_rfl) (by kernel_rfl) <|
  eCk H fun h1 H =>
  eBind H fun x2 hx2 H =>
  eBind H fun x3 hx3 H =>
  gS [r0, r0, rg [hE 4 (gi_Unit x2), hA 10 ((List.set a0.Units (Int.toNat a1) (Gi_Unit.mk x2.Side x2.Kind x2.At (if (IntKind.wrap .i64 (x2.Steps - a2)) < 0 then 0 else (IntKind.wrap .i64 (x2.Steps - a2))))).length) (List.map gi_Unit (List.set a0.Units (Int.toNat a1) (Gi_Unit.mk x2.Side x2.Kind x2.At (if (IntKind.wrap .i64 (x2.Steps - a2)) < 0 then 0 else (IntKind.wrap .i64 (x2.Steps - a2))))))]] (by kernel_rfl) (P1 h1 <| P1 (int_lt_of_at h1 hx2) <| P1 (at_map gi_Unit hx2) <| P1 (lt_of_at hx2) <| P2 (setCells (List.map gi_Unit a0.Units) (Int.toNat a1) 3 [I (if (IntKind.wrap .i64 (x2.Steps - a2)) < 0 then 0 else (IntKind.wrap .i64 (x2.Steps - a2)))] = List.map gi_Unit (List.set a0.Units (Int.toNat a1) (Gi_Unit.mk x2.Side x2.Kind x2.At (if (IntKind.wrap .i64 (x2.Steps - a2)) < 0 then 0 else (IntKind.wrap .i64 (x2.Steps - a2)))))) (setCells_map hx2 rfl) <| P1 (setLen a0.Units (Int.toNat a1) (Gi_Unit.mk x2.Side x2.Kind x2.At (if (IntKind.wrap .i64 (x2.Steps - a2)) < 0 then 0 else (IntKind.wrap .i64 (x2.Steps - a2))))) <| P0) <|
  eIf H (fun h4 H =>
    eBind H fun x5 hx5 H =>
    eW Ri_loseSteps Ni_loseSteps H <| gE func114 [rg [hE 3 (gi_Unit x3), hT 4], rg [hA 3 ((List.set (List.set a0.Units (Int.toNat a1) (Gi_Unit.mk x2.Side x2.Kind x2.At (if (IntKind.wrap .i64 (x2.Steps - a2)) < 0 then 0 else (IntKind.wrap .i64 (x2.Steps - a2))))) (Int.toNat a1) (Gi_Unit.mk x5.Side x5.Kind (-1) x5.Steps)).length) (List.map gi_Unit (List.set (List.set a0.Units (Int.toNat a1) (Gi_Unit.mk x2.Side x2.Kind x2.At (if (IntKind.wrap .i64 (x2.Steps - a2)) < 0 then 0 else (IntKind.wrap .i64 (x2.Steps - a2))))) (Int.toNat a1) (Gi_Unit.mk x5.Side x5.Kind (-1) x5.Steps)))]] (by kernel_rfl) (P1 (at_map gi_Unit hx3) <| P2 (((x3.Steps : Int) == 0) = true) (beqT h4) <| P1 (lt_of_at hx5) <| P2 (setCells (List.map gi_Unit (List.set a0.Units (Int.toNat a1) (Gi_Unit.mk x2.Side x2.Kind x2.At (if (IntKind.wrap .i64 (x2.Steps - a2)) < 0 then 0 else (IntKind.wrap .i64 (x2.Steps - a2)))))) (Int.toNat a1) 2 [I (-1)] = List.map gi_Unit (List.set (List.set a0.Units (Int.toNat a1) (Gi_Unit.mk x2.Side x2.Kind x2.At (if (IntKind.wrap .i64 (x2.Steps - a2)) < 0 then 0 else (IntKind.wrap .i64 (x2.Steps - a2))))) (Int.toNat a1) (Gi_Unit.mk x5.Side x5.Kind (-1) x5.Steps))) (setCells_map hx5 rfl) <| P1 (setLen (List.set a0.Units (Int.toNat a1) (Gi_Unit.mk x2.Side x2.Kind x2.At (if (IntKind.wrap .i64 (x2.Steps - a2)) < 0 then 0 else (IntKind.wrap .i64 (x2.Steps - a2))))) (Int.toNat a1) (Gi_Unit.mk x5.Side x5.Kind (-1) x5.Steps)) <| P0))
  (fun h4 H =>
    eW Ri_loseSteps Ni_loseSteps H <| gE func114 [rg [hE 3 (gi_Unit x3), hF 4]] (by kernel_rfl) (P1 (at_map gi_Unit hx3) <| P2 (((x3.Steps : Int) == 0) = false) (beqF h4) <| P0))
/-! loop example/g00886/impl LoseSteps -/
def Ri_LoseSteps (r : Gi_State × Bool) : List D := [.agg [I r.1.Turn, I r.1.Weather, ow 4 gi_Unit r.1.Units], .bool r.2]
theorem ci_LoseSteps {a0 : Gi_Board} {a1 : Gi_State} {a2 : Int} {a3 : Int} {r : Gi_State × Bool} (H : Di_LoseSteps a0 a1 a2 a3 = some r) : Ct X.P X.gl 47 [.agg [sl 5 gi_Terrain a0.Rules.Terrains, sl 6 gi_Kind a0.Rules.Kinds, I a0.Rules.Stack, I a0.Rules.River, I a0.Rules.Road, I a0.Rules.Supply, I a0.Rules.Turns, I a0.Map.Width, I a0.Map.Height, sl 1 I a0.Map.Terrain, sl 1 I a0.Map.Rivers, sl 1 I a0.Map.Roads], .agg [I a1.Turn, I a1.Weather, sl 4 gi_Unit a1.Units], I a2, I a3] [] (Ri_LoseSteps r) [] :=
  Ct.of func47 (c := bdy f47) (by kernel_rfl) (by kernel_rfl) <|
  eBind H fun r1 hr1 H =>
  gS [r0] (by kernel_rfl) P0 <|
  eIf H (fun h2 H =>
    eBind H fun r3 hr3 H =>
    eIf H (fun h4 H =>
      eBind H fun r5 hr5 H =>
      eBind H fun r6 hr6 H =>
      eCk H fun h7 H =>
      eW Ri_LoseSteps (fun _ => []) H <| gE func47 [rg [{ i := 3, call := some { cl := true, auto := true, ins := [], res := (RB r1), G' := [] }, dec := some true }, { i := 7, call := some { cl := true, auto := true, ins := [], res := (RB r3), G' := [] }, dec := some true }], rg [hC 1 true [] (Ri_cloneState r5) []], rg [hC 3 true [5] (Ri_loseSteps r6) (Ni_loseSteps r6)], r0] (by kernel_rfl) (P1 (ci_hasUnit hr1) <| P2 (r1 = true) (h2) <| P1 (ci_inRange hr3) <| P2 (r3 = true) (h4) <| P1 (ci_cloneState hr5) <| P1 h7 <| P1 (ci_loseSteps hr6) <| P0))
    (fun h4 H =>
      eW Ri_LoseSteps (fun _ => []) H <| gE func47 [rg [{ i := 3, call := some { cl := true, auto := true, ins := [], res := (RB r1), G' := [] }, dec := some true }, { i := 7, call := some { cl := true, auto := true, ins := [], res := (RB r3), G' := [] }, dec := some false }], r0] (by kernel_rfl) (P1 (ci_hasUnit hr1) <| P2 (r1 = true) (h2) <| P1 (ci_inRange hr3) <| P2 (r3 = false) (eqF h4) <| P0)))
  (fun h2 H =>
    eW Ri_LoseSteps (fun _ => []) H <| gE func47 [rg [{ i := 3, call := some { cl := true, auto := true, ins := [], res := (RB r1), G' := [] }, dec := some false }], r0] (by kernel_rfl) (P1 (ci_hasUnit hr1) <| P2 (r1 = false) (eqF h2) <| P0))
/-! loop example/g00886/spec sLose -/
def Rs_sLose (r : (List Gi_Unit)) : List D := []
def Ns_sLose (r : (List Gi_Unit)) : List Root := [⟨false, false, 4, r.length, List.map gi_Unit r⟩]
theorem cs_sLose {a0 : Gi_State} {a1 : Int} {a2 : Int} {r : (List Gi_Unit)} (H : Ds_sLose a0 a1 a2 = some r) : Ct X.P X.gl 115 [.agg [I a0.Turn, I a0.Weather, .ref 0 4 none], I a1, I a2] [⟨false, false, 4, a0.Units.length, List.map gi_Unit a0.Units⟩] (Rs_sLose r) (Ns_sLose r) :=
  Ct.of func115 (c := bdy f115) (by kernel_rfl) (by kernel_rfl) <|
  eCk H fun h1 H =>
  eBind H fun x2 hx2 H =>
  eBind H fun r3 hr3 H =>
  eCk H fun h4 H =>
  eBind H fun x5 hx5 H =>
  eCk H fun h6 H =>
  eBind H fun x7 hx7 H =>
  gS [r0, rg [hE 8 (gi_Unit x2), hC 11 true [] (RI r3) [], hA 14 ((List.set a0.Units (Int.toNat a1) (Gi_Unit.mk x5.Side x5.Kind x5.At r3)).length) (List.map gi_Unit (List.set a0.Units (Int.toNat a1) (Gi_Unit.mk x5.Side x5.Kind x5.At r3)))]] (by kernel_rfl) (P1 h1 <| P1 (int_lt_of_at h1 hx2) <| P1 (at_map gi_Unit hx2) <| P1 (cs_l1Most hr3) <| P1 h4 <| P1 (int_lt_of_at h4 hx5) <| P1 (lt_of_at hx5) <| P2 (setCells (List.map gi_Unit a0.Units) (Int.toNat a1) 3 [I r3] = List.map gi_Unit (List.set a0.Units (Int.toNat a1) (Gi_Unit.mk x5.Side x5.Kind x5.At r3))) (setCells_map hx5 rfl) <| P1 (setLen a0.Units (Int.toNat a1) (Gi_Unit.mk x5.Side x5.Kind x5.At r3)) <| P0) <|
  eIf H (fun h8 H =>
    eCk H fun h9 H =>
    eBind H fun x10 hx10 H =>
    eW Rs_sLose Ns_sLose H <| gE func115 [rg [hE 5 (gi_Unit x7), hT 6], rg [hA 5 ((List.set (List.set a0.Units (Int.toNat a1) (Gi_Unit.mk x5.Side x5.Kind x5.At r3)) (Int.toNat a1) (Gi_Unit.mk x10.Side x10.Kind (-1) x10.Steps)).length) (List.map gi_Unit (List.set (List.set a0.Units (Int.toNat a1) (Gi_Unit.mk x5.Side x5.Kind x5.At r3)) (Int.toNat a1) (Gi_Unit.mk x10.Side x10.Kind (-1) x10.Steps)))]] (by kernel_rfl) (P1 h6 <| P1 (int_lt_of_at h6 hx7) <| P1 (at_map gi_Unit hx7) <| P2 (((x7.Steps : Int) == 0) = true) (beqT h8) <| P1 h9 <| P1 (int_lt_of_at h9 hx10) <| P1 (lt_of_at hx10) <| P2 (setCells (List.map gi_Unit (List.set a0.Units (Int.toNat a1) (Gi_Unit.mk x5.Side x5.Kind x5.At r3))) (Int.toNat a1) 2 [I (-1)] = List.map gi_Unit (List.set (List.set a0.Units (Int.toNat a1) (Gi_Unit.mk x5.Side x5.Kind x5.At r3)) (Int.toNat a1) (Gi_Unit.mk x10.Side x10.Kind (-1) x10.Steps))) (setCells_map hx10 rfl) <| P1 (setLen (List.set a0.Units (Int.toNat a1) (Gi_Unit.mk x5.Side x5.Kind x5.At r3)) (Int.toNat a1) (Gi_Unit.mk x10.Side x10.Kind (-1) x10.Steps)) <| P0))
  (fun h8 H =>
    eW Rs_sLose Ns_sLose H <| gE func115 [rg [hE 5 (gi_Unit x7), hF 6]] (by kernel_rfl) (P1 h6 <| P1 (int_lt_of_at h6 hx7) <| P1 (at_map gi_Unit hx7) <| P2 (((x7.Steps : Int) == 0) = false) (beqF h8) <| P0))
/-! loop example/g00886/spec LoseSteps -/
def Rs_LoseSteps (r : Gi_State × Bool) : List D := [.agg [I r.1.Turn, I r.1.Weather, ow 4 gi_Unit r.1.Units], .bool r.2]
theorem cs_LoseSteps {a0 : Gi_Board} {a1 : Gi_State} {a2 : Int} {a3 : Int} {r : Gi_State × Bool} (H : Ds_LoseSteps a0 a1 a2 a3 = some r) : Ct X.P X.gl 48 [.agg [sl 5 gi_Terrain a0.Rules.Terrains, sl 6 gi_Kind a0.Rules.Kinds, I a0.Rules.Stack, I a0.Rules.River, I a0.Rules.Road, I a0.Rules.Supply, I a0.Rules.Turns, I a0.Map.Width, I a0.Map.Height, sl 1 I a0.Map.Terrain, sl 1 I a0.Map.Rivers, sl 1 I a0.Map.Roads], .agg [I a1.Turn, I a1.Weather, sl 4 gi_Unit a1.Units], I a2, I a3] [] (Rs_LoseSteps r) [] :=
  Ct.of func48 (c := bdy f48) (by kernel_rfl) (by kernel_rfl) <|
  eBind H fun r1 hr1 H =>
  gS [r0] (by kernel_rfl) P0 <|
  eIf H (fun h2 H =>
    eBind H fun r3 hr3 H =>
    eIf H (fun h4 H =>
      eBind H fun r5 hr5 H =>
      eIf H (fun h6 H =>
        eBind H fun r7 hr7 H =>
        eBind H fun r8 hr8 H =>
        eCk H fun h9 H =>
        eW Rs_LoseSteps (fun _ => []) H <| gE func48 [rg [{ i := 2, call := some { cl := true, auto := true, ins := [], res := (RB r1), G' := [] }, dec := some true }, { i := 10, call := some { cl := true, auto := true, ins := [], res := (RB r3), G' := [] }, dec := some true }, { i := 15, call := some { cl := true, auto := true, ins := [], res := (RB r5), G' := [] }, dec := some true }], rg [hC 1 true [] (Rs_sOwn r7) []], rg [hC 3 true [5] (Rs_sLose r8) (Ns_sLose r8)], r0] (by kernel_rfl) (P1 (cs_sGood hr1) <| P2 (r1 = true) (h2) <| P1 (cs_l1In hr3) <| P2 (r3 = true) (h4) <| P1 (cs_l1In hr5) <| P2 (r5 = true) (h6) <| P1 (cs_sOwn hr7) <| P1 h9 <| P1 (cs_sLose hr8) <| P0))
      (fun h6 H =>
        eW Rs_LoseSteps (fun _ => []) H <| gE func48 [rg [{ i := 2, call := some { cl := true, auto := true, ins := [], res := (RB r1), G' := [] }, dec := some true }, { i := 10, call := some { cl := true, auto := true, ins := [], res := (RB r3), G' := [] }, dec := some true }, { i := 15, call := some { cl := true, auto := true, ins := [], res := (RB r5), G' := [] }, dec := some false }], r0] (by kernel_rfl) (P1 (cs_sGood hr1) <| P2 (r1 = true) (h2) <| P1 (cs_l1In hr3) <| P2 (r3 = true) (h4) <| P1 (cs_l1In hr5) <| P2 (r5 = false) (eqF h6) <| P0)))
    (fun h4 H =>
      eW Rs_LoseSteps (fun _ => []) H <| gE func48 [rg [{ i := 2, call := some { cl := true, auto := true, ins := [], res := (RB r1), G' := [] }, dec := some true }, { i := 10, call := some { cl := true, auto := true, ins := [], res := (RB r3), G' := [] }, dec := some false }], r0] (by kernel_rfl) (P1 (cs_sGood hr1) <| P2 (r1 = true) (h2) <| P1 (cs_l1In hr3) <| P2 (r3 = false) (eqF h4) <| P0)))
  (fun h2 H =>
    eW Rs_LoseSteps (fun _ => []) H <| gE func48 [rg [{ i := 2, call := some { cl := true, auto := true, ins := [], res := (RB r1), G' := [] }, dec := some false }], r0] (by kernel_rfl) (P1 (cs_sGood hr1) <| P2 (r1 = false) (eqF h2) <| P0))
/-! loop example/g00886/spec DrawStackRoom -/
def Rs_DrawStackRoom (r : Gi_Board × Gi_State × Int × Int) : List D := [.agg [sl 5 gi_Terrain r.1.Rules.Terrains, sl 6 gi_Kind r.1.Rules.Kinds, I r.1.Rules.Stack, I r.1.Rules.River, I r.1.Rules.Road, I r.1.Rules.Supply, I r.1.Rules.Turns, I r.1.Map.Width, I r.1.Map.Height, sl 1 I r.1.Map.Terrain, sl 1 I r.1.Map.Rivers, sl 1 I r.1.Map.Roads], .agg [I r.2.1.Turn, I r.2.1.Weather, sl 4 gi_Unit r.2.1.Units], I r.2.2.1, I r.2.2.2]
theorem cs_DrawStackRoom {a0 : (List Int)} {r : Gi_Board × Gi_State × Int × Int} (H : Ds_DrawStackRoom a0 = some r) : Ct X.P X.gl 49 [sl 1 (D.int .u8) a0] [] (Rs_DrawStackRoom r) [] :=
  Ct.of func49 (c := bdy f49) (by kernel_rfl) (by kernel_rfl) <|
  eBind H fun r1 hr1 H =>
  eBind H fun r2 hr2 H =>
  eBind H fun r3 hr3 H =>
  eW Rs_DrawStackRoom (fun _ => []) H <| gE func49 [r0, r0, rg [hC 1 true [2] (Rs_l1Cur_game r1) (Ns_l1Cur_game r1)], rg [{ i := 4, frz := [20], call := some { cl := true, auto := true, ins := [2], res := (Rs_l1Cur_among r2), G' := (Ns_l1Cur_among r2) } }, { i := 8, frz := [17], call := some { cl := true, auto := true, ins := [2], res := (Rs_l1Cur_hexIn r3), G' := (Ns_l1Cur_hexIn r3) } }]] (by kernel_rfl) (PI (1 : Nat) <| P1 (cs_l1Cur_game hr1) <| PI (1 : Nat) <| P1 (cs_l1Cur_among hr2) <| PI (1 : Nat) <| P1 (cs_l1Cur_hexIn hr3) <| P0)
/-! loop example/g00886/impl hasHex -/
theorem ci_hasHex {a0 : Gi_Board} {a1 : Gi_State} {a2 : Int} {r : Bool} (H : Di_hasHex a0 a1 a2 = some r) : Ct X.P X.gl 80 [.agg [sl 5 gi_Terrain a0.Rules.Terrains, sl 6 gi_Kind a0.Rules.Kinds, I a0.Rules.Stack, I a0.Rules.River, I a0.Rules.Road, I a0.Rules.Supply, I a0.Rules.Turns, I a0.Map.Width, I a0.Map.Height, sl 1 I a0.Map.Terrain, sl 1 I a0.Map.Rivers, sl 1 I a0.Map.Roads], .agg [I a1.Turn, I a1.Weather, sl 4 gi_Unit a1.Units], I a2] [] (RB r) [] :=
  Ct.of func80 (c := bdy f80) (by kernel_rfl) (by kernel_rfl) <|
  eBind H fun r1 hr1 H =>
  gS [r0] (by kernel_rfl) P0 <|
  eIf H (fun h2 H =>
    eBind H fun r3 hr3 H =>
    eBind H fun r4 hr4 H =>
    eW RB (fun _ => []) H <| gE func80 [rg [{ i := 2, call := some { cl := true, auto := true, ins := [], res := (RB r1), G' := [] }, dec := some true }, hC 6 true [] (RI r3) [], hC 7 true [] (RB r4) []]] (by kernel_rfl) (P1 (ci_fits hr1) <| P2 (r1 = true) (h2) <| P1 (ci_sizeOf hr3) <| P1 (ci_isIndex hr4) <| P0))
  (fun h2 H =>
    eW RB (fun _ => []) H <| gE func80 [rg [{ i := 2, call := some { cl := true, auto := true, ins := [], res := (RB r1), G' := [] }, dec := some false }]] (by kernel_rfl) (P1 (ci_fits hr1) <| P2 (r1 = false) (eqF h2) <| P0))
/-! loop example/g00886/impl ownerOf -/
noncomputable def Ki_ownerOf : Si_ownerOf → List Item
  | .h1 .. => nav 300 2 [] [.code (bdy f160)]
def Zi_ownerOf : Si_ownerOf → St
  | .h1 i0 t1 t2 t3 => ⟨sts 21 [(1, I i0), (8, sl 4 gi_Unit t1), (9, I t2), (10, I t3)], []⟩
abbrev Qi_ownerOf := Nx X 160 0 Ki_ownerOf Zi_ownerOf RI (fun _ => [])
theorem ni_ownerOf : ∀ s o, Bi_ownerOf s = some o → Qi_ownerOf (Ki_ownerOf s) (Zi_ownerOf s) o
  | .h1 i0 t1 t2 t3, o, H =>
    eIf H (fun h1 H =>
      eCk H fun h2 H =>
      eBind H fun x3 hx3 H =>
      gN [rg [hT 0], rg [hE 1 (gi_Unit x3)]] (by kernel_rfl) (P2 ((decide (t3 < t2)) = true) (decide_eq_true h1) <| P1 h2 <| P1 (int_lt_of_at h2 hx3) <| P1 (at_map gi_Unit hx3) <| P0) <|
      eIf H (fun h4 H =>
        eN H <| gE func160 [rg [hT 3], r0] (by kernel_rfl) (P2 (((x3.At : Int) == i0) = true) (beqT h4) <| P0))
      (fun h4 H =>
        eN H fun r hn => gO [rg [hF 3], r0, .canon [] [1, 8, 9, 10]] (by kernel_rfl) (P2 (((x3.At : Int) == i0) = false) (beqF h4) <| P0) hn))
    (fun h1 H =>
      eN H <| gE func160 [rg [hF 0], r0] (by kernel_rfl) (P2 ((decide (t3 < t2)) = false) (decide_eq_false h1) <| P0))
theorem wi_ownerOf : ∀ s r, loop Bi_ownerOf s = some r → Wc X 160 0 (Ki_ownerOf s) (Zi_ownerOf s) (RI r) ((fun _ => []) r) := Nx.all ni_ownerOf
theorem ci_ownerOf {a0 : Gi_State} {a1 : Int} {r : Int} (H : Di_ownerOf a0 a1 = some r) : Ct X.P X.gl 160 [.agg [I a0.Turn, I a0.Weather, sl 4 gi_Unit a0.Units], I a1] [] (RI r) [] :=
  Ct.of func160 (c := bdy f160) (by kernel_rfl) (by kernel_rfl) <|
  gO [r0, r0, .canon [] [1, 8, 9, 10]] (by kernel_rfl) P0 (wi_ownerOf _ _ H)
/-! loop example/g00886/impl unitsAt -/
def Ri_unitsAt (r : (List Int)) : List D := [ow 1 I r]
noncomputable def Ki_unitsAt : Si_unitsAt → List Item
  | .h1 .. => nav 300 3 [] [.code (bdy f119)]
def Zi_unitsAt : Si_unitsAt → St
  | .h1 i0 t1 t2 t3 l4 => ⟨sts 27 [(1, I i0), (5, .ref 0 1 none), (10, sl 4 gi_Unit t1), (11, I t2), (12, I t3)], [some ⟨false, false, 1, l4.length, List.map I l4⟩]⟩
abbrev Qi_unitsAt := Nx X 119 0 Ki_unitsAt Zi_unitsAt Ri_unitsAt (fun _ => [])
theorem ni_unitsAt : ∀ s o, Bi_unitsAt s = some o → Qi_unitsAt (Ki_unitsAt s) (Zi_unitsAt s) o
  | .h1 i0 t1 t2 t3 l4, o, H =>
    eIf H (fun h1 H =>
      eCk H fun h2 H =>
      eBind H fun x3 hx3 H =>
      gN [rg [hT 0], rg [hE 2 (gi_Unit x3)]] (by kernel_rfl) (P2 ((decide (t3 < t2)) = true) (decide_eq_true h1) <| P1 h2 <| P1 (int_lt_of_at h2 hx3) <| P1 (at_map gi_Unit hx3) <| P0) <|
      eIf H (fun h4 H =>
        eCk H fun h5 H =>
        eN H fun r hn => gO [rg [hT 3], rg [hA 3 ((l4 ++ [t3]).length) (List.map I (l4 ++ [t3]))], r0, .canon [3] [1, 5, 10, 11, 12]] (by kernel_rfl) (P2 (((x3.At : Int) == i0) = true) (beqT h4) <| P1 (apL l4 [t3]) <| P1 (apB h5) <| P1 (apM I l4 [t3]) <| P0) hn)
      (fun h4 H =>
        eN H fun r hn => gO [rg [hF 3], r0, .canon [0] [1, 5, 10, 11, 12]] (by kernel_rfl) (P2 (((x3.At : Int) == i0) = false) (beqF h4) <| P0) hn))
    (fun h1 H =>
      eN H <| gE func119 [rg [hF 0], r0] (by kernel_rfl) (P2 ((decide (t3 < t2)) = false) (decide_eq_false h1) <| P0))
theorem wi_unitsAt : ∀ s r, loop Bi_unitsAt s = some r → Wc X 119 0 (Ki_unitsAt s) (Zi_unitsAt s) (Ri_unitsAt r) ((fun _ => []) r) := Nx.all ni_unitsAt
theorem ci_unitsAt {a0 : Gi_State} {a1 : Int} {r : (List Int)} (H : Di_unitsAt a0 a1 = some r) : Ct X.P X.gl 119 [.agg [I a0.Turn, I a0.Weather, sl 4 gi_Unit a0.Units], I a1] [] (Ri_unitsAt r) [] :=
  Ct.of func119 (c := bdy f119) (by kernel_rfl) (by kernel_rfl) <|
  gO [r0, r0, r0, .canon [1] [1, 5, 10, 11, 12]] (by kernel_rfl) P0 (wi_unitsAt _ _ H)
/-! loop example/g00886/impl stackRoom -/
theorem ci_stackRoom {a0 : Gi_Board} {a1 : Gi_State} {a2 : Int} {a3 : Int} {r : Int} (H : Di_stackRoom a0 a1 a2 a3 = some r) : Ct X.P X.gl 116 [.agg [sl 5 gi_Terrain a0.Rules.Terrains, sl 6 gi_Kind a0.Rules.Kinds, I a0.Rules.Stack, I a0.Rules.River, I a0.Rules.Road, I a0.Rules.Supply, I a0.Rules.Turns, I a0.Map.Width, I a0.Map.Height, sl 1 I a0.Map.Terrain, sl 1 I a0.Map.Rivers, sl 1 I a0.Map.Roads], .agg [I a1.Turn, I a1.Weather, sl 4 gi_Unit a1.Units], I a2, I a3] [] (RI r) [] :=
  Ct.of func116 (c := bdy f116) (by kernel_rfl) (by kernel_rfl) <|
  eBind H fun r1 hr1 H =>
  gS [r0] (by kernel_rfl) P0 <|
  eIf H (fun h2 H =>
    eW RI (fun _ => []) H <| gE func116 [rg [hC 2 true [] (RI r1) [], hT 5], r0] (by kernel_rfl) (P1 (ci_ownerOf hr1) <| P2 (((r1 : Int) == (IntKind.wrap .i64 (1 - a2))) = true) (beqT h2) <| P0))
  (fun h2 H =>
    eBind H fun r3 hr3 H =>
    eW RI (fun _ => []) H <| gE func116 [rg [hC 2 true [] (RI r1) [], hF 5], rg [hC 5 true [] (Ri_unitsAt r3) []]] (by kernel_rfl) (P1 (ci_ownerOf hr1) <| P2 (((r1 : Int) == (IntKind.wrap .i64 (1 - a2))) = false) (beqF h2) <| P1 (ci_unitsAt hr3) <| P0))
/-! loop example/g00886/impl StackRoom -/
def Ri_StackRoom (r : Int × Bool) : List D := [I r.1, .bool r.2]
theorem ci_StackRoom {a0 : Gi_Board} {a1 : Gi_State} {a2 : Int} {a3 : Int} {r : Int × Bool} (H : Di_StackRoom a0 a1 a2 a3 = some r) : Ct X.P X.gl 50 [.agg [sl 5 gi_Terrain a0.Rules.Terrains, sl 6 gi_Kind a0.Rules.Kinds, I a0.Rules.Stack, I a0.Rules.River, I a0.Rules.Road, I a0.Rules.Supply, I a0.Rules.Turns, I a0.Map.Width, I a0.Map.Height, sl 1 I a0.Map.Terrain, sl 1 I a0.Map.Rivers, sl 1 I a0.Map.Roads], .agg [I a1.Turn, I a1.Weather, sl 4 gi_Unit a1.Units], I a2, I a3] [] (Ri_StackRoom r) [] :=
  Ct.of func50 (c := bdy f50) (by kernel_rfl) (by kernel_rfl) <|
  eBind H fun r1 hr1 H =>
  gS [r0] (by kernel_rfl) P0 <|
  eIf H (fun h2 H =>
    eBind H fun r3 hr3 H =>
    eIf H (fun h4 H =>
      eBind H fun r5 hr5 H =>
      eW Ri_StackRoom (fun _ => []) H <| gE func50 [rg [{ i := 3, call := some { cl := true, auto := true, ins := [], res := (RB r1), G' := [] }, dec := some true }, { i := 7, call := some { cl := true, auto := true, ins := [], res := (RB r3), G' := [] }, dec := some true }], rg [hC 4 true [] (RI r5) []]] (by kernel_rfl) (P1 (ci_hasHex hr1) <| P2 (r1 = true) (h2) <| P1 (ci_isSide hr3) <| P2 (r3 = true) (h4) <| P1 (ci_stackRoom hr5) <| P0))
    (fun h4 H =>
      eW Ri_StackRoom (fun _ => []) H <| gE func50 [rg [{ i := 3, call := some { cl := true, auto := true, ins := [], res := (RB r1), G' := [] }, dec := some true }, { i := 7, call := some { cl := true, auto := true, ins := [], res := (RB r3), G' := [] }, dec := some false }], r0] (by kernel_rfl) (P1 (ci_hasHex hr1) <| P2 (r1 = true) (h2) <| P1 (ci_isSide hr3) <| P2 (r3 = false) (eqF h4) <| P0)))
  (fun h2 H =>
    eW Ri_StackRoom (fun _ => []) H <| gE func50 [rg [{ i := 3, call := some { cl := true, auto := true, ins := [], res := (RB r1), G' := [] }, dec := some false }], r0] (by kernel_rfl) (P1 (ci_hasHex hr1) <| P2 (r1 = false) (eqF h2) <| P0))
/-! loop example/g00886/spec sOwner -/
noncomputable def Ks_sOwner : Ss_sOwner → List Item
  | .h1 .. => nav 300 2 [] [.code (bdy f117)]
def Zs_sOwner : Ss_sOwner → St
  | .h1 i0 t1 t2 t3 => ⟨sts 21 [(1, I i0), (8, sl 4 gi_Unit t1), (9, I t2), (10, I t3)], []⟩
abbrev Qs_sOwner := Nx X 117 0 Ks_sOwner Zs_sOwner RI (fun _ => [])
theorem ns_sOwner : ∀ s o, Bs_sOwner s = some o → Qs_sOwner (Ks_sOwner s) (Zs_sOwner s) o
  | .h1 i0 t1 t2 t3, o, H =>
    eIf H (fun h1 H =>
      eCk H fun h2 H =>
      eBind H fun x3 hx3 H =>
      gN [rg [hT 0], rg [hE 1 (gi_Unit x3)]] (by kernel_rfl) (P2 ((decide (t3 < t2)) = true) (decide_eq_true h1) <| P1 h2 <| P1 (int_lt_of_at h2 hx3) <| P1 (at_map gi_Unit hx3) <| P0) <|
      eIf H (fun h4 H =>
        eN H <| gE func117 [rg [hT 3], r0] (by kernel_rfl) (P2 (((x3.At : Int) == i0) = true) (beqT h4) <| P0))
      (fun h4 H =>
        eN H fun r hn => gO [rg [hF 3], r0, .canon [] [1, 8, 9, 10]] (by kernel_rfl) (P2 (((x3.At : Int) == i0) = false) (beqF h4) <| P0) hn))
    (fun h1 H =>
      eN H <| gE func117 [rg [hF 0], r0] (by kernel_rfl) (P2 ((decide (t3 < t2)) = false) (decide_eq_false h1) <| P0))
theorem ws_sOwner : ∀ s r, loop Bs_sOwner s = some r → Wc X 117 0 (Ks_sOwner s) (Zs_sOwner s) (RI r) ((fun _ => []) r) := Nx.all ns_sOwner
theorem cs_sOwner {a0 : Gi_State} {a1 : Int} {r : Int} (H : Ds_sOwner a0 a1 = some r) : Ct X.P X.gl 117 [.agg [I a0.Turn, I a0.Weather, sl 4 gi_Unit a0.Units], I a1] [] (RI r) [] :=
  Ct.of func117 (c := bdy f117) (by kernel_rfl) (by kernel_rfl) <|
  gO [r0, r0, .canon [] [1, 8, 9, 10]] (by kernel_rfl) P0 (ws_sOwner _ _ H)
/-! loop example/g00886/spec StackRoom -/
def Rs_StackRoom (r : Int × Bool) : List D := [I r.1, .bool r.2]
theorem cs_StackRoom {a0 : Gi_Board} {a1 : Gi_State} {a2 : Int} {a3 : Int} {r : Int × Bool} (H : Ds_StackRoom a0 a1 a2 a3 = some r) : Ct X.P X.gl 51 [.agg [sl 5 gi_Terrain a0.Rules.Terrains, sl 6 gi_Kind a0.Rules.Kinds, I a0.Rules.Stack, I a0.Rules.River, I a0.Rules.Road, I a0.Rules.Supply, I a0.Rules.Turns, I a0.Map.Width, I a0.Map.Height, sl 1 I a0.Map.Terrain, sl 1 I a0.Map.Rivers, sl 1 I a0.Map.Roads], .agg [I a1.Turn, I a1.Weather, sl 4 gi_Unit a1.Units], I a2, I a3] [] (Rs_StackRoom r) [] :=
  Ct.of func51 (c := bdy f51) (by kernel_rfl) (by kernel_rfl) <|
  eBind H fun r1 hr1 H =>
  gS [r0] (by kernel_rfl) P0 <|
  eIf H (fun h2 H =>
    eBind H fun r3 hr3 H =>
    eIf H (fun h4 H =>
      eBind H fun r5 hr5 H =>
      gS [rg [{ i := 3, call := some { cl := true, auto := true, ins := [], res := (RB r1), G' := [] }, dec := some true }, { i := 7, call := some { cl := true, auto := true, ins := [], res := (RB r3), G' := [] }, dec := some true }]] (by kernel_rfl) (P1 (cs_sHex hr1) <| P2 (r1 = true) (h2) <| P1 (cs_l1In hr3) <| P2 (r3 = true) (h4) <| P0) <|
      eIf H (fun h6 H =>
        eW Rs_StackRoom (fun _ => []) H <| gE func51 [rg [hC 2 true [] (RI r5) [], hT 5], r0] (by kernel_rfl) (P1 (cs_sOwner hr5) <| P2 (((r5 : Int) == (IntKind.wrap .i64 (1 - a2))) = true) (beqT h6) <| P0))
      (fun h6 H =>
        eBind H fun r7 hr7 H =>
        eW Rs_StackRoom (fun _ => []) H <| gE func51 [rg [hC 2 true [] (RI r5) [], hF 5], rg [hC 6 true [] (Rs_sAt r7) []]] (by kernel_rfl) (P1 (cs_sOwner hr5) <| P2 (((r5 : Int) == (IntKind.wrap .i64 (1 - a2))) = false) (beqF h6) <| P1 (cs_sAt hr7) <| P0)))
    (fun h4 H =>
      eW Rs_StackRoom (fun _ => []) H <| gE func51 [rg [{ i := 3, call := some { cl := true, auto := true, ins := [], res := (RB r1), G' := [] }, dec := some true }, { i := 7, call := some { cl := true, auto := true, ins := [], res := (RB r3), G' := [] }, dec := some false }], r0] (by kernel_rfl) (P1 (cs_sHex hr1) <| P2 (r1 = true) (h2) <| P1 (cs_l1In hr3) <| P2 (r3 = false) (eqF h4) <| P0)))
  (fun h2 H =>
    eW Rs_StackRoom (fun _ => []) H <| gE func51 [rg [{ i := 3, call := some { cl := true, auto := true, ins := [], res := (RB r1), G' := [] }, dec := some false }], r0] (by kernel_rfl) (P1 (cs_sHex hr1) <| P2 (r1 = false) (eqF h2) <| P0))
/-! loop example/g00886/impl forceOf -/
theorem ci_forceOf {a0 : Gi_Board} {a1 : Gi_Unit} {r : Int} (H : Di_forceOf a0 a1 = some r) : Ct X.P X.gl 120 [.agg [sl 5 gi_Terrain a0.Rules.Terrains, sl 6 gi_Kind a0.Rules.Kinds, I a0.Rules.Stack, I a0.Rules.River, I a0.Rules.Road, I a0.Rules.Supply, I a0.Rules.Turns, I a0.Map.Width, I a0.Map.Height, sl 1 I a0.Map.Terrain, sl 1 I a0.Map.Rivers, sl 1 I a0.Map.Roads], .agg [I a1.Side, I a1.Kind, I a1.At, I a1.Steps]] [] (RI r) [] :=
  Ct.of func120 (c := bdy f120) (by kernel_rfl) (by kernel_rfl) <|
  eCk H fun h1 H =>
  eBind H fun x2 hx2 H =>
  eW RI (fun _ => []) H <| gE func120 [r0, rg [hE 7 (gi_Kind x2)]] (by kernel_rfl) (P1 h1 <| P1 (int_lt_of_at h1 hx2) <| P1 (at_map gi_Kind hx2) <| P0)
/-! loop example/g00886/impl StrengthAt -/
def Ri_StrengthAt (r : Int × Bool) : List D := [I r.1, .bool r.2]
noncomputable def Ki_StrengthAt : Si_StrengthAt → List Item
  | .h1 .. => nav 300 4 [false] [.code (bdy f52)]
def Zi_StrengthAt : Si_StrengthAt → St
  | .h1 side0 sum1 t2 t3 b4 b5 l6 => ⟨sts 50 [(2, I side0), (4, .ptr 0 12 0 0), (5, .ptr 1 3 0 0), (10, I sum1), (25, .ref 2 1 none), (26, I t2), (27, I t3)], [some ⟨false, true, 12, 1, [.agg [sl 5 gi_Terrain b4.Rules.Terrains, sl 6 gi_Kind b4.Rules.Kinds, I b4.Rules.Stack, I b4.Rules.River, I b4.Rules.Road, I b4.Rules.Supply, I b4.Rules.Turns, I b4.Map.Width, I b4.Map.Height, sl 1 I b4.Map.Terrain, sl 1 I b4.Map.Rivers, sl 1 I b4.Map.Roads]]⟩, some ⟨false, true, 3, 1, [.agg [I b5.Turn, I b5.Weather, sl 4 gi_Unit b5.Units]]⟩, some ⟨false, false, 1, l6.length, List.map I l6⟩]⟩
abbrev Qi_StrengthAt := Nx X 52 0 Ki_StrengthAt Zi_StrengthAt Ri_StrengthAt (fun _ => [])
theorem ni_StrengthAt : ∀ s o, Bi_StrengthAt s = some o → Qi_StrengthAt (Ki_StrengthAt s) (Zi_StrengthAt s) o
  | .h1 side0 sum1 t2 t3 b4 b5 l6, o, H =>
    eIf H (fun h1 H =>
      eCk H fun h2 H =>
      eBind H fun x3 hx3 H =>
      eCk H fun h4 H =>
      eBind H fun x5 hx5 H =>
      gN [rg [hT 0], rg [hE 1 (I x3)]] (by kernel_rfl) (P2 ((decide (t3 < t2)) = true) (decide_eq_true h1) <| P1 h2 <| P1 (int_lt_of_at h2 hx3) <| P1 (at_map I hx3) <| P0) <|
      eIf H (fun h6 H =>
        eCk H fun h7 H =>
        eBind H fun x8 hx8 H =>
        eBind H fun r9 hr9 H =>
        eN H fun r hn => gO [rg [hE 5 (gi_Unit x5), hT 7], rg [hE 6 (gi_Unit x8), hC 7 true [] (RI r9) []], r0, .canon [0, 1, 2] [2, 4, 5, 10, 25, 26, 27]] (by kernel_rfl) (P1 h4 <| P1 (int_lt_of_at h4 hx5) <| P1 (at_map gi_Unit hx5) <| P2 (((x5.Side : Int) == side0) = true) (beqT h6) <| P1 h7 <| P1 (int_lt_of_at h7 hx8) <| P1 (at_map gi_Unit hx8) <| P1 (ci_forceOf hr9) <| P0) hn)
      (fun h6 H =>
        eN H fun r hn => gO [rg [hE 5 (gi_Unit x5), hF 7], r0, .canon [0, 1, 2] [2, 4, 5, 10, 25, 26, 27]] (by kernel_rfl) (P1 h4 <| P1 (int_lt_of_at h4 hx5) <| P1 (at_map gi_Unit hx5) <| P2 (((x5.Side : Int) == side0) = false) (beqF h6) <| P0) hn))
    (fun h1 H =>
      eN H <| gE func52 [rg [hF 0], r0] (by kernel_rfl) (P2 ((decide (t3 < t2)) = false) (decide_eq_false h1) <| P0))
theorem wi_StrengthAt : ∀ s r, loop Bi_StrengthAt s = some r → Wc X 52 0 (Ki_StrengthAt s) (Zi_StrengthAt s) (Ri_StrengthAt r) ((fun _ => []) r) := Nx.all ni_StrengthAt
theorem ci_StrengthAt {a0 : Gi_Board} {a1 : Gi_State} {a2 : Int} {a3 : Int} {r : Int × Bool} (H : Di_StrengthAt a0 a1 a2 a3 = some r) : Ct X.P X.gl 52 [.agg [sl 5 gi_Terrain a0.Rules.Terrains, sl 6 gi_Kind a0.Rules.Kinds, I a0.Rules.Stack, I a0.Rules.River, I a0.Rules.Road, I a0.Rules.Supply, I a0.Rules.Turns, I a0.Map.Width, I a0.Map.Height, sl 1 I a0.Map.Terrain, sl 1 I a0.Map.Rivers, sl 1 I a0.Map.Roads], .agg [I a1.Turn, I a1.Weather, sl 4 gi_Unit a1.Units], I a2, I a3] [] (Ri_StrengthAt r) [] :=
  Ct.of func52 (c := bdy f52) (by kernel_rfl) (by kernel_rfl) <|
  eBind H fun r1 hr1 H =>
  gS [r0] (by kernel_rfl) P0 <|
  eIf H (fun h2 H =>
    eBind H fun r3 hr3 H =>
    eIf H (fun h4 H =>
      eBind H fun r5 hr5 H =>
      gO [rg [{ i := 3, call := some { cl := true, auto := true, ins := [], res := (RB r1), G' := [] }, dec := some true }, { i := 7, call := some { cl := true, auto := true, ins := [], res := (RB r3), G' := [] }, dec := some true }], r0, rg [hC 2 true [] (Ri_unitsAt r5) []], .canon [0, 1, 2] [2, 4, 5, 10, 25, 26, 27]] (by kernel_rfl) (P1 (ci_hasHex hr1) <| P2 (r1 = true) (h2) <| P1 (ci_isSide hr3) <| P2 (r3 = true) (h4) <| P1 (ci_unitsAt hr5) <| P0) (wi_StrengthAt _ _ H))
    (fun h4 H =>
      eW Ri_StrengthAt (fun _ => []) H <| gE func52 [rg [{ i := 3, call := some { cl := true, auto := true, ins := [], res := (RB r1), G' := [] }, dec := some true }, { i := 7, call := some { cl := true, auto := true, ins := [], res := (RB r3), G' := [] }, dec := some false }], r0] (by kernel_rfl) (P1 (ci_hasHex hr1) <| P2 (r1 = true) (h2) <| P1 (ci_isSide hr3) <| P2 (r3 = false) (eqF h4) <| P0)))
  (fun h2 H =>
    eW Ri_StrengthAt (fun _ => []) H <| gE func52 [rg [{ i := 3, call := some { cl := true, auto := true, ins := [], res := (RB r1), G' := [] }, dec := some false }], r0] (by kernel_rfl) (P1 (ci_hasHex hr1) <| P2 (r1 = false) (eqF h2) <| P0))
/-! loop example/g00886/spec sStrength -/
noncomputable def Ks_sStrength : Ss_sStrength → List Item
  | .h1 .. => nav 300 3 [] [.code (bdy f121)]
def Zs_sStrength : Ss_sStrength → St
  | .h1 sum0 t1 t2 b3 b4 l5 => ⟨sts 44 [(4, .ptr 0 12 0 0), (5, .ptr 1 3 0 0), (9, I sum0), (15, .ref 2 1 none), (16, I t1), (17, I t2)], [some ⟨false, true, 12, 1, [.agg [sl 5 gi_Terrain b3.Rules.Terrains, sl 6 gi_Kind b3.Rules.Kinds, I b3.Rules.Stack, I b3.Rules.River, I b3.Rules.Road, I b3.Rules.Supply, I b3.Rules.Turns, I b3.Map.Width, I b3.Map.Height, sl 1 I b3.Map.Terrain, sl 1 I b3.Map.Rivers, sl 1 I b3.Map.Roads]]⟩, some ⟨false, true, 3, 1, [.agg [I b4.Turn, I b4.Weather, sl 4 gi_Unit b4.Units]]⟩, some ⟨false, false, 1, l5.length, List.map I l5⟩]⟩
abbrev Qs_sStrength := Nx X 121 0 Ks_sStrength Zs_sStrength RI (fun _ => [])
theorem ns_sStrength : ∀ s o, Bs_sStrength s = some o → Qs_sStrength (Ks_sStrength s) (Zs_sStrength s) o
  | .h1 sum0 t1 t2 b3 b4 l5, o, H =>
    eIf H (fun h1 H =>
      eCk H fun h2 H =>
      eBind H fun x3 hx3 H =>
      eCk H fun h4 H =>
      eBind H fun x5 hx5 H =>
      eCk H fun h6 H =>
      eBind H fun x7 hx7 H =>
      eCk H fun h8 H =>
      eBind H fun x9 hx9 H =>
      eN H fun r hn => gO [rg [hT 0], rg [hE 1 (I x3)], rg [hE 9 (gi_Unit x5), hE 12 (gi_Kind x7), hE 18 (gi_Unit x9)], r0, .canon [0, 1, 2] [4, 5, 9, 15, 16, 17]] (by kernel_rfl) (P2 ((decide (t2 < t1)) = true) (decide_eq_true h1) <| P1 h2 <| P1 (int_lt_of_at h2 hx3) <| P1 (at_map I hx3) <| P1 h4 <| P1 (int_lt_of_at h4 hx5) <| P1 (at_map gi_Unit hx5) <| P1 h6 <| P1 (int_lt_of_at h6 hx7) <| P1 (at_map gi_Kind hx7) <| P1 h8 <| P1 (int_lt_of_at h8 hx9) <| P1 (at_map gi_Unit hx9) <| P0) hn)
    (fun h1 H =>
      eN H <| gE func121 [rg [hF 0], r0] (by kernel_rfl) (P2 ((decide (t2 < t1)) = false) (decide_eq_false h1) <| P0))
theorem ws_sStrength : ∀ s r, loop Bs_sStrength s = some r → Wc X 121 0 (Ks_sStrength s) (Zs_sStrength s) (RI r) ((fun _ => []) r) := Nx.all ns_sStrength
theorem cs_sStrength {a0 : Gi_Board} {a1 : Gi_State} {a2 : Int} {a3 : Int} {r : Int} (H : Ds_sStrength a0 a1 a2 a3 = some r) : Ct X.P X.gl 121 [.agg [sl 5 gi_Terrain a0.Rules.Terrains, sl 6 gi_Kind a0.Rules.Kinds, I a0.Rules.Stack, I a0.Rules.River, I a0.Rules.Road, I a0.Rules.Supply, I a0.Rules.Turns, I a0.Map.Width, I a0.Map.Height, sl 1 I a0.Map.Terrain, sl 1 I a0.Map.Rivers, sl 1 I a0.Map.Roads], .agg [I a1.Turn, I a1.Weather, sl 4 gi_Unit a1.Units], I a2, I a3] [] (RI r) [] :=
  Ct.of func121 (c := bdy f121) (by kernel_rfl) (by kernel_rfl) <|
  eBind H fun r1 hr1 H =>
  gO [r0, r0, rg [hC 3 true [] (Rs_sAt r1) []], .canon [0, 1, 2] [4, 5, 9, 15, 16, 17]] (by kernel_rfl) (P1 (cs_sAt hr1) <| P0) (ws_sStrength _ _ H)
/-! loop example/g00886/spec StrengthAt -/
def Rs_StrengthAt (r : Int × Bool) : List D := [I r.1, .bool r.2]
theorem cs_StrengthAt {a0 : Gi_Board} {a1 : Gi_State} {a2 : Int} {a3 : Int} {r : Int × Bool} (H : Ds_StrengthAt a0 a1 a2 a3 = some r) : Ct X.P X.gl 53 [.agg [sl 5 gi_Terrain a0.Rules.Terrains, sl 6 gi_Kind a0.Rules.Kinds, I a0.Rules.Stack, I a0.Rules.River, I a0.Rules.Road, I a0.Rules.Supply, I a0.Rules.Turns, I a0.Map.Width, I a0.Map.Height, sl 1 I a0.Map.Terrain, sl 1 I a0.Map.Rivers, sl 1 I a0.Map.Roads], .agg [I a1.Turn, I a1.Weather, sl 4 gi_Unit a1.Units], I a2, I a3] [] (Rs_StrengthAt r) [] :=
  Ct.of func53 (c := bdy f53) (by kernel_rfl) (by kernel_rfl) <|
  eBind H fun r1 hr1 H =>
  gS [r0] (by kernel_rfl) P0 <|
  eIf H (fun h2 H =>
    eBind H fun r3 hr3 H =>
    eIf H (fun h4 H =>
      eBind H fun r5 hr5 H =>
      eW Rs_StrengthAt (fun _ => []) H <| gE func53 [rg [{ i := 3, call := some { cl := true, auto := true, ins := [], res := (RB r1), G' := [] }, dec := some true }, { i := 7, call := some { cl := true, auto := true, ins := [], res := (RB r3), G' := [] }, dec := some true }], rg [hC 4 true [] (RI r5) []]] (by kernel_rfl) (P1 (cs_sHex hr1) <| P2 (r1 = true) (h2) <| P1 (cs_l1In hr3) <| P2 (r3 = true) (h4) <| P1 (cs_sStrength hr5) <| P0))
    (fun h4 H =>
      eW Rs_StrengthAt (fun _ => []) H <| gE func53 [rg [{ i := 3, call := some { cl := true, auto := true, ins := [], res := (RB r1), G' := [] }, dec := some true }, { i := 7, call := some { cl := true, auto := true, ins := [], res := (RB r3), G' := [] }, dec := some false }], r0] (by kernel_rfl) (P1 (cs_sHex hr1) <| P2 (r1 = true) (h2) <| P1 (cs_l1In hr3) <| P2 (r3 = false) (eqF h4) <| P0)))
  (fun h2 H =>
    eW Rs_StrengthAt (fun _ => []) H <| gE func53 [rg [{ i := 3, call := some { cl := true, auto := true, ins := [], res := (RB r1), G' := [] }, dec := some false }], r0] (by kernel_rfl) (P1 (cs_sHex hr1) <| P2 (r1 = false) (eqF h2) <| P0))
/-! loop example/g00886/laws qUnits -/
noncomputable def Kw_qUnits : Sw_qUnits → List Item
  | .h1 .. => nav 300 3 [false] [.code (bdy f122)]
def Zw_qUnits : Sw_qUnits → St
  | .h1 va0 b1 t2 t3 => ⟨sts 26 [(0, sl 4 gi_Unit va0), (1, sl 4 gi_Unit b1), (12, I t2), (13, I t3)], []⟩
abbrev Qw_qUnits := Nx X 122 0 Kw_qUnits Zw_qUnits RB (fun _ => [])
theorem nw_qUnits : ∀ s o, Bw_qUnits s = some o → Qw_qUnits (Kw_qUnits s) (Zw_qUnits s) o
  | .h1 va0 b1 t2 t3, o, H =>
    eIf H (fun h1 H =>
      eCk H fun h2 H =>
      eBind H fun x3 hx3 H =>
      eCk H fun h4 H =>
      eBind H fun x5 hx5 H =>
      gN [rg [hT 0], r0] (by kernel_rfl) (P2 ((decide (t3 < t2)) = true) (decide_eq_true h1) <| P0) <|
      eIf H (fun h6 H =>
        eN H <| gE func122 [rg [hE 3 (gi_Unit x3), hE 7 (gi_Unit x5), hT 8], r0] (by kernel_rfl) (P1 h2 <| P1 (int_lt_of_at h2 hx3) <| P1 (at_map gi_Unit hx3) <| P1 h4 <| P1 (int_lt_of_at h4 hx5) <| P1 (at_map gi_Unit hx5) <| P2 ((!((x3.Side == x5.Side) && ((x3.Kind == x5.Kind) && ((x3.At == x5.At) && (x3.Steps == x5.Steps))))) = true) (h6) <| P0))
      (fun h6 H =>
        eN H fun r hn => gO [rg [hE 3 (gi_Unit x3), hE 7 (gi_Unit x5), hF 8], r0, .canon [] [0, 1, 12, 13]] (by kernel_rfl) (P1 h2 <| P1 (int_lt_of_at h2 hx3) <| P1 (at_map gi_Unit hx3) <| P1 h4 <| P1 (int_lt_of_at h4 hx5) <| P1 (at_map gi_Unit hx5) <| P2 ((!((x3.Side == x5.Side) && ((x3.Kind == x5.Kind) && ((x3.At == x5.At) && (x3.Steps == x5.Steps))))) = false) (eqF h6) <| P0) hn))
    (fun h1 H =>
      eN H <| gE func122 [rg [hF 0], r0] (by kernel_rfl) (P2 ((decide (t3 < t2)) = false) (decide_eq_false h1) <| P0))
theorem ww_qUnits : ∀ s r, loop Bw_qUnits s = some r → Wc X 122 0 (Kw_qUnits s) (Zw_qUnits s) (RB r) ((fun _ => []) r) := Nx.all nw_qUnits
theorem cw_qUnits {a0 : (List Gi_Unit)} {a1 : (List Gi_Unit)} {r : Bool} (H : Dw_qUnits a0 a1 = some r) : Ct X.P X.gl 122 [sl 4 gi_Unit a0, sl 4 gi_Unit a1] [] (RB r) [] :=
  Ct.of func122 (c := bdy f122) (by kernel_rfl) (by kernel_rfl) <|
  gS [r0] (by kernel_rfl) P0 <|
  eIf H (fun h1 H =>
    gO [rg [hF 4], r0, .canon [] [0, 1, 12, 13]] (by kernel_rfl) (P2 (((((a0.length : Nat) : Int) : Int) != ((a1.length : Nat) : Int)) = false) (bneF h1) <| P0) (ww_qUnits _ _ H))
  (fun h1 H =>
    eW RB (fun _ => []) H <| gE func122 [rg [hT 4], r0] (by kernel_rfl) (P2 (((((a0.length : Nat) : Int) : Int) != ((a1.length : Nat) : Int)) = true) (bneT h1) <| P0))
/-! loop example/g00886/laws qState -/
theorem cw_qState {a0 : Gi_State} {a1 : Gi_State} {r : Bool} (H : Dw_qState a0 a1 = some r) : Ct X.P X.gl 54 [.agg [I a0.Turn, I a0.Weather, sl 4 gi_Unit a0.Units], .agg [I a1.Turn, I a1.Weather, sl 4 gi_Unit a1.Units]] [] (RB r) [] :=
  Ct.of func54 (c := bdy f54) (by kernel_rfl) (by kernel_rfl) <|
  gS [r0] (by kernel_rfl) P0 <|
  eIf H (fun h1 H =>
    eIf H (fun h2 H =>
      eBind H fun r3 hr3 H =>
      eW RB (fun _ => []) H <| gE func54 [rg [hT 4, hT 10, hC 17 true [] (RB r3) []]] (by kernel_rfl) (P2 (((a0.Turn : Int) == a1.Turn) = true) (beqT h1) <| P2 (((a0.Weather : Int) == a1.Weather) = true) (beqT h2) <| P1 (cw_qUnits hr3) <| P0))
    (fun h2 H =>
      eW RB (fun _ => []) H <| gE func54 [rg [hT 4, hF 10]] (by kernel_rfl) (P2 (((a0.Turn : Int) == a1.Turn) = true) (beqT h1) <| P2 (((a0.Weather : Int) == a1.Weather) = false) (beqF h2) <| P0)))
  (fun h1 H =>
    eW RB (fun _ => []) H <| gE func54 [rg [hF 4]] (by kernel_rfl) (P2 (((a0.Turn : Int) == a1.Turn) = false) (beqF h1) <| P0))
/-! loop example/g00886/impl CountSteps -/
def Ri_CountSteps (r : Int × Int × Bool) : List D := [I r.1, I r.2.1, .bool r.2.2]
noncomputable def Ki_CountSteps : Si_CountSteps → List Item
  | .h1 .. => nav 300 4 [false] [.code (bdy f55)]
def Zi_CountSteps : Si_CountSteps → St
  | .h1 t0 t1 t2 b3 => ⟨sts 38 [(7, .ptr 0 2 0 0), (16, sl 4 gi_Unit t0), (17, I t1), (18, I t2)], [some ⟨false, true, 2, 1, [.agg [I b3.c0, I b3.c1]]⟩]⟩
abbrev Qi_CountSteps := Nx X 55 0 Ki_CountSteps Zi_CountSteps Ri_CountSteps (fun _ => [])
theorem ni_CountSteps : ∀ s o, Bi_CountSteps s = some o → Qi_CountSteps (Ki_CountSteps s) (Zi_CountSteps s) o
  | .h1 t0 t1 t2 b3, o, H =>
    eIf H (fun h1 H =>
      eCk H fun h2 H =>
      eBind H fun x3 hx3 H =>
      gN [rg [hT 0], rg [hE 1 (gi_Unit x3)]] (by kernel_rfl) (P2 ((decide (t2 < t1)) = true) (decide_eq_true h1) <| P1 h2 <| P1 (int_lt_of_at h2 hx3) <| P1 (at_map gi_Unit hx3) <| P0) <|
      eIf H (fun h4 H =>
        gN [rg [hT 2]] (by kernel_rfl) (P2 ((decide (x3.At ≥ 0)) = true) (decide_eq_true h4) <| P0) <|
        eIf H (fun h5 H =>
          eN H fun r hn => gO [rg [{ i := 2, n := 0 }, { i := 7, n := 0 }], r0, .canon [0] [7, 16, 17, 18]] (by kernel_rfl) (P1 h5 <| P1 h5 <| P0) hn)
        (fun h5 H =>
          eCk H fun h6 H =>
          eN H fun r hn => gO [rg [{ i := 2, n := 1 }, { i := 7, n := 1 }], r0, .canon [0] [7, 16, 17, 18]] (by kernel_rfl) (P1 h6 <| P1 h6 <| P0) hn))
      (fun h4 H =>
        eN H fun r hn => gO [rg [hF 2], r0, .canon [0] [7, 16, 17, 18]] (by kernel_rfl) (P2 ((decide (x3.At ≥ 0)) = false) (decide_eq_false h4) <| P0) hn))
    (fun h1 H =>
      eN H <| gE func55 [rg [hF 0], rg [{ i := 0, n := 0 }, { i := 2, n := 1 }]] (by kernel_rfl) (P2 ((decide (t2 < t1)) = false) (decide_eq_false h1) <| P2 ((0 : Int) = ((0 : Nat) : Int)) rfl <| P2 ((1 : Int) = ((1 : Nat) : Int)) rfl <| P0))
theorem wi_CountSteps : ∀ s r, loop Bi_CountSteps s = some r → Wc X 55 0 (Ki_CountSteps s) (Zi_CountSteps s) (Ri_CountSteps r) ((fun _ => []) r) := Nx.all ni_CountSteps
theorem ci_CountSteps {a0 : Gi_Board} {a1 : Gi_State} {r : Int × Int × Bool} (H : Di_CountSteps a0 a1 = some r) : Ct X.P X.gl 55 [.agg [sl 5 gi_Terrain a0.Rules.Terrains, sl 6 gi_Kind a0.Rules.Kinds, I a0.Rules.Stack, I a0.Rules.River, I a0.Rules.Road, I a0.Rules.Supply, I a0.Rules.Turns, I a0.Map.Width, I a0.Map.Height, sl 1 I a0.Map.Terrain, sl 1 I a0.Map.Rivers, sl 1 I a0.Map.Roads], .agg [I a1.Turn, I a1.Weather, sl 4 gi_Unit a1.Units]] [] (Ri_CountSteps r) [] :=
  Ct.of func55 (c := bdy f55) (by kernel_rfl) (by kernel_rfl) <|
  eBind H fun r1 hr1 H =>
  gS [r0] (by kernel_rfl) P0 <|
  eIf H (fun h2 H =>
    gO [rg [{ i := 2, call := some { cl := true, auto := true, ins := [], res := (RB r1), G' := [] }, dec := some true }], r0, r0, .canon [2] [7, 16, 17, 18]] (by kernel_rfl) (P1 (ci_fits hr1) <| P2 (r1 = true) (h2) <| P0) (wi_CountSteps _ _ H))
  (fun h2 H =>
    eW Ri_CountSteps (fun _ => []) H <| gE func55 [rg [{ i := 2, call := some { cl := true, auto := true, ins := [], res := (RB r1), G' := [] }, dec := some false }], r0] (by kernel_rfl) (P1 (ci_fits hr1) <| P2 (r1 = false) (eqF h2) <| P0))
/-! loop example/g00886/impl IsState -/
def Ri_IsState (r : Bool × Bool) : List D := [.bool r.1, .bool r.2]
theorem ci_IsState {a0 : Gi_Board} {a1 : Gi_State} {r : Bool × Bool} (H : Di_IsState a0 a1 = some r) : Ct X.P X.gl 56 [.agg [sl 5 gi_Terrain a0.Rules.Terrains, sl 6 gi_Kind a0.Rules.Kinds, I a0.Rules.Stack, I a0.Rules.River, I a0.Rules.Road, I a0.Rules.Supply, I a0.Rules.Turns, I a0.Map.Width, I a0.Map.Height, sl 1 I a0.Map.Terrain, sl 1 I a0.Map.Rivers, sl 1 I a0.Map.Roads], .agg [I a1.Turn, I a1.Weather, sl 4 gi_Unit a1.Units]] [] (Ri_IsState r) [] :=
  Ct.of func56 (c := bdy f56) (by kernel_rfl) (by kernel_rfl) <|
  eBind H fun r1 hr1 H =>
  gS [r0] (by kernel_rfl) P0 <|
  eIf H (fun h2 H =>
    eBind H fun r3 hr3 H =>
    eW Ri_IsState (fun _ => []) H <| gE func56 [rg [{ i := 1, call := some { cl := true, auto := true, ins := [], res := (RB r1), G' := [] }, dec := some true }], rg [hC 2 true [] (RB r3) []]] (by kernel_rfl) (P1 (ci_IsBoard hr1) <| P2 (r1 = true) (h2) <| P1 (ci_goodState hr3) <| P0))
  (fun h2 H =>
    eW Ri_IsState (fun _ => []) H <| gE func56 [rg [{ i := 1, call := some { cl := true, auto := true, ins := [], res := (RB r1), G' := [] }, dec := some false }], r0] (by kernel_rfl) (P1 (ci_IsBoard hr1) <| P2 (r1 = false) (eqF h2) <| P0))
/-! loop example/g00886/impl UnitsAt -/
def Ri_UnitsAt (r : (List Int) × Bool) : List D := [ow 1 I r.1, .bool r.2]
theorem ci_UnitsAt {a0 : Gi_Board} {a1 : Gi_State} {a2 : Int} {r : (List Int) × Bool} (H : Di_UnitsAt a0 a1 a2 = some r) : Ct X.P X.gl 57 [.agg [sl 5 gi_Terrain a0.Rules.Terrains, sl 6 gi_Kind a0.Rules.Kinds, I a0.Rules.Stack, I a0.Rules.River, I a0.Rules.Road, I a0.Rules.Supply, I a0.Rules.Turns, I a0.Map.Width, I a0.Map.Height, sl 1 I a0.Map.Terrain, sl 1 I a0.Map.Rivers, sl 1 I a0.Map.Roads], .agg [I a1.Turn, I a1.Weather, sl 4 gi_Unit a1.Units], I a2] [] (Ri_UnitsAt r) [] :=
  Ct.of func57 (c := bdy f57) (by kernel_rfl) (by kernel_rfl) <|
  eBind H fun r1 hr1 H =>
  gS [r0] (by kernel_rfl) P0 <|
  eIf H (fun h2 H =>
    eBind H fun r3 hr3 H =>
    eW Ri_UnitsAt (fun _ => []) H <| gE func57 [rg [{ i := 3, call := some { cl := true, auto := true, ins := [], res := (RB r1), G' := [] }, dec := some true }], rg [hC 2 true [] (Ri_unitsAt r3) []]] (by kernel_rfl) (P1 (ci_hasHex hr1) <| P2 (r1 = true) (h2) <| P1 (ci_unitsAt hr3) <| P0))
  (fun h2 H =>
    eW Ri_UnitsAt (fun _ => []) H <| gE func57 [rg [{ i := 3, call := some { cl := true, auto := true, ins := [], res := (RB r1), G' := [] }, dec := some false }], r0] (by kernel_rfl) (P1 (ci_hasHex hr1) <| P2 (r1 = false) (eqF h2) <| P0))
/-! loop example/g00886/laws qHas -/
noncomputable def Kw_qHas : Sw_qHas → List Item
  | .h1 .. => nav 300 2 [] [.code (bdy f25)]
def Zw_qHas : Sw_qHas → St
  | .h1 n0 t1 t2 t3 => ⟨sts 17 [(1, I n0), (7, sl 1 I t1), (8, I t2), (9, I t3)], []⟩
abbrev Qw_qHas := Nx X 25 0 Kw_qHas Zw_qHas RB (fun _ => [])
theorem nw_qHas : ∀ s o, Bw_qHas s = some o → Qw_qHas (Kw_qHas s) (Zw_qHas s) o
  | .h1 n0 t1 t2 t3, o, H =>
    eIf H (fun h1 H =>
      eCk H fun h2 H =>
      eBind H fun x3 hx3 H =>
      gN [rg [hT 0], rg [hE 1 (I x3)]] (by kernel_rfl) (P2 ((decide (t3 < t2)) = true) (decide_eq_true h1) <| P1 h2 <| P1 (int_lt_of_at h2 hx3) <| P1 (at_map I hx3) <| P0) <|
      eIf H (fun h4 H =>
        eN H <| gE func25 [rg [hT 2], r0] (by kernel_rfl) (P2 (((x3 : Int) == n0) = true) (beqT h4) <| P0))
      (fun h4 H =>
        eN H fun r hn => gO [rg [hF 2], r0, .canon [] [1, 7, 8, 9]] (by kernel_rfl) (P2 (((x3 : Int) == n0) = false) (beqF h4) <| P0) hn))
    (fun h1 H =>
      eN H <| gE func25 [rg [hF 0], r0] (by kernel_rfl) (P2 ((decide (t3 < t2)) = false) (decide_eq_false h1) <| P0))
theorem ww_qHas : ∀ s r, loop Bw_qHas s = some r → Wc X 25 0 (Kw_qHas s) (Zw_qHas s) (RB r) ((fun _ => []) r) := Nx.all nw_qHas
theorem cw_qHas {a0 : (List Int)} {a1 : Int} {r : Bool} (H : Dw_qHas a0 a1 = some r) : Ct X.P X.gl 25 [sl 1 I a0, I a1] [] (RB r) [] :=
  Ct.of func25 (c := bdy f25) (by kernel_rfl) (by kernel_rfl) <|
  gO [r0, r0, .canon [] [1, 7, 8, 9]] (by kernel_rfl) P0 (ww_qHas _ _ H)
/-! loop example/g00886/laws FnPlacing -/
noncomputable def Kw_FnPlacing : Sw_FnPlacing → List Item
  | .h1 .. => nav 300 19 [false, false, true, false] [.code (bdy f6)]
def Zw_FnPlacing : Sw_FnPlacing → St
  | .h1 t0 t1 t2 b3 b4 b5 l6 => ⟨sts 249 [(5, .ptr 0 12 0 0), (7, I t0), (8, I t1), (9, .ptr 1 3 0 0), (10, .bool t2)], [some ⟨false, true, 12, 1, [.agg [sl 5 gi_Terrain b3.Rules.Terrains, sl 6 gi_Kind b3.Rules.Kinds, I b3.Rules.Stack, I b3.Rules.River, I b3.Rules.Road, I b3.Rules.Supply, I b3.Rules.Turns, I b3.Map.Width, I b3.Map.Height, sl 1 I b3.Map.Terrain, sl 1 I b3.Map.Rivers, sl 1 I b3.Map.Roads]]⟩, some ⟨false, true, 3, 1, [.agg [I b4, I b5, .ref 2 4 none]]⟩, some ⟨false, false, 4, l6.length, List.map gi_Unit l6⟩]⟩
abbrev Qw_FnPlacing := Nx X 6 0 Kw_FnPlacing Zw_FnPlacing RB (fun _ => [])
theorem nw_FnPlacing : ∀ s o, Bw_FnPlacing s = some o → Qw_FnPlacing (Kw_FnPlacing s) (Zw_FnPlacing s) o
  | .h1 t0 t1 true b3 b4 b5 l6, o, H =>
    eIf H (fun h1 H =>
      eN H <| gE func6 [rg [hT 4], r0] (by kernel_rfl) (P2 ((decide (t1 < 0)) = true) (decide_eq_true h1) <| P0))
    (fun h1 H =>
      eBind H fun r2 hr2 H =>
      gN [rg [hF 4]] (by kernel_rfl) (P2 ((decide (t1 < 0)) = false) (decide_eq_false h1) <| P0) <|
      eIf H (fun h3 H =>
        eBind H fun r4 hr4 H =>
        eN H <| gE func6 [rg [hC 3 false [] (Ri_UnitsAt r2) [], hT 6], rg [hC 4 false [] (RB r4) []]] (by kernel_rfl) (P2 (nfL (List.flatMap D.cells (Ri_UnitsAt r2))) ⟨nfL_map nf_3 _, trivial, trivial⟩ <| P2 (nfG []) trivial <| P1 (ci_UnitsAt hr2) <| P2 (r2.2 = true) (h3) <| P1 (cw_qHas hr4) <| P0))
      (fun h3 H =>
        eN H <| gE func6 [rg [hC 3 false [] (Ri_UnitsAt r2) [], hF 6], r0] (by kernel_rfl) (P2 (nfL (List.flatMap D.cells (Ri_UnitsAt r2))) ⟨nfL_map nf_3 _, trivial, trivial⟩ <| P2 (nfG []) trivial <| P1 (ci_UnitsAt hr2) <| P2 (r2.2 = false) (eqF h3) <| P0)))
  | .h1 t0 t1 false b3 b4 b5 l6, o, H =>
    eN H <| gE func6 [r0, r0] (by kernel_rfl) P0
theorem ww_FnPlacing : ∀ s r, loop Bw_FnPlacing s = some r → Wc X 6 0 (Kw_FnPlacing s) (Zw_FnPlacing s) (RB r) ((fun _ => []) r) := Nx.all nw_FnPlacing
theorem cw_FnPlacing {a0 : (List Int)} {a1 : (List Int)} {r : Bool} (H : Dw_FnPlacing a0 a1 = some r) : Ct X.P X.gl 6 [sl 1 (D.int .u8) a0, sl 1 (D.int .u8) a1] [] (RB r) [] :=
  Ct.of func6 (c := bdy f6) (by kernel_rfl) (by kernel_rfl) <|
  gS [r0] (by kernel_rfl) P0 <|
  eIf H (fun h1 H =>
    eW RB (fun _ => []) H <| gE func6 [rg [hT 5], r0] (by kernel_rfl) (P2 ((decide ((IntKind.wrap .i64 (((a0.length : Nat) : Int) + ((a1.length : Nat) : Int))) > 1048576)) = true) (decide_eq_true h1) <| P0))
  (fun h1 H =>
    eBind H fun r2 hr2 H =>
    eBind H fun r3 hr3 H =>
    eBind H fun r4 hr4 H =>
    eBind H fun r5 hr5 H =>
    eBind H fun r6 hr6 H =>
    gS [rg [hF 5], rg [hC 1 true [] (Rs_DrawPlaceUnit r2) []], rg [hC 4 true [] (Ri_PlaceUnit r3) []], rg [hC 4 true [] (Rs_PlaceUnit r4) []], rg [hC 1 true [] (Rs_DrawLoseSteps r5) []]] (by kernel_rfl) (P2 ((decide ((IntKind.wrap .i64 (((a0.length : Nat) : Int) + ((a1.length : Nat) : Int))) > 1048576)) = false) (decide_eq_false h1) <| P1 (cs_DrawPlaceUnit hr2) <| P1 (ci_PlaceUnit hr3) <| P1 (cs_PlaceUnit hr4) <| P1 (cs_DrawLoseSteps hr5) <| P0) <|
    eIf H (fun h7 H =>
      eBind H fun r8 hr8 H =>
      eBind H fun r9 hr9 H =>
      eBind H fun r10 hr10 H =>
      eBind H fun r11 hr11 H =>
      eBind H fun r12 hr12 H =>
      eBind H fun r13 hr13 H =>
      gS [rg [hC 4 false [] (Ri_LoseSteps r6) [], hT 7], rg [hC 4 false [] (Rs_LoseSteps r8) []], rg [hC 1 true [] (Rs_DrawStackRoom r9) []], rg [hC 4 true [] (Ri_StackRoom r10) []], rg [hC 4 true [] (Rs_StackRoom r11) []], rg [hC 4 true [] (Ri_StrengthAt r12) []], rg [hC 4 true [] (Rs_StrengthAt r13) []]] (by kernel_rfl) (P2 (nfL (List.flatMap D.cells (Ri_LoseSteps r6))) ⟨trivial, trivial, nfL_map nf_95 _, trivial, trivial⟩ <| P2 (nfG []) trivial <| P1 (ci_LoseSteps hr6) <| P2 (r6.2 = true) (h7) <| P2 (nfL (List.flatMap D.cells (Rs_LoseSteps r8))) ⟨trivial, trivial, nfL_map nf_95 _, trivial, trivial⟩ <| P2 (nfG []) trivial <| P1 (cs_LoseSteps hr8) <| P1 (cs_DrawStackRoom hr9) <| P1 (ci_StackRoom hr10) <| P1 (cs_StackRoom hr11) <| P1 (ci_StrengthAt hr12) <| P1 (cs_StrengthAt hr13) <| P0) <|
      eIf H (fun h14 H =>
        eW RB (fun _ => []) H <| gE func6 [rg [hT 2], r0] (by kernel_rfl) (P2 ((!(r3.2 == r4.2)) = true) (h14) <| P0))
      (fun h14 H =>
        eBind H fun r15 hr15 H =>
        eIf H (fun h16 H =>
          eIf H (fun h17 H =>
            eW RB (fun _ => []) H <| gE func6 [rg [hF 2, { i := 6, call := some { cl := false, auto := true, ins := [], res := (RB r15), G' := [] }, dec := some true }, hT 12], r0] (by kernel_rfl) (P2 ((!(r3.2 == r4.2)) = false) (eqF h14) <| P1 (cw_qState hr15) <| P2 (r15 = true) (h16) <| P2 ((!(true == r8.2)) = true) (h17) <| P0))
          (fun h17 H =>
            eBind H fun r18 hr18 H =>
            eIf H (fun h19 H =>
              eIf H (fun h20 H =>
                eW RB (fun _ => []) H <| gE func6 [rg [hF 2, { i := 6, call := some { cl := false, auto := true, ins := [], res := (RB r15), G' := [] }, dec := some true }, hF 12, { i := 17, call := some { cl := false, auto := true, ins := [], res := (RB r18), G' := [] }, dec := some true }, hT 23], r0] (by kernel_rfl) (P2 ((!(r3.2 == r4.2)) = false) (eqF h14) <| P1 (cw_qState hr15) <| P2 (r15 = true) (h16) <| P2 ((!(true == r8.2)) = false) (eqF h17) <| P1 (cw_qState hr18) <| P2 (r18 = true) (h19) <| P2 ((!(r10.2 == r11.2)) = true) (h20) <| P0))
              (fun h20 H =>
                eIf H (fun h21 H =>
                  eIf H (fun h22 H =>
                    eW RB (fun _ => []) H <| gE func6 [rg [hF 2, { i := 6, call := some { cl := false, auto := true, ins := [], res := (RB r15), G' := [] }, dec := some true }, hF 12, { i := 17, call := some { cl := false, auto := true, ins := [], res := (RB r18), G' := [] }, dec := some true }, hF 23, hF 28, hT 33], r0] (by kernel_rfl) (P2 ((!(r3.2 == r4.2)) = false) (eqF h14) <| P1 (cw_qState hr15) <| P2 (r15 = true) (h16) <| P2 ((!(true == r8.2)) = false) (eqF h17) <| P1 (cw_qState hr18) <| P2 (r18 = true) (h19) <| P2 ((!(r10.2 == r11.2)) = false) (eqF h20) <| P2 (((r10.1 : Int) != r11.1) = false) (bneF h21) <| P2 ((!(r12.2 == r13.2)) = true) (h22) <| P0))
                  (fun h22 H =>
                    eIf H (fun h23 H =>
                      eBind H fun r24 hr24 H =>
                      gS [rg [hF 2, { i := 6, call := some { cl := false, auto := true, ins := [], res := (RB r15), G' := [] }, dec := some true }, hF 12, { i := 17, call := some { cl := false, auto := true, ins := [], res := (RB r18), G' := [] }, dec := some true }, hF 23, hF 28, hF 33, hF 38], r0] (by kernel_rfl) (P2 ((!(r3.2 == r4.2)) = false) (eqF h14) <| P1 (cw_qState hr15) <| P2 (r15 = true) (h16) <| P2 ((!(true == r8.2)) = false) (eqF h17) <| P1 (cw_qState hr18) <| P2 (r18 = true) (h19) <| P2 ((!(r10.2 == r11.2)) = false) (eqF h20) <| P2 (((r10.1 : Int) != r11.1) = false) (bneF h21) <| P2 ((!(r12.2 == r13.2)) = false) (eqF h22) <| P2 (((r12.1 : Int) != r13.1) = false) (bneF h23) <| P0) <|
                      eIf H (fun h25 H =>
                        eBind H fun r26 hr26 H =>
                        gS [rg [hC 2 false [] (Ri_CountSteps r24) [], hT 6]] (by kernel_rfl) (P1 (ci_CountSteps hr24) <| P2 (r24.2.2 = true) (h25) <| P0) <|
                        eIf H (fun h27 H =>
                          eBind H fun r28 hr28 H =>
                          gS [rg [hC 2 false [] (Ri_CountSteps r26) [], hT 6]] (by kernel_rfl) (P1 (ci_CountSteps hr26) <| P2 (r26.2.2 = true) (h27) <| P0) <|
                          eIf H (fun h29 H =>
                            eIf H (fun h30 H =>
                              gS [rg [hC 2 false [] (Ri_IsState r28) [], hT 4, hT 5]] (by kernel_rfl) (P1 (ci_IsState hr28) <| P2 (r28.1 = true) (h29) <| P2 (r28.2 = true) (h30) <| P0) <|
                              eIf H (fun h31 H =>
                                eW RB (fun _ => []) H <| gE func6 [rg [hT 17], r0] (by kernel_rfl) (P2 ((decide (r26.1 > r24.1)) = true) (decide_eq_true h31) <| P0))
                              (fun h31 H =>
                                eIf H (fun h32 H =>
                                  eW RB (fun _ => []) H <| gE func6 [rg [hF 17, hT 22], r0] (by kernel_rfl) (P2 ((decide (r26.1 > r24.1)) = false) (decide_eq_false h31) <| P2 ((decide (r26.2.1 > r24.2.1)) = true) (decide_eq_true h32) <| P0))
                                (fun h32 H =>
                                  eIf H (fun h33 H =>
                                    eW RB (fun _ => []) H <| gE func6 [rg [hF 17, hF 22, hT 33], r0] (by kernel_rfl) (P2 ((decide (r26.1 > r24.1)) = false) (decide_eq_false h31) <| P2 ((decide (r26.2.1 > r24.2.1)) = false) (decide_eq_false h32) <| P2 ((decide ((IntKind.wrap .i64 ((IntKind.wrap .i64 ((IntKind.wrap .i64 (r24.1 + r24.2.1)) - r26.1)) - r26.2.1)) > r5.2.2.2)) = true) (decide_eq_true h33) <| P0))
                                  (fun h33 H =>
                                    gO [rg [hF 17, hF 22, hF 33], .canon [0, 5, 4] [5, 7, 8, 9, 10]] (by kernel_rfl) (P2 ((decide (r26.1 > r24.1)) = false) (decide_eq_false h31) <| P2 ((decide (r26.2.1 > r24.2.1)) = false) (decide_eq_false h32) <| P2 ((decide ((IntKind.wrap .i64 ((IntKind.wrap .i64 ((IntKind.wrap .i64 (r24.1 + r24.2.1)) - r26.1)) - r26.2.1)) > r5.2.2.2)) = false) (decide_eq_false h33) <| P0) (ww_FnPlacing _ _ H)))))
                            (fun h30 H =>
                              eW RB (fun _ => []) H <| gE func6 [rg [hC 2 false [] (Ri_IsState r28) [], hT 4, hF 5], r0, r0] (by kernel_rfl) (P1 (ci_IsState hr28) <| P2 (r28.1 = true) (h29) <| P2 (r28.2 = false) (eqF h30) <| P0)))
                          (fun h29 H =>
                            eIf H (fun h30 H =>
                              eW RB (fun _ => []) H <| gE func6 [rg [hC 2 false [] (Ri_IsState r28) [], hF 4, hT 5], r0, r0] (by kernel_rfl) (P1 (ci_IsState hr28) <| P2 (r28.1 = false) (eqF h29) <| P2 (r28.2 = true) (h30) <| P0))
                            (fun h30 H =>
                              eW RB (fun _ => []) H <| gE func6 [rg [hC 2 false [] (Ri_IsState r28) [], hF 4, hF 5], r0, r0] (by kernel_rfl) (P1 (ci_IsState hr28) <| P2 (r28.1 = false) (eqF h29) <| P2 (r28.2 = false) (eqF h30) <| P0))))
                        (fun h27 H =>
                          eBind H fun r28 hr28 H =>
                          gS [rg [hC 2 false [] (Ri_CountSteps r26) [], hF 6]] (by kernel_rfl) (P1 (ci_CountSteps hr26) <| P2 (r26.2.2 = false) (eqF h27) <| P0) <|
                          eIf H (fun h29 H =>
                            eW RB (fun _ => []) H <| gE func6 [rg [hC 2 false [] (Ri_IsState r28) [], hT 4], r0, r0] (by kernel_rfl) (P1 (ci_IsState hr28) <| P2 (r28.1 = true) (h29) <| P0))
                          (fun h29 H =>
                            eW RB (fun _ => []) H <| gE func6 [rg [hC 2 false [] (Ri_IsState r28) [], hF 4], r0, r0] (by kernel_rfl) (P1 (ci_IsState hr28) <| P2 (r28.1 = false) (eqF h29) <| P0))))
                      (fun h25 H =>
                        eBind H fun r26 hr26 H =>
                        eBind H fun r27 hr27 H =>
                        gS [rg [hC 2 false [] (Ri_CountSteps r24) [], hF 6], rg [hC 2 false [] (Ri_CountSteps r26) []]] (by kernel_rfl) (P1 (ci_CountSteps hr24) <| P2 (r24.2.2 = false) (eqF h25) <| P1 (ci_CountSteps hr26) <| P0) <|
                        eIf H (fun h28 H =>
                          eW RB (fun _ => []) H <| gE func6 [rg [hC 2 false [] (Ri_IsState r27) [], hT 4], r0, r0] (by kernel_rfl) (P1 (ci_IsState hr27) <| P2 (r27.1 = true) (h28) <| P0))
                        (fun h28 H =>
                          eW RB (fun _ => []) H <| gE func6 [rg [hC 2 false [] (Ri_IsState r27) [], hF 4], r0, r0] (by kernel_rfl) (P1 (ci_IsState hr27) <| P2 (r27.1 = false) (eqF h28) <| P0))))
                    (fun h23 H =>
                      eW RB (fun _ => []) H <| gE func6 [rg [hF 2, { i := 6, call := some { cl := false, auto := true, ins := [], res := (RB r15), G' := [] }, dec := some true }, hF 12, { i := 17, call := some { cl := false, auto := true, ins := [], res := (RB r18), G' := [] }, dec := some true }, hF 23, hF 28, hF 33, hT 38], r0] (by kernel_rfl) (P2 ((!(r3.2 == r4.2)) = false) (eqF h14) <| P1 (cw_qState hr15) <| P2 (r15 = true) (h16) <| P2 ((!(true == r8.2)) = false) (eqF h17) <| P1 (cw_qState hr18) <| P2 (r18 = true) (h19) <| P2 ((!(r10.2 == r11.2)) = false) (eqF h20) <| P2 (((r10.1 : Int) != r11.1) = false) (bneF h21) <| P2 ((!(r12.2 == r13.2)) = false) (eqF h22) <| P2 (((r12.1 : Int) != r13.1) = true) (bneT h23) <| P0))))
                (fun h21 H =>
                  eW RB (fun _ => []) H <| gE func6 [rg [hF 2, { i := 6, call := some { cl := false, auto := true, ins := [], res := (RB r15), G' := [] }, dec := some true }, hF 12, { i := 17, call := some { cl := false, auto := true, ins := [], res := (RB r18), G' := [] }, dec := some true }, hF 23, hT 28], r0] (by kernel_rfl) (P2 ((!(r3.2 == r4.2)) = false) (eqF h14) <| P1 (cw_qState hr15) <| P2 (r15 = true) (h16) <| P2 ((!(true == r8.2)) = false) (eqF h17) <| P1 (cw_qState hr18) <| P2 (r18 = true) (h19) <| P2 ((!(r10.2 == r11.2)) = false) (eqF h20) <| P2 (((r10.1 : Int) != r11.1) = true) (bneT h21) <| P0))))
            (fun h19 H =>
              eW RB (fun _ => []) H <| gE func6 [rg [hF 2, { i := 6, call := some { cl := false, auto := true, ins := [], res := (RB r15), G' := [] }, dec := some true }, hF 12, { i := 17, call := some { cl := false, auto := true, ins := [], res := (RB r18), G' := [] }, dec := some false }], r0] (by kernel_rfl) (P2 ((!(r3.2 == r4.2)) = false) (eqF h14) <| P1 (cw_qState hr15) <| P2 (r15 = true) (h16) <| P2 ((!(true == r8.2)) = false) (eqF h17) <| P1 (cw_qState hr18) <| P2 (r18 = false) (eqF h19) <| P0))))
        (fun h16 H =>
          eW RB (fun _ => []) H <| gE func6 [rg [hF 2, { i := 6, call := some { cl := false, auto := true, ins := [], res := (RB r15), G' := [] }, dec := some false }], r0] (by kernel_rfl) (P2 ((!(r3.2 == r4.2)) = false) (eqF h14) <| P1 (cw_qState hr15) <| P2 (r15 = false) (eqF h16) <| P0))))
    (fun h7 H =>
      eBind H fun r8 hr8 H =>
      eBind H fun r9 hr9 H =>
      eBind H fun r10 hr10 H =>
      eBind H fun r11 hr11 H =>
      eBind H fun r12 hr12 H =>
      eBind H fun r13 hr13 H =>
      gS [rg [hC 4 false [] (Ri_LoseSteps r6) [], hF 7], rg [hC 4 false [] (Rs_LoseSteps r8) []], rg [hC 1 true [] (Rs_DrawStackRoom r9) []], rg [hC 4 true [] (Ri_StackRoom r10) []], rg [hC 4 true [] (Rs_StackRoom r11) []], rg [hC 4 true [] (Ri_StrengthAt r12) []], rg [hC 4 true [] (Rs_StrengthAt r13) []]] (by kernel_rfl) (P2 (nfL (List.flatMap D.cells (Ri_LoseSteps r6))) ⟨trivial, trivial, nfL_map nf_95 _, trivial, trivial⟩ <| P2 (nfG []) trivial <| P1 (ci_LoseSteps hr6) <| P2 (r6.2 = false) (eqF h7) <| P2 (nfL (List.flatMap D.cells (Rs_LoseSteps r8))) ⟨trivial, trivial, nfL_map nf_95 _, trivial, trivial⟩ <| P2 (nfG []) trivial <| P1 (cs_LoseSteps hr8) <| P1 (cs_DrawStackRoom hr9) <| P1 (ci_StackRoom hr10) <| P1 (cs_StackRoom hr11) <| P1 (ci_StrengthAt hr12) <| P1 (cs_StrengthAt hr13) <| P0) <|
      eIf H (fun h14 H =>
        eW RB (fun _ => []) H <| gE func6 [rg [hT 2], r0] (by kernel_rfl) (P2 ((!(r3.2 == r4.2)) = true) (h14) <| P0))
      (fun h14 H =>
        eBind H fun r15 hr15 H =>
        eIf H (fun h16 H =>
          eIf H (fun h17 H =>
            eW RB (fun _ => []) H <| gE func6 [rg [hF 2, { i := 6, call := some { cl := false, auto := true, ins := [], res := (RB r15), G' := [] }, dec := some true }, hT 12], r0] (by kernel_rfl) (P2 ((!(r3.2 == r4.2)) = false) (eqF h14) <| P1 (cw_qState hr15) <| P2 (r15 = true) (h16) <| P2 ((!(false == r8.2)) = true) (h17) <| P0))
          (fun h17 H =>
            eBind H fun r18 hr18 H =>
            eIf H (fun h19 H =>
              eIf H (fun h20 H =>
                eW RB (fun _ => []) H <| gE func6 [rg [hF 2, { i := 6, call := some { cl := false, auto := true, ins := [], res := (RB r15), G' := [] }, dec := some true }, hF 12, { i := 17, call := some { cl := false, auto := true, ins := [], res := (RB r18), G' := [] }, dec := some true }, hT 23], r0] (by kernel_rfl) (P2 ((!(r3.2 == r4.2)) = false) (eqF h14) <| P1 (cw_qState hr15) <| P2 (r15 = true) (h16) <| P2 ((!(false == r8.2)) = false) (eqF h17) <| P1 (cw_qState hr18) <| P2 (r18 = true) (h19) <| P2 ((!(r10.2 == r11.2)) = true) (h20) <| P0))
              (fun h20 H =>
                eIf H (fun h21 H =>
                  eIf H (fun h22 H =>
                    eW RB (fun _ => []) H <| gE func6 [rg [hF 2, { i := 6, call := some { cl := false, auto := true, ins := [], res := (RB r15), G' := [] }, dec := some true }, hF 12, { i := 17, call := some { cl := false, auto := true, ins := [], res := (RB r18), G' := [] }, dec := some true }, hF 23, hF 28, hT 33], r0] (by kernel_rfl) (P2 ((!(r3.2 == r4.2)) = false) (eqF h14) <| P1 (cw_qState hr15) <| P2 (r15 = true) (h16) <| P2 ((!(false == r8.2)) = false) (eqF h17) <| P1 (cw_qState hr18) <| P2 (r18 = true) (h19) <| P2 ((!(r10.2 == r11.2)) = false) (eqF h20) <| P2 (((r10.1 : Int) != r11.1) = false) (bneF h21) <| P2 ((!(r12.2 == r13.2)) = true) (h22) <| P0))
                  (fun h22 H =>
                    eIf H (fun h23 H =>
                      gO [rg [hF 2, { i := 6, call := some { cl := false, auto := true, ins := [], res := (RB r15), G' := [] }, dec := some true }, hF 12, { i := 17, call := some { cl := false, auto := true, ins := [], res := (RB r18), G' := [] }, dec := some true }, hF 23, hF 28, hF 33, hF 38], r0, .canon [0, 5, 4] [5, 7, 8, 9, 10]] (by kernel_rfl) (P2 ((!(r3.2 == r4.2)) = false) (eqF h14) <| P1 (cw_qState hr15) <| P2 (r15 = true) (h16) <| P2 ((!(false == r8.2)) = false) (eqF h17) <| P1 (cw_qState hr18) <| P2 (r18 = true) (h19) <| P2 ((!(r10.2 == r11.2)) = false) (eqF h20) <| P2 (((r10.1 : Int) != r11.1) = false) (bneF h21) <| P2 ((!(r12.2 == r13.2)) = false) (eqF h22) <| P2 (((r12.1 : Int) != r13.1) = false) (bneF h23) <| P0) (ww_FnPlacing _ _ H))
                    (fun h23 H =>
                      eW RB (fun _ => []) H <| gE func6 [rg [hF 2, { i := 6, call := some { cl := false, auto := true, ins := [], res := (RB r15), G' := [] }, dec := some true }, hF 12, { i := 17, call := some { cl := false, auto := true, ins := [], res := (RB r18), G' := [] }, dec := some true }, hF 23, hF 28, hF 33, hT 38], r0] (by kernel_rfl) (P2 ((!(r3.2 == r4.2)) = false) (eqF h14) <| P1 (cw_qState hr15) <| P2 (r15 = true) (h16) <| P2 ((!(false == r8.2)) = false) (eqF h17) <| P1 (cw_qState hr18) <| P2 (r18 = true) (h19) <| P2 ((!(r10.2 == r11.2)) = false) (eqF h20) <| P2 (((r10.1 : Int) != r11.1) = false) (bneF h21) <| P2 ((!(r12.2 == r13.2)) = false) (eqF h22) <| P2 (((r12.1 : Int) != r13.1) = true) (bneT h23) <| P0))))
                (fun h21 H =>
                  eW RB (fun _ => []) H <| gE func6 [rg [hF 2, { i := 6, call := some { cl := false, auto := true, ins := [], res := (RB r15), G' := [] }, dec := some true }, hF 12, { i := 17, call := some { cl := false, auto := true, ins := [], res := (RB r18), G' := [] }, dec := some true }, hF 23, hT 28], r0] (by kernel_rfl) (P2 ((!(r3.2 == r4.2)) = false) (eqF h14) <| P1 (cw_qState hr15) <| P2 (r15 = true) (h16) <| P2 ((!(false == r8.2)) = false) (eqF h17) <| P1 (cw_qState hr18) <| P2 (r18 = true) (h19) <| P2 ((!(r10.2 == r11.2)) = false) (eqF h20) <| P2 (((r10.1 : Int) != r11.1) = true) (bneT h21) <| P0))))
            (fun h19 H =>
              eW RB (fun _ => []) H <| gE func6 [rg [hF 2, { i := 6, call := some { cl := false, auto := true, ins := [], res := (RB r15), G' := [] }, dec := some true }, hF 12, { i := 17, call := some { cl := false, auto := true, ins := [], res := (RB r18), G' := [] }, dec := some false }], r0] (by kernel_rfl) (P2 ((!(r3.2 == r4.2)) = false) (eqF h14) <| P1 (cw_qState hr15) <| P2 (r15 = true) (h16) <| P2 ((!(false == r8.2)) = false) (eqF h17) <| P1 (cw_qState hr18) <| P2 (r18 = false) (eqF h19) <| P0))))
        (fun h16 H =>
          eW RB (fun _ => []) H <| gE func6 [rg [hF 2, { i := 6, call := some { cl := false, auto := true, ins := [], res := (RB r15), G' := [] }, dec := some false }], r0] (by kernel_rfl) (P2 ((!(r3.2 == r4.2)) = false) (eqF h14) <| P1 (cw_qState hr15) <| P2 (r15 = false) (eqF h16) <| P0)))))
end Go.Proofs.YtpggeanoohlmjaaGreatDoor.Ab
