/- Part of the proof of FnBattlesCard: no condition of its own. -/
import Derived.Test.YtakcjcjfcignjaaGreatDoorB5BC
set_option linter.unusedVariables false
set_option linter.unusedSimpArgs false
open Go Go.Proofs Go.Proofs.Tryz
namespace Go.Proofs.YtakcjcjfcignjaaGreatDoor.Ab
/-! loop example/g00886/impl IsRules -/
noncomputable def Ki_IsRules : Si_IsRules → List Item
  | .h1 .. => nav 300 3 [false] [.code (bdy f142)]
  | .h2 .. => nav 300 5 [false, false] [.code (bdy f142)]
def Zi_IsRules : Si_IsRules → St
  | .h1 t0 t1 t2 b3 => ⟨sts 87 [(1, .ptr 0 7 0 0), (20, sl 5 gi_Terrain t0), (21, I t1), (22, I t2)], [some ⟨false, true, 7, 1, [.agg [sl 5 gi_Terrain b3.Terrains, sl 6 gi_Kind b3.Kinds, I b3.Stack, I b3.River, I b3.Road, I b3.Supply, I b3.Turns]]⟩]⟩
  | .h2 t0 t1 t2 b3 => ⟨sts 87 [(1, .ptr 0 7 0 0), (44, sl 6 gi_Kind t0), (45, I t1), (46, I t2)], [some ⟨false, true, 7, 1, [.agg [sl 5 gi_Terrain b3.Terrains, sl 6 gi_Kind b3.Kinds, I b3.Stack, I b3.River, I b3.Road, I b3.Supply, I b3.Turns]]⟩]⟩
abbrev Qi_IsRules := Nx X 142 0 Ki_IsRules Zi_IsRules RB (fun _ => [])
theorem ni_IsRules : ∀ s o, Bi_IsRules s = some o → Qi_IsRules (Ki_IsRules s) (Zi_IsRules s) o
  | .h1 t0 t1 t2 b3, o, H =>
    eIf H (fun h1 H =>
      eCk H fun h2 H =>
      eBind H fun x3 hx3 H =>
      eBind H fun r4 hr4 H =>
      gN [rg [hT 0], rg [hE 2 (gi_Terrain x3)]] (by kernel_rfl) (P2 ((decide (t2 < t1)) = true) (decide_eq_true h1) <| P1 h2 <| P1 (int_lt_of_at h2 hx3) <| P1 (at_map gi_Terrain hx3) <| P0) <|
      eIf H (fun h5 H =>
        eBind H fun r6 hr6 H =>
        eIf H (fun h7 H =>
          eN H fun r hn => gO [rg [{ i := 4, call := some { cl := true, auto := true, ins := [], res := (RB r4), G' := [] }, dec := some true }, hC 11 true [] (RI r6) [], hF 13], r0, .canon [0] [1, 20, 21, 22]] (by kernel_rfl) (P1 (ci_goodTerrain hr4) <| P2 (r4 = true) (h5) <| P1 (ci_terrainIndex hr6) <| P2 (((r6 : Int) != t2) = false) (bneF h7) <| P0) hn)
        (fun h7 H =>
          eN H <| gE func142 [rg [{ i := 4, call := some { cl := true, auto := true, ins := [], res := (RB r4), G' := [] }, dec := some true }, hC 11 true [] (RI r6) [], hT 13], r0] (by kernel_rfl) (P1 (ci_goodTerrain hr4) <| P2 (r4 = true) (h5) <| P1 (ci_terrainIndex hr6) <| P2 (((r6 : Int) != t2) = true) (bneT h7) <| P0)))
      (fun h5 H =>
        eN H <| gE func142 [rg [{ i := 4, call := some { cl := true, auto := true, ins := [], res := (RB r4), G' := [] }, dec := some false }], r0] (by kernel_rfl) (P1 (ci_goodTerrain hr4) <| P2 (r4 = false) (eqF h5) <| P0)))
    (fun h1 H =>
      eN H fun r hn => gO [rg [hF 0], r0, .canon [0] [1, 44, 45, 46]] (by kernel_rfl) (P2 ((decide (t2 < t1)) = false) (decide_eq_false h1) <| P0) hn)
  | .h2 t0 t1 t2 b3, o, H =>
    eIf H (fun h1 H =>
      eCk H fun h2 H =>
      eBind H fun x3 hx3 H =>
      eBind H fun r4 hr4 H =>
      gN [rg [hT 0], rg [hE 2 (gi_Kind x3)]] (by kernel_rfl) (P2 ((decide (t2 < t1)) = true) (decide_eq_true h1) <| P1 h2 <| P1 (int_lt_of_at h2 hx3) <| P1 (at_map gi_Kind hx3) <| P0) <|
      eIf H (fun h5 H =>
        eBind H fun r6 hr6 H =>
        eIf H (fun h7 H =>
          eN H fun r hn => gO [rg [{ i := 1, call := some { cl := true, auto := true, ins := [], res := (RB r4), G' := [] }, dec := some true }, hC 8 true [] (RI r6) [], hF 10], r0, .canon [0] [1, 44, 45, 46]] (by kernel_rfl) (P1 (ci_goodKind hr4) <| P2 (r4 = true) (h5) <| P1 (ci_kindIndex hr6) <| P2 (((r6 : Int) != t2) = false) (bneF h7) <| P0) hn)
        (fun h7 H =>
          eN H <| gE func142 [rg [{ i := 1, call := some { cl := true, auto := true, ins := [], res := (RB r4), G' := [] }, dec := some true }, hC 8 true [] (RI r6) [], hT 10], r0] (by kernel_rfl) (P1 (ci_goodKind hr4) <| P2 (r4 = true) (h5) <| P1 (ci_kindIndex hr6) <| P2 (((r6 : Int) != t2) = true) (bneT h7) <| P0)))
      (fun h5 H =>
        eN H <| gE func142 [rg [{ i := 1, call := some { cl := true, auto := true, ins := [], res := (RB r4), G' := [] }, dec := some false }], r0] (by kernel_rfl) (P1 (ci_goodKind hr4) <| P2 (r4 = false) (eqF h5) <| P0)))
    (fun h1 H =>
      eBind H fun r2 hr2 H =>
      gN [rg [hF 0]] (by kernel_rfl) (P2 ((decide (t2 < t1)) = false) (decide_eq_false h1) <| P0) <|
      eIf H (fun h3 H =>
        eBind H fun r4 hr4 H =>
        eIf H (fun h5 H =>
          eBind H fun r6 hr6 H =>
          eIf H (fun h7 H =>
            eBind H fun r8 hr8 H =>
            eIf H (fun h9 H =>
              eBind H fun r10 hr10 H =>
              eN H <| gE func142 [rg [{ i := 2, call := some { cl := true, auto := true, ins := [], res := (RB r2), G' := [] }, dec := some true }, { i := 6, call := some { cl := true, auto := true, ins := [], res := (RB r4), G' := [] }, dec := some true }, { i := 11, call := some { cl := true, auto := true, ins := [], res := (RB r6), G' := [] }, dec := some true }, { i := 16, call := some { cl := true, auto := true, ins := [], res := (RB r8), G' := [] }, dec := some true }, hC 21 true [] (RB r10) []]] (by kernel_rfl) (P1 (ci_inRange hr2) <| P2 (r2 = true) (h3) <| P1 (ci_inRange hr4) <| P2 (r4 = true) (h5) <| P1 (ci_inRange hr6) <| P2 (r6 = true) (h7) <| P1 (ci_inRange hr8) <| P2 (r8 = true) (h9) <| P1 (ci_inRange hr10) <| P0))
            (fun h9 H =>
              eN H <| gE func142 [rg [{ i := 2, call := some { cl := true, auto := true, ins := [], res := (RB r2), G' := [] }, dec := some true }, { i := 6, call := some { cl := true, auto := true, ins := [], res := (RB r4), G' := [] }, dec := some true }, { i := 11, call := some { cl := true, auto := true, ins := [], res := (RB r6), G' := [] }, dec := some true }, { i := 16, call := some { cl := true, auto := true, ins := [], res := (RB r8), G' := [] }, dec := some false }]] (by kernel_rfl) (P1 (ci_inRange hr2) <| P2 (r2 = true) (h3) <| P1 (ci_inRange hr4) <| P2 (r4 = true) (h5) <| P1 (ci_inRange hr6) <| P2 (r6 = true) (h7) <| P1 (ci_inRange hr8) <| P2 (r8 = false) (eqF h9) <| P0)))
          (fun h7 H =>
            eN H <| gE func142 [rg [{ i := 2, call := some { cl := true, auto := true, ins := [], res := (RB r2), G' := [] }, dec := some true }, { i := 6, call := some { cl := true, auto := true, ins := [], res := (RB r4), G' := [] }, dec := some true }, { i := 11, call := some { cl := true, auto := true, ins := [], res := (RB r6), G' := [] }, dec := some false }]] (by kernel_rfl) (P1 (ci_inRange hr2) <| P2 (r2 = true) (h3) <| P1 (ci_inRange hr4) <| P2 (r4 = true) (h5) <| P1 (ci_inRange hr6) <| P2 (r6 = false) (eqF h7) <| P0)))
        (fun h5 H =>
          eN H <| gE func142 [rg [{ i := 2, call := some { cl := true, auto := true, ins := [], res := (RB r2), G' := [] }, dec := some true }, { i := 6, call := some { cl := true, auto := true, ins := [], res := (RB r4), G' := [] }, dec := some false }]] (by kernel_rfl) (P1 (ci_inRange hr2) <| P2 (r2 = true) (h3) <| P1 (ci_inRange hr4) <| P2 (r4 = false) (eqF h5) <| P0)))
      (fun h3 H =>
        eN H <| gE func142 [rg [{ i := 2, call := some { cl := true, auto := true, ins := [], res := (RB r2), G' := [] }, dec := some false }]] (by kernel_rfl) (P1 (ci_inRange hr2) <| P2 (r2 = false) (eqF h3) <| P0)))
theorem wi_IsRules : ∀ s r, loop Bi_IsRules s = some r → Wc X 142 0 (Ki_IsRules s) (Zi_IsRules s) (RB r) ((fun _ => []) r) := Nx.all ni_IsRules
theorem ci_IsRules {a0 : Gi_Rules} {r : Bool} (H : Di_IsRules a0 = some r) : Ct X.P X.gl 142 [.agg [sl 5 gi_Terrain a0.Terrains, sl 6 gi_Kind a0.Kinds, I a0.Stack, I a0.River, I a0.Road, I a0.Supply, I a0.Turns]] [] (RB r) [] :=
  Ct.of func142 (c := bdy f142) (by kernel_rfl) (by kernel_rfl) <|
  eBind H fun r1 hr1 H =>
  gS [r0] (by kernel_rfl) P0 <|
  eIf H (fun h2 H =>
    eBind H fun r3 hr3 H =>
    eIf H (fun h4 H =>
      gO [rg [{ i := 3, call := some { cl := true, auto := true, ins := [], res := (RB r1), G' := [] }, dec := some true }, { i := 9, call := some { cl := true, auto := true, ins := [], res := (RB r3), G' := [] }, dec := some true }], r0, .canon [0] [1, 20, 21, 22]] (by kernel_rfl) (P1 (ci_inRange hr1) <| P2 (r1 = true) (h2) <| P1 (ci_inRange hr3) <| P2 (r3 = true) (h4) <| P0) (wi_IsRules _ _ H))
    (fun h4 H =>
      eW RB (fun _ => []) H <| gE func142 [rg [{ i := 3, call := some { cl := true, auto := true, ins := [], res := (RB r1), G' := [] }, dec := some true }, { i := 9, call := some { cl := true, auto := true, ins := [], res := (RB r3), G' := [] }, dec := some false }], r0] (by kernel_rfl) (P1 (ci_inRange hr1) <| P2 (r1 = true) (h2) <| P1 (ci_inRange hr3) <| P2 (r3 = false) (eqF h4) <| P0)))
  (fun h2 H =>
    eW RB (fun _ => []) H <| gE func142 [rg [{ i := 3, call := some { cl := true, auto := true, ins := [], res := (RB r1), G' := [] }, dec := some false }], r0] (by kernel_rfl) (P1 (ci_inRange hr1) <| P2 (r1 = false) (eqF h2) <| P0))
/-! loop example/g00886/impl isIndex -/
theorem ci_isIndex {a0 : Int} {a1 : Int} {r : Bool} (H : Di_isIndex a0 a1 = some r) : Ct X.P X.gl 51 [I a0, I a1] [] (RB r) [] :=
  Ct.of func51 (c := bdy f51) (by kernel_rfl) (by kernel_rfl) <|
  eBind H fun r1 hr1 H =>
  eW RB (fun _ => []) H <| gE func51 [r0, rg [hC 3 true [] (RB r1) []]] (by kernel_rfl) (P1 (ci_inRange hr1) <| P0)
/-! loop example/g00886/impl increasing -/
noncomputable def Ki_increasing : Si_increasing → List Item
  | .h1 .. => nav 300 2 [] [.code (bdy f138)]
def Zi_increasing : Si_increasing → St
  | .h1 list0 i1 => ⟨sts 20 [(0, sl 1 I list0), (3, I i1)], []⟩
abbrev Qi_increasing := Nx X 138 0 Ki_increasing Zi_increasing RB (fun _ => [])
theorem ni_increasing : ∀ s o, Bi_increasing s = some o → Qi_increasing (Ki_increasing s) (Zi_increasing s) o
  | .h1 list0 i1, o, H =>
    eIf H (fun h1 H =>
      eCk H fun h2 H =>
      eBind H fun x3 hx3 H =>
      eCk H fun h4 H =>
      eBind H fun x5 hx5 H =>
      gN [rg [hT 3]] (by kernel_rfl) (P2 ((decide (i1 < ((list0.length : Nat) : Int))) = true) (decide_eq_true h1) <| P0) <|
      eIf H (fun h6 H =>
        eN H <| gE func138 [rg [hE 4 (I x3), hE 8 (I x5), hT 9], r0] (by kernel_rfl) (P1 h2 <| P1 (int_lt_of_at h2 hx3) <| P1 (at_map I hx3) <| P1 h4 <| P1 (int_lt_of_at h4 hx5) <| P1 (at_map I hx5) <| P2 ((decide (x3 ≥ x5)) = true) (decide_eq_true h6) <| P0))
      (fun h6 H =>
        eN H fun r hn => gO [rg [hE 4 (I x3), hE 8 (I x5), hF 9], r0, .canon [] [0, 3]] (by kernel_rfl) (P1 h2 <| P1 (int_lt_of_at h2 hx3) <| P1 (at_map I hx3) <| P1 h4 <| P1 (int_lt_of_at h4 hx5) <| P1 (at_map I hx5) <| P2 ((decide (x3 ≥ x5)) = false) (decide_eq_false h6) <| P0) hn))
    (fun h1 H =>
      eN H <| gE func138 [rg [hF 3], r0] (by kernel_rfl) (P2 ((decide (i1 < ((list0.length : Nat) : Int))) = false) (decide_eq_false h1) <| P0))
theorem wi_increasing : ∀ s r, loop Bi_increasing s = some r → Wc X 138 0 (Ki_increasing s) (Zi_increasing s) (RB r) ((fun _ => []) r) := Nx.all ni_increasing
theorem ci_increasing {a0 : (List Int)} {r : Bool} (H : Di_increasing a0 = some r) : Ct X.P X.gl 138 [sl 1 I a0] [] (RB r) [] :=
  Ct.of func138 (c := bdy f138) (by kernel_rfl) (by kernel_rfl) <|
  gO [r0, r0, .canon [] [0, 3]] (by kernel_rfl) P0 (wi_increasing _ _ H)
/-! loop example/g00886/impl hexOf -/
def Ri_hexOf (r : Gi_Hex) : List D := [.agg [I r.Q, I r.R]]
theorem ci_hexOf {a0 : Gi_Map} {a1 : Int} {r : Gi_Hex} (H : Di_hexOf a0 a1 = some r) : Ct X.P X.gl 109 [.agg [I a0.Width, I a0.Height, sl 1 I a0.Terrain, sl 1 I a0.Rivers, sl 1 I a0.Roads], I a1] [] (Ri_hexOf r) [] :=
  Ct.of func109 (c := bdy f109) (by kernel_rfl) (by kernel_rfl) <|
  eCk H fun h1 H =>
  eCk H fun h2 H =>
  eW Ri_hexOf (fun _ => []) H <| gE func109 [r0, r0] (by kernel_rfl) (P2 (¬ (a0.Width : Int) = 0) h1 <| P2 (¬ (a0.Width : Int) = 0) h2 <| P0)
/-! loop example/g00886/impl stepBy -/
def Ri_stepBy (r : Gi_Hex) : List D := [.agg [I r.Q, I r.R]]
theorem ci_stepBy {a0 : Gi_Hex} {a1 : Int} {a2 : Int} {r : Gi_Hex} (H : Di_stepBy a0 a1 a2 = some r) : Ct X.P X.gl 108 [.agg [I a0.Q, I a0.R], I a1, I a2] [] (Ri_stepBy r) [] :=
  Ct.of func108 (c := bdy f108) (by kernel_rfl) (by kernel_rfl) <|
  eCk H fun h1 H =>
  eBind H fun x2 hx2 H =>
  eCk H fun h3 H =>
  eBind H fun x4 hx4 H =>
  eW Ri_stepBy (fun _ => []) H <| gE func108 [r0, rg [{ i := 6, xs := [I x2.Q] }, { i := 15, xs := [I x4.R] }]] (by kernel_rfl) (P1 h1 <| P2 (a1 < ((6 : Nat) : Int)) (int_lt_of_at h1 hx2) <| P2 (getCells gc0 0 (0 + Int.toNat a1 * 2 + 0) 1 = some [I x2.Q]) (flat_at (enc := gi_Hex) (w := 2) (off := 0) (fun _ => rfl) hx2 (by omega) (by decide)) <| P1 h3 <| P2 (a1 < ((6 : Nat) : Int)) (int_lt_of_at h3 hx4) <| P2 (getCells gc0 0 (0 + Int.toNat a1 * 2 + 1) 1 = some [I x4.R]) (flat_at (enc := gi_Hex) (w := 2) (off := 1) (fun _ => rfl) hx4 (by omega) (by decide)) <| P0)
/-! loop example/g00886/impl indexOf -/
theorem ci_indexOf {a0 : Gi_Map} {a1 : Gi_Hex} {r : Int} (H : Di_indexOf a0 a1 = some r) : Ct X.P X.gl 107 [.agg [I a0.Width, I a0.Height, sl 1 I a0.Terrain, sl 1 I a0.Rivers, sl 1 I a0.Roads], .agg [I a1.Q, I a1.R]] [] (RI r) [] :=
  Ct.of func107 (c := bdy f107) (by kernel_rfl) (by kernel_rfl) <|
  eBind H fun r1 hr1 H =>
  gS [r0] (by kernel_rfl) P0 <|
  eIf H (fun h2 H =>
    eBind H fun r3 hr3 H =>
    eIf H (fun h4 H =>
      eW RI (fun _ => []) H <| gE func107 [rg [{ i := 4, call := some { cl := true, auto := true, ins := [], res := (RB r1), G' := [] }, dec := some true }, { i := 11, call := some { cl := true, auto := true, ins := [], res := (RB r3), G' := [] }, dec := some true }], r0] (by kernel_rfl) (P1 (ci_isIndex hr1) <| P2 (r1 = true) (h2) <| P1 (ci_isIndex hr3) <| P2 (r3 = true) (h4) <| P0))
    (fun h4 H =>
      eW RI (fun _ => []) H <| gE func107 [rg [{ i := 4, call := some { cl := true, auto := true, ins := [], res := (RB r1), G' := [] }, dec := some true }, { i := 11, call := some { cl := true, auto := true, ins := [], res := (RB r3), G' := [] }, dec := some false }], r0] (by kernel_rfl) (P1 (ci_isIndex hr1) <| P2 (r1 = true) (h2) <| P1 (ci_isIndex hr3) <| P2 (r3 = false) (eqF h4) <| P0)))
  (fun h2 H =>
    eW RI (fun _ => []) H <| gE func107 [rg [{ i := 4, call := some { cl := true, auto := true, ins := [], res := (RB r1), G' := [] }, dec := some false }], r0] (by kernel_rfl) (P1 (ci_isIndex hr1) <| P2 (r1 = false) (eqF h2) <| P0))
/-! loop example/g00886/impl nextTo -/
theorem ci_nextTo {a0 : Gi_Map} {a1 : Int} {a2 : Int} {r : Int} (H : Di_nextTo a0 a1 a2 = some r) : Ct X.P X.gl 69 [.agg [I a0.Width, I a0.Height, sl 1 I a0.Terrain, sl 1 I a0.Rivers, sl 1 I a0.Roads], I a1, I a2] [] (RI r) [] :=
  Ct.of func69 (c := bdy f69) (by kernel_rfl) (by kernel_rfl) <|
  eBind H fun r1 hr1 H =>
  eBind H fun r2 hr2 H =>
  eBind H fun r3 hr3 H =>
  eW RI (fun _ => []) H <| gE func69 [r0, rg [hC 3 true [] (Ri_hexOf r1) [], hC 5 true [] (Ri_stepBy r2) [], hC 6 true [] (RI r3) []]] (by kernel_rfl) (P1 (ci_hexOf hr1) <| P1 (ci_stepBy hr2) <| P1 (ci_indexOf hr3) <| P0)
/-! loop example/g00886/impl isEdge -/
theorem ci_isEdge {a0 : Gi_Map} {a1 : Int} {r : Bool} (H : Di_isEdge a0 a1 = some r) : Ct X.P X.gl 154 [.agg [I a0.Width, I a0.Height, sl 1 I a0.Terrain, sl 1 I a0.Rivers, sl 1 I a0.Roads], I a1] [] (RB r) [] :=
  Ct.of func154 (c := bdy f154) (by kernel_rfl) (by kernel_rfl) <|
  eBind H fun r1 hr1 H =>
  gS [r0] (by kernel_rfl) P0 <|
  eIf H (fun h2 H =>
    eBind H fun r3 hr3 H =>
    eW RB (fun _ => []) H <| gE func154 [rg [{ i := 8, call := some { cl := true, auto := true, ins := [], res := (RB r1), G' := [] }, dec := some true }, hC 15 true [] (RI r3) []]] (by kernel_rfl) (P1 (ci_inRange hr1) <| P2 (r1 = true) (h2) <| P2 (¬ (3 : Int) = 0) (by decide) <| P2 (¬ (3 : Int) = 0) (by decide) <| P1 (ci_nextTo hr3) <| P0))
  (fun h2 H =>
    eW RB (fun _ => []) H <| gE func154 [rg [{ i := 8, call := some { cl := true, auto := true, ins := [], res := (RB r1), G' := [] }, dec := some false }]] (by kernel_rfl) (P1 (ci_inRange hr1) <| P2 (r1 = false) (eqF h2) <| P0))
/-! loop example/g00886/impl IsMap -/
noncomputable def Ki_IsMap : Si_IsMap → List Item
  | .h1 .. => nav 300 3 [false] [.code (bdy f106)]
  | .h2 .. => nav 300 5 [false, false] [.code (bdy f106)]
  | .h3 .. => nav 300 9 [false, false, true, false] [.code (bdy f106)]
def Zi_IsMap : Si_IsMap → St
  | .h1 t0 t1 t2 b3 => ⟨sts 66 [(1, .ptr 0 5 0 0), (31, sl 1 I t0), (32, I t1), (33, I t2)], [some ⟨false, true, 5, 1, [.agg [I b3.Width, I b3.Height, sl 1 I b3.Terrain, sl 1 I b3.Rivers, sl 1 I b3.Roads]]⟩]⟩
  | .h2 t0 t1 b2 l3 => ⟨sts 66 [(1, .ptr 0 5 0 0), (45, .ref 1 1 none), (46, I t0), (47, I t1)], [some ⟨false, true, 5, 1, [.agg [I b2.Width, I b2.Height, sl 1 I b2.Terrain, sl 1 I b2.Rivers, sl 1 I b2.Roads]]⟩, some ⟨false, false, 1, l3.length, List.map (sl 1 I) l3⟩]⟩
  | .h3 t0 t1 t2 t3 t4 b5 l6 => ⟨sts 66 [(1, .ptr 0 5 0 0), (45, .ref 1 1 none), (46, I t0), (47, I t1), (54, sl 1 I t2), (55, I t3), (56, I t4)], [some ⟨false, true, 5, 1, [.agg [I b5.Width, I b5.Height, sl 1 I b5.Terrain, sl 1 I b5.Rivers, sl 1 I b5.Roads]]⟩, some ⟨false, false, 1, l6.length, List.map (sl 1 I) l6⟩]⟩
abbrev Qi_IsMap := Nx X 106 0 Ki_IsMap Zi_IsMap RB (fun _ => [])
theorem ni_IsMap : ∀ s o, Bi_IsMap s = some o → Qi_IsMap (Ki_IsMap s) (Zi_IsMap s) o
  | .h1 t0 t1 t2 b3, o, H =>
    eIf H (fun h1 H =>
      eCk H fun h2 H =>
      eBind H fun x3 hx3 H =>
      eBind H fun r4 hr4 H =>
      gN [rg [hT 0], rg [hE 1 (I x3)]] (by kernel_rfl) (P2 ((decide (t2 < t1)) = true) (decide_eq_true h1) <| P1 h2 <| P1 (int_lt_of_at h2 hx3) <| P1 (at_map I hx3) <| P0) <|
      eIf H (fun h5 H =>
        eN H fun r hn => gO [rg [{ i := 1, call := some { cl := true, auto := true, ins := [], res := (RB r4), G' := [] }, dec := some true }], r0, .canon [0] [1, 31, 32, 33]] (by kernel_rfl) (P1 (ci_isIndex hr4) <| P2 (r4 = true) (h5) <| P0) hn)
      (fun h5 H =>
        eN H <| gE func106 [rg [{ i := 1, call := some { cl := true, auto := true, ins := [], res := (RB r4), G' := [] }, dec := some false }], r0] (by kernel_rfl) (P1 (ci_isIndex hr4) <| P2 (r4 = false) (eqF h5) <| P0)))
    (fun h1 H =>
      eN H fun r hn => gO [rg [hF 0], r0, .canon [0, 1] [1, 45, 46, 47]] (by kernel_rfl) (P2 ((decide (t2 < t1)) = false) (decide_eq_false h1) <| P0) hn)
  | .h2 t0 t1 b2 l3, o, H =>
    eIf H (fun h1 H =>
      eCk H fun h2 H =>
      eBind H fun x3 hx3 H =>
      eBind H fun r4 hr4 H =>
      gN [rg [hT 0], rg [hE 1 ((sl 1 I) x3)]] (by kernel_rfl) (P2 ((decide (t1 < t0)) = true) (decide_eq_true h1) <| P1 h2 <| P1 (int_lt_of_at h2 hx3) <| P1 (at_map (sl 1 I) hx3) <| P0) <|
      eIf H (fun h5 H =>
        eN H fun r hn => gO [rg [{ i := 1, call := some { cl := true, auto := true, ins := [], res := (RB r4), G' := [] }, dec := some true }], r0, .canon [0, 1] [1, 45, 46, 47, 54, 55, 56]] (by kernel_rfl) (P1 (ci_increasing hr4) <| P2 (r4 = true) (h5) <| P0) hn)
      (fun h5 H =>
        eN H <| gE func106 [rg [{ i := 1, call := some { cl := true, auto := true, ins := [], res := (RB r4), G' := [] }, dec := some false }], r0] (by kernel_rfl) (P1 (ci_increasing hr4) <| P2 (r4 = false) (eqF h5) <| P0)))
    (fun h1 H =>
      eN H <| gE func106 [rg [hF 0], r0] (by kernel_rfl) (P2 ((decide (t1 < t0)) = false) (decide_eq_false h1) <| P0))
  | .h3 t0 t1 t2 t3 t4 b5 l6, o, H =>
    eIf H (fun h1 H =>
      eCk H fun h2 H =>
      eBind H fun x3 hx3 H =>
      eBind H fun r4 hr4 H =>
      gN [rg [hT 0], rg [hE 1 (I x3)]] (by kernel_rfl) (P2 ((decide (t4 < t3)) = true) (decide_eq_true h1) <| P1 h2 <| P1 (int_lt_of_at h2 hx3) <| P1 (at_map I hx3) <| P0) <|
      eIf H (fun h5 H =>
        eN H fun r hn => gO [rg [{ i := 2, call := some { cl := true, auto := true, ins := [], res := (RB r4), G' := [] }, dec := some true }], r0, .canon [0, 1] [1, 45, 46, 47, 54, 55, 56]] (by kernel_rfl) (P1 (ci_isEdge hr4) <| P2 (r4 = true) (h5) <| P0) hn)
      (fun h5 H =>
        eN H <| gE func106 [rg [{ i := 2, call := some { cl := true, auto := true, ins := [], res := (RB r4), G' := [] }, dec := some false }], r0] (by kernel_rfl) (P1 (ci_isEdge hr4) <| P2 (r4 = false) (eqF h5) <| P0)))
    (fun h1 H =>
      eN H fun r hn => gO [rg [hF 0], r0, .canon [0, 1] [1, 45, 46, 47]] (by kernel_rfl) (P2 ((decide (t4 < t3)) = false) (decide_eq_false h1) <| P0) hn)
theorem wi_IsMap : ∀ s r, loop Bi_IsMap s = some r → Wc X 106 0 (Ki_IsMap s) (Zi_IsMap s) (RB r) ((fun _ => []) r) := Nx.all ni_IsMap
theorem ci_IsMap {a0 : Gi_Map} {r : Bool} (H : Di_IsMap a0 = some r) : Ct X.P X.gl 106 [.agg [I a0.Width, I a0.Height, sl 1 I a0.Terrain, sl 1 I a0.Rivers, sl 1 I a0.Roads]] [] (RB r) [] :=
  Ct.of func106 (c := bdy f106) (by kernel_rfl) (by kernel_rfl) <|
  eBind H fun r1 hr1 H =>
  gS [r0] (by kernel_rfl) P0 <|
  eIf H (fun h2 H =>
    eBind H fun r3 hr3 H =>
    eIf H (fun h4 H =>
      eIf H (fun h5 H =>
        gO [rg [{ i := 2, call := some { cl := true, auto := true, ins := [], res := (RB r1), G' := [] }, dec := some true }, { i := 7, call := some { cl := true, auto := true, ins := [], res := (RB r3), G' := [] }, dec := some true }, hF 19], r0, .canon [0] [1, 31, 32, 33]] (by kernel_rfl) (P1 (ci_inRange hr1) <| P2 (r1 = true) (h2) <| P1 (ci_inRange hr3) <| P2 (r3 = true) (h4) <| P2 (((((a0.Terrain.length : Nat) : Int) : Int) != (IntKind.wrap .i64 (a0.Width * a0.Height))) = false) (bneF h5) <| P0) (wi_IsMap _ _ H))
      (fun h5 H =>
        eW RB (fun _ => []) H <| gE func106 [rg [{ i := 2, call := some { cl := true, auto := true, ins := [], res := (RB r1), G' := [] }, dec := some true }, { i := 7, call := some { cl := true, auto := true, ins := [], res := (RB r3), G' := [] }, dec := some true }, hT 19], r0] (by kernel_rfl) (P1 (ci_inRange hr1) <| P2 (r1 = true) (h2) <| P1 (ci_inRange hr3) <| P2 (r3 = true) (h4) <| P2 (((((a0.Terrain.length : Nat) : Int) : Int) != (IntKind.wrap .i64 (a0.Width * a0.Height))) = true) (bneT h5) <| P0)))
    (fun h4 H =>
      eW RB (fun _ => []) H <| gE func106 [rg [{ i := 2, call := some { cl := true, auto := true, ins := [], res := (RB r1), G' := [] }, dec := some true }, { i := 7, call := some { cl := true, auto := true, ins := [], res := (RB r3), G' := [] }, dec := some false }], r0] (by kernel_rfl) (P1 (ci_inRange hr1) <| P2 (r1 = true) (h2) <| P1 (ci_inRange hr3) <| P2 (r3 = false) (eqF h4) <| P0)))
  (fun h2 H =>
    eW RB (fun _ => []) H <| gE func106 [rg [{ i := 2, call := some { cl := true, auto := true, ins := [], res := (RB r1), G' := [] }, dec := some false }], r0] (by kernel_rfl) (P1 (ci_inRange hr1) <| P2 (r1 = false) (eqF h2) <| P0))
/-! loop example/g00886/impl IsBoard 1 -/
theorem ci_IsBoard_1 {a0 : Int} {a1 : Gi_Board} {r : Bool} (H : Di_IsBoard_1 a0 a1 = some r) : Ct X.P X.gl 144 [I a0, .fptr 12 [.agg [sl 5 gi_Terrain a1.Rules.Terrains, sl 6 gi_Kind a1.Rules.Kinds, I a1.Rules.Stack, I a1.Rules.River, I a1.Rules.Road, I a1.Rules.Supply, I a1.Rules.Turns, I a1.Map.Width, I a1.Map.Height, sl 1 I a1.Map.Terrain, sl 1 I a1.Map.Rivers, sl 1 I a1.Map.Roads]] 0 0] [] (RB r) [] :=
  Ct.of func144 (c := bdy f144) (by kernel_rfl) (by kernel_rfl) <|
  eW RB (fun _ => []) H <| gE func144 [r0, r0] (by kernel_rfl) P0
/-! slices IndexFunc   int int  -/
noncomputable def Kslices_IndexFunc_int_i_IsBoard_1 : Sslices_IndexFunc_int_i_IsBoard_1 → List Item
  | .h1 .. => nav 300 2 [] [.code (bdy f166)]
def Zslices_IndexFunc_int_i_IsBoard_1 : Sslices_IndexFunc_int_i_IsBoard_1 → St
  | .h1 s0 f1 t2 t3 => ⟨sts 19 [(0, sl 1 I s0), (1, .fn 144 [.fptr 12 [.agg [sl 5 gi_Terrain f1.Rules.Terrains, sl 6 gi_Kind f1.Rules.Kinds, I f1.Rules.Stack, I f1.Rules.River, I f1.Rules.Road, I f1.Rules.Supply, I f1.Rules.Turns, I f1.Map.Width, I f1.Map.Height, sl 1 I f1.Map.Terrain, sl 1 I f1.Map.Rivers, sl 1 I f1.Map.Roads]] 0 0]), (7, I t2), (8, I t3)], []⟩
abbrev Qslices_IndexFunc_int_i_IsBoard_1 := Nx X 166 0 Kslices_IndexFunc_int_i_IsBoard_1 Zslices_IndexFunc_int_i_IsBoard_1 RI (fun _ => [])
theorem nslices_IndexFunc_int_i_IsBoard_1 : ∀ s o, Bslices_IndexFunc_int_i_IsBoard_1 s = some o → Qslices_IndexFunc_int_i_IsBoard_1 (Kslices_IndexFunc_int_i_IsBoard_1 s) (Zslices_IndexFunc_int_i_IsBoard_1 s) o
  | .h1 s0 f1 t2 t3, o, H =>
    eIf H (fun h1 H =>
      eCk H fun h2 H =>
      eBind H fun x3 hx3 H =>
      eBind H fun r4 hr4 H =>
      gN [rg [hT 0], r0] (by kernel_rfl) (P2 ((decide (t3 < t2)) = true) (decide_eq_true h1) <| P0) <|
      eIf H (fun h5 H =>
        eN H <| gE func166 [rg [hE 4 (I x3), { i := 5, call := some { cl := true, auto := true, ins := [], res := (RB r4), G' := [] }, dec := some true }], r0] (by kernel_rfl) (P1 h2 <| P1 (int_lt_of_at h2 hx3) <| P1 (at_map I hx3) <| P1 (ci_IsBoard_1 hr4) <| P2 (r4 = true) (h5) <| P0))
      (fun h5 H =>
        eN H fun r hn => gO [rg [hE 4 (I x3), { i := 5, call := some { cl := true, auto := true, ins := [], res := (RB r4), G' := [] }, dec := some false }], r0, .canon [] [0, 1, 7, 8]] (by kernel_rfl) (P1 h2 <| P1 (int_lt_of_at h2 hx3) <| P1 (at_map I hx3) <| P1 (ci_IsBoard_1 hr4) <| P2 (r4 = false) (eqF h5) <| P0) hn))
    (fun h1 H =>
      eN H <| gE func166 [rg [hF 0], r0] (by kernel_rfl) (P2 ((decide (t3 < t2)) = false) (decide_eq_false h1) <| P0))
theorem wslices_IndexFunc_int_i_IsBoard_1 : ∀ s r, loop Bslices_IndexFunc_int_i_IsBoard_1 s = some r → Wc X 166 0 (Kslices_IndexFunc_int_i_IsBoard_1 s) (Zslices_IndexFunc_int_i_IsBoard_1 s) (RI r) ((fun _ => []) r) := Nx.all nslices_IndexFunc_int_i_IsBoard_1
theorem cslices_IndexFunc_int_i_IsBoard_1 {a0 : (List Int)} {a100 : Gi_Board} {r : Int} (H : Dslices_IndexFunc_int_i_IsBoard_1 a0 a100 = some r) : Ct X.P X.gl 166 [sl 1 I a0, .fn 144 [.fptr 12 [.agg [sl 5 gi_Terrain a100.Rules.Terrains, sl 6 gi_Kind a100.Rules.Kinds, I a100.Rules.Stack, I a100.Rules.River, I a100.Rules.Road, I a100.Rules.Supply, I a100.Rules.Turns, I a100.Map.Width, I a100.Map.Height, sl 1 I a100.Map.Terrain, sl 1 I a100.Map.Rivers, sl 1 I a100.Map.Roads]] 0 0]] [] (RI r) [] :=
  Ct.of func166 (c := bdy f166) (by kernel_rfl) (by kernel_rfl) <|
  gO [r0, r0, .canon [] [0, 1, 7, 8]] (by kernel_rfl) P0 (wslices_IndexFunc_int_i_IsBoard_1 _ _ H)
/-! slices ContainsFunc   int int  -/
theorem cslices_ContainsFunc_int_i_IsBoard_1 {a0 : (List Int)} {a100 : Gi_Board} {r : Bool} (H : Dslices_ContainsFunc_int_i_IsBoard_1 a0 a100 = some r) : Ct X.P X.gl 143 [sl 1 I a0, .fn 144 [.fptr 12 [.agg [sl 5 gi_Terrain a100.Rules.Terrains, sl 6 gi_Kind a100.Rules.Kinds, I a100.Rules.Stack, I a100.Rules.River, I a100.Rules.Road, I a100.Rules.Supply, I a100.Rules.Turns, I a100.Map.Width, I a100.Map.Height, sl 1 I a100.Map.Terrain, sl 1 I a100.Map.Rivers, sl 1 I a100.Map.Roads]] 0 0]] [] (RB r) [] :=
  Ct.of func143 (c := bdy f143) (by kernel_rfl) (by kernel_rfl) <|
  eBind H fun r1 hr1 H =>
  eW RB (fun _ => []) H <| gE func143 [r0, rg [hC 2 true [] (RI r1) []]] (by kernel_rfl) (P1 (cslices_IndexFunc_int_i_IsBoard_1 hr1) <| P0)
/-! loop example/g00886/impl IsBoard -/
theorem ci_IsBoard {a0 : Gi_Board} {r : Bool} (H : Di_IsBoard a0 = some r) : Ct X.P X.gl 95 [.agg [sl 5 gi_Terrain a0.Rules.Terrains, sl 6 gi_Kind a0.Rules.Kinds, I a0.Rules.Stack, I a0.Rules.River, I a0.Rules.Road, I a0.Rules.Supply, I a0.Rules.Turns, I a0.Map.Width, I a0.Map.Height, sl 1 I a0.Map.Terrain, sl 1 I a0.Map.Rivers, sl 1 I a0.Map.Roads]] [] (RB r) [] :=
  Ct.of func95 (c := bdy f95) (by kernel_rfl) (by kernel_rfl) <|
  eBind H fun r1 hr1 H =>
  gS [r0] (by kernel_rfl) P0 <|
  eIf H (fun h2 H =>
    eBind H fun r3 hr3 H =>
    eIf H (fun h4 H =>
      eBind H fun r5 hr5 H =>
      eW RB (fun _ => []) H <| gE func95 [rg [{ i := 2, call := some { cl := true, auto := true, ins := [], res := (RB r1), G' := [] }, dec := some true }, { i := 7, call := some { cl := true, auto := true, ins := [], res := (RB r3), G' := [] }, dec := some true }], rg [hC 4 false [] (RB r5) []]] (by kernel_rfl) (P1 (ci_IsRules hr1) <| P2 (r1 = true) (h2) <| P1 (ci_IsMap hr3) <| P2 (r3 = true) (h4) <| P1 (cslices_ContainsFunc_int_i_IsBoard_1 hr5) <| P0))
    (fun h4 H =>
      eW RB (fun _ => []) H <| gE func95 [rg [{ i := 2, call := some { cl := true, auto := true, ins := [], res := (RB r1), G' := [] }, dec := some true }, { i := 7, call := some { cl := true, auto := true, ins := [], res := (RB r3), G' := [] }, dec := some false }], r0] (by kernel_rfl) (P1 (ci_IsRules hr1) <| P2 (r1 = true) (h2) <| P1 (ci_IsMap hr3) <| P2 (r3 = false) (eqF h4) <| P0)))
  (fun h2 H =>
    eW RB (fun _ => []) H <| gE func95 [rg [{ i := 2, call := some { cl := true, auto := true, ins := [], res := (RB r1), G' := [] }, dec := some false }], r0] (by kernel_rfl) (P1 (ci_IsRules hr1) <| P2 (r1 = false) (eqF h2) <| P0))
/-! loop example/g00886/impl sizeOf -/
theorem ci_sizeOf {a0 : Gi_Board} {r : Int} (H : Di_sizeOf a0 = some r) : Ct X.P X.gl 52 [.agg [sl 5 gi_Terrain a0.Rules.Terrains, sl 6 gi_Kind a0.Rules.Kinds, I a0.Rules.Stack, I a0.Rules.River, I a0.Rules.Road, I a0.Rules.Supply, I a0.Rules.Turns, I a0.Map.Width, I a0.Map.Height, sl 1 I a0.Map.Terrain, sl 1 I a0.Map.Rivers, sl 1 I a0.Map.Roads]] [] (RI r) [] :=
  Ct.of func52 (c := bdy f52) (by kernel_rfl) (by kernel_rfl) <|
  eW RI (fun _ => []) H <| gE func52 [r0, r0] (by kernel_rfl) P0
/-! loop example/g00886/impl isSide -/
theorem ci_isSide {a0 : Int} {r : Bool} (H : Di_isSide a0 = some r) : Ct X.P X.gl 178 [I a0] [] (RB r) [] :=
  Ct.of func178 (c := bdy f178) (by kernel_rfl) (by kernel_rfl) <|
  eBind H fun r1 hr1 H =>
  eW RB (fun _ => []) H <| gE func178 [r0, rg [hC 1 true [] (RB r1) []]] (by kernel_rfl) (P1 (ci_inRange hr1) <| P0)
/-! loop example/g00886/impl terrainAt -/
def Ri_terrainAt (r : Gi_Terrain) : List D := [.agg [.str r.Name, sl 1 I r.Cost, I r.Shift, I r.Height, .bool r.Blocks]]
theorem ci_terrainAt {a0 : Gi_Board} {a1 : Int} {r : Gi_Terrain} (H : Di_terrainAt a0 a1 = some r) : Ct X.P X.gl 110 [.agg [sl 5 gi_Terrain a0.Rules.Terrains, sl 6 gi_Kind a0.Rules.Kinds, I a0.Rules.Stack, I a0.Rules.River, I a0.Rules.Road, I a0.Rules.Supply, I a0.Rules.Turns, I a0.Map.Width, I a0.Map.Height, sl 1 I a0.Map.Terrain, sl 1 I a0.Map.Rivers, sl 1 I a0.Map.Roads], I a1] [] (Ri_terrainAt r) [] :=
  Ct.of func110 (c := bdy f110) (by kernel_rfl) (by kernel_rfl) <|
  eCk H fun h1 H =>
  eBind H fun x2 hx2 H =>
  eCk H fun h3 H =>
  eBind H fun x4 hx4 H =>
  eW Ri_terrainAt (fun _ => []) H <| gE func110 [r0, rg [hE 8 (I x2), hE 10 (gi_Terrain x4)]] (by kernel_rfl) (P1 h1 <| P1 (int_lt_of_at h1 hx2) <| P1 (at_map I hx2) <| P1 h3 <| P1 (int_lt_of_at h3 hx4) <| P1 (at_map gi_Terrain hx4) <| P0)
/-! loop example/g00886/impl enterCost -/
theorem ci_enterCost {a0 : Gi_Board} {a1 : Int} {a2 : Int} {r : Int} (H : Di_enterCost a0 a1 a2 = some r) : Ct X.P X.gl 73 [.agg [sl 5 gi_Terrain a0.Rules.Terrains, sl 6 gi_Kind a0.Rules.Kinds, I a0.Rules.Stack, I a0.Rules.River, I a0.Rules.Road, I a0.Rules.Supply, I a0.Rules.Turns, I a0.Map.Width, I a0.Map.Height, sl 1 I a0.Map.Terrain, sl 1 I a0.Map.Rivers, sl 1 I a0.Map.Roads], I a1, I a2] [] (RI r) [] :=
  Ct.of func73 (c := bdy f73) (by kernel_rfl) (by kernel_rfl) <|
  eBind H fun r1 hr1 H =>
  eCk H fun h2 H =>
  eBind H fun x3 hx3 H =>
  eW RI (fun _ => []) H <| gE func73 [r0, rg [hC 2 true [] (Ri_terrainAt r1) [], hE 6 (I x3)]] (by kernel_rfl) (P1 (ci_terrainAt hr1) <| P1 h2 <| P1 (int_lt_of_at h2 hx3) <| P1 (at_map I hx3) <| P0)
/-! loop example/g00886/impl goodUnit -/
theorem ci_goodUnit {a0 : Gi_Board} {a1 : Gi_Unit} {r : Bool} (H : Di_goodUnit a0 a1 = some r) : Ct X.P X.gl 155 [.agg [sl 5 gi_Terrain a0.Rules.Terrains, sl 6 gi_Kind a0.Rules.Kinds, I a0.Rules.Stack, I a0.Rules.River, I a0.Rules.Road, I a0.Rules.Supply, I a0.Rules.Turns, I a0.Map.Width, I a0.Map.Height, sl 1 I a0.Map.Terrain, sl 1 I a0.Map.Rivers, sl 1 I a0.Map.Roads], .agg [I a1.Side, I a1.Kind, I a1.At, I a1.Steps]] [] (RB r) [] :=
  Ct.of func155 (c := bdy f155) (by kernel_rfl) (by kernel_rfl) <|
  eBind H fun r1 hr1 H =>
  gS [r0] (by kernel_rfl) P0 <|
  eIf H (fun h2 H =>
    eBind H fun r3 hr3 H =>
    eIf H (fun h4 H =>
      eCk H fun h5 H =>
      eBind H fun x6 hx6 H =>
      eBind H fun r7 hr7 H =>
      eIf H (fun h8 H =>
        gS [rg [{ i := 2, call := some { cl := true, auto := true, ins := [], res := (RB r1), G' := [] }, dec := some true }, { i := 11, call := some { cl := true, auto := true, ins := [], res := (RB r3), G' := [] }, dec := some true }, hE 24 (gi_Kind x6), { i := 25, call := some { cl := true, auto := true, ins := [], res := (RB r7), G' := [] }, dec := some true }]] (by kernel_rfl) (P1 (ci_isSide hr1) <| P2 (r1 = true) (h2) <| P1 (ci_isIndex hr3) <| P2 (r3 = true) (h4) <| P1 h5 <| P1 (int_lt_of_at h5 hx6) <| P1 (at_map gi_Kind hx6) <| P1 (ci_inRange hr7) <| P2 (r7 = true) (h8) <| P0) <|
        eIf H (fun h9 H =>
          eW RB (fun _ => []) H <| gE func155 [rg [hT 2], r0] (by kernel_rfl) (P2 (((a1.At : Int) == (-1)) = true) (beqT h9) <| P0))
        (fun h9 H =>
          gS [rg [hF 2]] (by kernel_rfl) (P2 (((a1.At : Int) == (-1)) = false) (beqF h9) <| P0) <|
          eIf H (fun h10 H =>
            eBind H fun r11 hr11 H =>
            eBind H fun r12 hr12 H =>
            eIf H (fun h13 H =>
              eBind H fun r14 hr14 H =>
              eW RB (fun _ => []) H <| gE func155 [rg [hT 2, hC 7 true [] (RI r11) [], { i := 8, call := some { cl := true, auto := true, ins := [], res := (RB r12), G' := [] }, dec := some true }, hC 16 true [] (RI r14) []]] (by kernel_rfl) (P2 ((decide (a1.Steps > 0)) = true) (decide_eq_true h10) <| P1 (ci_sizeOf hr11) <| P1 (ci_isIndex hr12) <| P2 (r12 = true) (h13) <| P1 (ci_enterCost hr14) <| P0))
            (fun h13 H =>
              eW RB (fun _ => []) H <| gE func155 [rg [hT 2, hC 7 true [] (RI r11) [], { i := 8, call := some { cl := true, auto := true, ins := [], res := (RB r12), G' := [] }, dec := some false }]] (by kernel_rfl) (P2 ((decide (a1.Steps > 0)) = true) (decide_eq_true h10) <| P1 (ci_sizeOf hr11) <| P1 (ci_isIndex hr12) <| P2 (r12 = false) (eqF h13) <| P0)))
          (fun h10 H =>
            eW RB (fun _ => []) H <| gE func155 [rg [hF 2]] (by kernel_rfl) (P2 ((decide (a1.Steps > 0)) = false) (decide_eq_false h10) <| P0))))
      (fun h8 H =>
        eW RB (fun _ => []) H <| gE func155 [rg [{ i := 2, call := some { cl := true, auto := true, ins := [], res := (RB r1), G' := [] }, dec := some true }, { i := 11, call := some { cl := true, auto := true, ins := [], res := (RB r3), G' := [] }, dec := some true }, hE 24 (gi_Kind x6), { i := 25, call := some { cl := true, auto := true, ins := [], res := (RB r7), G' := [] }, dec := some false }], r0] (by kernel_rfl) (P1 (ci_isSide hr1) <| P2 (r1 = true) (h2) <| P1 (ci_isIndex hr3) <| P2 (r3 = true) (h4) <| P1 h5 <| P1 (int_lt_of_at h5 hx6) <| P1 (at_map gi_Kind hx6) <| P1 (ci_inRange hr7) <| P2 (r7 = false) (eqF h8) <| P0)))
    (fun h4 H =>
      eW RB (fun _ => []) H <| gE func155 [rg [{ i := 2, call := some { cl := true, auto := true, ins := [], res := (RB r1), G' := [] }, dec := some true }, { i := 11, call := some { cl := true, auto := true, ins := [], res := (RB r3), G' := [] }, dec := some false }], r0] (by kernel_rfl) (P1 (ci_isSide hr1) <| P2 (r1 = true) (h2) <| P1 (ci_isIndex hr3) <| P2 (r3 = false) (eqF h4) <| P0)))
  (fun h2 H =>
    eW RB (fun _ => []) H <| gE func155 [rg [{ i := 2, call := some { cl := true, auto := true, ins := [], res := (RB r1), G' := [] }, dec := some false }], r0] (by kernel_rfl) (P1 (ci_isSide hr1) <| P2 (r1 = false) (eqF h2) <| P0))
/-! loop example/g00886/impl goodState -/
noncomputable def Ki_goodState : Si_goodState → List Item
  | .h1 .. => nav 300 4 [false] [.code (bdy f112)]
def Zi_goodState : Si_goodState → St
  | .h1 t0 t1 t2 b3 l4 => ⟨sts 80 [(2, .ptr 0 12 0 0), (5, .ref 1 2 none), (31, sl 4 gi_Unit t0), (32, I t1), (33, I t2)], [some ⟨false, true, 12, 1, [.agg [sl 5 gi_Terrain b3.Rules.Terrains, sl 6 gi_Kind b3.Rules.Kinds, I b3.Rules.Stack, I b3.Rules.River, I b3.Rules.Road, I b3.Rules.Supply, I b3.Rules.Turns, I b3.Map.Width, I b3.Map.Height, sl 1 I b3.Map.Terrain, sl 1 I b3.Map.Rivers, sl 1 I b3.Map.Roads]]⟩, some ⟨false, false, 2, l4.length, List.map gA2I l4⟩]⟩
abbrev Qi_goodState := Nx X 112 0 Ki_goodState Zi_goodState RB (fun _ => [])
theorem ni_goodState : ∀ s o, Bi_goodState s = some o → Qi_goodState (Ki_goodState s) (Zi_goodState s) o
  | .h1 t0 t1 t2 b3 l4, o, H =>
    eIf H (fun h1 H =>
      eCk H fun h2 H =>
      eBind H fun x3 hx3 H =>
      eBind H fun r4 hr4 H =>
      gN [rg [hT 0], rg [hE 1 (gi_Unit x3)]] (by kernel_rfl) (P2 ((decide (t2 < t1)) = true) (decide_eq_true h1) <| P1 h2 <| P1 (int_lt_of_at h2 hx3) <| P1 (at_map gi_Unit hx3) <| P0) <|
      eIf H (fun h5 H =>
        gN [rg [{ i := 2, call := some { cl := true, auto := true, ins := [], res := (RB r4), G' := [] }, dec := some true }]] (by kernel_rfl) (P1 (ci_goodUnit hr4) <| P2 (r4 = true) (h5) <| P0) <|
        eIf H (fun h6 H =>
          eN H fun r hn => gO [rg [hT 2], r0, .canon [0, 1] [2, 5, 31, 32, 33]] (by kernel_rfl) (P2 ((decide (x3.At < 0)) = true) (decide_eq_true h6) <| P0) hn)
        (fun h6 H =>
          eCk H fun h7 H =>
          eBind H fun x8 hx8 H =>
          gN [rg [hF 2]] (by kernel_rfl) (P2 ((decide (x3.At < 0)) = false) (decide_eq_false h6) <| P0) <|
          eIf H (fun h9 H =>
            eCk H fun h10 H =>
            eBind H fun x11 hx11 H =>
            eCk H fun h12 H =>
            eBind H fun x13 hx13 H =>
            gN [rg [{ i := 6, n := 0 }, hE 7 (gA2I x8), { i := 10, n := 0 }, hA 11 ((List.set l4 (Int.toNat x3.At) (GA2I.mk (IntKind.wrap .i64 (x8.c0 + 1)) x11.c1)).length) (List.map gA2I (List.set l4 (Int.toNat x3.At) (GA2I.mk (IntKind.wrap .i64 (x8.c0 + 1)) x11.c1)))]] (by kernel_rfl) (P1 h7 <| P1 (int_lt_of_at h7 hx8) <| P1 h9 <| P1 (at_map gA2I hx8) <| P1 h10 <| P1 (int_lt_of_at h10 hx11) <| P1 h9 <| P1 (lt_of_at hx11) <| P2 (setCells (List.map gA2I l4) (Int.toNat x3.At) 0 [I (IntKind.wrap .i64 (x8.c0 + 1))] = List.map gA2I (List.set l4 (Int.toNat x3.At) (GA2I.mk (IntKind.wrap .i64 (x8.c0 + 1)) x11.c1))) (setCells_map hx11 rfl) <| P1 (setLen l4 (Int.toNat x3.At) (GA2I.mk (IntKind.wrap .i64 (x8.c0 + 1)) x11.c1)) <| P0) <|
            eIf H (fun h14 H =>
              eIf H (fun h15 H =>
                eN H <| gE func112 [rg [{ i := 7, n := 0 }, hE 8 (gA2I x13), hT 9], r0] (by kernel_rfl) (P1 h12 <| P1 (int_lt_of_at h12 hx13) <| P1 h14 <| P1 (at_map gA2I hx13) <| P2 ((decide (x13.c0 > 0)) = true) (decide_eq_true h15) <| P0))
              (fun h15 H =>
                eCk H fun h16 H =>
                eBind H fun x17 hx17 H =>
                eIf H (fun h18 H =>
                  eN H <| gE func112 [rg [{ i := 7, n := 0 }, hE 8 (gA2I x13), hF 9, { i := 17, n := 0 }, hE 18 (gA2I x17), hT 22], r0] (by kernel_rfl) (P1 h12 <| P1 (int_lt_of_at h12 hx13) <| P1 h14 <| P1 (at_map gA2I hx13) <| P2 ((decide (x13.c0 > 0)) = false) (decide_eq_false h15) <| P1 h16 <| P1 (int_lt_of_at h16 hx17) <| P1 h9 <| P1 (at_map gA2I hx17) <| P2 ((decide (x17.c0 > b3.Rules.Stack)) = true) (decide_eq_true h18) <| P0))
                (fun h18 H =>
                  eN H fun r hn => gO [rg [{ i := 7, n := 0 }, hE 8 (gA2I x13), hF 9, { i := 17, n := 0 }, hE 18 (gA2I x17), hF 22], r0, .canon [0, 1] [2, 5, 31, 32, 33]] (by kernel_rfl) (P1 h12 <| P1 (int_lt_of_at h12 hx13) <| P1 h14 <| P1 (at_map gA2I hx13) <| P2 ((decide (x13.c0 > 0)) = false) (decide_eq_false h15) <| P1 h16 <| P1 (int_lt_of_at h16 hx17) <| P1 h9 <| P1 (at_map gA2I hx17) <| P2 ((decide (x17.c0 > b3.Rules.Stack)) = false) (decide_eq_false h18) <| P0) hn)))
            (fun h14 H =>
              eCk H fun h15 H =>
              eIf H (fun h16 H =>
                eN H <| gE func112 [rg [{ i := 7, n := 1 }, hE 8 (gA2I x13), hT 9], r0] (by kernel_rfl) (P1 h12 <| P1 (int_lt_of_at h12 hx13) <| P1 h15 <| P1 (at_map gA2I hx13) <| P2 ((decide (x13.c1 > 0)) = true) (decide_eq_true h16) <| P0))
              (fun h16 H =>
                eCk H fun h17 H =>
                eBind H fun x18 hx18 H =>
                eIf H (fun h19 H =>
                  eN H <| gE func112 [rg [{ i := 7, n := 1 }, hE 8 (gA2I x13), hF 9, { i := 17, n := 0 }, hE 18 (gA2I x18), hT 22], r0] (by kernel_rfl) (P1 h12 <| P1 (int_lt_of_at h12 hx13) <| P1 h15 <| P1 (at_map gA2I hx13) <| P2 ((decide (x13.c1 > 0)) = false) (decide_eq_false h16) <| P1 h17 <| P1 (int_lt_of_at h17 hx18) <| P1 h9 <| P1 (at_map gA2I hx18) <| P2 ((decide (x18.c0 > b3.Rules.Stack)) = true) (decide_eq_true h19) <| P0))
                (fun h19 H =>
                  eN H fun r hn => gO [rg [{ i := 7, n := 1 }, hE 8 (gA2I x13), hF 9, { i := 17, n := 0 }, hE 18 (gA2I x18), hF 22], r0, .canon [0, 1] [2, 5, 31, 32, 33]] (by kernel_rfl) (P1 h12 <| P1 (int_lt_of_at h12 hx13) <| P1 h15 <| P1 (at_map gA2I hx13) <| P2 ((decide (x13.c1 > 0)) = false) (decide_eq_false h16) <| P1 h17 <| P1 (int_lt_of_at h17 hx18) <| P1 h9 <| P1 (at_map gA2I hx18) <| P2 ((decide (x18.c0 > b3.Rules.Stack)) = false) (decide_eq_false h19) <| P0) hn))))
          (fun h9 H =>
            eCk H fun h10 H =>
            eCk H fun h11 H =>
            eBind H fun x12 hx12 H =>
            eCk H fun h13 H =>
            eBind H fun x14 hx14 H =>
            gN [rg [{ i := 6, n := 1 }, hE 7 (gA2I x8), { i := 10, n := 1 }, hA 11 ((List.set l4 (Int.toNat x3.At) (GA2I.mk x12.c0 (IntKind.wrap .i64 (x8.c1 + 1)))).length) (List.map gA2I (List.set l4 (Int.toNat x3.At) (GA2I.mk x12.c0 (IntKind.wrap .i64 (x8.c1 + 1)))))]] (by kernel_rfl) (P1 h7 <| P1 (int_lt_of_at h7 hx8) <| P1 h10 <| P1 (at_map gA2I hx8) <| P1 h11 <| P1 (int_lt_of_at h11 hx12) <| P1 h10 <| P1 (lt_of_at hx12) <| P2 (setCells (List.map gA2I l4) (Int.toNat x3.At) 1 [I (IntKind.wrap .i64 (x8.c1 + 1))] = List.map gA2I (List.set l4 (Int.toNat x3.At) (GA2I.mk x12.c0 (IntKind.wrap .i64 (x8.c1 + 1))))) (setCells_map hx12 rfl) <| P1 (setLen l4 (Int.toNat x3.At) (GA2I.mk x12.c0 (IntKind.wrap .i64 (x8.c1 + 1)))) <| P0) <|
            eIf H (fun h15 H =>
              eIf H (fun h16 H =>
                eN H <| gE func112 [rg [{ i := 7, n := 0 }, hE 8 (gA2I x14), hT 9], r0] (by kernel_rfl) (P1 h13 <| P1 (int_lt_of_at h13 hx14) <| P1 h15 <| P1 (at_map gA2I hx14) <| P2 ((decide (x14.c0 > 0)) = true) (decide_eq_true h16) <| P0))
              (fun h16 H =>
                eCk H fun h17 H =>
                eBind H fun x18 hx18 H =>
                eIf H (fun h19 H =>
                  eN H <| gE func112 [rg [{ i := 7, n := 0 }, hE 8 (gA2I x14), hF 9, { i := 17, n := 1 }, hE 18 (gA2I x18), hT 22], r0] (by kernel_rfl) (P1 h13 <| P1 (int_lt_of_at h13 hx14) <| P1 h15 <| P1 (at_map gA2I hx14) <| P2 ((decide (x14.c0 > 0)) = false) (decide_eq_false h16) <| P1 h17 <| P1 (int_lt_of_at h17 hx18) <| P1 h10 <| P1 (at_map gA2I hx18) <| P2 ((decide (x18.c1 > b3.Rules.Stack)) = true) (decide_eq_true h19) <| P0))
                (fun h19 H =>
                  eN H fun r hn => gO [rg [{ i := 7, n := 0 }, hE 8 (gA2I x14), hF 9, { i := 17, n := 1 }, hE 18 (gA2I x18), hF 22], r0, .canon [0, 1] [2, 5, 31, 32, 33]] (by kernel_rfl) (P1 h13 <| P1 (int_lt_of_at h13 hx14) <| P1 h15 <| P1 (at_map gA2I hx14) <| P2 ((decide (x14.c0 > 0)) = false) (decide_eq_false h16) <| P1 h17 <| P1 (int_lt_of_at h17 hx18) <| P1 h10 <| P1 (at_map gA2I hx18) <| P2 ((decide (x18.c1 > b3.Rules.Stack)) = false) (decide_eq_false h19) <| P0) hn)))
            (fun h15 H =>
              eCk H fun h16 H =>
              eIf H (fun h17 H =>
                eN H <| gE func112 [rg [{ i := 7, n := 1 }, hE 8 (gA2I x14), hT 9], r0] (by kernel_rfl) (P1 h13 <| P1 (int_lt_of_at h13 hx14) <| P1 h16 <| P1 (at_map gA2I hx14) <| P2 ((decide (x14.c1 > 0)) = true) (decide_eq_true h17) <| P0))
              (fun h17 H =>
                eCk H fun h18 H =>
                eBind H fun x19 hx19 H =>
                eIf H (fun h20 H =>
                  eN H <| gE func112 [rg [{ i := 7, n := 1 }, hE 8 (gA2I x14), hF 9, { i := 17, n := 1 }, hE 18 (gA2I x19), hT 22], r0] (by kernel_rfl) (P1 h13 <| P1 (int_lt_of_at h13 hx14) <| P1 h16 <| P1 (at_map gA2I hx14) <| P2 ((decide (x14.c1 > 0)) = false) (decide_eq_false h17) <| P1 h18 <| P1 (int_lt_of_at h18 hx19) <| P1 h10 <| P1 (at_map gA2I hx19) <| P2 ((decide (x19.c1 > b3.Rules.Stack)) = true) (decide_eq_true h20) <| P0))
                (fun h20 H =>
                  eN H fun r hn => gO [rg [{ i := 7, n := 1 }, hE 8 (gA2I x14), hF 9, { i := 17, n := 1 }, hE 18 (gA2I x19), hF 22], r0, .canon [0, 1] [2, 5, 31, 32, 33]] (by kernel_rfl) (P1 h13 <| P1 (int_lt_of_at h13 hx14) <| P1 h16 <| P1 (at_map gA2I hx14) <| P2 ((decide (x14.c1 > 0)) = false) (decide_eq_false h17) <| P1 h18 <| P1 (int_lt_of_at h18 hx19) <| P1 h10 <| P1 (at_map gA2I hx19) <| P2 ((decide (x19.c1 > b3.Rules.Stack)) = false) (decide_eq_false h20) <| P0) hn))))))
      (fun h5 H =>
        eN H <| gE func112 [rg [{ i := 2, call := some { cl := true, auto := true, ins := [], res := (RB r4), G' := [] }, dec := some false }], r0] (by kernel_rfl) (P1 (ci_goodUnit hr4) <| P2 (r4 = false) (eqF h5) <| P0)))
    (fun h1 H =>
      eN H <| gE func112 [rg [hF 0], r0] (by kernel_rfl) (P2 ((decide (t2 < t1)) = false) (decide_eq_false h1) <| P0))
theorem wi_goodState : ∀ s r, loop Bi_goodState s = some r → Wc X 112 0 (Ki_goodState s) (Zi_goodState s) (RB r) ((fun _ => []) r) := Nx.all ni_goodState
theorem ci_goodState {a0 : Gi_Board} {a1 : Gi_State} {r : Bool} (H : Di_goodState a0 a1 = some r) : Ct X.P X.gl 112 [.agg [sl 5 gi_Terrain a0.Rules.Terrains, sl 6 gi_Kind a0.Rules.Kinds, I a0.Rules.Stack, I a0.Rules.River, I a0.Rules.Road, I a0.Rules.Supply, I a0.Rules.Turns, I a0.Map.Width, I a0.Map.Height, sl 1 I a0.Map.Terrain, sl 1 I a0.Map.Rivers, sl 1 I a0.Map.Roads], .agg [I a1.Turn, I a1.Weather, sl 4 gi_Unit a1.Units]] [] (RB r) [] :=
  Ct.of func112 (c := bdy f112) (by kernel_rfl) (by kernel_rfl) <|
  eBind H fun r1 hr1 H =>
  gS [r0] (by kernel_rfl) P0 <|
  eIf H (fun h2 H =>
    eBind H fun r3 hr3 H =>
    eIf H (fun h4 H =>
      eIf H (fun h5 H =>
        eW RB (fun _ => []) H <| gE func112 [rg [{ i := 5, call := some { cl := true, auto := true, ins := [], res := (RB r1), G' := [] }, dec := some true }, { i := 10, call := some { cl := true, auto := true, ins := [], res := (RB r3), G' := [] }, dec := some true }, hT 17], r0] (by kernel_rfl) (P1 (ci_inRange hr1) <| P2 (r1 = true) (h2) <| P1 (ci_inRange hr3) <| P2 (r3 = true) (h4) <| P2 ((decide (((a1.Units.length : Nat) : Int) > 12)) = true) (decide_eq_true h5) <| P0))
      (fun h5 H =>
        eBind H fun r6 hr6 H =>
        eCk H fun h7 H =>
        eCk H fun h8 H =>
        gO [rg [{ i := 5, call := some { cl := true, auto := true, ins := [], res := (RB r1), G' := [] }, dec := some true }, { i := 10, call := some { cl := true, auto := true, ins := [], res := (RB r3), G' := [] }, dec := some true }, hF 17], rg [hC 1 true [] (RI r6) [], hA 2 ((List.replicate (Int.toNat r6) (GA2I.mk 0 0)).length) (List.map gA2I (List.replicate (Int.toNat r6) (GA2I.mk 0 0)))], r0, .canon [0, 2] [2, 5, 31, 32, 33]] (by kernel_rfl) (P1 (ci_inRange hr1) <| P2 (r1 = true) (h2) <| P1 (ci_inRange hr3) <| P2 (r3 = true) (h4) <| P2 ((decide (((a1.Units.length : Nat) : Int) > 12)) = false) (decide_eq_false h5) <| P1 (ci_sizeOf hr6) <| PI (r6 : Int) <| P2 ((0 : Int) ≤ r6) h7 <| P2 (Int.toNat r6 * 16 ≤ 140737488355328) h8 <| P1 (repLen (Int.toNat r6) (GA2I.mk 0 0)) <| P1 (repMap gA2I (Int.toNat r6) (GA2I.mk 0 0)) <| P0) (wi_goodState _ _ H)))
    (fun h4 H =>
      eW RB (fun _ => []) H <| gE func112 [rg [{ i := 5, call := some { cl := true, auto := true, ins := [], res := (RB r1), G' := [] }, dec := some true }, { i := 10, call := some { cl := true, auto := true, ins := [], res := (RB r3), G' := [] }, dec := some false }], r0] (by kernel_rfl) (P1 (ci_inRange hr1) <| P2 (r1 = true) (h2) <| P1 (ci_inRange hr3) <| P2 (r3 = false) (eqF h4) <| P0)))
  (fun h2 H =>
    eW RB (fun _ => []) H <| gE func112 [rg [{ i := 5, call := some { cl := true, auto := true, ins := [], res := (RB r1), G' := [] }, dec := some false }], r0] (by kernel_rfl) (P1 (ci_inRange hr1) <| P2 (r1 = false) (eqF h2) <| P0))
/-! loop example/g00886/impl fits -/
theorem ci_fits {a0 : Gi_Board} {a1 : Gi_State} {r : Bool} (H : Di_fits a0 a1 = some r) : Ct X.P X.gl 76 [.agg [sl 5 gi_Terrain a0.Rules.Terrains, sl 6 gi_Kind a0.Rules.Kinds, I a0.Rules.Stack, I a0.Rules.River, I a0.Rules.Road, I a0.Rules.Supply, I a0.Rules.Turns, I a0.Map.Width, I a0.Map.Height, sl 1 I a0.Map.Terrain, sl 1 I a0.Map.Rivers, sl 1 I a0.Map.Roads], .agg [I a1.Turn, I a1.Weather, sl 4 gi_Unit a1.Units]] [] (RB r) [] :=
  Ct.of func76 (c := bdy f76) (by kernel_rfl) (by kernel_rfl) <|
  eBind H fun r1 hr1 H =>
  gS [r0] (by kernel_rfl) P0 <|
  eIf H (fun h2 H =>
    eBind H fun r3 hr3 H =>
    eW RB (fun _ => []) H <| gE func76 [rg [{ i := 1, call := some { cl := true, auto := true, ins := [], res := (RB r1), G' := [] }, dec := some true }, hC 5 true [] (RB r3) []]] (by kernel_rfl) (P1 (ci_IsBoard hr1) <| P2 (r1 = true) (h2) <| P1 (ci_goodState hr3) <| P0))
  (fun h2 H =>
    eW RB (fun _ => []) H <| gE func76 [rg [{ i := 1, call := some { cl := true, auto := true, ins := [], res := (RB r1), G' := [] }, dec := some false }]] (by kernel_rfl) (P1 (ci_IsBoard hr1) <| P2 (r1 = false) (eqF h2) <| P0))
/-! loop example/g00886/impl unitsAt -/
def Ri_unitsAt (r : (List Int)) : List D := [ow 1 I r]
noncomputable def Ki_unitsAt : Si_unitsAt → List Item
  | .h1 .. => nav 300 3 [] [.code (bdy f123)]
def Zi_unitsAt : Si_unitsAt → St
  | .h1 i0 t1 t2 t3 l4 => ⟨sts 27 [(1, I i0), (5, .ref 0 1 none), (10, sl 4 gi_Unit t1), (11, I t2), (12, I t3)], [some ⟨false, false, 1, l4.length, List.map I l4⟩]⟩
abbrev Qi_unitsAt := Nx X 123 0 Ki_unitsAt Zi_unitsAt Ri_unitsAt (fun _ => [])
theorem ni_unitsAt : ∀ s o, Bi_unitsAt s = some o → Qi_unitsAt (Ki_unitsAt s) (Zi_unitsAt s) o
  | .h1 i0 t1 t2 t3 l4, o, H =>
    eIf H (fun h1 H =>
      eCk H fun h2 H =>
      eBind H fun x3 hx3 H =>
      gN [rg [hT 0], rg [hE 2 (gi_Unit x3)]] (by kernel_rfl) (P2 ((decide (t3 < t2)) = true) (decide_eq_true h1) <| P1 h2 <| P1 (int_lt_of_at h2 hx3) <| P1 (at_map gi_Unit hx3) <| P0) <|
      eIf H (fun h4 H =>
        eCk H fun h5 H =>
        eN H fun r hn => gO [rg [hT 3], rg [hA 3 ((l4 ++ [t3]).length) (List.map I (l4 ++ [t3]))], r0, .canon [3] [1, 5, 10, 11, 12]] (by kernel_rfl) (P2 (((x3.At : Int) == i0) = true) (beqT h4) <| P1 (apL l4 [t3]) <| P1 (apB h5) <| P1 (apM I l4 [t3]) <| P0) hn)
      (fun h4 H =>
        eN H fun r hn => gO [rg [hF 3], r0, .canon [0] [1, 5, 10, 11, 12]] (by kernel_rfl) (P2 (((x3.At : Int) == i0) = false) (beqF h4) <| P0) hn))
    (fun h1 H =>
      eN H <| gE func123 [rg [hF 0], r0] (by kernel_rfl) (P2 ((decide (t3 < t2)) = false) (decide_eq_false h1) <| P0))
theorem wi_unitsAt : ∀ s r, loop Bi_unitsAt s = some r → Wc X 123 0 (Ki_unitsAt s) (Zi_unitsAt s) (Ri_unitsAt r) ((fun _ => []) r) := Nx.all ni_unitsAt
theorem ci_unitsAt {a0 : Gi_State} {a1 : Int} {r : (List Int)} (H : Di_unitsAt a0 a1 = some r) : Ct X.P X.gl 123 [.agg [I a0.Turn, I a0.Weather, sl 4 gi_Unit a0.Units], I a1] [] (Ri_unitsAt r) [] :=
  Ct.of func123 (c := bdy f123) (by kernel_rfl) (by kernel_rfl) <|
  gO [r0, r0, r0, .canon [1] [1, 5, 10, 11, 12]] (by kernel_rfl) P0 (wi_unitsAt _ _ H)
/-! loop example/g00886/impl ownerOf -/
noncomputable def Ki_ownerOf : Si_ownerOf → List Item
  | .h1 .. => nav 300 2 [] [.code (bdy f71)]
def Zi_ownerOf : Si_ownerOf → St
  | .h1 i0 t1 t2 t3 => ⟨sts 21 [(1, I i0), (8, sl 4 gi_Unit t1), (9, I t2), (10, I t3)], []⟩
abbrev Qi_ownerOf := Nx X 71 0 Ki_ownerOf Zi_ownerOf RI (fun _ => [])
theorem ni_ownerOf : ∀ s o, Bi_ownerOf s = some o → Qi_ownerOf (Ki_ownerOf s) (Zi_ownerOf s) o
  | .h1 i0 t1 t2 t3, o, H =>
    eIf H (fun h1 H =>
      eCk H fun h2 H =>
      eBind H fun x3 hx3 H =>
      gN [rg [hT 0], rg [hE 1 (gi_Unit x3)]] (by kernel_rfl) (P2 ((decide (t3 < t2)) = true) (decide_eq_true h1) <| P1 h2 <| P1 (int_lt_of_at h2 hx3) <| P1 (at_map gi_Unit hx3) <| P0) <|
      eIf H (fun h4 H =>
        eN H <| gE func71 [rg [hT 3], r0] (by kernel_rfl) (P2 (((x3.At : Int) == i0) = true) (beqT h4) <| P0))
      (fun h4 H =>
        eN H fun r hn => gO [rg [hF 3], r0, .canon [] [1, 8, 9, 10]] (by kernel_rfl) (P2 (((x3.At : Int) == i0) = false) (beqF h4) <| P0) hn))
    (fun h1 H =>
      eN H <| gE func71 [rg [hF 0], r0] (by kernel_rfl) (P2 ((decide (t3 < t2)) = false) (decide_eq_false h1) <| P0))
theorem wi_ownerOf : ∀ s r, loop Bi_ownerOf s = some r → Wc X 71 0 (Ki_ownerOf s) (Zi_ownerOf s) (RI r) ((fun _ => []) r) := Nx.all ni_ownerOf
theorem ci_ownerOf {a0 : Gi_State} {a1 : Int} {r : Int} (H : Di_ownerOf a0 a1 = some r) : Ct X.P X.gl 71 [.agg [I a0.Turn, I a0.Weather, sl 4 gi_Unit a0.Units], I a1] [] (RI r) [] :=
  Ct.of func71 (c := bdy f71) (by kernel_rfl) (by kernel_rfl) <|
  gO [r0, r0, .canon [] [1, 8, 9, 10]] (by kernel_rfl) P0 (wi_ownerOf _ _ H)
/-! loop example/g00886/impl directionOn -/
noncomputable def Ki_directionOn : Si_directionOn → List Item
  | .h1 .. => nav 300 2 [] [.code (bdy f131)]
def Zi_directionOn : Si_directionOn → St
  | .h1 i0 k1 t2 b3 => ⟨sts 19 [(1, I i0), (2, I k1), (3, .ptr 0 5 0 0), (8, I t2)], [some ⟨false, true, 5, 1, [.agg [I b3.Width, I b3.Height, sl 1 I b3.Terrain, sl 1 I b3.Rivers, sl 1 I b3.Roads]]⟩]⟩
abbrev Qi_directionOn := Nx X 131 0 Ki_directionOn Zi_directionOn RI (fun _ => [])
theorem ni_directionOn : ∀ s o, Bi_directionOn s = some o → Qi_directionOn (Ki_directionOn s) (Zi_directionOn s) o
  | .h1 i0 k1 t2 b3, o, H =>
    eIf H (fun h1 H =>
      eBind H fun r2 hr2 H =>
      gN [rg [hT 0], r0] (by kernel_rfl) (P2 ((decide (t2 < 6)) = true) (decide_eq_true h1) <| P0) <|
      eIf H (fun h3 H =>
        eN H <| gE func131 [rg [hC 3 true [] (RI r2) [], hT 5], r0] (by kernel_rfl) (P1 (ci_nextTo hr2) <| P2 (((r2 : Int) == k1) = true) (beqT h3) <| P0))
      (fun h3 H =>
        eN H fun r hn => gO [rg [hC 3 true [] (RI r2) [], hF 5], r0, .canon [0] [1, 2, 3, 8]] (by kernel_rfl) (P1 (ci_nextTo hr2) <| P2 (((r2 : Int) == k1) = false) (beqF h3) <| P0) hn))
    (fun h1 H =>
      eN H <| gE func131 [rg [hF 0], r0] (by kernel_rfl) (P2 ((decide (t2 < 6)) = false) (decide_eq_false h1) <| P0))
theorem wi_directionOn : ∀ s r, loop Bi_directionOn s = some r → Wc X 131 0 (Ki_directionOn s) (Zi_directionOn s) (RI r) ((fun _ => []) r) := Nx.all ni_directionOn
theorem ci_directionOn {a0 : Gi_Map} {a1 : Int} {a2 : Int} {r : Int} (H : Di_directionOn a0 a1 a2 = some r) : Ct X.P X.gl 131 [.agg [I a0.Width, I a0.Height, sl 1 I a0.Terrain, sl 1 I a0.Rivers, sl 1 I a0.Roads], I a1, I a2] [] (RI r) [] :=
  Ct.of func131 (c := bdy f131) (by kernel_rfl) (by kernel_rfl) <|
  gO [r0, r0, .canon [0] [1, 2, 3, 8]] (by kernel_rfl) P0 (wi_directionOn _ _ H)
/-! loop example/g00886/impl isNear -/
theorem ci_isNear {a0 : Gi_Board} {a1 : Gi_Unit} {a2 : Int} {r : Bool} (H : Di_isNear a0 a1 a2 = some r) : Ct X.P X.gl 124 [.agg [sl 5 gi_Terrain a0.Rules.Terrains, sl 6 gi_Kind a0.Rules.Kinds, I a0.Rules.Stack, I a0.Rules.River, I a0.Rules.Road, I a0.Rules.Supply, I a0.Rules.Turns, I a0.Map.Width, I a0.Map.Height, sl 1 I a0.Map.Terrain, sl 1 I a0.Map.Rivers, sl 1 I a0.Map.Roads], .agg [I a1.Side, I a1.Kind, I a1.At, I a1.Steps], I a2] [] (RB r) [] :=
  Ct.of func124 (c := bdy f124) (by kernel_rfl) (by kernel_rfl) <|
  gS [r0] (by kernel_rfl) P0 <|
  eIf H (fun h1 H =>
    eBind H fun r2 hr2 H =>
    eW RB (fun _ => []) H <| gE func124 [rg [hT 2, hC 9 true [] (RI r2) []]] (by kernel_rfl) (P2 ((decide (a1.At ≥ 0)) = true) (decide_eq_true h1) <| P1 (ci_directionOn hr2) <| P0))
  (fun h1 H =>
    eW RB (fun _ => []) H <| gE func124 [rg [hF 2]] (by kernel_rfl) (P2 ((decide (a1.At ≥ 0)) = false) (decide_eq_false h1) <| P0))
/-! slices Index   loop example/g00886/impl Attack loop example/g00886/impl Attack  -/
noncomputable def Kslices_Index_i_Attack : Sslices_Index_i_Attack → List Item
  | .h1 .. => nav 300 2 [] [.code (bdy f157)]
def Zslices_Index_i_Attack : Sslices_Index_i_Attack → St
  | .h1 s0 t1 t2 b3 => ⟨sts 19 [(0, sl 2 gi_Attack s0), (3, .ptr 0 2 0 0), (7, I t1), (8, I t2)], [some ⟨false, true, 2, 1, [.agg [I b3.Unit, I b3.At]]⟩]⟩
abbrev Qslices_Index_i_Attack := Nx X 157 0 Kslices_Index_i_Attack Zslices_Index_i_Attack RI (fun _ => [])
theorem nslices_Index_i_Attack : ∀ s o, Bslices_Index_i_Attack s = some o → Qslices_Index_i_Attack (Kslices_Index_i_Attack s) (Zslices_Index_i_Attack s) o
  | .h1 s0 t1 t2 b3, o, H =>
    eIf H (fun h1 H =>
      eCk H fun h2 H =>
      eBind H fun x3 hx3 H =>
      gN [rg [hT 0], r0] (by kernel_rfl) (P2 ((decide (t2 < t1)) = true) (decide_eq_true h1) <| P0) <|
      eIf H (fun h4 H =>
        eN H <| gE func157 [rg [hE 4 (gi_Attack x3), hT 5], r0] (by kernel_rfl) (P1 h2 <| P1 (int_lt_of_at h2 hx3) <| P1 (at_map gi_Attack hx3) <| P2 (((b3.Unit == x3.Unit) && (b3.At == x3.At)) = true) (h4) <| P0))
      (fun h4 H =>
        eN H fun r hn => gO [rg [hE 4 (gi_Attack x3), hF 5], r0, .canon [0] [0, 3, 7, 8]] (by kernel_rfl) (P1 h2 <| P1 (int_lt_of_at h2 hx3) <| P1 (at_map gi_Attack hx3) <| P2 (((b3.Unit == x3.Unit) && (b3.At == x3.At)) = false) (eqF h4) <| P0) hn))
    (fun h1 H =>
      eN H <| gE func157 [rg [hF 0], r0] (by kernel_rfl) (P2 ((decide (t2 < t1)) = false) (decide_eq_false h1) <| P0))
theorem wslices_Index_i_Attack : ∀ s r, loop Bslices_Index_i_Attack s = some r → Wc X 157 0 (Kslices_Index_i_Attack s) (Zslices_Index_i_Attack s) (RI r) ((fun _ => []) r) := Nx.all nslices_Index_i_Attack
theorem cslices_Index_i_Attack {a0 : (List Gi_Attack)} {a1 : Gi_Attack} {r : Int} (H : Dslices_Index_i_Attack a0 a1 = some r) : Ct X.P X.gl 157 [sl 2 gi_Attack a0, .agg [I a1.Unit, I a1.At]] [] (RI r) [] :=
  Ct.of func157 (c := bdy f157) (by kernel_rfl) (by kernel_rfl) <|
  gO [r0, r0, .canon [0] [0, 3, 7, 8]] (by kernel_rfl) P0 (wslices_Index_i_Attack _ _ H)
/-! slices Contains   loop example/g00886/impl Attack loop example/g00886/impl Attack  -/
theorem cslices_Contains_i_Attack {a0 : (List Gi_Attack)} {a1 : Gi_Attack} {r : Bool} (H : Dslices_Contains_i_Attack a0 a1 = some r) : Ct X.P X.gl 125 [sl 2 gi_Attack a0, .agg [I a1.Unit, I a1.At]] [] (RB r) [] :=
  Ct.of func125 (c := bdy f125) (by kernel_rfl) (by kernel_rfl) <|
  eBind H fun r1 hr1 H =>
  eW RB (fun _ => []) H <| gE func125 [r0, rg [hC 2 true [] (RI r1) []]] (by kernel_rfl) (P1 (cslices_Index_i_Attack hr1) <| P0)
/-! loop example/g00886/impl battlesOf -/
def Ri_battlesOf (r : (List Gi_Battle)) : List D := [ow 3 goi_Battle r]
noncomputable def Ki_battlesOf : Si_battlesOf → List Item
  | .h1 .. => nav 300 3 [] [.code (bdy f85)]
  | .h2 .. => nav 300 8 [true, false] [.code (bdy f85)]
  | .h3 .. => nav 300 13 [true, false, true, true] [.code (bdy f85)]
def Zi_battlesOf : Si_battlesOf → St
  | .h1 t0 t1 t2 b3 b4 l5 => ⟨sts 73 [(2, sl 2 gi_Attack t0), (3, .ptr 0 12 0 0), (4, .ptr 1 3 0 0), (7, .ref 2 3 none), (16, I t1), (17, I t2)], [some ⟨false, true, 12, 1, [.agg [sl 5 gi_Terrain b3.Rules.Terrains, sl 6 gi_Kind b3.Rules.Kinds, I b3.Rules.Stack, I b3.Rules.River, I b3.Rules.Road, I b3.Rules.Supply, I b3.Rules.Turns, I b3.Map.Width, I b3.Map.Height, sl 1 I b3.Map.Terrain, sl 1 I b3.Map.Rivers, sl 1 I b3.Map.Roads]]⟩, some ⟨false, true, 3, 1, [.agg [I b4.Turn, I b4.Weather, sl 4 gi_Unit b4.Units]]⟩, some ⟨false, false, 3, l5.length, List.map goi_Battle l5⟩]⟩
  | .h2 t0 t1 t2 t3 t4 t5 t6 b7 b8 l9 b10 l11 l12 => ⟨sts 73 [(2, sl 2 gi_Attack t0), (3, .ptr 0 12 0 0), (4, .ptr 1 3 0 0), (7, .ref 2 3 none), (8, I t1), (9, .ptr 3 3 0 0), (16, I t2), (17, I t3), (30, sl 4 gi_Unit t4), (31, I t5), (32, I t6)], [some ⟨false, true, 12, 1, [.agg [sl 5 gi_Terrain b7.Rules.Terrains, sl 6 gi_Kind b7.Rules.Kinds, I b7.Rules.Stack, I b7.Rules.River, I b7.Rules.Road, I b7.Rules.Supply, I b7.Rules.Turns, I b7.Map.Width, I b7.Map.Height, sl 1 I b7.Map.Terrain, sl 1 I b7.Map.Rivers, sl 1 I b7.Map.Roads]]⟩, some ⟨false, true, 3, 1, [.agg [I b8.Turn, I b8.Weather, sl 4 gi_Unit b8.Units]]⟩, some ⟨false, false, 3, l9.length, List.map goi_Battle l9⟩, some ⟨false, true, 3, 1, [.agg [I b10, .ref 4 1 none, .ref 5 1 none]]⟩, some ⟨false, false, 1, l11.length, List.map I l11⟩, some ⟨false, false, 1, l12.length, List.map I l12⟩]⟩
  | .h3 t0 t1 t2 t3 t4 t5 t6 b7 b8 l9 b10 l11 l12 => ⟨sts 73 [(2, sl 2 gi_Attack t0), (3, .ptr 0 12 0 0), (4, .ptr 1 3 0 0), (7, .ref 2 3 none), (8, I t1), (9, .ptr 3 3 0 0), (16, I t2), (17, I t3), (30, sl 4 gi_Unit t4), (31, I t5), (32, I t6)], [some ⟨false, true, 12, 1, [.agg [sl 5 gi_Terrain b7.Rules.Terrains, sl 6 gi_Kind b7.Rules.Kinds, I b7.Rules.Stack, I b7.Rules.River, I b7.Rules.Road, I b7.Rules.Supply, I b7.Rules.Turns, I b7.Map.Width, I b7.Map.Height, sl 1 I b7.Map.Terrain, sl 1 I b7.Map.Rivers, sl 1 I b7.Map.Roads]]⟩, some ⟨false, true, 3, 1, [.agg [I b8.Turn, I b8.Weather, sl 4 gi_Unit b8.Units]]⟩, some ⟨false, false, 3, l9.length, List.map goi_Battle l9⟩, some ⟨false, true, 3, 1, [.agg [I b10, .ref 4 1 none, .ref 5 1 none]]⟩, some ⟨false, false, 1, l11.length, List.map I l11⟩, some ⟨false, false, 1, l12.length, List.map I l12⟩]⟩
abbrev Qi_battlesOf := Nx X 85 0 Ki_battlesOf Zi_battlesOf Ri_battlesOf (fun _ => [])
theorem ni_battlesOf : ∀ s o, Bi_battlesOf s = some o → Qi_battlesOf (Ki_battlesOf s) (Zi_battlesOf s) o
  | .h1 t0 t1 t2 b3 b4 l5, o, H =>
    eIf H (fun h1 H =>
      eBind H fun r2 hr2 H =>
      gN [rg [hT 0], r0, rg [hC 3 true [] (Ri_unitsAt r2) []]] (by kernel_rfl) (P2 ((decide (t2 < t1)) = true) (decide_eq_true h1) <| P1 (ci_unitsAt hr2) <| P0) <|
      eIf H (fun h3 H =>
        eN H fun r hn => gO [rg [hT 3], r0, .canon [0, 1, 2] [2, 3, 4, 7, 16, 17]] (by kernel_rfl) (P2 (((((r2.length : Nat) : Int) : Int) == 0) = true) (beqT h3) <| P0) hn)
      (fun h3 H =>
        eN H fun r hn => gO [rg [hF 3], r0, .bm (.nil 4 0 1 1 [.agg [I t2, .list true 1 0 [], .ref 3 1 none]]), .bm (.take 4 0 1 1 0 [] [.agg [I t2, .ref 5 1 none, .ref 3 1 none]]), .canon [0, 1, 2, 4, 5, 3] [2, 3, 4, 7, 8, 9, 16, 17, 30, 31, 32]] (by kernel_rfl) (P2 (((((r2.length : Nat) : Int) : Int) == 0) = false) (beqF h3) <| P2 (getCells [.agg [I t2, .nil, .ref 3 1 none]] 0 1 1 = some [.nil]) rfl <| P2 (setCells [.agg [I t2, .nil, .ref 3 1 none]] 0 1 [.list true 1 0 []] = [.agg [I t2, .list true 1 0 [], .ref 3 1 none]]) rfl <| P2 (getCells [.agg [I t2, .list true 1 0 [], .ref 3 1 none]] 0 1 1 = some [.list true 1 0 []]) rfl <| P2 (setCells [.agg [I t2, .list true 1 0 [], .ref 3 1 none]] 0 1 [.ref 5 1 none] = [.agg [I t2, .ref 5 1 none, .ref 3 1 none]]) rfl <| P0) hn))
    (fun h1 H =>
      eN H <| gE func85 [rg [hF 0], r0] (by kernel_rfl) (P2 ((decide (t2 < t1)) = false) (decide_eq_false h1) <| P0))
  | .h2 t0 t1 t2 t3 t4 t5 t6 b7 b8 l9 b10 l11 l12, o, H =>
    eIf H (fun h1 H =>
      eCk H fun h2 H =>
      eBind H fun x3 hx3 H =>
      eBind H fun r4 hr4 H =>
      gN [rg [hT 0], rg [hE 2 (gi_Unit x3)]] (by kernel_rfl) (P2 ((decide (t6 < t5)) = true) (decide_eq_true h1) <| P1 h2 <| P1 (int_lt_of_at h2 hx3) <| P1 (at_map gi_Unit hx3) <| P0) <|
      eIf H (fun h5 H =>
        eN H fun r hn => gO [rg [hC 4 true [] (RI r4) [], hF 5], r0, .canon [0, 1, 2, 3, 4, 5] [2, 3, 4, 7, 8, 9, 16, 17, 30, 31, 32]] (by kernel_rfl) (P1 (ci_ownerOf hr4) <| P2 (((x3.Side : Int) != r4) = false) (bneF h5) <| P0) hn)
      (fun h5 H =>
        eBind H fun r6 hr6 H =>
        eIf H (fun h7 H =>
          eBind H fun r8 hr8 H =>
          eIf H (fun h9 H =>
            eCk H fun h10 H =>
            eN H fun r hn => gO [rg [hC 4 true [] (RI r4) [], hT 5, { i := 10, call := some { cl := true, auto := true, ins := [], res := (RB r6), G' := [] }, dec := some true }, { i := 17, call := some { cl := true, auto := true, ins := [], res := (RB r8), G' := [] }, dec := some true }], rg [hA 4 ((l11 ++ [t6]).length) (List.map I (l11 ++ [t6]))], r0, .canon [0, 1, 2, 3, 8, 5] [2, 3, 4, 7, 8, 9, 16, 17, 30, 31, 32]] (by kernel_rfl) (P1 (ci_ownerOf hr4) <| P2 (((x3.Side : Int) != r4) = true) (bneT h5) <| P1 (ci_isNear hr6) <| P2 (r6 = true) (h7) <| P1 (cslices_Contains_i_Attack hr8) <| P2 (r8 = true) (h9) <| P1 (apL l11 [t6]) <| P1 (apB h10) <| P1 (apM I l11 [t6]) <| P0) hn)
          (fun h9 H =>
            eN H fun r hn => gO [rg [hC 4 true [] (RI r4) [], hT 5, { i := 10, call := some { cl := true, auto := true, ins := [], res := (RB r6), G' := [] }, dec := some true }, { i := 17, call := some { cl := true, auto := true, ins := [], res := (RB r8), G' := [] }, dec := some false }], r0, .canon [0, 1, 2, 3, 4, 5] [2, 3, 4, 7, 8, 9, 16, 17, 30, 31, 32]] (by kernel_rfl) (P1 (ci_ownerOf hr4) <| P2 (((x3.Side : Int) != r4) = true) (bneT h5) <| P1 (ci_isNear hr6) <| P2 (r6 = true) (h7) <| P1 (cslices_Contains_i_Attack hr8) <| P2 (r8 = false) (eqF h9) <| P0) hn))
        (fun h7 H =>
          eN H fun r hn => gO [rg [hC 4 true [] (RI r4) [], hT 5, { i := 10, call := some { cl := true, auto := true, ins := [], res := (RB r6), G' := [] }, dec := some false }], r0, .canon [0, 1, 2, 3, 4, 5] [2, 3, 4, 7, 8, 9, 16, 17, 30, 31, 32]] (by kernel_rfl) (P1 (ci_ownerOf hr4) <| P2 (((x3.Side : Int) != r4) = true) (bneT h5) <| P1 (ci_isNear hr6) <| P2 (r6 = false) (eqF h7) <| P0) hn)))
    (fun h1 H =>
      gN [rg [hF 0]] (by kernel_rfl) (P2 ((decide (t6 < t5)) = false) (decide_eq_false h1) <| P0) <|
      eIf H (fun h2 H =>
        eCk H fun h3 H =>
        eN H fun r hn => gO [rg [hT 3], rg [{ i := 2, post := [.put 6 0 1 4 ([.agg [I b10, ow 1 I l11, .ref 5 1 none]]), .put 6 0 2 5 (List.map goi_Battle [(Gi_Battle.mk b10 l11 l12)]), .own 6 1] }, hA 3 ((l9 ++ [(Gi_Battle.mk b10 l11 l12)]).length) (List.map goi_Battle (l9 ++ [(Gi_Battle.mk b10 l11 l12)]))], r0, .canon [0, 1, 7] [2, 3, 4, 7, 16, 17]] (by kernel_rfl) (P2 ((decide (((l11.length : Nat) : Int) > 0)) = true) (decide_eq_true h2) <| P2 (getCells [.agg [I b10, .ref 4 1 none, .ref 5 1 none]] 0 1 1 = some [.ref 4 1 none]) rfl <| P2 (setCells [.agg [I b10, .ref 4 1 none, .ref 5 1 none]] 0 1 [ow 1 I l11] = [.agg [I b10, ow 1 I l11, .ref 5 1 none]]) rfl <| P2 (getCells [.agg [I b10, ow 1 I l11, .ref 5 1 none]] 0 2 1 = some [.ref 5 1 none]) rfl <| P2 (setCells [.agg [I b10, ow 1 I l11, .ref 5 1 none]] 0 2 [ow 1 I l12] = List.map goi_Battle [(Gi_Battle.mk b10 l11 l12)]) rfl <| P1 (allOw_71 [(Gi_Battle.mk b10 l11 l12)]) <| P2 ((1 : Nat) = 1) rfl <| P1 (apL l9 [(Gi_Battle.mk b10 l11 l12)]) <| P1 (apB h3) <| P1 (apM goi_Battle l9 [(Gi_Battle.mk b10 l11 l12)]) <| P0) hn)
      (fun h2 H =>
        eN H fun r hn => gO [rg [hF 3], r0, .canon [0, 1, 2] [2, 3, 4, 7, 16, 17]] (by kernel_rfl) (P2 ((decide (((l11.length : Nat) : Int) > 0)) = false) (decide_eq_false h2) <| P0) hn))
  | .h3 t0 t1 t2 t3 t4 t5 t6 b7 b8 l9 b10 l11 l12, o, H =>
    eIf H (fun h1 H =>
      eCk H fun h2 H =>
      eBind H fun x3 hx3 H =>
      eBind H fun r4 hr4 H =>
      gN [rg [hT 0], rg [hE 2 (gi_Unit x3)]] (by kernel_rfl) (P2 ((decide (t6 < t5)) = true) (decide_eq_true h1) <| P1 h2 <| P1 (int_lt_of_at h2 hx3) <| P1 (at_map gi_Unit hx3) <| P0) <|
      eIf H (fun h5 H =>
        eN H fun r hn => gO [rg [hC 4 true [] (RI r4) [], hF 5], r0, .canon [0, 1, 2, 3, 4, 5] [2, 3, 4, 7, 8, 9, 16, 17, 30, 31, 32]] (by kernel_rfl) (P1 (ci_ownerOf hr4) <| P2 (((x3.Side : Int) != r4) = false) (bneF h5) <| P0) hn)
      (fun h5 H =>
        eBind H fun r6 hr6 H =>
        eIf H (fun h7 H =>
          eBind H fun r8 hr8 H =>
          eIf H (fun h9 H =>
            eCk H fun h10 H =>
            eN H fun r hn => gO [rg [hC 4 true [] (RI r4) [], hT 5, { i := 10, call := some { cl := true, auto := true, ins := [], res := (RB r6), G' := [] }, dec := some true }, { i := 17, call := some { cl := true, auto := true, ins := [], res := (RB r8), G' := [] }, dec := some true }], rg [hA 4 ((l11 ++ [t6]).length) (List.map I (l11 ++ [t6]))], r0, .canon [0, 1, 2, 3, 8, 5] [2, 3, 4, 7, 8, 9, 16, 17, 30, 31, 32]] (by kernel_rfl) (P1 (ci_ownerOf hr4) <| P2 (((x3.Side : Int) != r4) = true) (bneT h5) <| P1 (ci_isNear hr6) <| P2 (r6 = true) (h7) <| P1 (cslices_Contains_i_Attack hr8) <| P2 (r8 = true) (h9) <| P1 (apL l11 [t6]) <| P1 (apB h10) <| P1 (apM I l11 [t6]) <| P0) hn)
          (fun h9 H =>
            eN H fun r hn => gO [rg [hC 4 true [] (RI r4) [], hT 5, { i := 10, call := some { cl := true, auto := true, ins := [], res := (RB r6), G' := [] }, dec := some true }, { i := 17, call := some { cl := true, auto := true, ins := [], res := (RB r8), G' := [] }, dec := some false }], r0, .canon [0, 1, 2, 3, 4, 5] [2, 3, 4, 7, 8, 9, 16, 17, 30, 31, 32]] (by kernel_rfl) (P1 (ci_ownerOf hr4) <| P2 (((x3.Side : Int) != r4) = true) (bneT h5) <| P1 (ci_isNear hr6) <| P2 (r6 = true) (h7) <| P1 (cslices_Contains_i_Attack hr8) <| P2 (r8 = false) (eqF h9) <| P0) hn))
        (fun h7 H =>
          eN H fun r hn => gO [rg [hC 4 true [] (RI r4) [], hT 5, { i := 10, call := some { cl := true, auto := true, ins := [], res := (RB r6), G' := [] }, dec := some false }], r0, .canon [0, 1, 2, 3, 4, 5] [2, 3, 4, 7, 8, 9, 16, 17, 30, 31, 32]] (by kernel_rfl) (P1 (ci_ownerOf hr4) <| P2 (((x3.Side : Int) != r4) = true) (bneT h5) <| P1 (ci_isNear hr6) <| P2 (r6 = false) (eqF h7) <| P0) hn)))
    (fun h1 H =>
      gN [rg [hF 0]] (by kernel_rfl) (P2 ((decide (t6 < t5)) = false) (decide_eq_false h1) <| P0) <|
      eIf H (fun h2 H =>
        eCk H fun h3 H =>
        eN H fun r hn => gO [rg [hT 3], rg [{ i := 2, post := [.put 6 0 1 4 ([.agg [I b10, ow 1 I l11, .ref 5 1 none]]), .put 6 0 2 5 (List.map goi_Battle [(Gi_Battle.mk b10 l11 l12)]), .own 6 1] }, hA 3 ((l9 ++ [(Gi_Battle.mk b10 l11 l12)]).length) (List.map goi_Battle (l9 ++ [(Gi_Battle.mk b10 l11 l12)]))], r0, .canon [0, 1, 7] [2, 3, 4, 7, 16, 17]] (by kernel_rfl) (P2 ((decide (((l11.length : Nat) : Int) > 0)) = true) (decide_eq_true h2) <| P2 (getCells [.agg [I b10, .ref 4 1 none, .ref 5 1 none]] 0 1 1 = some [.ref 4 1 none]) rfl <| P2 (setCells [.agg [I b10, .ref 4 1 none, .ref 5 1 none]] 0 1 [ow 1 I l11] = [.agg [I b10, ow 1 I l11, .ref 5 1 none]]) rfl <| P2 (getCells [.agg [I b10, ow 1 I l11, .ref 5 1 none]] 0 2 1 = some [.ref 5 1 none]) rfl <| P2 (setCells [.agg [I b10, ow 1 I l11, .ref 5 1 none]] 0 2 [ow 1 I l12] = List.map goi_Battle [(Gi_Battle.mk b10 l11 l12)]) rfl <| P1 (allOw_71 [(Gi_Battle.mk b10 l11 l12)]) <| P2 ((1 : Nat) = 1) rfl <| P1 (apL l9 [(Gi_Battle.mk b10 l11 l12)]) <| P1 (apB h3) <| P1 (apM goi_Battle l9 [(Gi_Battle.mk b10 l11 l12)]) <| P0) hn)
      (fun h2 H =>
        eN H fun r hn => gO [rg [hF 3], r0, .canon [0, 1, 2] [2, 3, 4, 7, 16, 17]] (by kernel_rfl) (P2 ((decide (((l11.length : Nat) : Int) > 0)) = false) (decide_eq_false h2) <| P0) hn))
theorem wi_battlesOf : ∀ s r, loop Bi_battlesOf s = some r → Wc X 85 0 (Ki_battlesOf s) (Zi_battlesOf s) (Ri_battlesOf r) ((fun _ => []) r) := Nx.all ni_battlesOf
theorem ci_battlesOf {a0 : Gi_Board} {a1 : Gi_State} {a2 : (List Gi_Attack)} {r : (List Gi_Battle)} (H : Di_battlesOf a0 a1 a2 = some r) : Ct X.P X.gl 85 [.agg [sl 5 gi_Terrain a0.Rules.Terrains, sl 6 gi_Kind a0.Rules.Kinds, I a0.Rules.Stack, I a0.Rules.River, I a0.Rules.Road, I a0.Rules.Supply, I a0.Rules.Turns, I a0.Map.Width, I a0.Map.Height, sl 1 I a0.Map.Terrain, sl 1 I a0.Map.Rivers, sl 1 I a0.Map.Roads], .agg [I a1.Turn, I a1.Weather, sl 4 gi_Unit a1.Units], sl 2 gi_Attack a2] [] (Ri_battlesOf r) [] :=
  Ct.of func85 (c := bdy f85) (by kernel_rfl) (by kernel_rfl) <|
  gO [r0, r0, r0, .canon [0, 1, 2] [2, 3, 4, 7, 16, 17]] (by kernel_rfl) P0 (wi_battlesOf _ _ H)
/-! loop example/g00886/impl BattlesOf -/
def Ri_BattlesOf (r : (List Gi_Battle) × Bool) : List D := [ow 3 goi_Battle r.1, .bool r.2]
theorem ci_BattlesOf {a0 : Gi_Board} {a1 : Gi_State} {a2 : (List Gi_Attack)} {r : (List Gi_Battle) × Bool} (H : Di_BattlesOf a0 a1 a2 = some r) : Ct X.P X.gl 38 [.agg [sl 5 gi_Terrain a0.Rules.Terrains, sl 6 gi_Kind a0.Rules.Kinds, I a0.Rules.Stack, I a0.Rules.River, I a0.Rules.Road, I a0.Rules.Supply, I a0.Rules.Turns, I a0.Map.Width, I a0.Map.Height, sl 1 I a0.Map.Terrain, sl 1 I a0.Map.Rivers, sl 1 I a0.Map.Roads], .agg [I a1.Turn, I a1.Weather, sl 4 gi_Unit a1.Units], sl 2 gi_Attack a2] [] (Ri_BattlesOf r) [] :=
  Ct.of func38 (c := bdy f38) (by kernel_rfl) (by kernel_rfl) <|
  eBind H fun r1 hr1 H =>
  gS [r0] (by kernel_rfl) P0 <|
  eIf H (fun h2 H =>
    eIf H (fun h3 H =>
      eW Ri_BattlesOf (fun _ => []) H <| gE func38 [rg [{ i := 2, call := some { cl := true, auto := true, ins := [], res := (RB r1), G' := [] }, dec := some true }, hT 7], r0] (by kernel_rfl) (P1 (ci_fits hr1) <| P2 (r1 = true) (h2) <| P2 ((decide (((a2.length : Nat) : Int) > 24)) = true) (decide_eq_true h3) <| P0))
    (fun h3 H =>
      eBind H fun r4 hr4 H =>
      eW Ri_BattlesOf (fun _ => []) H <| gE func38 [rg [{ i := 2, call := some { cl := true, auto := true, ins := [], res := (RB r1), G' := [] }, dec := some true }, hF 7], rg [hC 3 true [] (Ri_battlesOf r4) []]] (by kernel_rfl) (P1 (ci_fits hr1) <| P2 (r1 = true) (h2) <| P2 ((decide (((a2.length : Nat) : Int) > 24)) = false) (decide_eq_false h3) <| P1 (ci_battlesOf hr4) <| P0)))
  (fun h2 H =>
    eW Ri_BattlesOf (fun _ => []) H <| gE func38 [rg [{ i := 2, call := some { cl := true, auto := true, ins := [], res := (RB r1), G' := [] }, dec := some false }], r0] (by kernel_rfl) (P1 (ci_fits hr1) <| P2 (r1 = false) (eqF h2) <| P0))
/-! loop example/g00886/spec sOwner -/
noncomputable def Ks_sOwner : Ss_sOwner → List Item
  | .h1 .. => nav 300 2 [] [.code (bdy f82)]
def Zs_sOwner : Ss_sOwner → St
  | .h1 i0 t1 t2 t3 => ⟨sts 21 [(1, I i0), (8, sl 4 gi_Unit t1), (9, I t2), (10, I t3)], []⟩
abbrev Qs_sOwner := Nx X 82 0 Ks_sOwner Zs_sOwner RI (fun _ => [])
theorem ns_sOwner : ∀ s o, Bs_sOwner s = some o → Qs_sOwner (Ks_sOwner s) (Zs_sOwner s) o
  | .h1 i0 t1 t2 t3, o, H =>
    eIf H (fun h1 H =>
      eCk H fun h2 H =>
      eBind H fun x3 hx3 H =>
      gN [rg [hT 0], rg [hE 1 (gi_Unit x3)]] (by kernel_rfl) (P2 ((decide (t3 < t2)) = true) (decide_eq_true h1) <| P1 h2 <| P1 (int_lt_of_at h2 hx3) <| P1 (at_map gi_Unit hx3) <| P0) <|
      eIf H (fun h4 H =>
        eN H <| gE func82 [rg [hT 3], r0] (by kernel_rfl) (P2 (((x3.At : Int) == i0) = true) (beqT h4) <| P0))
      (fun h4 H =>
        eN H fun r hn => gO [rg [hF 3], r0, .canon [] [1, 8, 9, 10]] (by kernel_rfl) (P2 (((x3.At : Int) == i0) = false) (beqF h4) <| P0) hn))
    (fun h1 H =>
      eN H <| gE func82 [rg [hF 0], r0] (by kernel_rfl) (P2 ((decide (t3 < t2)) = false) (decide_eq_false h1) <| P0))
theorem ws_sOwner : ∀ s r, loop Bs_sOwner s = some r → Wc X 82 0 (Ks_sOwner s) (Zs_sOwner s) (RI r) ((fun _ => []) r) := Nx.all ns_sOwner
theorem cs_sOwner {a0 : Gi_State} {a1 : Int} {r : Int} (H : Ds_sOwner a0 a1 = some r) : Ct X.P X.gl 82 [.agg [I a0.Turn, I a0.Weather, sl 4 gi_Unit a0.Units], I a1] [] (RI r) [] :=
  Ct.of func82 (c := bdy f82) (by kernel_rfl) (by kernel_rfl) <|
  gO [r0, r0, .canon [] [1, 8, 9, 10]] (by kernel_rfl) P0 (ws_sOwner _ _ H)
/-! loop example/g00886/spec aBattles -/
def Rs_aBattles (r : (List Gi_Battle)) : List D := [ow 3 goi_Battle r]
noncomputable def Ks_aBattles : Ss_aBattles → List Item
  | .h1 .. => nav 300 3 [] [.code (bdy f86)]
  | .h2 .. => nav 300 6 [true] [.code (bdy f86)]
  | .h3 .. => nav 300 9 [true, true] [.code (bdy f86)]
  | .h4 .. => nav 300 11 [true, true, false] [.code (bdy f86)]
def Zs_aBattles : Ss_aBattles → St
  | .h1 t0 t1 b2 b3 l4 => ⟨sts 88 [(2, sl 2 gi_Attack t0), (3, .ptr 0 12 0 0), (4, .ptr 1 3 0 0), (7, .ref 2 3 none), (8, I t1)], [some ⟨false, true, 12, 1, [.agg [sl 5 gi_Terrain b2.Rules.Terrains, sl 6 gi_Kind b2.Rules.Kinds, I b2.Rules.Stack, I b2.Rules.River, I b2.Rules.Road, I b2.Rules.Supply, I b2.Rules.Turns, I b2.Map.Width, I b2.Map.Height, sl 1 I b2.Map.Terrain, sl 1 I b2.Map.Rivers, sl 1 I b2.Map.Roads]]⟩, some ⟨false, true, 3, 1, [.agg [I b3.Turn, I b3.Weather, sl 4 gi_Unit b3.Units]]⟩, some ⟨false, false, 3, l4.length, List.map goi_Battle l4⟩]⟩
  | .h2 t0 t1 t2 t3 b4 b5 l6 b7 l8 l9 => ⟨sts 88 [(2, sl 2 gi_Attack t0), (3, .ptr 0 12 0 0), (4, .ptr 1 3 0 0), (7, .ref 2 3 none), (8, I t1), (9, .ptr 3 3 0 0), (24, I t2), (25, I t3)], [some ⟨false, true, 12, 1, [.agg [sl 5 gi_Terrain b4.Rules.Terrains, sl 6 gi_Kind b4.Rules.Kinds, I b4.Rules.Stack, I b4.Rules.River, I b4.Rules.Road, I b4.Rules.Supply, I b4.Rules.Turns, I b4.Map.Width, I b4.Map.Height, sl 1 I b4.Map.Terrain, sl 1 I b4.Map.Rivers, sl 1 I b4.Map.Roads]]⟩, some ⟨false, true, 3, 1, [.agg [I b5.Turn, I b5.Weather, sl 4 gi_Unit b5.Units]]⟩, some ⟨false, false, 3, l6.length, List.map goi_Battle l6⟩, some ⟨false, true, 3, 1, [.agg [I b7, .ref 4 1 none, .ref 5 1 none]]⟩, some ⟨false, false, 1, l8.length, List.map I l8⟩, some ⟨false, false, 1, l9.length, List.map I l9⟩]⟩
  | .h3 t0 t1 t2 t3 t4 t5 t6 t7 b8 b9 l10 b11 l12 l13 => ⟨sts 88 [(2, sl 2 gi_Attack t0), (3, .ptr 0 12 0 0), (4, .ptr 1 3 0 0), (7, .ref 2 3 none), (8, I t1), (9, .ptr 3 3 0 0), (10, I t2), (24, I t3), (25, I t4), (28, sl 2 gi_Attack t5), (29, I t6), (30, I t7)], [some ⟨false, true, 12, 1, [.agg [sl 5 gi_Terrain b8.Rules.Terrains, sl 6 gi_Kind b8.Rules.Kinds, I b8.Rules.Stack, I b8.Rules.River, I b8.Rules.Road, I b8.Rules.Supply, I b8.Rules.Turns, I b8.Map.Width, I b8.Map.Height, sl 1 I b8.Map.Terrain, sl 1 I b8.Map.Rivers, sl 1 I b8.Map.Roads]]⟩, some ⟨false, true, 3, 1, [.agg [I b9.Turn, I b9.Weather, sl 4 gi_Unit b9.Units]]⟩, some ⟨false, false, 3, l10.length, List.map goi_Battle l10⟩, some ⟨false, true, 3, 1, [.agg [I b11, .ref 4 1 none, .ref 5 1 none]]⟩, some ⟨false, false, 1, l12.length, List.map I l12⟩, some ⟨false, false, 1, l13.length, List.map I l13⟩]⟩
  | .h4 t0 t1 t2 t3 b4 b5 l6 b7 l8 l9 => ⟨sts 88 [(2, sl 2 gi_Attack t0), (3, .ptr 0 12 0 0), (4, .ptr 1 3 0 0), (7, .ref 2 3 none), (8, I t1), (9, .ptr 3 3 0 0), (24, I t2), (25, I t3)], [some ⟨false, true, 12, 1, [.agg [sl 5 gi_Terrain b4.Rules.Terrains, sl 6 gi_Kind b4.Rules.Kinds, I b4.Rules.Stack, I b4.Rules.River, I b4.Rules.Road, I b4.Rules.Supply, I b4.Rules.Turns, I b4.Map.Width, I b4.Map.Height, sl 1 I b4.Map.Terrain, sl 1 I b4.Map.Rivers, sl 1 I b4.Map.Roads]]⟩, some ⟨false, true, 3, 1, [.agg [I b5.Turn, I b5.Weather, sl 4 gi_Unit b5.Units]]⟩, some ⟨false, false, 3, l6.length, List.map goi_Battle l6⟩, some ⟨false, true, 3, 1, [.agg [I b7, .ref 4 1 none, .ref 5 1 none]]⟩, some ⟨false, false, 1, l8.length, List.map I l8⟩, some ⟨false, false, 1, l9.length, List.map I l9⟩]⟩
abbrev Qs_aBattles := Nx X 86 0 Ks_aBattles Zs_aBattles Rs_aBattles (fun _ => [])
theorem ns_aBattles : ∀ s o, Bs_aBattles s = some o → Qs_aBattles (Ks_aBattles s) (Zs_aBattles s) o
  | .h1 t0 t1 b2 b3 l4, o, H =>
    have H := (Bs_aBattles.eq_1 ..).symm.trans H
    eBind H fun r1 hr1 H =>
    eIf H (fun h2 H =>
      eN H fun r hn => gO [rg [hC 3 true [] (RI r1) [], hT 4], r0, r0, .bm (.nil 3 0 1 1 [.agg [I t1, .list true 1 0 [], .nil]]), .bm (.take 3 0 1 1 0 [] [.agg [I t1, .ref 4 1 none, .nil]]), .bm (.nil 3 0 2 1 [.agg [I t1, .ref 4 1 none, .list true 1 0 []]]), .bm (.take 3 0 2 1 0 [] [.agg [I t1, .ref 4 1 none, .ref 5 1 none]]), .canon [0, 1, 2, 3, 4, 5] [2, 3, 4, 7, 8, 9, 24, 25]] (by kernel_rfl) (P1 (cs_mSize hr1) <| P2 ((decide (t1 < r1)) = true) (decide_eq_true h2) <| P2 (getCells [.agg [I t1, .nil, .nil]] 0 1 1 = some [.nil]) rfl <| P2 (setCells [.agg [I t1, .nil, .nil]] 0 1 [.list true 1 0 []] = [.agg [I t1, .list true 1 0 [], .nil]]) rfl <| P2 (getCells [.agg [I t1, .list true 1 0 [], .nil]] 0 1 1 = some [.list true 1 0 []]) rfl <| P2 (setCells [.agg [I t1, .list true 1 0 [], .nil]] 0 1 [.ref 4 1 none] = [.agg [I t1, .ref 4 1 none, .nil]]) rfl <| P2 (getCells [.agg [I t1, .ref 4 1 none, .nil]] 0 2 1 = some [.nil]) rfl <| P2 (setCells [.agg [I t1, .ref 4 1 none, .nil]] 0 2 [.list true 1 0 []] = [.agg [I t1, .ref 4 1 none, .list true 1 0 []]]) rfl <| P2 (getCells [.agg [I t1, .ref 4 1 none, .list true 1 0 []]] 0 2 1 = some [.list true 1 0 []]) rfl <| P2 (setCells [.agg [I t1, .ref 4 1 none, .list true 1 0 []]] 0 2 [.ref 5 1 none] = [.agg [I t1, .ref 4 1 none, .ref 5 1 none]]) rfl <| P0) hn)
    (fun h2 H =>
      eN H <| gE func86 [rg [hC 3 true [] (RI r1) [], hF 4], r0] (by kernel_rfl) (P1 (cs_mSize hr1) <| P2 ((decide (t1 < r1)) = false) (decide_eq_false h2) <| P0))
  | .h2 t0 t1 t2 t3 b4 b5 l6 b7 l8 l9, o, H =>
    eIf H (fun h1 H =>
      eN H fun r hn => gO [rg [hT 0], r0, r0, .canon [0, 1, 2, 3, 4, 5] [2, 3, 4, 7, 8, 9, 10, 24, 25, 28, 29, 30]] (by kernel_rfl) (P2 ((decide (t3 < t2)) = true) (decide_eq_true h1) <| P0) hn)
    (fun h1 H =>
      gN [rg [hF 0]] (by kernel_rfl) (P2 ((decide (t3 < t2)) = false) (decide_eq_false h1) <| P0) <|
      eIf H (fun h2 H =>
        eBind H fun r3 hr3 H =>
        eBind H fun r4 hr4 H =>
        eCk H fun h5 H =>
        eN H fun r hn => gO [rg [hT 3], rg [hC 4 true [] (RI r3) [], hC 5 true [] (Rs_sAt r4) []], rg [{ i := 2, post := [.put 7 0 1 4 ([.agg [I b7, ow 1 I l8, .ref 6 1 none]]), .put 7 0 2 6 (List.map goi_Battle [(Gi_Battle.mk b7 l8 r4)]), .own 7 1] }, hA 3 ((l6 ++ [(Gi_Battle.mk b7 l8 r4)]).length) (List.map goi_Battle (l6 ++ [(Gi_Battle.mk b7 l8 r4)]))], r0, .canon [0, 1, 8] [2, 3, 4, 7, 8]] (by kernel_rfl) (P2 ((decide (((l8.length : Nat) : Int) > 0)) = true) (decide_eq_true h2) <| P1 (cs_sOwner hr3) <| P1 (cs_sAt hr4) <| P2 (getCells [.agg [I b7, .ref 4 1 none, .ref 6 1 none]] 0 1 1 = some [.ref 4 1 none]) rfl <| P2 (setCells [.agg [I b7, .ref 4 1 none, .ref 6 1 none]] 0 1 [ow 1 I l8] = [.agg [I b7, ow 1 I l8, .ref 6 1 none]]) rfl <| P2 (getCells [.agg [I b7, ow 1 I l8, .ref 6 1 none]] 0 2 1 = some [.ref 6 1 none]) rfl <| P2 (setCells [.agg [I b7, ow 1 I l8, .ref 6 1 none]] 0 2 [ow 1 I r4] = List.map goi_Battle [(Gi_Battle.mk b7 l8 r4)]) rfl <| P1 (allOw_71 [(Gi_Battle.mk b7 l8 r4)]) <| P2 ((1 : Nat) = 1) rfl <| P1 (apL l6 [(Gi_Battle.mk b7 l8 r4)]) <| P1 (apB h5) <| P1 (apM goi_Battle l6 [(Gi_Battle.mk b7 l8 r4)]) <| P0) hn)
      (fun h2 H =>
        eN H fun r hn => gO [rg [hF 3], r0, .canon [0, 1, 2] [2, 3, 4, 7, 8]] (by kernel_rfl) (P2 ((decide (((l8.length : Nat) : Int) > 0)) = false) (decide_eq_false h2) <| P0) hn))
  | .h3 t0 t1 t2 t3 t4 t5 t6 t7 b8 b9 l10 b11 l12 l13, o, H =>
    eIf H (fun h1 H =>
      eCk H fun h2 H =>
      eBind H fun x3 hx3 H =>
      gN [rg [hT 0], rg [hE 1 (gi_Attack x3)]] (by kernel_rfl) (P2 ((decide (t7 < t6)) = true) (decide_eq_true h1) <| P1 h2 <| P1 (int_lt_of_at h2 hx3) <| P1 (at_map gi_Attack hx3) <| P0) <|
      eIf H (fun h4 H =>
        eIf H (fun h5 H =>
          eBind H fun r6 hr6 H =>
          eCk H fun h7 H =>
          eBind H fun x8 hx8 H =>
          eIf H (fun h9 H =>
            eBind H fun r10 hr10 H =>
            eIf H (fun h11 H =>
              eBind H fun r12 hr12 H =>
              eN H fun r hn => gO [rg [hT 3, hT 8, hC 13 true [] (RI r6) [], hE 19 (gi_Unit x8), hT 21, hC 28 true [] (RI r10) [], hT 29], rg [hC 3 true [4] (Rs_l1Put_c0 r12) (Ns_l1Put_c0 r12)], r0, .canon [0, 1, 2, 3, 7, 5] [2, 3, 4, 7, 8, 9, 10, 24, 25, 28, 29, 30]] (by kernel_rfl) (P2 (((x3.Unit : Int) == t2) = true) (beqT h4) <| P2 (((x3.At : Int) == t1) = true) (beqT h5) <| P1 (cs_sOwner hr6) <| P1 h7 <| P1 (int_lt_of_at h7 hx8) <| P1 (at_map gi_Unit hx8) <| P2 (((r6 : Int) == (IntKind.wrap .i64 (1 - x8.Side))) = true) (beqT h9) <| P1 (cs_aSide hr10) <| P2 ((decide (r10 ≥ 0)) = true) (decide_eq_true h11) <| P1 (cs_l1Put_c0 hr12) <| P0) hn)
            (fun h11 H =>
              eN H fun r hn => gO [rg [hT 3, hT 8, hC 13 true [] (RI r6) [], hE 19 (gi_Unit x8), hT 21, hC 28 true [] (RI r10) [], hF 29], r0, .canon [0, 1, 2, 3, 4, 5] [2, 3, 4, 7, 8, 9, 10, 24, 25, 28, 29, 30]] (by kernel_rfl) (P2 (((x3.Unit : Int) == t2) = true) (beqT h4) <| P2 (((x3.At : Int) == t1) = true) (beqT h5) <| P1 (cs_sOwner hr6) <| P1 h7 <| P1 (int_lt_of_at h7 hx8) <| P1 (at_map gi_Unit hx8) <| P2 (((r6 : Int) == (IntKind.wrap .i64 (1 - x8.Side))) = true) (beqT h9) <| P1 (cs_aSide hr10) <| P2 ((decide (r10 ≥ 0)) = false) (decide_eq_false h11) <| P0) hn))
          (fun h9 H =>
            eN H fun r hn => gO [rg [hT 3, hT 8, hC 13 true [] (RI r6) [], hE 19 (gi_Unit x8), hF 21], r0, .canon [0, 1, 2, 3, 4, 5] [2, 3, 4, 7, 8, 9, 10, 24, 25, 28, 29, 30]] (by kernel_rfl) (P2 (((x3.Unit : Int) == t2) = true) (beqT h4) <| P2 (((x3.At : Int) == t1) = true) (beqT h5) <| P1 (cs_sOwner hr6) <| P1 h7 <| P1 (int_lt_of_at h7 hx8) <| P1 (at_map gi_Unit hx8) <| P2 (((r6 : Int) == (IntKind.wrap .i64 (1 - x8.Side))) = false) (beqF h9) <| P0) hn))
        (fun h5 H =>
          eN H fun r hn => gO [rg [hT 3, hF 8], r0, .canon [0, 1, 2, 3, 4, 5] [2, 3, 4, 7, 8, 9, 10, 24, 25, 28, 29, 30]] (by kernel_rfl) (P2 (((x3.Unit : Int) == t2) = true) (beqT h4) <| P2 (((x3.At : Int) == t1) = false) (beqF h5) <| P0) hn))
      (fun h4 H =>
        eN H fun r hn => gO [rg [hF 3], r0, .canon [0, 1, 2, 3, 4, 5] [2, 3, 4, 7, 8, 9, 10, 24, 25, 28, 29, 30]] (by kernel_rfl) (P2 (((x3.Unit : Int) == t2) = false) (beqF h4) <| P0) hn))
    (fun h1 H =>
      eN H fun r hn => gO [rg [hF 0], r0, .canon [0, 1, 2, 3, 4, 5] [2, 3, 4, 7, 8, 9, 24, 25]] (by kernel_rfl) (P2 ((decide (t7 < t6)) = false) (decide_eq_false h1) <| P0) hn)
  | .h4 t0 t1 t2 t3 b4 b5 l6 b7 l8 l9, o, H =>
    eIf H (fun h1 H =>
      eN H fun r hn => gO [rg [hT 0], r0, r0, .canon [0, 1, 2, 3, 4, 5] [2, 3, 4, 7, 8, 9, 10, 24, 25, 28, 29, 30]] (by kernel_rfl) (P2 ((decide (t3 < t2)) = true) (decide_eq_true h1) <| P0) hn)
    (fun h1 H =>
      gN [rg [hF 0]] (by kernel_rfl) (P2 ((decide (t3 < t2)) = false) (decide_eq_false h1) <| P0) <|
      eIf H (fun h2 H =>
        eBind H fun r3 hr3 H =>
        eBind H fun r4 hr4 H =>
        eCk H fun h5 H =>
        eN H fun r hn => gO [rg [hT 3], rg [hC 4 true [] (RI r3) [], hC 5 true [] (Rs_sAt r4) []], rg [{ i := 2, post := [.put 7 0 1 4 ([.agg [I b7, ow 1 I l8, .ref 6 1 none]]), .put 7 0 2 6 (List.map goi_Battle [(Gi_Battle.mk b7 l8 r4)]), .own 7 1] }, hA 3 ((l6 ++ [(Gi_Battle.mk b7 l8 r4)]).length) (List.map goi_Battle (l6 ++ [(Gi_Battle.mk b7 l8 r4)]))], r0, .canon [0, 1, 8] [2, 3, 4, 7, 8]] (by kernel_rfl) (P2 ((decide (((l8.length : Nat) : Int) > 0)) = true) (decide_eq_true h2) <| P1 (cs_sOwner hr3) <| P1 (cs_sAt hr4) <| P2 (getCells [.agg [I b7, .ref 4 1 none, .ref 6 1 none]] 0 1 1 = some [.ref 4 1 none]) rfl <| P2 (setCells [.agg [I b7, .ref 4 1 none, .ref 6 1 none]] 0 1 [ow 1 I l8] = [.agg [I b7, ow 1 I l8, .ref 6 1 none]]) rfl <| P2 (getCells [.agg [I b7, ow 1 I l8, .ref 6 1 none]] 0 2 1 = some [.ref 6 1 none]) rfl <| P2 (setCells [.agg [I b7, ow 1 I l8, .ref 6 1 none]] 0 2 [ow 1 I r4] = List.map goi_Battle [(Gi_Battle.mk b7 l8 r4)]) rfl <| P1 (allOw_71 [(Gi_Battle.mk b7 l8 r4)]) <| P2 ((1 : Nat) = 1) rfl <| P1 (apL l6 [(Gi_Battle.mk b7 l8 r4)]) <| P1 (apB h5) <| P1 (apM goi_Battle l6 [(Gi_Battle.mk b7 l8 r4)]) <| P0) hn)
      (fun h2 H =>
        eN H fun r hn => gO [rg [hF 3], r0, .canon [0, 1, 2] [2, 3, 4, 7, 8]] (by kernel_rfl) (P2 ((decide (((l8.length : Nat) : Int) > 0)) = false) (decide_eq_false h2) <| P0) hn))
theorem ws_aBattles : ∀ s r, loop Bs_aBattles s = some r → Wc X 86 0 (Ks_aBattles s) (Zs_aBattles s) (Rs_aBattles r) ((fun _ => []) r) := Nx.all ns_aBattles
theorem cs_aBattles {a0 : Gi_Board} {a1 : Gi_State} {a2 : (List Gi_Attack)} {r : (List Gi_Battle)} (H : Ds_aBattles a0 a1 a2 = some r) : Ct X.P X.gl 86 [.agg [sl 5 gi_Terrain a0.Rules.Terrains, sl 6 gi_Kind a0.Rules.Kinds, I a0.Rules.Stack, I a0.Rules.River, I a0.Rules.Road, I a0.Rules.Supply, I a0.Rules.Turns, I a0.Map.Width, I a0.Map.Height, sl 1 I a0.Map.Terrain, sl 1 I a0.Map.Rivers, sl 1 I a0.Map.Roads], .agg [I a1.Turn, I a1.Weather, sl 4 gi_Unit a1.Units], sl 2 gi_Attack a2] [] (Rs_aBattles r) [] :=
  Ct.of func86 (c := bdy f86) (by kernel_rfl) (by kernel_rfl) <|
  gO [r0, r0, r0, .own 7 3, .canon [0, 1, 2] [2, 3, 4, 7, 8]] (by kernel_rfl) P0 (ws_aBattles _ _ H)
/-! loop example/g00886/spec BattlesOf -/
def Rs_BattlesOf (r : (List Gi_Battle) × Bool) : List D := [ow 3 goi_Battle r.1, .bool r.2]
theorem cs_BattlesOf {a0 : Gi_Board} {a1 : Gi_State} {a2 : (List Gi_Attack)} {r : (List Gi_Battle) × Bool} (H : Ds_BattlesOf a0 a1 a2 = some r) : Ct X.P X.gl 39 [.agg [sl 5 gi_Terrain a0.Rules.Terrains, sl 6 gi_Kind a0.Rules.Kinds, I a0.Rules.Stack, I a0.Rules.River, I a0.Rules.Road, I a0.Rules.Supply, I a0.Rules.Turns, I a0.Map.Width, I a0.Map.Height, sl 1 I a0.Map.Terrain, sl 1 I a0.Map.Rivers, sl 1 I a0.Map.Roads], .agg [I a1.Turn, I a1.Weather, sl 4 gi_Unit a1.Units], sl 2 gi_Attack a2] [] (Rs_BattlesOf r) [] :=
  Ct.of func39 (c := bdy f39) (by kernel_rfl) (by kernel_rfl) <|
  eBind H fun r1 hr1 H =>
  gS [r0] (by kernel_rfl) P0 <|
  eIf H (fun h2 H =>
    eIf H (fun h3 H =>
      eW Rs_BattlesOf (fun _ => []) H <| gE func39 [rg [{ i := 2, call := some { cl := true, auto := true, ins := [], res := (RB r1), G' := [] }, dec := some true }, hT 7], r0] (by kernel_rfl) (P1 (cs_sGood hr1) <| P2 (r1 = true) (h2) <| P2 ((decide (((a2.length : Nat) : Int) > 24)) = true) (decide_eq_true h3) <| P0))
    (fun h3 H =>
      eBind H fun r4 hr4 H =>
      eW Rs_BattlesOf (fun _ => []) H <| gE func39 [rg [{ i := 2, call := some { cl := true, auto := true, ins := [], res := (RB r1), G' := [] }, dec := some true }, hF 7], rg [hC 3 true [] (Rs_aBattles r4) []]] (by kernel_rfl) (P1 (cs_sGood hr1) <| P2 (r1 = true) (h2) <| P2 ((decide (((a2.length : Nat) : Int) > 24)) = false) (decide_eq_false h3) <| P1 (cs_aBattles hr4) <| P0)))
  (fun h2 H =>
    eW Rs_BattlesOf (fun _ => []) H <| gE func39 [rg [{ i := 2, call := some { cl := true, auto := true, ins := [], res := (RB r1), G' := [] }, dec := some false }], r0] (by kernel_rfl) (P1 (cs_sGood hr1) <| P2 (r1 = false) (eqF h2) <| P0))
/-!   loop example/g00886/spec l1Cur  battle -/
def Rs_l1Cur_battle (r : Gi_Board × Gi_State × Gi_Battle × Gs_l1Cur) : List D := [.agg [sl 5 gi_Terrain r.1.Rules.Terrains, sl 6 gi_Kind r.1.Rules.Kinds, I r.1.Rules.Stack, I r.1.Rules.River, I r.1.Rules.Road, I r.1.Rules.Supply, I r.1.Rules.Turns, I r.1.Map.Width, I r.1.Map.Height, sl 1 I r.1.Map.Terrain, sl 1 I r.1.Map.Rivers, sl 1 I r.1.Map.Roads], .agg [I r.2.1.Turn, I r.2.1.Weather, ow 4 gi_Unit r.2.1.Units], .agg [I r.2.2.1.At, ow 1 I r.2.2.1.Attackers, ow 1 I r.2.2.1.Defenders]]
def Ns_l1Cur_battle (r : Gi_Board × Gi_State × Gi_Battle × Gs_l1Cur) : List Root := [⟨false, true, 3, 1, [.agg [sl 1 (D.int .u8) r.2.2.2.code, I r.2.2.2.at_, .int .u64 r.2.2.2.seed]]⟩]
theorem cs_l1Cur_battle {a0 : Gs_l1Cur} {r : Gi_Board × Gi_State × Gi_Battle × Gs_l1Cur} (H : Ds_l1Cur_battle a0 = some r) : Ct X.P X.gl 127 [.ptr 0 3 0 0] [⟨false, true, 3, 1, [.agg [sl 1 (D.int .u8) a0.code, I a0.at_, .int .u64 a0.seed]]⟩] (Rs_l1Cur_battle r) (Ns_l1Cur_battle r) :=
  Ct.of func127 (c := bdy f127) (by kernel_rfl) (by kernel_rfl) <|
  eBind H fun r1 hr1 H =>
  eBind H fun r2 hr2 H =>
  gS [r0, rg [hC 1 true [0] (Rs_l1Cur_fought r1) (Ns_l1Cur_fought r1)]] (by kernel_rfl) (PI (1 : Nat) <| P1 (cs_l1Cur_fought hr1) <| P0) <|
  eIf H (fun h3 H =>
    eBind H fun r4 hr4 H =>
    gS [rg [{ i := 2, call := some { cl := false, auto := true, ins := [], res := (RB r2), G' := [] }, dec := some true }], rg [hC 3 false [] (Rs_aBattles r4) []]] (by kernel_rfl) (P1 (cs_sGood hr2) <| P2 (r2 = true) (h3) <| P2 (nfL (List.flatMap D.cells (Rs_aBattles r4))) ⟨nfL_map nfo_71 _, trivial⟩ <| P2 (nfG []) trivial <| P1 (cs_aBattles hr4) <| P0) <|
    eIf H (fun h5 H =>
      eBind H fun r6 hr6 H =>
      eW Rs_l1Cur_battle Ns_l1Cur_battle H <| gE func127 [rg [hT 2], rg [hC 3 true [0] (Rs_l1Cur_pick r6) (Ns_l1Cur_pick r6)]] (by kernel_rfl) (P2 (((((r4.length : Nat) : Int) : Int) == 0) = true) (beqT h5) <| PI (1 : Nat) <| P1 (cs_l1Cur_pick hr6) <| P0))
    (fun h5 H =>
      eBind H fun r6 hr6 H =>
      eCk H fun h7 H =>
      eBind H fun x8 hx8 H =>
      eBind H fun r9 hr9 H =>
      gS [rg [hF 2], rg [hC 4 true [0] (Rs_l1Cur_pick r6) (Ns_l1Cur_pick r6), { i := 6, pre := [.take 22 (Int.toNat r6.1) 1 1 x8.Attackers.length (List.map I x8.Attackers) (List.set (List.map goi_Battle r4) (Int.toNat r6.1) (.agg [I x8.At, .ref 23 1 none, ow 1 I x8.Defenders])), .take 22 (Int.toNat r6.1) 2 1 x8.Defenders.length (List.map I x8.Defenders) (List.set (List.map goi_Battle r4) (Int.toNat r6.1) (.agg [I x8.At, .ref 23 1 none, .ref 24 1 none]))], el := some (.agg [I x8.At, .ref 23 1 none, .ref 24 1 none]) }], rg [hC 1 true [0] (Rs_l1Cur_pick r9) (Ns_l1Cur_pick r9)]] (by kernel_rfl) (P2 (((((r4.length : Nat) : Int) : Int) == 0) = false) (beqF h5) <| PI (1 : Nat) <| P1 (cs_l1Cur_pick hr6) <| P1 h7 <| P1 (int_lt_of_at h7 hx8) <| P2 (getCells (List.map goi_Battle r4) (Int.toNat r6.1) 1 1 = some [ow 1 I x8.Attackers]) (getCells_at hx8 rfl) <| P2 (setCells (List.map goi_Battle r4) (Int.toNat r6.1) 1 [.ref 23 1 none] = List.set (List.map goi_Battle r4) (Int.toNat r6.1) (.agg [I x8.At, .ref 23 1 none, ow 1 I x8.Defenders])) (setCells_mapD hx8 rfl) <| P2 (getCells (List.set (List.map goi_Battle r4) (Int.toNat r6.1) (.agg [I x8.At, .ref 23 1 none, ow 1 I x8.Defenders])) (Int.toNat r6.1) 2 1 = some [ow 1 I x8.Defenders]) (getCells_set hx8 rfl) <| P2 (setCells (List.set (List.map goi_Battle r4) (Int.toNat r6.1) (.agg [I x8.At, .ref 23 1 none, ow 1 I x8.Defenders])) (Int.toNat r6.1) 2 [.ref 24 1 none] = List.set (List.map goi_Battle r4) (Int.toNat r6.1) (.agg [I x8.At, .ref 23 1 none, .ref 24 1 none])) (setCells_setD hx8 rfl) <| P1 (at_set (f := goi_Battle) (.agg [I x8.At, .ref 23 1 none, .ref 24 1 none]) hx8) <| PI (1 : Nat) <| P1 (cs_l1Cur_pick hr9) <| P0) <|
      eIf H (fun h10 H =>
        eCk H fun h11 H =>
        eW Rs_l1Cur_battle Ns_l1Cur_battle H <| gE func127 [rg [hT 0], rg [hA 3 ((x8.Defenders ++ [0]).length) (List.map I (x8.Defenders ++ [0]))], r0] (by kernel_rfl) (P2 (((r9.1 : Int) == 0) = true) (beqT h10) <| P1 (apL x8.Defenders [0]) <| P1 (apB h11) <| P1 (apM I x8.Defenders [0]) <| P0))
      (fun h10 H =>
        gS [rg [hF 0]] (by kernel_rfl) (P2 (((r9.1 : Int) == 0) = false) (beqF h10) <| P0) <|
        eIf H (fun h11 H =>
          eBind H fun r12 hr12 H =>
          eCk H fun h13 H =>
          eW Rs_l1Cur_battle Ns_l1Cur_battle H <| gE func127 [rg [hT 0], rg [{ i := 4, frz := [26], call := some { cl := true, auto := true, ins := [0], res := (Rs_l1Cur_among r12), G' := (Ns_l1Cur_among r12) } }, hA 6 ((x8.Attackers ++ [r12.1]).length) (List.map I (x8.Attackers ++ [r12.1]))], r0] (by kernel_rfl) (P2 (((r9.1 : Int) == 1) = true) (beqT h11) <| PI (1 : Nat) <| P1 (cs_l1Cur_among hr12) <| P1 (apL x8.Attackers [r12.1]) <| P1 (apB h13) <| P1 (apM I x8.Attackers [r12.1]) <| P0))
        (fun h11 H =>
          gS [rg [hF 0]] (by kernel_rfl) (P2 (((r9.1 : Int) == 1) = false) (beqF h11) <| P0) <|
          eIf H (fun h12 H =>
            eBind H fun r13 hr13 H =>
            eW Rs_l1Cur_battle Ns_l1Cur_battle H <| gE func127 [rg [hT 0], rg [{ i := 2, frz := [26], call := some { cl := true, auto := true, ins := [0], res := (Rs_l1Cur_among r13), G' := (Ns_l1Cur_among r13) } }], r0] (by kernel_rfl) (P2 (((r9.1 : Int) == 2) = true) (beqT h12) <| PI (1 : Nat) <| P1 (cs_l1Cur_among hr13) <| P0))
          (fun h12 H =>
            eW Rs_l1Cur_battle Ns_l1Cur_battle H <| gE func127 [rg [hF 0], r0] (by kernel_rfl) (P2 (((r9.1 : Int) == 2) = false) (beqF h12) <| P0))))))
  (fun h3 H =>
    eW Rs_l1Cur_battle Ns_l1Cur_battle H <| gE func127 [rg [{ i := 2, call := some { cl := false, auto := true, ins := [], res := (RB r2), G' := [] }, dec := some false }], r0] (by kernel_rfl) (P1 (cs_sGood hr2) <| P2 (r2 = false) (eqF h3) <| P0))
/-! loop example/g00886/spec DrawIsBattle -/
def Rs_DrawIsBattle (r : Gi_Board × Gi_State × Gi_Battle) : List D := [.agg [sl 5 gi_Terrain r.1.Rules.Terrains, sl 6 gi_Kind r.1.Rules.Kinds, I r.1.Rules.Stack, I r.1.Rules.River, I r.1.Rules.Road, I r.1.Rules.Supply, I r.1.Rules.Turns, I r.1.Map.Width, I r.1.Map.Height, sl 1 I r.1.Map.Terrain, sl 1 I r.1.Map.Rivers, sl 1 I r.1.Map.Roads], .agg [I r.2.1.Turn, I r.2.1.Weather, ow 4 gi_Unit r.2.1.Units], .agg [I r.2.2.At, ow 1 I r.2.2.Attackers, ow 1 I r.2.2.Defenders]]
theorem cs_DrawIsBattle {a0 : (List Int)} {r : Gi_Board × Gi_State × Gi_Battle} (H : Ds_DrawIsBattle a0 = some r) : Ct X.P X.gl 87 [sl 1 (D.int .u8) a0] [] (Rs_DrawIsBattle r) [] :=
  Ct.of func87 (c := bdy f87) (by kernel_rfl) (by kernel_rfl) <|
  eBind H fun r1 hr1 H =>
  eW Rs_DrawIsBattle (fun _ => []) H <| gE func87 [r0, r0, rg [hC 1 true [3] (Rs_l1Cur_battle r1) (Ns_l1Cur_battle r1)]] (by kernel_rfl) (PI (1 : Nat) <| P1 (cs_l1Cur_battle hr1) <| P0)
/-! loop example/g00886/spec DrawAttackStrength -/
def Rs_DrawAttackStrength (r : Gi_Board × Gi_State × Gi_Battle) : List D := [.agg [sl 5 gi_Terrain r.1.Rules.Terrains, sl 6 gi_Kind r.1.Rules.Kinds, I r.1.Rules.Stack, I r.1.Rules.River, I r.1.Rules.Road, I r.1.Rules.Supply, I r.1.Rules.Turns, I r.1.Map.Width, I r.1.Map.Height, sl 1 I r.1.Map.Terrain, sl 1 I r.1.Map.Rivers, sl 1 I r.1.Map.Roads], .agg [I r.2.1.Turn, I r.2.1.Weather, ow 4 gi_Unit r.2.1.Units], .agg [I r.2.2.At, ow 1 I r.2.2.Attackers, ow 1 I r.2.2.Defenders]]
theorem cs_DrawAttackStrength {a0 : (List Int)} {r : Gi_Board × Gi_State × Gi_Battle} (H : Ds_DrawAttackStrength a0 = some r) : Ct X.P X.gl 40 [sl 1 (D.int .u8) a0] [] (Rs_DrawAttackStrength r) [] :=
  Ct.of func40 (c := bdy f40) (by kernel_rfl) (by kernel_rfl) <|
  eBind H fun r1 hr1 H =>
  eW Rs_DrawAttackStrength (fun _ => []) H <| gE func40 [r0, rg [hC 1 true [] (Rs_DrawIsBattle r1) []]] (by kernel_rfl) (P1 (cs_DrawIsBattle hr1) <| P0)
/-! slices Equal   int int  -/
noncomputable def Kslices_Equal_int : Sslices_Equal_int → List Item
  | .h1 .. => nav 300 3 [false] [.code (bdy f137)]
def Zslices_Equal_int : Sslices_Equal_int → St
  | .h1 s10 s21 t2 t3 => ⟨sts 26 [(0, sl 1 I s10), (1, sl 1 I s21), (12, I t2), (13, I t3)], []⟩
abbrev Qslices_Equal_int := Nx X 137 0 Kslices_Equal_int Zslices_Equal_int RB (fun _ => [])
theorem nslices_Equal_int : ∀ s o, Bslices_Equal_int s = some o → Qslices_Equal_int (Kslices_Equal_int s) (Zslices_Equal_int s) o
  | .h1 s10 s21 t2 t3, o, H =>
    eIf H (fun h1 H =>
      eCk H fun h2 H =>
      eBind H fun x3 hx3 H =>
      eCk H fun h4 H =>
      eBind H fun x5 hx5 H =>
      gN [rg [hT 0], r0] (by kernel_rfl) (P2 ((decide (t3 < t2)) = true) (decide_eq_true h1) <| P0) <|
      eIf H (fun h6 H =>
        eN H fun r hn => gO [rg [hE 3 (I x3), hE 7 (I x5), hF 8], r0, .canon [] [0, 1, 12, 13]] (by kernel_rfl) (P1 h2 <| P1 (int_lt_of_at h2 hx3) <| P1 (at_map I hx3) <| P1 h4 <| P1 (int_lt_of_at h4 hx5) <| P1 (at_map I hx5) <| P2 (((x3 : Int) != x5) = false) (bneF h6) <| P0) hn)
      (fun h6 H =>
        eN H <| gE func137 [rg [hE 3 (I x3), hE 7 (I x5), hT 8], r0] (by kernel_rfl) (P1 h2 <| P1 (int_lt_of_at h2 hx3) <| P1 (at_map I hx3) <| P1 h4 <| P1 (int_lt_of_at h4 hx5) <| P1 (at_map I hx5) <| P2 (((x3 : Int) != x5) = true) (bneT h6) <| P0)))
    (fun h1 H =>
      eN H <| gE func137 [rg [hF 0], r0] (by kernel_rfl) (P2 ((decide (t3 < t2)) = false) (decide_eq_false h1) <| P0))
theorem wslices_Equal_int : ∀ s r, loop Bslices_Equal_int s = some r → Wc X 137 0 (Kslices_Equal_int s) (Zslices_Equal_int s) (RB r) ((fun _ => []) r) := Nx.all nslices_Equal_int
theorem cslices_Equal_int {a0 : (List Int)} {a1 : (List Int)} {r : Bool} (H : Dslices_Equal_int a0 a1 = some r) : Ct X.P X.gl 137 [sl 1 I a0, sl 1 I a1] [] (RB r) [] :=
  Ct.of func137 (c := bdy f137) (by kernel_rfl) (by kernel_rfl) <|
  gS [r0] (by kernel_rfl) P0 <|
  eIf H (fun h1 H =>
    gO [rg [hF 4], r0, .canon [] [0, 1, 12, 13]] (by kernel_rfl) (P2 (((((a0.length : Nat) : Int) : Int) != ((a1.length : Nat) : Int)) = false) (bneF h1) <| P0) (wslices_Equal_int _ _ H))
  (fun h1 H =>
    eW RB (fun _ => []) H <| gE func137 [rg [hT 4], r0] (by kernel_rfl) (P2 (((((a0.length : Nat) : Int) : Int) != ((a1.length : Nat) : Int)) = true) (bneT h1) <| P0))
/-! loop example/g00886/impl goodBattle -/
noncomputable def Ki_goodBattle : Si_goodBattle → List Item
  | .h1 .. => nav 300 3 [false] [.code (bdy f92)]
def Zi_goodBattle : Si_goodBattle → St
  | .h1 t0 t1 t2 b3 b4 b5 => ⟨sts 82 [(3, .ptr 0 12 0 0), (4, .ptr 1 3 0 0), (5, .ptr 2 3 0 0), (44, sl 1 I t0), (45, I t1), (46, I t2)], [some ⟨false, true, 12, 1, [.agg [sl 5 gi_Terrain b3.Rules.Terrains, sl 6 gi_Kind b3.Rules.Kinds, I b3.Rules.Stack, I b3.Rules.River, I b3.Rules.Road, I b3.Rules.Supply, I b3.Rules.Turns, I b3.Map.Width, I b3.Map.Height, sl 1 I b3.Map.Terrain, sl 1 I b3.Map.Rivers, sl 1 I b3.Map.Roads]]⟩, some ⟨false, true, 3, 1, [.agg [I b4.Turn, I b4.Weather, sl 4 gi_Unit b4.Units]]⟩, some ⟨false, true, 3, 1, [.agg [I b5.At, sl 1 I b5.Attackers, sl 1 I b5.Defenders]]⟩]⟩
abbrev Qi_goodBattle := Nx X 92 0 Ki_goodBattle Zi_goodBattle RB (fun _ => [])
theorem ni_goodBattle : ∀ s o, Bi_goodBattle s = some o → Qi_goodBattle (Ki_goodBattle s) (Zi_goodBattle s) o
  | .h1 t0 t1 t2 b3 b4 b5, o, H =>
    eIf H (fun h1 H =>
      eCk H fun h2 H =>
      eBind H fun x3 hx3 H =>
      eBind H fun r4 hr4 H =>
      gN [rg [hT 0], rg [hE 1 (I x3)]] (by kernel_rfl) (P2 ((decide (t2 < t1)) = true) (decide_eq_true h1) <| P1 h2 <| P1 (int_lt_of_at h2 hx3) <| P1 (at_map I hx3) <| P0) <|
      eIf H (fun h5 H =>
        eCk H fun h6 H =>
        eBind H fun x7 hx7 H =>
        eBind H fun r8 hr8 H =>
        eIf H (fun h9 H =>
          eN H <| gE func92 [rg [{ i := 4, call := some { cl := true, auto := true, ins := [], res := (RB r4), G' := [] }, dec := some true }, hE 12 (gi_Unit x7), hC 16 true [] (RI r8) [], hT 17], r0] (by kernel_rfl) (P1 (ci_isIndex hr4) <| P2 (r4 = true) (h5) <| P1 h6 <| P1 (int_lt_of_at h6 hx7) <| P1 (at_map gi_Unit hx7) <| P1 (ci_ownerOf hr8) <| P2 (((x7.Side : Int) == r8) = true) (beqT h9) <| P0))
        (fun h9 H =>
          eCk H fun h10 H =>
          eBind H fun x11 hx11 H =>
          eBind H fun r12 hr12 H =>
          eIf H (fun h13 H =>
            eN H fun r hn => gO [rg [{ i := 4, call := some { cl := true, auto := true, ins := [], res := (RB r4), G' := [] }, dec := some true }, hE 12 (gi_Unit x7), hC 16 true [] (RI r8) [], hF 17, hE 25 (gi_Unit x11), { i := 28, call := some { cl := true, auto := true, ins := [], res := (RB r12), G' := [] }, dec := some true }], r0, .canon [0, 1, 2] [3, 4, 5, 44, 45, 46]] (by kernel_rfl) (P1 (ci_isIndex hr4) <| P2 (r4 = true) (h5) <| P1 h6 <| P1 (int_lt_of_at h6 hx7) <| P1 (at_map gi_Unit hx7) <| P1 (ci_ownerOf hr8) <| P2 (((x7.Side : Int) == r8) = false) (beqF h9) <| P1 h10 <| P1 (int_lt_of_at h10 hx11) <| P1 (at_map gi_Unit hx11) <| P1 (ci_isNear hr12) <| P2 (r12 = true) (h13) <| P0) hn)
          (fun h13 H =>
            eN H <| gE func92 [rg [{ i := 4, call := some { cl := true, auto := true, ins := [], res := (RB r4), G' := [] }, dec := some true }, hE 12 (gi_Unit x7), hC 16 true [] (RI r8) [], hF 17, hE 25 (gi_Unit x11), { i := 28, call := some { cl := true, auto := true, ins := [], res := (RB r12), G' := [] }, dec := some false }], r0] (by kernel_rfl) (P1 (ci_isIndex hr4) <| P2 (r4 = true) (h5) <| P1 h6 <| P1 (int_lt_of_at h6 hx7) <| P1 (at_map gi_Unit hx7) <| P1 (ci_ownerOf hr8) <| P2 (((x7.Side : Int) == r8) = false) (beqF h9) <| P1 h10 <| P1 (int_lt_of_at h10 hx11) <| P1 (at_map gi_Unit hx11) <| P1 (ci_isNear hr12) <| P2 (r12 = false) (eqF h13) <| P0))))
      (fun h5 H =>
        eN H <| gE func92 [rg [{ i := 4, call := some { cl := true, auto := true, ins := [], res := (RB r4), G' := [] }, dec := some false }], r0] (by kernel_rfl) (P1 (ci_isIndex hr4) <| P2 (r4 = false) (eqF h5) <| P0)))
    (fun h1 H =>
      eN H <| gE func92 [rg [hF 0], r0] (by kernel_rfl) (P2 ((decide (t2 < t1)) = false) (decide_eq_false h1) <| P0))
theorem wi_goodBattle : ∀ s r, loop Bi_goodBattle s = some r → Wc X 92 0 (Ki_goodBattle s) (Zi_goodBattle s) (RB r) ((fun _ => []) r) := Nx.all ni_goodBattle
theorem ci_goodBattle {a0 : Gi_Board} {a1 : Gi_State} {a2 : Gi_Battle} {r : Bool} (H : Di_goodBattle a0 a1 a2 = some r) : Ct X.P X.gl 92 [.agg [sl 5 gi_Terrain a0.Rules.Terrains, sl 6 gi_Kind a0.Rules.Kinds, I a0.Rules.Stack, I a0.Rules.River, I a0.Rules.Road, I a0.Rules.Supply, I a0.Rules.Turns, I a0.Map.Width, I a0.Map.Height, sl 1 I a0.Map.Terrain, sl 1 I a0.Map.Rivers, sl 1 I a0.Map.Roads], .agg [I a1.Turn, I a1.Weather, sl 4 gi_Unit a1.Units], .agg [I a2.At, sl 1 I a2.Attackers, sl 1 I a2.Defenders]] [] (RB r) [] :=
  have H := (Di_goodBattle.eq_1 ..).symm.trans H
  Ct.of func92 (c := bdy f92) (by kernel_rfl) (by kernel_rfl) <|
  eBind H fun r1 hr1 H =>
  eBind H fun r2 hr2 H =>
  gS [r0] (by kernel_rfl) P0 <|
  eIf H (fun h3 H =>
    eIf H (fun h4 H =>
      eW RB (fun _ => []) H <| gE func92 [rg [hC 3 true [] (RI r1) [], { i := 4, call := some { cl := true, auto := true, ins := [], res := (RB r2), G' := [] }, dec := some true }, hT 10], r0] (by kernel_rfl) (P1 (ci_sizeOf hr1) <| P1 (ci_isIndex hr2) <| P2 (r2 = true) (h3) <| P2 (((((a2.Defenders.length : Nat) : Int) : Int) == 0) = true) (beqT h4) <| P0))
    (fun h4 H =>
      eBind H fun r5 hr5 H =>
      eBind H fun r6 hr6 H =>
      eIf H (fun h7 H =>
        eIf H (fun h8 H =>
          eW RB (fun _ => []) H <| gE func92 [rg [hC 3 true [] (RI r1) [], { i := 4, call := some { cl := true, auto := true, ins := [], res := (RB r2), G' := [] }, dec := some true }, hF 10, hC 18 true [] (Ri_unitsAt r5) [], { i := 19, call := some { cl := false, auto := true, ins := [], res := (RB r6), G' := [] }, dec := some true }, hT 26], r0] (by kernel_rfl) (P1 (ci_sizeOf hr1) <| P1 (ci_isIndex hr2) <| P2 (r2 = true) (h3) <| P2 (((((a2.Defenders.length : Nat) : Int) : Int) == 0) = false) (beqF h4) <| P1 (ci_unitsAt hr5) <| P1 (cslices_Equal_int hr6) <| P2 (r6 = true) (h7) <| P2 (((((a2.Attackers.length : Nat) : Int) : Int) == 0) = true) (beqT h8) <| P0))
        (fun h8 H =>
          eBind H fun r9 hr9 H =>
          eIf H (fun h10 H =>
            gO [rg [hC 3 true [] (RI r1) [], { i := 4, call := some { cl := true, auto := true, ins := [], res := (RB r2), G' := [] }, dec := some true }, hF 10, hC 18 true [] (Ri_unitsAt r5) [], { i := 19, call := some { cl := false, auto := true, ins := [], res := (RB r6), G' := [] }, dec := some true }, hF 26, { i := 31, call := some { cl := true, auto := true, ins := [], res := (RB r9), G' := [] }, dec := some true }], r0, .canon [0, 1, 2] [3, 4, 5, 44, 45, 46]] (by kernel_rfl) (P1 (ci_sizeOf hr1) <| P1 (ci_isIndex hr2) <| P2 (r2 = true) (h3) <| P2 (((((a2.Defenders.length : Nat) : Int) : Int) == 0) = false) (beqF h4) <| P1 (ci_unitsAt hr5) <| P1 (cslices_Equal_int hr6) <| P2 (r6 = true) (h7) <| P2 (((((a2.Attackers.length : Nat) : Int) : Int) == 0) = false) (beqF h8) <| P1 (ci_increasing hr9) <| P2 (r9 = true) (h10) <| P0) (wi_goodBattle _ _ H))
          (fun h10 H =>
            eW RB (fun _ => []) H <| gE func92 [rg [hC 3 true [] (RI r1) [], { i := 4, call := some { cl := true, auto := true, ins := [], res := (RB r2), G' := [] }, dec := some true }, hF 10, hC 18 true [] (Ri_unitsAt r5) [], { i := 19, call := some { cl := false, auto := true, ins := [], res := (RB r6), G' := [] }, dec := some true }, hF 26, { i := 31, call := some { cl := true, auto := true, ins := [], res := (RB r9), G' := [] }, dec := some false }], r0] (by kernel_rfl) (P1 (ci_sizeOf hr1) <| P1 (ci_isIndex hr2) <| P2 (r2 = true) (h3) <| P2 (((((a2.Defenders.length : Nat) : Int) : Int) == 0) = false) (beqF h4) <| P1 (ci_unitsAt hr5) <| P1 (cslices_Equal_int hr6) <| P2 (r6 = true) (h7) <| P2 (((((a2.Attackers.length : Nat) : Int) : Int) == 0) = false) (beqF h8) <| P1 (ci_increasing hr9) <| P2 (r9 = false) (eqF h10) <| P0))))
      (fun h7 H =>
        eW RB (fun _ => []) H <| gE func92 [rg [hC 3 true [] (RI r1) [], { i := 4, call := some { cl := true, auto := true, ins := [], res := (RB r2), G' := [] }, dec := some true }, hF 10, hC 18 true [] (Ri_unitsAt r5) [], { i := 19, call := some { cl := false, auto := true, ins := [], res := (RB r6), G' := [] }, dec := some false }], r0] (by kernel_rfl) (P1 (ci_sizeOf hr1) <| P1 (ci_isIndex hr2) <| P2 (r2 = true) (h3) <| P2 (((((a2.Defenders.length : Nat) : Int) : Int) == 0) = false) (beqF h4) <| P1 (ci_unitsAt hr5) <| P1 (cslices_Equal_int hr6) <| P2 (r6 = false) (eqF h7) <| P0))))
  (fun h3 H =>
    eW RB (fun _ => []) H <| gE func92 [rg [hC 3 true [] (RI r1) [], { i := 4, call := some { cl := true, auto := true, ins := [], res := (RB r2), G' := [] }, dec := some false }], r0] (by kernel_rfl) (P1 (ci_sizeOf hr1) <| P1 (ci_isIndex hr2) <| P2 (r2 = false) (eqF h3) <| P0))
/-! loop example/g00886/impl hasBattle -/
theorem ci_hasBattle {a0 : Gi_Board} {a1 : Gi_State} {a2 : Gi_Battle} {r : Bool} (H : Di_hasBattle a0 a1 a2 = some r) : Ct X.P X.gl 88 [.agg [sl 5 gi_Terrain a0.Rules.Terrains, sl 6 gi_Kind a0.Rules.Kinds, I a0.Rules.Stack, I a0.Rules.River, I a0.Rules.Road, I a0.Rules.Supply, I a0.Rules.Turns, I a0.Map.Width, I a0.Map.Height, sl 1 I a0.Map.Terrain, sl 1 I a0.Map.Rivers, sl 1 I a0.Map.Roads], .agg [I a1.Turn, I a1.Weather, sl 4 gi_Unit a1.Units], .agg [I a2.At, sl 1 I a2.Attackers, sl 1 I a2.Defenders]] [] (RB r) [] :=
  Ct.of func88 (c := bdy f88) (by kernel_rfl) (by kernel_rfl) <|
  eBind H fun r1 hr1 H =>
  gS [r0] (by kernel_rfl) P0 <|
  eIf H (fun h2 H =>
    eBind H fun r3 hr3 H =>
    eW RB (fun _ => []) H <| gE func88 [rg [{ i := 2, call := some { cl := true, auto := true, ins := [], res := (RB r1), G' := [] }, dec := some true }, hC 7 true [] (RB r3) []]] (by kernel_rfl) (P1 (ci_fits hr1) <| P2 (r1 = true) (h2) <| P1 (ci_goodBattle hr3) <| P0))
  (fun h2 H =>
    eW RB (fun _ => []) H <| gE func88 [rg [{ i := 2, call := some { cl := true, auto := true, ins := [], res := (RB r1), G' := [] }, dec := some false }]] (by kernel_rfl) (P1 (ci_fits hr1) <| P2 (r1 = false) (eqF h2) <| P0))
/-! loop example/g00886/impl forceOf -/
theorem ci_forceOf {a0 : Gi_Board} {a1 : Gi_Unit} {r : Int} (H : Di_forceOf a0 a1 = some r) : Ct X.P X.gl 128 [.agg [sl 5 gi_Terrain a0.Rules.Terrains, sl 6 gi_Kind a0.Rules.Kinds, I a0.Rules.Stack, I a0.Rules.River, I a0.Rules.Road, I a0.Rules.Supply, I a0.Rules.Turns, I a0.Map.Width, I a0.Map.Height, sl 1 I a0.Map.Terrain, sl 1 I a0.Map.Rivers, sl 1 I a0.Map.Roads], .agg [I a1.Side, I a1.Kind, I a1.At, I a1.Steps]] [] (RI r) [] :=
  Ct.of func128 (c := bdy f128) (by kernel_rfl) (by kernel_rfl) <|
  eCk H fun h1 H =>
  eBind H fun x2 hx2 H =>
  eW RI (fun _ => []) H <| gE func128 [r0, rg [hE 7 (gi_Kind x2)]] (by kernel_rfl) (P1 h1 <| P1 (int_lt_of_at h1 hx2) <| P1 (at_map gi_Kind hx2) <| P0)
/-! loop example/g00886/impl edgeOf -/
theorem ci_edgeOf {a0 : Gi_Map} {a1 : Int} {a2 : Int} {r : Int} (H : Di_edgeOf a0 a1 a2 = some r) : Ct X.P X.gl 130 [.agg [I a0.Width, I a0.Height, sl 1 I a0.Terrain, sl 1 I a0.Rivers, sl 1 I a0.Roads], I a1, I a2] [] (RI r) [] :=
  Ct.of func130 (c := bdy f130) (by kernel_rfl) (by kernel_rfl) <|
  eBind H fun r1 hr1 H =>
  gS [r0, rg [hC 3 true [] (RI r1) []]] (by kernel_rfl) (P1 (ci_nextTo hr1) <| P0) <|
  eIf H (fun h2 H =>
    eW RI (fun _ => []) H <| gE func130 [rg [hT 1], r0] (by kernel_rfl) (P2 ((decide (r1 < 0)) = true) (decide_eq_true h2) <| P0))
  (fun h2 H =>
    gS [rg [hF 1]] (by kernel_rfl) (P2 ((decide (r1 < 0)) = false) (decide_eq_false h2) <| P0) <|
    eIf H (fun h3 H =>
      eW RI (fun _ => []) H <| gE func130 [rg [hT 1], r0] (by kernel_rfl) (P2 ((decide (a2 < 3)) = true) (decide_eq_true h3) <| P0))
    (fun h3 H =>
      eW RI (fun _ => []) H <| gE func130 [rg [hF 1], r0] (by kernel_rfl) (P2 ((decide (a2 < 3)) = false) (decide_eq_false h3) <| P0)))
/-! slices Index   int int  -/
noncomputable def Kslices_Index_int : Sslices_Index_int → List Item
  | .h1 .. => nav 300 2 [] [.code (bdy f102)]
def Zslices_Index_int : Sslices_Index_int → St
  | .h1 s0 v1 t2 t3 => ⟨sts 19 [(0, sl 1 I s0), (1, I v1), (7, I t2), (8, I t3)], []⟩
abbrev Qslices_Index_int := Nx X 102 0 Kslices_Index_int Zslices_Index_int RI (fun _ => [])
theorem nslices_Index_int : ∀ s o, Bslices_Index_int s = some o → Qslices_Index_int (Kslices_Index_int s) (Zslices_Index_int s) o
  | .h1 s0 v1 t2 t3, o, H =>
    eIf H (fun h1 H =>
      eCk H fun h2 H =>
      eBind H fun x3 hx3 H =>
      gN [rg [hT 0], r0] (by kernel_rfl) (P2 ((decide (t3 < t2)) = true) (decide_eq_true h1) <| P0) <|
      eIf H (fun h4 H =>
        eN H <| gE func102 [rg [hE 4 (I x3), hT 5], r0] (by kernel_rfl) (P1 h2 <| P1 (int_lt_of_at h2 hx3) <| P1 (at_map I hx3) <| P2 (((v1 : Int) == x3) = true) (beqT h4) <| P0))
      (fun h4 H =>
        eN H fun r hn => gO [rg [hE 4 (I x3), hF 5], r0, .canon [] [0, 1, 7, 8]] (by kernel_rfl) (P1 h2 <| P1 (int_lt_of_at h2 hx3) <| P1 (at_map I hx3) <| P2 (((v1 : Int) == x3) = false) (beqF h4) <| P0) hn))
    (fun h1 H =>
      eN H <| gE func102 [rg [hF 0], r0] (by kernel_rfl) (P2 ((decide (t3 < t2)) = false) (decide_eq_false h1) <| P0))
theorem wslices_Index_int : ∀ s r, loop Bslices_Index_int s = some r → Wc X 102 0 (Kslices_Index_int s) (Zslices_Index_int s) (RI r) ((fun _ => []) r) := Nx.all nslices_Index_int
theorem cslices_Index_int {a0 : (List Int)} {a1 : Int} {r : Int} (H : Dslices_Index_int a0 a1 = some r) : Ct X.P X.gl 102 [sl 1 I a0, I a1] [] (RI r) [] :=
  Ct.of func102 (c := bdy f102) (by kernel_rfl) (by kernel_rfl) <|
  gO [r0, r0, .canon [] [0, 1, 7, 8]] (by kernel_rfl) P0 (wslices_Index_int _ _ H)
/-! slices Contains   int int  -/
theorem cslices_Contains_int {a0 : (List Int)} {a1 : Int} {r : Bool} (H : Dslices_Contains_int a0 a1 = some r) : Ct X.P X.gl 54 [sl 1 I a0, I a1] [] (RB r) [] :=
  Ct.of func54 (c := bdy f54) (by kernel_rfl) (by kernel_rfl) <|
  eBind H fun r1 hr1 H =>
  eW RB (fun _ => []) H <| gE func54 [r0, rg [hC 2 true [] (RI r1) []]] (by kernel_rfl) (P1 (cslices_Index_int hr1) <| P0)
/-! loop example/g00886/impl crossesFreely -/
theorem ci_crossesFreely {a0 : Gi_Map} {a1 : Int} {r : Bool} (H : Di_crossesFreely a0 a1 = some r) : Ct X.P X.gl 129 [.agg [I a0.Width, I a0.Height, sl 1 I a0.Terrain, sl 1 I a0.Rivers, sl 1 I a0.Roads], I a1] [] (RB r) [] :=
  Ct.of func129 (c := bdy f129) (by kernel_rfl) (by kernel_rfl) <|
  eBind H fun r1 hr1 H =>
  gS [r0] (by kernel_rfl) P0 <|
  eIf H (fun h2 H =>
    eBind H fun r3 hr3 H =>
    eW RB (fun _ => []) H <| gE func129 [rg [{ i := 3, call := some { cl := true, auto := true, ins := [], res := (RB r1), G' := [] }, dec := some true }, hC 9 true [] (RB r3) []]] (by kernel_rfl) (P1 (cslices_Contains_int hr1) <| P2 (r1 = true) (h2) <| P1 (cslices_Contains_int hr3) <| P0))
  (fun h2 H =>
    eW RB (fun _ => []) H <| gE func129 [rg [{ i := 3, call := some { cl := true, auto := true, ins := [], res := (RB r1), G' := [] }, dec := some false }]] (by kernel_rfl) (P1 (cslices_Contains_int hr1) <| P2 (r1 = false) (eqF h2) <| P0))
/-! loop example/g00886/impl attackStrength -/
noncomputable def Ki_attackStrength : Si_attackStrength → List Item
  | .h1 .. => nav 300 3 [] [.code (bdy f89)]
def Zi_attackStrength : Si_attackStrength → St
  | .h1 sum0 t1 t2 t3 b4 b5 b6 => ⟨sts 52 [(3, .ptr 0 12 0 0), (4, .ptr 1 3 0 0), (5, .ptr 2 3 0 0), (7, I sum0), (12, sl 1 I t1), (13, I t2), (14, I t3)], [some ⟨false, true, 12, 1, [.agg [sl 5 gi_Terrain b4.Rules.Terrains, sl 6 gi_Kind b4.Rules.Kinds, I b4.Rules.Stack, I b4.Rules.River, I b4.Rules.Road, I b4.Rules.Supply, I b4.Rules.Turns, I b4.Map.Width, I b4.Map.Height, sl 1 I b4.Map.Terrain, sl 1 I b4.Map.Rivers, sl 1 I b4.Map.Roads]]⟩, some ⟨false, true, 3, 1, [.agg [I b5.Turn, I b5.Weather, sl 4 gi_Unit b5.Units]]⟩, some ⟨false, true, 3, 1, [.agg [I b6.At, sl 1 I b6.Attackers, sl 1 I b6.Defenders]]⟩]⟩
abbrev Qi_attackStrength := Nx X 89 0 Ki_attackStrength Zi_attackStrength RI (fun _ => [])
theorem ni_attackStrength : ∀ s o, Bi_attackStrength s = some o → Qi_attackStrength (Ki_attackStrength s) (Zi_attackStrength s) o
  | .h1 sum0 t1 t2 t3 b4 b5 b6, o, H =>
    eIf H (fun h1 H =>
      eCk H fun h2 H =>
      eBind H fun x3 hx3 H =>
      eCk H fun h4 H =>
      eBind H fun x5 hx5 H =>
      eBind H fun r6 hr6 H =>
      eCk H fun h7 H =>
      eBind H fun x8 hx8 H =>
      eBind H fun r9 hr9 H =>
      eBind H fun r10 hr10 H =>
      eBind H fun r11 hr11 H =>
      gN [rg [hT 0], rg [hE 1 (I x3)], rg [hE 5 (gi_Unit x5), hC 6 true [] (RI r6) []]] (by kernel_rfl) (P2 ((decide (t3 < t2)) = true) (decide_eq_true h1) <| P1 h2 <| P1 (int_lt_of_at h2 hx3) <| P1 (at_map I hx3) <| P1 h4 <| P1 (int_lt_of_at h4 hx5) <| P1 (at_map gi_Unit hx5) <| P1 (ci_forceOf hr6) <| P0) <|
      eIf H (fun h12 H =>
        eN H fun r hn => gO [rg [hE 15 (gi_Unit x8), hC 16 true [] (RI r9) [], hC 17 true [] (RI r10) [], { i := 18, call := some { cl := true, auto := true, ins := [], res := (RB r11), G' := [] }, dec := some true }], r0, r0, .canon [0, 1, 2] [3, 4, 5, 7, 12, 13, 14]] (by kernel_rfl) (P1 h7 <| P1 (int_lt_of_at h7 hx8) <| P1 (at_map gi_Unit hx8) <| P1 (ci_directionOn hr9) <| P1 (ci_edgeOf hr10) <| P1 (ci_crossesFreely hr11) <| P2 (r11 = true) (h12) <| P0) hn)
      (fun h12 H =>
        eN H fun r hn => gO [rg [hE 15 (gi_Unit x8), hC 16 true [] (RI r9) [], hC 17 true [] (RI r10) [], { i := 18, call := some { cl := true, auto := true, ins := [], res := (RB r11), G' := [] }, dec := some false }], r0, r0, r0, .canon [0, 1, 2] [3, 4, 5, 7, 12, 13, 14]] (by kernel_rfl) (P1 h7 <| P1 (int_lt_of_at h7 hx8) <| P1 (at_map gi_Unit hx8) <| P1 (ci_directionOn hr9) <| P1 (ci_edgeOf hr10) <| P1 (ci_crossesFreely hr11) <| P2 (r11 = false) (eqF h12) <| P2 (¬ (2 : Int) = 0) (by decide) <| P0) hn))
    (fun h1 H =>
      eN H <| gE func89 [rg [hF 0], r0] (by kernel_rfl) (P2 ((decide (t3 < t2)) = false) (decide_eq_false h1) <| P0))
theorem wi_attackStrength : ∀ s r, loop Bi_attackStrength s = some r → Wc X 89 0 (Ki_attackStrength s) (Zi_attackStrength s) (RI r) ((fun _ => []) r) := Nx.all ni_attackStrength
theorem ci_attackStrength {a0 : Gi_Board} {a1 : Gi_State} {a2 : Gi_Battle} {r : Int} (H : Di_attackStrength a0 a1 a2 = some r) : Ct X.P X.gl 89 [.agg [sl 5 gi_Terrain a0.Rules.Terrains, sl 6 gi_Kind a0.Rules.Kinds, I a0.Rules.Stack, I a0.Rules.River, I a0.Rules.Road, I a0.Rules.Supply, I a0.Rules.Turns, I a0.Map.Width, I a0.Map.Height, sl 1 I a0.Map.Terrain, sl 1 I a0.Map.Rivers, sl 1 I a0.Map.Roads], .agg [I a1.Turn, I a1.Weather, sl 4 gi_Unit a1.Units], .agg [I a2.At, sl 1 I a2.Attackers, sl 1 I a2.Defenders]] [] (RI r) [] :=
  Ct.of func89 (c := bdy f89) (by kernel_rfl) (by kernel_rfl) <|
  gO [r0, r0, r0, .canon [0, 1, 2] [3, 4, 5, 7, 12, 13, 14]] (by kernel_rfl) P0 (wi_attackStrength _ _ H)
/-! loop example/g00886/impl AttackStrength -/
def Ri_AttackStrength (r : Int × Bool) : List D := [I r.1, .bool r.2]
theorem ci_AttackStrength {a0 : Gi_Board} {a1 : Gi_State} {a2 : Gi_Battle} {r : Int × Bool} (H : Di_AttackStrength a0 a1 a2 = some r) : Ct X.P X.gl 41 [.agg [sl 5 gi_Terrain a0.Rules.Terrains, sl 6 gi_Kind a0.Rules.Kinds, I a0.Rules.Stack, I a0.Rules.River, I a0.Rules.Road, I a0.Rules.Supply, I a0.Rules.Turns, I a0.Map.Width, I a0.Map.Height, sl 1 I a0.Map.Terrain, sl 1 I a0.Map.Rivers, sl 1 I a0.Map.Roads], .agg [I a1.Turn, I a1.Weather, sl 4 gi_Unit a1.Units], .agg [I a2.At, sl 1 I a2.Attackers, sl 1 I a2.Defenders]] [] (Ri_AttackStrength r) [] :=
  Ct.of func41 (c := bdy f41) (by kernel_rfl) (by kernel_rfl) <|
  eBind H fun r1 hr1 H =>
  gS [r0] (by kernel_rfl) P0 <|
  eIf H (fun h2 H =>
    eBind H fun r3 hr3 H =>
    eW Ri_AttackStrength (fun _ => []) H <| gE func41 [rg [{ i := 3, call := some { cl := true, auto := true, ins := [], res := (RB r1), G' := [] }, dec := some true }], rg [hC 3 true [] (RI r3) []]] (by kernel_rfl) (P1 (ci_hasBattle hr1) <| P2 (r1 = true) (h2) <| P1 (ci_attackStrength hr3) <| P0))
  (fun h2 H =>
    eW Ri_AttackStrength (fun _ => []) H <| gE func41 [rg [{ i := 3, call := some { cl := true, auto := true, ins := [], res := (RB r1), G' := [] }, dec := some false }], r0] (by kernel_rfl) (P1 (ci_hasBattle hr1) <| P2 (r1 = false) (eqF h2) <| P0))
/-! loop example/g00886/spec sHex -/
theorem cs_sHex {a0 : Gi_Board} {a1 : Gi_State} {a2 : Int} {r : Bool} (H : Ds_sHex a0 a1 a2 = some r) : Ct X.P X.gl 67 [.agg [sl 5 gi_Terrain a0.Rules.Terrains, sl 6 gi_Kind a0.Rules.Kinds, I a0.Rules.Stack, I a0.Rules.River, I a0.Rules.Road, I a0.Rules.Supply, I a0.Rules.Turns, I a0.Map.Width, I a0.Map.Height, sl 1 I a0.Map.Terrain, sl 1 I a0.Map.Rivers, sl 1 I a0.Map.Roads], .agg [I a1.Turn, I a1.Weather, sl 4 gi_Unit a1.Units], I a2] [] (RB r) [] :=
  Ct.of func67 (c := bdy f67) (by kernel_rfl) (by kernel_rfl) <|
  eBind H fun r1 hr1 H =>
  gS [r0] (by kernel_rfl) P0 <|
  eIf H (fun h2 H =>
    eBind H fun r3 hr3 H =>
    eBind H fun r4 hr4 H =>
    eW RB (fun _ => []) H <| gE func67 [rg [{ i := 2, call := some { cl := true, auto := true, ins := [], res := (RB r1), G' := [] }, dec := some true }, hC 7 true [] (RI r3) [], hC 9 true [] (RB r4) []]] (by kernel_rfl) (P1 (cs_sGood hr1) <| P2 (r1 = true) (h2) <| P1 (cs_mSize hr3) <| P1 (cs_l1In hr4) <| P0))
  (fun h2 H =>
    eW RB (fun _ => []) H <| gE func67 [rg [{ i := 2, call := some { cl := true, auto := true, ins := [], res := (RB r1), G' := [] }, dec := some false }]] (by kernel_rfl) (P1 (cs_sGood hr1) <| P2 (r1 = false) (eqF h2) <| P0))
/-! loop example/g00886/spec l1Same -/
noncomputable def Ks_l1Same : Ss_l1Same → List Item
  | .h1 .. => nav 300 3 [false] [.code (bdy f133)]
def Zs_l1Same : Ss_l1Same → St
  | .h1 va0 b1 t2 t3 => ⟨sts 26 [(0, sl 1 I va0), (1, sl 1 I b1), (12, I t2), (13, I t3)], []⟩
abbrev Qs_l1Same := Nx X 133 0 Ks_l1Same Zs_l1Same RB (fun _ => [])
theorem ns_l1Same : ∀ s o, Bs_l1Same s = some o → Qs_l1Same (Ks_l1Same s) (Zs_l1Same s) o
  | .h1 va0 b1 t2 t3, o, H =>
    eIf H (fun h1 H =>
      eCk H fun h2 H =>
      eBind H fun x3 hx3 H =>
      eCk H fun h4 H =>
      eBind H fun x5 hx5 H =>
      gN [rg [hT 0], r0] (by kernel_rfl) (P2 ((decide (t3 < t2)) = true) (decide_eq_true h1) <| P0) <|
      eIf H (fun h6 H =>
        eN H fun r hn => gO [rg [hE 3 (I x3), hE 7 (I x5), hF 8], r0, .canon [] [0, 1, 12, 13]] (by kernel_rfl) (P1 h2 <| P1 (int_lt_of_at h2 hx3) <| P1 (at_map I hx3) <| P1 h4 <| P1 (int_lt_of_at h4 hx5) <| P1 (at_map I hx5) <| P2 (((x3 : Int) != x5) = false) (bneF h6) <| P0) hn)
      (fun h6 H =>
        eN H <| gE func133 [rg [hE 3 (I x3), hE 7 (I x5), hT 8], r0] (by kernel_rfl) (P1 h2 <| P1 (int_lt_of_at h2 hx3) <| P1 (at_map I hx3) <| P1 h4 <| P1 (int_lt_of_at h4 hx5) <| P1 (at_map I hx5) <| P2 (((x3 : Int) != x5) = true) (bneT h6) <| P0)))
    (fun h1 H =>
      eN H <| gE func133 [rg [hF 0], r0] (by kernel_rfl) (P2 ((decide (t3 < t2)) = false) (decide_eq_false h1) <| P0))
theorem ws_l1Same : ∀ s r, loop Bs_l1Same s = some r → Wc X 133 0 (Ks_l1Same s) (Zs_l1Same s) (RB r) ((fun _ => []) r) := Nx.all ns_l1Same
theorem cs_l1Same {a0 : (List Int)} {a1 : (List Int)} {r : Bool} (H : Ds_l1Same a0 a1 = some r) : Ct X.P X.gl 133 [sl 1 I a0, sl 1 I a1] [] (RB r) [] :=
  Ct.of func133 (c := bdy f133) (by kernel_rfl) (by kernel_rfl) <|
  gS [r0] (by kernel_rfl) P0 <|
  eIf H (fun h1 H =>
    gO [rg [hF 4], r0, .canon [] [0, 1, 12, 13]] (by kernel_rfl) (P2 (((((a0.length : Nat) : Int) : Int) != ((a1.length : Nat) : Int)) = false) (bneF h1) <| P0) (ws_l1Same _ _ H))
  (fun h1 H =>
    eW RB (fun _ => []) H <| gE func133 [rg [hT 4], r0] (by kernel_rfl) (P2 (((((a0.length : Nat) : Int) : Int) != ((a1.length : Nat) : Int)) = true) (bneT h1) <| P0))
/-! loop example/g00886/spec aGood -/
noncomputable def Ks_aGood : Ss_aGood → List Item
  | .h1 .. => nav 300 4 [false] [.code (bdy f90)]
def Zs_aGood : Ss_aGood → St
  | .h1 owner0 t1 t2 t3 b4 b5 b6 => ⟨sts 76 [(3, .ptr 0 12 0 0), (4, .ptr 1 3 0 0), (5, .ptr 2 3 0 0), (7, I owner0), (44, sl 1 I t1), (45, I t2), (46, I t3)], [some ⟨false, true, 12, 1, [.agg [sl 5 gi_Terrain b4.Rules.Terrains, sl 6 gi_Kind b4.Rules.Kinds, I b4.Rules.Stack, I b4.Rules.River, I b4.Rules.Road, I b4.Rules.Supply, I b4.Rules.Turns, I b4.Map.Width, I b4.Map.Height, sl 1 I b4.Map.Terrain, sl 1 I b4.Map.Rivers, sl 1 I b4.Map.Roads]]⟩, some ⟨false, true, 3, 1, [.agg [I b5.Turn, I b5.Weather, sl 4 gi_Unit b5.Units]]⟩, some ⟨false, true, 3, 1, [.agg [I b6.At, sl 1 I b6.Attackers, sl 1 I b6.Defenders]]⟩]⟩
abbrev Qs_aGood := Nx X 90 0 Ks_aGood Zs_aGood RB (fun _ => [])
theorem ns_aGood : ∀ s o, Bs_aGood s = some o → Qs_aGood (Ks_aGood s) (Zs_aGood s) o
  | .h1 owner0 t1 t2 t3 b4 b5 b6, o, H =>
    eIf H (fun h1 H =>
      eCk H fun h2 H =>
      eBind H fun x3 hx3 H =>
      eCk H fun h4 H =>
      eBind H fun x5 hx5 H =>
      gN [rg [hT 0], rg [hE 1 (I x3)]] (by kernel_rfl) (P2 ((decide (t3 < t2)) = true) (decide_eq_true h1) <| P1 h2 <| P1 (int_lt_of_at h2 hx3) <| P1 (at_map I hx3) <| P0) <|
      eIf H (fun h6 H =>
        eN H <| gE func90 [rg [hE 5 (gi_Unit x5), hT 7], r0] (by kernel_rfl) (P1 h4 <| P1 (int_lt_of_at h4 hx5) <| P1 (at_map gi_Unit hx5) <| P2 (((x5.Side : Int) == owner0) = true) (beqT h6) <| P0))
      (fun h6 H =>
        eBind H fun r7 hr7 H =>
        eIf H (fun h8 H =>
          eN H <| gE func90 [rg [hE 5 (gi_Unit x5), hF 7, hC 14 true [] (RI r7) [], hT 15], r0] (by kernel_rfl) (P1 h4 <| P1 (int_lt_of_at h4 hx5) <| P1 (at_map gi_Unit hx5) <| P2 (((x5.Side : Int) == owner0) = false) (beqF h6) <| P1 (cs_aSide hr7) <| P2 ((decide (r7 < 0)) = true) (decide_eq_true h8) <| P0))
        (fun h8 H =>
          eN H fun r hn => gO [rg [hE 5 (gi_Unit x5), hF 7, hC 14 true [] (RI r7) [], hF 15], r0, .canon [0, 1, 2] [3, 4, 5, 7, 44, 45, 46]] (by kernel_rfl) (P1 h4 <| P1 (int_lt_of_at h4 hx5) <| P1 (at_map gi_Unit hx5) <| P2 (((x5.Side : Int) == owner0) = false) (beqF h6) <| P1 (cs_aSide hr7) <| P2 ((decide (r7 < 0)) = false) (decide_eq_false h8) <| P0) hn)))
    (fun h1 H =>
      eBind H fun r2 hr2 H =>
      eBind H fun r3 hr3 H =>
      eN H <| gE func90 [rg [hF 0], rg [hC 6 true [] (Rs_sAt r2) [], hC 7 false [] (RB r3) []]] (by kernel_rfl) (P2 ((decide (t3 < t2)) = false) (decide_eq_false h1) <| P1 (cs_sAt hr2) <| P1 (cs_l1Same hr3) <| P0))
theorem ws_aGood : ∀ s r, loop Bs_aGood s = some r → Wc X 90 0 (Ks_aGood s) (Zs_aGood s) (RB r) ((fun _ => []) r) := Nx.all ns_aGood
theorem cs_aGood {a0 : Gi_Board} {a1 : Gi_State} {a2 : Gi_Battle} {r : Bool} (H : Ds_aGood a0 a1 a2 = some r) : Ct X.P X.gl 90 [.agg [sl 5 gi_Terrain a0.Rules.Terrains, sl 6 gi_Kind a0.Rules.Kinds, I a0.Rules.Stack, I a0.Rules.River, I a0.Rules.Road, I a0.Rules.Supply, I a0.Rules.Turns, I a0.Map.Width, I a0.Map.Height, sl 1 I a0.Map.Terrain, sl 1 I a0.Map.Rivers, sl 1 I a0.Map.Roads], .agg [I a1.Turn, I a1.Weather, sl 4 gi_Unit a1.Units], .agg [I a2.At, sl 1 I a2.Attackers, sl 1 I a2.Defenders]] [] (RB r) [] :=
  Ct.of func90 (c := bdy f90) (by kernel_rfl) (by kernel_rfl) <|
  eBind H fun r1 hr1 H =>
  gS [r0] (by kernel_rfl) P0 <|
  eIf H (fun h2 H =>
    eBind H fun r3 hr3 H =>
    eIf H (fun h4 H =>
      eW RB (fun _ => []) H <| gE func90 [rg [{ i := 4, call := some { cl := true, auto := true, ins := [], res := (RB r1), G' := [] }, dec := some true }, hC 10 true [] (RI r3) [], hT 11], r0] (by kernel_rfl) (P1 (cs_sHex hr1) <| P2 (r1 = true) (h2) <| P1 (cs_sOwner hr3) <| P2 ((decide (r3 < 0)) = true) (decide_eq_true h4) <| P0))
    (fun h4 H =>
      eIf H (fun h5 H =>
        eW RB (fun _ => []) H <| gE func90 [rg [{ i := 4, call := some { cl := true, auto := true, ins := [], res := (RB r1), G' := [] }, dec := some true }, hC 10 true [] (RI r3) [], hF 11, hT 17], r0] (by kernel_rfl) (P1 (cs_sHex hr1) <| P2 (r1 = true) (h2) <| P1 (cs_sOwner hr3) <| P2 ((decide (r3 < 0)) = false) (decide_eq_false h4) <| P2 (((((a2.Attackers.length : Nat) : Int) : Int) == 0) = true) (beqT h5) <| P0))
      (fun h5 H =>
        eBind H fun r6 hr6 H =>
        eIf H (fun h7 H =>
          eBind H fun r8 hr8 H =>
          gO [rg [{ i := 4, call := some { cl := true, auto := true, ins := [], res := (RB r1), G' := [] }, dec := some true }, hC 10 true [] (RI r3) [], hF 11, hF 17, { i := 26, call := some { cl := true, auto := true, ins := [], res := (RB r6), G' := [] }, dec := some true }], rg [hC 3 true [] (RI r8) []], r0, .canon [0, 1, 2] [3, 4, 5, 7, 44, 45, 46]] (by kernel_rfl) (P1 (cs_sHex hr1) <| P2 (r1 = true) (h2) <| P1 (cs_sOwner hr3) <| P2 ((decide (r3 < 0)) = false) (decide_eq_false h4) <| P2 (((((a2.Attackers.length : Nat) : Int) : Int) == 0) = false) (beqF h5) <| P1 (cs_l1Rising hr6) <| P2 (r6 = true) (h7) <| P1 (cs_sOwner hr8) <| P0) (ws_aGood _ _ H))
        (fun h7 H =>
          eW RB (fun _ => []) H <| gE func90 [rg [{ i := 4, call := some { cl := true, auto := true, ins := [], res := (RB r1), G' := [] }, dec := some true }, hC 10 true [] (RI r3) [], hF 11, hF 17, { i := 26, call := some { cl := true, auto := true, ins := [], res := (RB r6), G' := [] }, dec := some false }], r0] (by kernel_rfl) (P1 (cs_sHex hr1) <| P2 (r1 = true) (h2) <| P1 (cs_sOwner hr3) <| P2 ((decide (r3 < 0)) = false) (decide_eq_false h4) <| P2 (((((a2.Attackers.length : Nat) : Int) : Int) == 0) = false) (beqF h5) <| P1 (cs_l1Rising hr6) <| P2 (r6 = false) (eqF h7) <| P0)))))
  (fun h2 H =>
    eW RB (fun _ => []) H <| gE func90 [rg [{ i := 4, call := some { cl := true, auto := true, ins := [], res := (RB r1), G' := [] }, dec := some false }], r0] (by kernel_rfl) (P1 (cs_sHex hr1) <| P2 (r1 = false) (eqF h2) <| P0))
/-! loop example/g00886/spec aForce -/
theorem cs_aForce {a0 : Gi_Board} {a1 : Gi_State} {a2 : Int} {r : Int} (H : Ds_aForce a0 a1 a2 = some r) : Ct X.P X.gl 134 [.agg [sl 5 gi_Terrain a0.Rules.Terrains, sl 6 gi_Kind a0.Rules.Kinds, I a0.Rules.Stack, I a0.Rules.River, I a0.Rules.Road, I a0.Rules.Supply, I a0.Rules.Turns, I a0.Map.Width, I a0.Map.Height, sl 1 I a0.Map.Terrain, sl 1 I a0.Map.Rivers, sl 1 I a0.Map.Roads], .agg [I a1.Turn, I a1.Weather, sl 4 gi_Unit a1.Units], I a2] [] (RI r) [] :=
  Ct.of func134 (c := bdy f134) (by kernel_rfl) (by kernel_rfl) <|
  eCk H fun h1 H =>
  eBind H fun x2 hx2 H =>
  eCk H fun h3 H =>
  eBind H fun x4 hx4 H =>
  eCk H fun h5 H =>
  eBind H fun x6 hx6 H =>
  eW RI (fun _ => []) H <| gE func134 [r0, rg [hE 8 (gi_Unit x2), hE 11 (gi_Kind x4), hE 17 (gi_Unit x6)]] (by kernel_rfl) (P1 h1 <| P1 (int_lt_of_at h1 hx2) <| P1 (at_map gi_Unit hx2) <| P1 h3 <| P1 (int_lt_of_at h3 hx4) <| P1 (at_map gi_Kind hx4) <| P1 h5 <| P1 (int_lt_of_at h5 hx6) <| P1 (at_map gi_Unit hx6) <| P0)
/-! loop example/g00886/spec l1Has -/
noncomputable def Ks_l1Has : Ss_l1Has → List Item
  | .h1 .. => nav 300 2 [] [.code (bdy f55)]
def Zs_l1Has : Ss_l1Has → St
  | .h1 n0 t1 t2 t3 => ⟨sts 17 [(1, I n0), (7, sl 1 I t1), (8, I t2), (9, I t3)], []⟩
abbrev Qs_l1Has := Nx X 55 0 Ks_l1Has Zs_l1Has RB (fun _ => [])
theorem ns_l1Has : ∀ s o, Bs_l1Has s = some o → Qs_l1Has (Ks_l1Has s) (Zs_l1Has s) o
  | .h1 n0 t1 t2 t3, o, H =>
    eIf H (fun h1 H =>
      eCk H fun h2 H =>
      eBind H fun x3 hx3 H =>
      gN [rg [hT 0], rg [hE 1 (I x3)]] (by kernel_rfl) (P2 ((decide (t3 < t2)) = true) (decide_eq_true h1) <| P1 h2 <| P1 (int_lt_of_at h2 hx3) <| P1 (at_map I hx3) <| P0) <|
      eIf H (fun h4 H =>
        eN H <| gE func55 [rg [hT 2], r0] (by kernel_rfl) (P2 (((x3 : Int) == n0) = true) (beqT h4) <| P0))
      (fun h4 H =>
        eN H fun r hn => gO [rg [hF 2], r0, .canon [] [1, 7, 8, 9]] (by kernel_rfl) (P2 (((x3 : Int) == n0) = false) (beqF h4) <| P0) hn))
    (fun h1 H =>
      eN H <| gE func55 [rg [hF 0], r0] (by kernel_rfl) (P2 ((decide (t3 < t2)) = false) (decide_eq_false h1) <| P0))
theorem ws_l1Has : ∀ s r, loop Bs_l1Has s = some r → Wc X 55 0 (Ks_l1Has s) (Zs_l1Has s) (RB r) ((fun _ => []) r) := Nx.all ns_l1Has
theorem cs_l1Has {a0 : (List Int)} {a1 : Int} {r : Bool} (H : Ds_l1Has a0 a1 = some r) : Ct X.P X.gl 55 [sl 1 I a0, I a1] [] (RB r) [] :=
  Ct.of func55 (c := bdy f55) (by kernel_rfl) (by kernel_rfl) <|
  gO [r0, r0, .canon [] [1, 7, 8, 9]] (by kernel_rfl) P0 (ws_l1Has _ _ H)
/-! loop example/g00886/spec mRiver -/
theorem cs_mRiver {a0 : Gi_Map} {a1 : Int} {a2 : Int} {r : Bool} (H : Ds_mRiver a0 a1 a2 = some r) : Ct X.P X.gl 135 [.agg [I a0.Width, I a0.Height, sl 1 I a0.Terrain, sl 1 I a0.Rivers, sl 1 I a0.Roads], I a1, I a2] [] (RB r) [] :=
  Ct.of func135 (c := bdy f135) (by kernel_rfl) (by kernel_rfl) <|
  eBind H fun r1 hr1 H =>
  eBind H fun r2 hr2 H =>
  eW RB (fun _ => []) H <| gE func135 [r0, rg [hC 5 true [] (RI r1) [], hC 6 true [] (RB r2) []]] (by kernel_rfl) (P1 (cs_mEdge hr1) <| P1 (cs_l1Has hr2) <| P0)
/-! loop example/g00886/spec mRoad -/
theorem cs_mRoad {a0 : Gi_Map} {a1 : Int} {a2 : Int} {r : Bool} (H : Ds_mRoad a0 a1 a2 = some r) : Ct X.P X.gl 136 [.agg [I a0.Width, I a0.Height, sl 1 I a0.Terrain, sl 1 I a0.Rivers, sl 1 I a0.Roads], I a1, I a2] [] (RB r) [] :=
  Ct.of func136 (c := bdy f136) (by kernel_rfl) (by kernel_rfl) <|
  eBind H fun r1 hr1 H =>
  eBind H fun r2 hr2 H =>
  eW RB (fun _ => []) H <| gE func136 [r0, rg [hC 5 true [] (RI r1) [], hC 6 true [] (RB r2) []]] (by kernel_rfl) (P1 (cs_mEdge hr1) <| P1 (cs_l1Has hr2) <| P0)
/-! loop example/g00886/spec aAttack -/
noncomputable def Ks_aAttack : Ss_aAttack → List Item
  | .h1 .. => nav 300 3 [] [.code (bdy f91)]
def Zs_aAttack : Ss_aAttack → St
  | .h1 sum0 t1 t2 t3 b4 b5 b6 => ⟨sts 51 [(3, .ptr 0 12 0 0), (4, .ptr 1 3 0 0), (5, .ptr 2 3 0 0), (7, I sum0), (13, sl 1 I t1), (14, I t2), (15, I t3)], [some ⟨false, true, 12, 1, [.agg [sl 5 gi_Terrain b4.Rules.Terrains, sl 6 gi_Kind b4.Rules.Kinds, I b4.Rules.Stack, I b4.Rules.River, I b4.Rules.Road, I b4.Rules.Supply, I b4.Rules.Turns, I b4.Map.Width, I b4.Map.Height, sl 1 I b4.Map.Terrain, sl 1 I b4.Map.Rivers, sl 1 I b4.Map.Roads]]⟩, some ⟨false, true, 3, 1, [.agg [I b5.Turn, I b5.Weather, sl 4 gi_Unit b5.Units]]⟩, some ⟨false, true, 3, 1, [.agg [I b6.At, sl 1 I b6.Attackers, sl 1 I b6.Defenders]]⟩]⟩
abbrev Qs_aAttack := Nx X 91 0 Ks_aAttack Zs_aAttack RI (fun _ => [])
theorem ns_aAttack : ∀ s o, Bs_aAttack s = some o → Qs_aAttack (Ks_aAttack s) (Zs_aAttack s) o
  | .h1 sum0 t1 t2 t3 b4 b5 b6, o, H =>
    eIf H (fun h1 H =>
      eCk H fun h2 H =>
      eBind H fun x3 hx3 H =>
      eBind H fun r4 hr4 H =>
      eBind H fun r5 hr5 H =>
      eBind H fun r6 hr6 H =>
      gN [rg [hT 0], rg [hE 1 (I x3)], rg [hC 3 true [] (RI r4) []], rg [hC 5 true [] (RI r5) []]] (by kernel_rfl) (P2 ((decide (t3 < t2)) = true) (decide_eq_true h1) <| P1 h2 <| P1 (int_lt_of_at h2 hx3) <| P1 (at_map I hx3) <| P1 (cs_aForce hr4) <| P1 (cs_aSide hr5) <| P0) <|
      eIf H (fun h7 H =>
        eBind H fun r8 hr8 H =>
        eIf H (fun h9 H =>
          eN H fun r hn => gO [rg [{ i := 5, call := some { cl := true, auto := true, ins := [], res := (RB r6), G' := [] }, dec := some true }, { i := 12, call := some { cl := true, auto := true, ins := [], res := (RB r8), G' := [] }, dec := some true }], r0, r0, .canon [0, 1, 2] [3, 4, 5, 7, 13, 14, 15]] (by kernel_rfl) (P1 (cs_mRiver hr6) <| P2 (r6 = true) (h7) <| P1 (cs_mRoad hr8) <| P2 (r8 = true) (h9) <| P0) hn)
        (fun h9 H =>
          eN H fun r hn => gO [rg [{ i := 5, call := some { cl := true, auto := true, ins := [], res := (RB r6), G' := [] }, dec := some true }, { i := 12, call := some { cl := true, auto := true, ins := [], res := (RB r8), G' := [] }, dec := some false }], r0, r0, r0, .canon [0, 1, 2] [3, 4, 5, 7, 13, 14, 15]] (by kernel_rfl) (P1 (cs_mRiver hr6) <| P2 (r6 = true) (h7) <| P1 (cs_mRoad hr8) <| P2 (r8 = false) (eqF h9) <| P2 (¬ (2 : Int) = 0) (by decide) <| P0) hn))
      (fun h7 H =>
        eN H fun r hn => gO [rg [{ i := 5, call := some { cl := true, auto := true, ins := [], res := (RB r6), G' := [] }, dec := some false }], r0, r0, .canon [0, 1, 2] [3, 4, 5, 7, 13, 14, 15]] (by kernel_rfl) (P1 (cs_mRiver hr6) <| P2 (r6 = false) (eqF h7) <| P0) hn))
    (fun h1 H =>
      eN H <| gE func91 [rg [hF 0], r0] (by kernel_rfl) (P2 ((decide (t3 < t2)) = false) (decide_eq_false h1) <| P0))
theorem ws_aAttack : ∀ s r, loop Bs_aAttack s = some r → Wc X 91 0 (Ks_aAttack s) (Zs_aAttack s) (RI r) ((fun _ => []) r) := Nx.all ns_aAttack
theorem cs_aAttack {a0 : Gi_Board} {a1 : Gi_State} {a2 : Gi_Battle} {r : Int} (H : Ds_aAttack a0 a1 a2 = some r) : Ct X.P X.gl 91 [.agg [sl 5 gi_Terrain a0.Rules.Terrains, sl 6 gi_Kind a0.Rules.Kinds, I a0.Rules.Stack, I a0.Rules.River, I a0.Rules.Road, I a0.Rules.Supply, I a0.Rules.Turns, I a0.Map.Width, I a0.Map.Height, sl 1 I a0.Map.Terrain, sl 1 I a0.Map.Rivers, sl 1 I a0.Map.Roads], .agg [I a1.Turn, I a1.Weather, sl 4 gi_Unit a1.Units], .agg [I a2.At, sl 1 I a2.Attackers, sl 1 I a2.Defenders]] [] (RI r) [] :=
  Ct.of func91 (c := bdy f91) (by kernel_rfl) (by kernel_rfl) <|
  gO [r0, r0, r0, .canon [0, 1, 2] [3, 4, 5, 7, 13, 14, 15]] (by kernel_rfl) P0 (ws_aAttack _ _ H)
/-! loop example/g00886/spec AttackStrength -/
def Rs_AttackStrength (r : Int × Bool) : List D := [I r.1, .bool r.2]
theorem cs_AttackStrength {a0 : Gi_Board} {a1 : Gi_State} {a2 : Gi_Battle} {r : Int × Bool} (H : Ds_AttackStrength a0 a1 a2 = some r) : Ct X.P X.gl 42 [.agg [sl 5 gi_Terrain a0.Rules.Terrains, sl 6 gi_Kind a0.Rules.Kinds, I a0.Rules.Stack, I a0.Rules.River, I a0.Rules.Road, I a0.Rules.Supply, I a0.Rules.Turns, I a0.Map.Width, I a0.Map.Height, sl 1 I a0.Map.Terrain, sl 1 I a0.Map.Rivers, sl 1 I a0.Map.Roads], .agg [I a1.Turn, I a1.Weather, sl 4 gi_Unit a1.Units], .agg [I a2.At, sl 1 I a2.Attackers, sl 1 I a2.Defenders]] [] (Rs_AttackStrength r) [] :=
  Ct.of func42 (c := bdy f42) (by kernel_rfl) (by kernel_rfl) <|
  eBind H fun r1 hr1 H =>
  gS [r0] (by kernel_rfl) P0 <|
  eIf H (fun h2 H =>
    eBind H fun r3 hr3 H =>
    eW Rs_AttackStrength (fun _ => []) H <| gE func42 [rg [{ i := 3, call := some { cl := true, auto := true, ins := [], res := (RB r1), G' := [] }, dec := some true }], rg [hC 3 true [] (RI r3) []]] (by kernel_rfl) (P1 (cs_aGood hr1) <| P2 (r1 = true) (h2) <| P1 (cs_aAttack hr3) <| P0))
  (fun h2 H =>
    eW Rs_AttackStrength (fun _ => []) H <| gE func42 [rg [{ i := 3, call := some { cl := true, auto := true, ins := [], res := (RB r1), G' := [] }, dec := some false }], r0] (by kernel_rfl) (P1 (cs_aGood hr1) <| P2 (r1 = false) (eqF h2) <| P0))
/-! loop example/g00886/impl IsBattle -/
def Ri_IsBattle (r : Bool × Bool) : List D := [.bool r.1, .bool r.2]
theorem ci_IsBattle {a0 : Gi_Board} {a1 : Gi_State} {a2 : Gi_Battle} {r : Bool × Bool} (H : Di_IsBattle a0 a1 a2 = some r) : Ct X.P X.gl 43 [.agg [sl 5 gi_Terrain a0.Rules.Terrains, sl 6 gi_Kind a0.Rules.Kinds, I a0.Rules.Stack, I a0.Rules.River, I a0.Rules.Road, I a0.Rules.Supply, I a0.Rules.Turns, I a0.Map.Width, I a0.Map.Height, sl 1 I a0.Map.Terrain, sl 1 I a0.Map.Rivers, sl 1 I a0.Map.Roads], .agg [I a1.Turn, I a1.Weather, sl 4 gi_Unit a1.Units], .agg [I a2.At, sl 1 I a2.Attackers, sl 1 I a2.Defenders]] [] (Ri_IsBattle r) [] :=
  Ct.of func43 (c := bdy f43) (by kernel_rfl) (by kernel_rfl) <|
  eBind H fun r1 hr1 H =>
  gS [r0] (by kernel_rfl) P0 <|
  eIf H (fun h2 H =>
    eBind H fun r3 hr3 H =>
    eW Ri_IsBattle (fun _ => []) H <| gE func43 [rg [{ i := 2, call := some { cl := true, auto := true, ins := [], res := (RB r1), G' := [] }, dec := some true }], rg [hC 3 true [] (RB r3) []]] (by kernel_rfl) (P1 (ci_fits hr1) <| P2 (r1 = true) (h2) <| P1 (ci_goodBattle hr3) <| P0))
  (fun h2 H =>
    eW Ri_IsBattle (fun _ => []) H <| gE func43 [rg [{ i := 2, call := some { cl := true, auto := true, ins := [], res := (RB r1), G' := [] }, dec := some false }], r0] (by kernel_rfl) (P1 (ci_fits hr1) <| P2 (r1 = false) (eqF h2) <| P0))
/-! loop example/g00886/laws qInts -/
noncomputable def Kw_qInts : Sw_qInts → List Item
  | .h1 .. => nav 300 3 [false] [.code (bdy f22)]
def Zw_qInts : Sw_qInts → St
  | .h1 va0 b1 t2 t3 => ⟨sts 26 [(0, sl 1 I va0), (1, sl 1 I b1), (12, I t2), (13, I t3)], []⟩
abbrev Qw_qInts := Nx X 22 0 Kw_qInts Zw_qInts RB (fun _ => [])
theorem nw_qInts : ∀ s o, Bw_qInts s = some o → Qw_qInts (Kw_qInts s) (Zw_qInts s) o
  | .h1 va0 b1 t2 t3, o, H =>
    eIf H (fun h1 H =>
      eCk H fun h2 H =>
      eBind H fun x3 hx3 H =>
      eCk H fun h4 H =>
      eBind H fun x5 hx5 H =>
      gN [rg [hT 0], r0] (by kernel_rfl) (P2 ((decide (t3 < t2)) = true) (decide_eq_true h1) <| P0) <|
      eIf H (fun h6 H =>
        eN H fun r hn => gO [rg [hE 3 (I x3), hE 7 (I x5), hF 8], r0, .canon [] [0, 1, 12, 13]] (by kernel_rfl) (P1 h2 <| P1 (int_lt_of_at h2 hx3) <| P1 (at_map I hx3) <| P1 h4 <| P1 (int_lt_of_at h4 hx5) <| P1 (at_map I hx5) <| P2 (((x3 : Int) != x5) = false) (bneF h6) <| P0) hn)
      (fun h6 H =>
        eN H <| gE func22 [rg [hE 3 (I x3), hE 7 (I x5), hT 8], r0] (by kernel_rfl) (P1 h2 <| P1 (int_lt_of_at h2 hx3) <| P1 (at_map I hx3) <| P1 h4 <| P1 (int_lt_of_at h4 hx5) <| P1 (at_map I hx5) <| P2 (((x3 : Int) != x5) = true) (bneT h6) <| P0)))
    (fun h1 H =>
      eN H <| gE func22 [rg [hF 0], r0] (by kernel_rfl) (P2 ((decide (t3 < t2)) = false) (decide_eq_false h1) <| P0))
theorem ww_qInts : ∀ s r, loop Bw_qInts s = some r → Wc X 22 0 (Kw_qInts s) (Zw_qInts s) (RB r) ((fun _ => []) r) := Nx.all nw_qInts
theorem cw_qInts {a0 : (List Int)} {a1 : (List Int)} {r : Bool} (H : Dw_qInts a0 a1 = some r) : Ct X.P X.gl 22 [sl 1 I a0, sl 1 I a1] [] (RB r) [] :=
  Ct.of func22 (c := bdy f22) (by kernel_rfl) (by kernel_rfl) <|
  gS [r0] (by kernel_rfl) P0 <|
  eIf H (fun h1 H =>
    gO [rg [hF 4], r0, .canon [] [0, 1, 12, 13]] (by kernel_rfl) (P2 (((((a0.length : Nat) : Int) : Int) != ((a1.length : Nat) : Int)) = false) (bneF h1) <| P0) (ww_qInts _ _ H))
  (fun h1 H =>
    eW RB (fun _ => []) H <| gE func22 [rg [hT 4], r0] (by kernel_rfl) (P2 (((((a0.length : Nat) : Int) : Int) != ((a1.length : Nat) : Int)) = true) (bneT h1) <| P0))
/-! loop example/g00886/laws FnBattles -/
noncomputable def Kw_FnBattles : Sw_FnBattles → List Item
  | .h1 .. => nav 300 12 [false, false, true] [.code (bdy f6)]
  | .h2 .. => nav 300 10 [false, false, false] [.code (bdy f6)]
  | .h3 .. => nav 300 11 [false, false, false] [.code (bdy f6)]
  | .h4 .. => nav 300 16 [false, false, false, true, false] [.code (bdy f6)]
  | .h5 .. => nav 300 20 [false, false, false, true, false, true] [.code (bdy f6)]
  | .h6 .. => nav 300 18 [false, false, false, true, false, false] [.code (bdy f6)]
def Zw_FnBattles : Sw_FnBattles → St
  | .h1 t0 t1 t2 t3 b4 b5 b6 l7 l8 l9 b10 b11 b12 l13 l14 l15 => ⟨sts 229 [(5, .ptr 0 12 0 0), (6, .ptr 1 3 0 0), (7, .ref 2 2 none), (8, .ref 3 3 none), (10, .ref 4 3 none), (12, .ptr 5 12 0 0), (13, .ptr 6 3 0 0), (15, I t0), (19, I t1), (99, .ref 7 1 none), (100, I t2), (101, I t3)], [some ⟨false, true, 12, 1, [.agg [sl 5 gi_Terrain b4.Rules.Terrains, sl 6 gi_Kind b4.Rules.Kinds, I b4.Rules.Stack, I b4.Rules.River, I b4.Rules.Road, I b4.Rules.Supply, I b4.Rules.Turns, I b4.Map.Width, I b4.Map.Height, sl 1 I b4.Map.Terrain, sl 1 I b4.Map.Rivers, sl 1 I b4.Map.Roads]]⟩, some ⟨false, true, 3, 1, [.agg [I b5, I b6, .ref 8 4 none]]⟩, some ⟨false, false, 2, l7.length, List.map gi_Attack l7⟩, some ⟨false, false, 3, l8.length, List.map goi_Battle l8⟩, some ⟨false, false, 3, l9.length, List.map goi_Battle l9⟩, some ⟨false, true, 12, 1, [.agg [sl 5 gi_Terrain b10.Rules.Terrains, sl 6 gi_Kind b10.Rules.Kinds, I b10.Rules.Stack, I b10.Rules.River, I b10.Rules.Road, I b10.Rules.Supply, I b10.Rules.Turns, I b10.Map.Width, I b10.Map.Height, sl 1 I b10.Map.Terrain, sl 1 I b10.Map.Rivers, sl 1 I b10.Map.Roads]]⟩, some ⟨false, true, 3, 1, [.agg [I b11, I b12, .ref 9 4 none]]⟩, some ⟨false, false, 1, l13.length, List.map I l13⟩, some ⟨false, false, 4, l14.length, List.map gi_Unit l14⟩, some ⟨false, false, 4, l15.length, List.map gi_Unit l15⟩]⟩
  | .h2 b0 b1 b2 l3 l4 l5 l6 => ⟨sts 229 [(5, .ptr 0 12 0 0), (6, .ptr 1 3 0 0), (7, .ref 2 2 none), (8, .ref 3 3 none), (10, .ref 4 3 none)], [some ⟨false, true, 12, 1, [.agg [sl 5 gi_Terrain b0.Rules.Terrains, sl 6 gi_Kind b0.Rules.Kinds, I b0.Rules.Stack, I b0.Rules.River, I b0.Rules.Road, I b0.Rules.Supply, I b0.Rules.Turns, I b0.Map.Width, I b0.Map.Height, sl 1 I b0.Map.Terrain, sl 1 I b0.Map.Rivers, sl 1 I b0.Map.Roads]]⟩, some ⟨false, true, 3, 1, [.agg [I b1, I b2, .ref 5 4 none]]⟩, some ⟨false, false, 2, l3.length, List.map gi_Attack l3⟩, some ⟨false, false, 3, l4.length, List.map goi_Battle l4⟩, some ⟨false, false, 3, l5.length, List.map goi_Battle l5⟩, some ⟨false, false, 4, l6.length, List.map gi_Unit l6⟩]⟩
  | .h3 t0 t1 b2 b3 b4 l5 l6 l7 l8 => ⟨sts 229 [(5, .ptr 0 12 0 0), (6, .ptr 1 3 0 0), (7, .ref 2 2 none), (8, .ref 3 3 none), (10, .ref 4 3 none), (130, .ref 3 3 none), (131, I t0), (132, I t1)], [some ⟨false, true, 12, 1, [.agg [sl 5 gi_Terrain b2.Rules.Terrains, sl 6 gi_Kind b2.Rules.Kinds, I b2.Rules.Stack, I b2.Rules.River, I b2.Rules.Road, I b2.Rules.Supply, I b2.Rules.Turns, I b2.Map.Width, I b2.Map.Height, sl 1 I b2.Map.Terrain, sl 1 I b2.Map.Rivers, sl 1 I b2.Map.Roads]]⟩, some ⟨false, true, 3, 1, [.agg [I b3, I b4, .ref 5 4 none]]⟩, some ⟨false, false, 2, l5.length, List.map gi_Attack l5⟩, some ⟨false, false, 3, l6.length, List.map goi_Battle l6⟩, some ⟨false, false, 3, l7.length, List.map goi_Battle l7⟩, some ⟨false, false, 4, l8.length, List.map gi_Unit l8⟩]⟩
  | .h4 t0 t1 t2 t3 t4 b5 b6 b7 l8 l9 l10 b11 l12 => ⟨sts 229 [(5, .ptr 0 12 0 0), (6, .ptr 1 3 0 0), (7, .ref 2 2 none), (8, .ref 3 3 none), (10, .ref 4 3 none), (23, .ptr 5 3 0 0), (130, .ref 3 3 none), (131, I t0), (132, I t1), (198, sl 1 I t2), (199, I t3), (200, I t4)], [some ⟨false, true, 12, 1, [.agg [sl 5 gi_Terrain b5.Rules.Terrains, sl 6 gi_Kind b5.Rules.Kinds, I b5.Rules.Stack, I b5.Rules.River, I b5.Rules.Road, I b5.Rules.Supply, I b5.Rules.Turns, I b5.Map.Width, I b5.Map.Height, sl 1 I b5.Map.Terrain, sl 1 I b5.Map.Rivers, sl 1 I b5.Map.Roads]]⟩, some ⟨false, true, 3, 1, [.agg [I b6, I b7, .ref 6 4 none]]⟩, some ⟨false, false, 2, l8.length, List.map gi_Attack l8⟩, some ⟨true, false, 3, l9.length, List.map gi_Battle l9⟩, some ⟨true, false, 3, l10.length, List.map gi_Battle l10⟩, some ⟨false, true, 3, 1, [.agg [I b11.At, sl 1 I b11.Attackers, sl 1 I b11.Defenders]]⟩, some ⟨false, false, 4, l12.length, List.map gi_Unit l12⟩]⟩
  | .h5 t0 t1 t2 t3 t4 t5 t6 t7 t8 b9 b10 b11 l12 l13 l14 b15 l16 => ⟨sts 229 [(5, .ptr 0 12 0 0), (6, .ptr 1 3 0 0), (7, .ref 2 2 none), (8, .ref 3 3 none), (10, .ref 4 3 none), (23, .ptr 5 3 0 0), (27, I t0), (28, .bool t1), (130, .ref 3 3 none), (131, I t2), (132, I t3), (198, sl 1 I t4), (199, I t5), (200, I t6), (204, .ref 2 2 none), (205, I t7), (206, I t8)], [some ⟨false, true, 12, 1, [.agg [sl 5 gi_Terrain b9.Rules.Terrains, sl 6 gi_Kind b9.Rules.Kinds, I b9.Rules.Stack, I b9.Rules.River, I b9.Rules.Road, I b9.Rules.Supply, I b9.Rules.Turns, I b9.Map.Width, I b9.Map.Height, sl 1 I b9.Map.Terrain, sl 1 I b9.Map.Rivers, sl 1 I b9.Map.Roads]]⟩, some ⟨false, true, 3, 1, [.agg [I b10, I b11, .ref 6 4 none]]⟩, some ⟨false, false, 2, l12.length, List.map gi_Attack l12⟩, some ⟨true, false, 3, l13.length, List.map gi_Battle l13⟩, some ⟨true, false, 3, l14.length, List.map gi_Battle l14⟩, some ⟨false, true, 3, 1, [.agg [I b15.At, sl 1 I b15.Attackers, sl 1 I b15.Defenders]]⟩, some ⟨false, false, 4, l16.length, List.map gi_Unit l16⟩]⟩
  | .h6 t0 t1 b2 b3 b4 l5 l6 l7 l8 => ⟨sts 229 [(5, .ptr 0 12 0 0), (6, .ptr 1 3 0 0), (7, .ref 2 2 none), (8, .ref 3 3 none), (10, .ref 4 3 none), (130, .ref 3 3 none), (131, I t0), (132, I t1)], [some ⟨false, true, 12, 1, [.agg [sl 5 gi_Terrain b2.Rules.Terrains, sl 6 gi_Kind b2.Rules.Kinds, I b2.Rules.Stack, I b2.Rules.River, I b2.Rules.Road, I b2.Rules.Supply, I b2.Rules.Turns, I b2.Map.Width, I b2.Map.Height, sl 1 I b2.Map.Terrain, sl 1 I b2.Map.Rivers, sl 1 I b2.Map.Roads]]⟩, some ⟨false, true, 3, 1, [.agg [I b3, I b4, .ref 5 4 none]]⟩, some ⟨false, false, 2, l5.length, List.map gi_Attack l5⟩, some ⟨true, false, 3, l6.length, List.map gi_Battle l6⟩, some ⟨true, false, 3, l7.length, List.map gi_Battle l7⟩, some ⟨false, false, 4, l8.length, List.map gi_Unit l8⟩]⟩
abbrev Qw_FnBattles := Nx X 6 0 Kw_FnBattles Zw_FnBattles RB (fun _ => [])
theorem nw_FnBattles : ∀ s o, Bw_FnBattles s = some o → Qw_FnBattles (Kw_FnBattles s) (Zw_FnBattles s) o
  | .h1 t0 t1 t2 t3 b4 b5 b6 l7 l8 l9 b10 b11 b12 l13 l14 l15, o, H =>
    eIf H (fun h1 H =>
      eCk H fun h2 H =>
      eBind H fun x3 hx3 H =>
      eCk H fun h4 H =>
      eBind H fun x5 hx5 H =>
      eCk H fun h6 H =>
      eBind H fun x7 hx7 H =>
      eCk H fun h8 H =>
      eBind H fun x9 hx9 H =>
      eN H fun r hn => gO [rg [hT 0], rg [hE 1 (I x3)], rg [hE 9 (gi_Unit x5), hE 12 (gi_Kind x7), hE 18 (gi_Unit x9)], r0, .canon [0, 1, 2, 3, 4, 5, 6, 7, 8, 9] [5, 6, 7, 8, 10, 12, 13, 15, 19, 99, 100, 101]] (by kernel_rfl) (P2 ((decide (t3 < t2)) = true) (decide_eq_true h1) <| P1 h2 <| P1 (int_lt_of_at h2 hx3) <| P1 (at_map I hx3) <| P1 h4 <| P1 (int_lt_of_at h4 hx5) <| P1 (at_map gi_Unit hx5) <| P1 h6 <| P1 (int_lt_of_at h6 hx7) <| P1 (at_map gi_Kind hx7) <| P1 h8 <| P1 (int_lt_of_at h8 hx9) <| P1 (at_map gi_Unit hx9) <| P0) hn)
    (fun h1 H =>
      gN [rg [hF 0]] (by kernel_rfl) (P2 ((decide (t3 < t2)) = false) (decide_eq_false h1) <| P0) <|
      eIf H (fun h2 H =>
        eN H <| gE func6 [rg [hT 2], r0] (by kernel_rfl) (P2 ((decide (t0 > t1)) = true) (decide_eq_true h2) <| P0))
      (fun h2 H =>
        eN H fun r hn => gO [rg [hF 2], .canon [0, 1, 2, 3, 4, 8] [5, 6, 7, 8, 10]] (by kernel_rfl) (P2 ((decide (t0 > t1)) = false) (decide_eq_false h2) <| P0) hn))
  | .h2 b0 b1 b2 l3 l4 l5 l6, o, H =>
    eN H fun r hn => gO [r0, .canon [0, 1, 2, 3, 4, 5] [5, 6, 7, 8, 10, 130, 131, 132]] (by kernel_rfl) P0 hn
  | .h3 t0 t1 b2 b3 b4 l5 l6 l7 l8, o, H =>
    eIf H (fun h1 H =>
      eCk H fun h2 H =>
      eBind H fun x3 hx3 H =>
      eBind H fun r4 hr4 H =>
      gN [rg [hT 0], .frz 3, .er 3 (List.map gi_Battle l6), rg [hE 2 (gi_Battle x3)]] (by kernel_rfl) (P2 ((decide (t1 < t0)) = true) (decide_eq_true h1) <| P2 (erL (List.map goi_Battle l6) = erL (List.map gi_Battle l6)) (erL_map2 ero_71 l6) <| P1 h2 <| P1 (int_lt_of_at h2 hx3) <| P1 (at_map gi_Battle hx3) <| P0) <|
      eIf H (fun h5 H =>
        eIf H (fun h6 H =>
          eCk H fun h7 H =>
          eBind H fun x8 hx8 H =>
          gN [rg [hC 3 false [] (Ri_IsBattle r4) [], hT 5, hT 6], .frz 4, .er 4 (List.map gi_Battle l7)] (by kernel_rfl) (P1 (ci_IsBattle hr4) <| P2 (r4.1 = true) (h5) <| P2 (r4.2 = true) (h6) <| P2 (erL (List.map goi_Battle l7) = erL (List.map gi_Battle l7)) (erL_map2 ero_71 l7) <| P0) <|
          eIf H (fun h9 H =>
            eCk H fun h10 H =>
            eBind H fun x11 hx11 H =>
            eBind H fun r12 hr12 H =>
            eIf H (fun h13 H =>
              eCk H fun h14 H =>
              eBind H fun x15 hx15 H =>
              eBind H fun r16 hr16 H =>
              eIf H (fun h17 H =>
                eIf H (fun h18 H =>
                  eCk H fun h19 H =>
                  eBind H fun x20 hx20 H =>
                  eIf H (fun h21 H =>
                    eN H <| gE func6 [rg [hE 13 (gi_Battle x8), hF 14, hE 23 (gi_Battle x11), { i := 24, call := some { cl := true, auto := true, ins := [], res := (RB r12), G' := [] }, dec := some true }, hE 34 (gi_Battle x15), { i := 35, call := some { cl := true, auto := true, ins := [], res := (RB r16), G' := [] }, dec := some true }, hT 40, hE 47 (gi_Battle x20), hT 50], r0] (by kernel_rfl) (P1 h7 <| P1 (int_lt_of_at h7 hx8) <| P1 (at_map gi_Battle hx8) <| P2 (((x3.At : Int) != x8.At) = false) (bneF h9) <| P1 h10 <| P1 (int_lt_of_at h10 hx11) <| P1 (at_map gi_Battle hx11) <| P1 (cw_qInts hr12) <| P2 (r12 = true) (h13) <| P1 h14 <| P1 (int_lt_of_at h14 hx15) <| P1 (at_map gi_Battle hx15) <| P1 (cw_qInts hr16) <| P2 (r16 = true) (h17) <| P2 ((decide (t1 > 0)) = true) (decide_eq_true h18) <| P1 h19 <| P1 (int_lt_of_at h19 hx20) <| P1 (at_map gi_Battle hx20) <| P2 ((decide (x20.At ≥ x3.At)) = true) (decide_eq_true h21) <| P0))
                  (fun h21 H =>
                    eN H fun r hn => gO [rg [hE 13 (gi_Battle x8), hF 14, hE 23 (gi_Battle x11), { i := 24, call := some { cl := true, auto := true, ins := [], res := (RB r12), G' := [] }, dec := some true }, hE 34 (gi_Battle x15), { i := 35, call := some { cl := true, auto := true, ins := [], res := (RB r16), G' := [] }, dec := some true }, hT 40, hE 47 (gi_Battle x20), hF 50], r0, .canon [0, 1, 2, 3, 4, 6, 5] [5, 6, 7, 8, 10, 23, 130, 131, 132, 198, 199, 200]] (by kernel_rfl) (P1 h7 <| P1 (int_lt_of_at h7 hx8) <| P1 (at_map gi_Battle hx8) <| P2 (((x3.At : Int) != x8.At) = false) (bneF h9) <| P1 h10 <| P1 (int_lt_of_at h10 hx11) <| P1 (at_map gi_Battle hx11) <| P1 (cw_qInts hr12) <| P2 (r12 = true) (h13) <| P1 h14 <| P1 (int_lt_of_at h14 hx15) <| P1 (at_map gi_Battle hx15) <| P1 (cw_qInts hr16) <| P2 (r16 = true) (h17) <| P2 ((decide (t1 > 0)) = true) (decide_eq_true h18) <| P1 h19 <| P1 (int_lt_of_at h19 hx20) <| P1 (at_map gi_Battle hx20) <| P2 ((decide (x20.At ≥ x3.At)) = false) (decide_eq_false h21) <| P0) hn))
                (fun h18 H =>
                  eN H fun r hn => gO [rg [hE 13 (gi_Battle x8), hF 14, hE 23 (gi_Battle x11), { i := 24, call := some { cl := true, auto := true, ins := [], res := (RB r12), G' := [] }, dec := some true }, hE 34 (gi_Battle x15), { i := 35, call := some { cl := true, auto := true, ins := [], res := (RB r16), G' := [] }, dec := some true }, hF 40], r0, .canon [0, 1, 2, 3, 4, 6, 5] [5, 6, 7, 8, 10, 23, 130, 131, 132, 198, 199, 200]] (by kernel_rfl) (P1 h7 <| P1 (int_lt_of_at h7 hx8) <| P1 (at_map gi_Battle hx8) <| P2 (((x3.At : Int) != x8.At) = false) (bneF h9) <| P1 h10 <| P1 (int_lt_of_at h10 hx11) <| P1 (at_map gi_Battle hx11) <| P1 (cw_qInts hr12) <| P2 (r12 = true) (h13) <| P1 h14 <| P1 (int_lt_of_at h14 hx15) <| P1 (at_map gi_Battle hx15) <| P1 (cw_qInts hr16) <| P2 (r16 = true) (h17) <| P2 ((decide (t1 > 0)) = false) (decide_eq_false h18) <| P0) hn))
              (fun h17 H =>
                eN H <| gE func6 [rg [hE 13 (gi_Battle x8), hF 14, hE 23 (gi_Battle x11), { i := 24, call := some { cl := true, auto := true, ins := [], res := (RB r12), G' := [] }, dec := some true }, hE 34 (gi_Battle x15), { i := 35, call := some { cl := true, auto := true, ins := [], res := (RB r16), G' := [] }, dec := some false }], r0] (by kernel_rfl) (P1 h7 <| P1 (int_lt_of_at h7 hx8) <| P1 (at_map gi_Battle hx8) <| P2 (((x3.At : Int) != x8.At) = false) (bneF h9) <| P1 h10 <| P1 (int_lt_of_at h10 hx11) <| P1 (at_map gi_Battle hx11) <| P1 (cw_qInts hr12) <| P2 (r12 = true) (h13) <| P1 h14 <| P1 (int_lt_of_at h14 hx15) <| P1 (at_map gi_Battle hx15) <| P1 (cw_qInts hr16) <| P2 (r16 = false) (eqF h17) <| P0)))
            (fun h13 H =>
              eN H <| gE func6 [rg [hE 13 (gi_Battle x8), hF 14, hE 23 (gi_Battle x11), { i := 24, call := some { cl := true, auto := true, ins := [], res := (RB r12), G' := [] }, dec := some false }], r0] (by kernel_rfl) (P1 h7 <| P1 (int_lt_of_at h7 hx8) <| P1 (at_map gi_Battle hx8) <| P2 (((x3.At : Int) != x8.At) = false) (bneF h9) <| P1 h10 <| P1 (int_lt_of_at h10 hx11) <| P1 (at_map gi_Battle hx11) <| P1 (cw_qInts hr12) <| P2 (r12 = false) (eqF h13) <| P0)))
          (fun h9 H =>
            eN H <| gE func6 [rg [hE 13 (gi_Battle x8), hT 14], r0] (by kernel_rfl) (P1 h7 <| P1 (int_lt_of_at h7 hx8) <| P1 (at_map gi_Battle hx8) <| P2 (((x3.At : Int) != x8.At) = true) (bneT h9) <| P0)))
        (fun h6 H =>
          eN H <| gE func6 [rg [hC 3 false [] (Ri_IsBattle r4) [], hT 5, hF 6], .frz 4, .er 4 (List.map gi_Battle l7), r0, r0] (by kernel_rfl) (P1 (ci_IsBattle hr4) <| P2 (r4.1 = true) (h5) <| P2 (r4.2 = false) (eqF h6) <| P2 (erL (List.map goi_Battle l7) = erL (List.map gi_Battle l7)) (erL_map2 ero_71 l7) <| P0)))
      (fun h5 H =>
        eIf H (fun h6 H =>
          eN H <| gE func6 [rg [hC 3 false [] (Ri_IsBattle r4) [], hF 5, hT 6], .frz 4, .er 4 (List.map gi_Battle l7), r0, r0] (by kernel_rfl) (P1 (ci_IsBattle hr4) <| P2 (r4.1 = false) (eqF h5) <| P2 (r4.2 = true) (h6) <| P2 (erL (List.map goi_Battle l7) = erL (List.map gi_Battle l7)) (erL_map2 ero_71 l7) <| P0))
        (fun h6 H =>
          eN H <| gE func6 [rg [hC 3 false [] (Ri_IsBattle r4) [], hF 5, hF 6], .frz 4, .er 4 (List.map gi_Battle l7), r0, r0] (by kernel_rfl) (P1 (ci_IsBattle hr4) <| P2 (r4.1 = false) (eqF h5) <| P2 (r4.2 = false) (eqF h6) <| P2 (erL (List.map goi_Battle l7) = erL (List.map gi_Battle l7)) (erL_map2 ero_71 l7) <| P0))))
    (fun h1 H =>
      eN H <| gE func6 [rg [hF 0], r0] (by kernel_rfl) (P2 ((decide (t1 < t0)) = false) (decide_eq_false h1) <| P0))
  | .h4 t0 t1 t2 t3 t4 b5 b6 b7 l8 l9 l10 b11 l12, o, H =>
    eIf H (fun h1 H =>
      eCk H fun h2 H =>
      eBind H fun x3 hx3 H =>
      eN H fun r hn => gO [rg [hT 0], rg [hE 1 (I x3)], r0, r0, .canon [0, 1, 2, 3, 4, 5, 6] [5, 6, 7, 8, 10, 23, 27, 28, 130, 131, 132, 198, 199, 200, 204, 205, 206]] (by kernel_rfl) (P2 ((decide (t4 < t3)) = true) (decide_eq_true h1) <| P1 h2 <| P1 (int_lt_of_at h2 hx3) <| P1 (at_map I hx3) <| P0) hn)
    (fun h1 H =>
      eN H fun r hn => gO [rg [hF 0], r0, .canon [0, 1, 2, 3, 4, 6] [5, 6, 7, 8, 10, 130, 131, 132]] (by kernel_rfl) (P2 ((decide (t4 < t3)) = false) (decide_eq_false h1) <| P0) hn)
  | .h5 t0 true t2 t3 t4 t5 t6 t7 t8 b9 b10 b11 l12 l13 l14 b15 l16, o, H =>
    eIf H (fun h1 H =>
      eCk H fun h2 H =>
      eBind H fun x3 hx3 H =>
      eN H fun r hn => gO [rg [hT 0], rg [hE 1 (gi_Attack x3)], r0, r0, .canon [0, 1, 2, 3, 4, 5, 6] [5, 6, 7, 8, 10, 23, 27, 28, 130, 131, 132, 198, 199, 200, 204, 205, 206]] (by kernel_rfl) (P2 ((decide (t8 < t7)) = true) (decide_eq_true h1) <| P1 h2 <| P1 (int_lt_of_at h2 hx3) <| P1 (at_map gi_Attack hx3) <| P0) hn)
    (fun h1 H =>
      eN H fun r hn => gO [rg [hF 0], r0, r0, .canon [0, 1, 2, 3, 4, 5, 6] [5, 6, 7, 8, 10, 23, 130, 131, 132, 198, 199, 200]] (by kernel_rfl) (P2 ((decide (t8 < t7)) = false) (decide_eq_false h1) <| P0) hn)
  | .h5 t0 false t2 t3 t4 t5 t6 t7 t8 b9 b10 b11 l12 l13 l14 b15 l16, o, H =>
    eIf H (fun h1 H =>
      eCk H fun h2 H =>
      eBind H fun x3 hx3 H =>
      gN [rg [hT 0], rg [hE 1 (gi_Attack x3)]] (by kernel_rfl) (P2 ((decide (t8 < t7)) = true) (decide_eq_true h1) <| P1 h2 <| P1 (int_lt_of_at h2 hx3) <| P1 (at_map gi_Attack hx3) <| P0) <|
      eIf H (fun h4 H =>
        eN H fun r hn => gO [rg [hT 5], r0, .canon [0, 1, 2, 3, 4, 5, 6] [5, 6, 7, 8, 10, 23, 27, 28, 130, 131, 132, 198, 199, 200, 204, 205, 206]] (by kernel_rfl) (P2 (((x3.Unit : Int) == t0) = true) (beqT h4) <| P0) hn)
      (fun h4 H =>
        eN H fun r hn => gO [rg [hF 5], r0, .canon [0, 1, 2, 3, 4, 5, 6] [5, 6, 7, 8, 10, 23, 27, 28, 130, 131, 132, 198, 199, 200, 204, 205, 206]] (by kernel_rfl) (P2 (((x3.Unit : Int) == t0) = false) (beqF h4) <| P0) hn))
    (fun h1 H =>
      eN H <| gE func6 [rg [hF 0], r0, r0] (by kernel_rfl) (P2 ((decide (t8 < t7)) = false) (decide_eq_false h1) <| P0))
  | .h6 t0 t1 b2 b3 b4 l5 l6 l7 l8, o, H =>
    eIf H (fun h1 H =>
      eCk H fun h2 H =>
      eBind H fun x3 hx3 H =>
      eBind H fun r4 hr4 H =>
      gN [rg [hT 0], rg [hE 2 (gi_Battle x3)]] (by kernel_rfl) (P2 ((decide (t1 < t0)) = true) (decide_eq_true h1) <| P1 h2 <| P1 (int_lt_of_at h2 hx3) <| P1 (at_map gi_Battle hx3) <| P0) <|
      eIf H (fun h5 H =>
        eIf H (fun h6 H =>
          eCk H fun h7 H =>
          eBind H fun x8 hx8 H =>
          gN [rg [hC 3 false [] (Ri_IsBattle r4) [], hT 5, hT 6]] (by kernel_rfl) (P1 (ci_IsBattle hr4) <| P2 (r4.1 = true) (h5) <| P2 (r4.2 = true) (h6) <| P0) <|
          eIf H (fun h9 H =>
            eCk H fun h10 H =>
            eBind H fun x11 hx11 H =>
            eBind H fun r12 hr12 H =>
            eIf H (fun h13 H =>
              eCk H fun h14 H =>
              eBind H fun x15 hx15 H =>
              eBind H fun r16 hr16 H =>
              eIf H (fun h17 H =>
                eIf H (fun h18 H =>
                  eCk H fun h19 H =>
                  eBind H fun x20 hx20 H =>
                  eIf H (fun h21 H =>
                    eN H <| gE func6 [rg [hE 13 (gi_Battle x8), hF 14, hE 23 (gi_Battle x11), { i := 24, call := some { cl := true, auto := true, ins := [], res := (RB r12), G' := [] }, dec := some true }, hE 34 (gi_Battle x15), { i := 35, call := some { cl := true, auto := true, ins := [], res := (RB r16), G' := [] }, dec := some true }, hT 40, hE 47 (gi_Battle x20), hT 50], r0] (by kernel_rfl) (P1 h7 <| P1 (int_lt_of_at h7 hx8) <| P1 (at_map gi_Battle hx8) <| P2 (((x3.At : Int) != x8.At) = false) (bneF h9) <| P1 h10 <| P1 (int_lt_of_at h10 hx11) <| P1 (at_map gi_Battle hx11) <| P1 (cw_qInts hr12) <| P2 (r12 = true) (h13) <| P1 h14 <| P1 (int_lt_of_at h14 hx15) <| P1 (at_map gi_Battle hx15) <| P1 (cw_qInts hr16) <| P2 (r16 = true) (h17) <| P2 ((decide (t1 > 0)) = true) (decide_eq_true h18) <| P1 h19 <| P1 (int_lt_of_at h19 hx20) <| P1 (at_map gi_Battle hx20) <| P2 ((decide (x20.At ≥ x3.At)) = true) (decide_eq_true h21) <| P0))
                  (fun h21 H =>
                    eN H fun r hn => gO [rg [hE 13 (gi_Battle x8), hF 14, hE 23 (gi_Battle x11), { i := 24, call := some { cl := true, auto := true, ins := [], res := (RB r12), G' := [] }, dec := some true }, hE 34 (gi_Battle x15), { i := 35, call := some { cl := true, auto := true, ins := [], res := (RB r16), G' := [] }, dec := some true }, hT 40, hE 47 (gi_Battle x20), hF 50], r0, .canon [0, 1, 2, 3, 4, 6, 5] [5, 6, 7, 8, 10, 23, 130, 131, 132, 198, 199, 200]] (by kernel_rfl) (P1 h7 <| P1 (int_lt_of_at h7 hx8) <| P1 (at_map gi_Battle hx8) <| P2 (((x3.At : Int) != x8.At) = false) (bneF h9) <| P1 h10 <| P1 (int_lt_of_at h10 hx11) <| P1 (at_map gi_Battle hx11) <| P1 (cw_qInts hr12) <| P2 (r12 = true) (h13) <| P1 h14 <| P1 (int_lt_of_at h14 hx15) <| P1 (at_map gi_Battle hx15) <| P1 (cw_qInts hr16) <| P2 (r16 = true) (h17) <| P2 ((decide (t1 > 0)) = true) (decide_eq_true h18) <| P1 h19 <| P1 (int_lt_of_at h19 hx20) <| P1 (at_map gi_Battle hx20) <| P2 ((decide (x20.At ≥ x3.At)) = false) (decide_eq_false h21) <| P0) hn))
                (fun h18 H =>
                  eN H fun r hn => gO [rg [hE 13 (gi_Battle x8), hF 14, hE 23 (gi_Battle x11), { i := 24, call := some { cl := true, auto := true, ins := [], res := (RB r12), G' := [] }, dec := some true }, hE 34 (gi_Battle x15), { i := 35, call := some { cl := true, auto := true, ins := [], res := (RB r16), G' := [] }, dec := some true }, hF 40], r0, .canon [0, 1, 2, 3, 4, 6, 5] [5, 6, 7, 8, 10, 23, 130, 131, 132, 198, 199, 200]] (by kernel_rfl) (P1 h7 <| P1 (int_lt_of_at h7 hx8) <| P1 (at_map gi_Battle hx8) <| P2 (((x3.At : Int) != x8.At) = false) (bneF h9) <| P1 h10 <| P1 (int_lt_of_at h10 hx11) <| P1 (at_map gi_Battle hx11) <| P1 (cw_qInts hr12) <| P2 (r12 = true) (h13) <| P1 h14 <| P1 (int_lt_of_at h14 hx15) <| P1 (at_map gi_Battle hx15) <| P1 (cw_qInts hr16) <| P2 (r16 = true) (h17) <| P2 ((decide (t1 > 0)) = false) (decide_eq_false h18) <| P0) hn))
              (fun h17 H =>
                eN H <| gE func6 [rg [hE 13 (gi_Battle x8), hF 14, hE 23 (gi_Battle x11), { i := 24, call := some { cl := true, auto := true, ins := [], res := (RB r12), G' := [] }, dec := some true }, hE 34 (gi_Battle x15), { i := 35, call := some { cl := true, auto := true, ins := [], res := (RB r16), G' := [] }, dec := some false }], r0] (by kernel_rfl) (P1 h7 <| P1 (int_lt_of_at h7 hx8) <| P1 (at_map gi_Battle hx8) <| P2 (((x3.At : Int) != x8.At) = false) (bneF h9) <| P1 h10 <| P1 (int_lt_of_at h10 hx11) <| P1 (at_map gi_Battle hx11) <| P1 (cw_qInts hr12) <| P2 (r12 = true) (h13) <| P1 h14 <| P1 (int_lt_of_at h14 hx15) <| P1 (at_map gi_Battle hx15) <| P1 (cw_qInts hr16) <| P2 (r16 = false) (eqF h17) <| P0)))
            (fun h13 H =>
              eN H <| gE func6 [rg [hE 13 (gi_Battle x8), hF 14, hE 23 (gi_Battle x11), { i := 24, call := some { cl := true, auto := true, ins := [], res := (RB r12), G' := [] }, dec := some false }], r0] (by kernel_rfl) (P1 h7 <| P1 (int_lt_of_at h7 hx8) <| P1 (at_map gi_Battle hx8) <| P2 (((x3.At : Int) != x8.At) = false) (bneF h9) <| P1 h10 <| P1 (int_lt_of_at h10 hx11) <| P1 (at_map gi_Battle hx11) <| P1 (cw_qInts hr12) <| P2 (r12 = false) (eqF h13) <| P0)))
          (fun h9 H =>
            eN H <| gE func6 [rg [hE 13 (gi_Battle x8), hT 14], r0] (by kernel_rfl) (P1 h7 <| P1 (int_lt_of_at h7 hx8) <| P1 (at_map gi_Battle hx8) <| P2 (((x3.At : Int) != x8.At) = true) (bneT h9) <| P0)))
        (fun h6 H =>
          eN H <| gE func6 [rg [hC 3 false [] (Ri_IsBattle r4) [], hT 5, hF 6], r0, r0] (by kernel_rfl) (P1 (ci_IsBattle hr4) <| P2 (r4.1 = true) (h5) <| P2 (r4.2 = false) (eqF h6) <| P0)))
      (fun h5 H =>
        eIf H (fun h6 H =>
          eN H <| gE func6 [rg [hC 3 false [] (Ri_IsBattle r4) [], hF 5, hT 6], r0, r0] (by kernel_rfl) (P1 (ci_IsBattle hr4) <| P2 (r4.1 = false) (eqF h5) <| P2 (r4.2 = true) (h6) <| P0))
        (fun h6 H =>
          eN H <| gE func6 [rg [hC 3 false [] (Ri_IsBattle r4) [], hF 5, hF 6], r0, r0] (by kernel_rfl) (P1 (ci_IsBattle hr4) <| P2 (r4.1 = false) (eqF h5) <| P2 (r4.2 = false) (eqF h6) <| P0))))
    (fun h1 H =>
      eN H <| gE func6 [rg [hF 0], r0] (by kernel_rfl) (P2 ((decide (t1 < t0)) = false) (decide_eq_false h1) <| P0))
theorem ww_FnBattles : ∀ s r, loop Bw_FnBattles s = some r → Wc X 6 0 (Kw_FnBattles s) (Zw_FnBattles s) (RB r) ((fun _ => []) r) := Nx.all nw_FnBattles
theorem cw_FnBattles {a0 : (List Int)} {a1 : (List Int)} {r : Bool} (H : Dw_FnBattles a0 a1 = some r) : Ct X.P X.gl 6 [sl 1 (D.int .u8) a0, sl 1 (D.int .u8) a1] [] (RB r) [] :=
  Ct.of func6 (c := bdy f6) (by kernel_rfl) (by kernel_rfl) <|
  gS [r0] (by kernel_rfl) P0 <|
  eIf H (fun h1 H =>
    eW RB (fun _ => []) H <| gE func6 [rg [hT 5], r0] (by kernel_rfl) (P2 ((decide ((IntKind.wrap .i64 (((a0.length : Nat) : Int) + ((a1.length : Nat) : Int))) > 1048576)) = true) (decide_eq_true h1) <| P0))
  (fun h1 H =>
    eBind H fun r2 hr2 H =>
    eBind H fun r3 hr3 H =>
    eBind H fun r4 hr4 H =>
    eBind H fun r5 hr5 H =>
    eBind H fun r6 hr6 H =>
    gS [rg [hF 5], rg [hC 1 true [] (Rs_DrawBattlesOf r2) []], rg [hC 3 false [] (Ri_BattlesOf r3) []], rg [hC 3 false [] (Rs_BattlesOf r4) []], rg [hC 1 true [] (Rs_DrawAttackStrength r5) []]] (by kernel_rfl) (P2 ((decide ((IntKind.wrap .i64 (((a0.length : Nat) : Int) + ((a1.length : Nat) : Int))) > 1048576)) = false) (decide_eq_false h1) <| P1 (cs_DrawBattlesOf hr2) <| P2 (nfL (List.flatMap D.cells (Ri_BattlesOf r3))) ⟨nfL_map nfo_71 _, trivial, trivial⟩ <| P2 (nfG []) trivial <| P1 (ci_BattlesOf hr3) <| P2 (nfL (List.flatMap D.cells (Rs_BattlesOf r4))) ⟨nfL_map nfo_71 _, trivial, trivial⟩ <| P2 (nfG []) trivial <| P1 (cs_BattlesOf hr4) <| P1 (cs_DrawAttackStrength hr5) <| P0) <|
    eIf H (fun h7 H =>
      eBind H fun r8 hr8 H =>
      gS [rg [hC 3 false [] (Ri_AttackStrength r6) [], hT 6], rg [hC 3 false [] (Rs_AttackStrength r8) []]] (by kernel_rfl) (P1 (ci_AttackStrength hr6) <| P2 (r6.2 = true) (h7) <| P1 (cs_AttackStrength hr8) <| P0) <|
      eIf H (fun h9 H =>
        eW RB (fun _ => []) H <| gE func6 [rg [hT 2], r0] (by kernel_rfl) (P2 ((!(r3.2 == r4.2)) = true) (h9) <| P0))
      (fun h9 H =>
        eIf H (fun h10 H =>
          eIf H (fun h11 H =>
            eW RB (fun _ => []) H <| gE func6 [rg [hF 2, hF 8, hT 13], r0] (by kernel_rfl) (P2 ((!(r3.2 == r4.2)) = false) (eqF h9) <| P2 (((((r3.1.length : Nat) : Int) : Int) != ((r4.1.length : Nat) : Int)) = false) (bneF h10) <| P2 ((!(true == r8.2)) = true) (h11) <| P0))
          (fun h11 H =>
            eIf H (fun h12 H =>
              gO [rg [hF 2, hF 8, hF 13, hF 18], r0, r0, r0, .canon [16, 17, 15, 18, 19, 38, 39, 36, 14, 34] [5, 6, 7, 8, 10, 12, 13, 15, 19, 99, 100, 101]] (by kernel_rfl) (P2 ((!(r3.2 == r4.2)) = false) (eqF h9) <| P2 (((((r3.1.length : Nat) : Int) : Int) != ((r4.1.length : Nat) : Int)) = false) (bneF h10) <| P2 ((!(true == r8.2)) = false) (eqF h11) <| P2 (((r6.1 : Int) != r8.1) = false) (bneF h12) <| P0) (ww_FnBattles _ _ H))
            (fun h12 H =>
              eW RB (fun _ => []) H <| gE func6 [rg [hF 2, hF 8, hF 13, hT 18], r0] (by kernel_rfl) (P2 ((!(r3.2 == r4.2)) = false) (eqF h9) <| P2 (((((r3.1.length : Nat) : Int) : Int) != ((r4.1.length : Nat) : Int)) = false) (bneF h10) <| P2 ((!(true == r8.2)) = false) (eqF h11) <| P2 (((r6.1 : Int) != r8.1) = true) (bneT h12) <| P0))))
        (fun h10 H =>
          eW RB (fun _ => []) H <| gE func6 [rg [hF 2, hT 8], r0] (by kernel_rfl) (P2 ((!(r3.2 == r4.2)) = false) (eqF h9) <| P2 (((((r3.1.length : Nat) : Int) : Int) != ((r4.1.length : Nat) : Int)) = true) (bneT h10) <| P0))))
    (fun h7 H =>
      eBind H fun r8 hr8 H =>
      gS [rg [hC 3 false [] (Ri_AttackStrength r6) [], hF 6], rg [hC 3 false [] (Rs_AttackStrength r8) []]] (by kernel_rfl) (P1 (ci_AttackStrength hr6) <| P2 (r6.2 = false) (eqF h7) <| P1 (cs_AttackStrength hr8) <| P0) <|
      eIf H (fun h9 H =>
        eW RB (fun _ => []) H <| gE func6 [rg [hT 2], r0] (by kernel_rfl) (P2 ((!(r3.2 == r4.2)) = true) (h9) <| P0))
      (fun h9 H =>
        eIf H (fun h10 H =>
          eIf H (fun h11 H =>
            eW RB (fun _ => []) H <| gE func6 [rg [hF 2, hF 8, hT 13], r0] (by kernel_rfl) (P2 ((!(r3.2 == r4.2)) = false) (eqF h9) <| P2 (((((r3.1.length : Nat) : Int) : Int) != ((r4.1.length : Nat) : Int)) = false) (bneF h10) <| P2 ((!(false == r8.2)) = true) (h11) <| P0))
          (fun h11 H =>
            eIf H (fun h12 H =>
              gO [rg [hF 2, hF 8, hF 13, hF 18], r0, .canon [16, 17, 15, 18, 19, 14] [5, 6, 7, 8, 10]] (by kernel_rfl) (P2 ((!(r3.2 == r4.2)) = false) (eqF h9) <| P2 (((((r3.1.length : Nat) : Int) : Int) != ((r4.1.length : Nat) : Int)) = false) (bneF h10) <| P2 ((!(false == r8.2)) = false) (eqF h11) <| P2 (((r6.1 : Int) != r8.1) = false) (bneF h12) <| P0) (ww_FnBattles _ _ H))
            (fun h12 H =>
              eW RB (fun _ => []) H <| gE func6 [rg [hF 2, hF 8, hF 13, hT 18], r0] (by kernel_rfl) (P2 ((!(r3.2 == r4.2)) = false) (eqF h9) <| P2 (((((r3.1.length : Nat) : Int) : Int) != ((r4.1.length : Nat) : Int)) = false) (bneF h10) <| P2 ((!(false == r8.2)) = false) (eqF h11) <| P2 (((r6.1 : Int) != r8.1) = true) (bneT h12) <| P0))))
        (fun h10 H =>
          eW RB (fun _ => []) H <| gE func6 [rg [hF 2, hT 8], r0] (by kernel_rfl) (P2 ((!(r3.2 == r4.2)) = false) (eqF h9) <| P2 (((((r3.1.length : Nat) : Int) : Int) != ((r4.1.length : Nat) : Int)) = true) (bneT h10) <| P0)))))
end Go.Proofs.YtakcjcjfcignjaaGreatDoor.Ab
