/- Part of the proof of FnQueuesCard: no condition of its own. -/
import Derived.Test.YtcblbhjbocipbaaDoorD1QC
set_option linter.unusedVariables false
set_option linter.unusedSimpArgs false
open Go Go.Proofs Go.Proofs.Tryd
namespace Go.Proofs.YtcblbhjbocipbaaDoor.Ab
/-! loop example/g00886/spec DrawTurnsUntil -/
def Rs_DrawTurnsUntil (r : Gi_Board × Gi_Works × Int × Int) : List D := [.agg [sl 5 gi_Terrain r.1.Rules.Terrains, sl 6 gi_Kind r.1.Rules.Kinds, I r.1.Rules.Stack, I r.1.Rules.River, I r.1.Rules.Road, I r.1.Rules.Supply, I r.1.Rules.Turns, I r.1.Map.Width, I r.1.Map.Height, sl 1 I r.1.Map.Terrain, sl 1 I r.1.Map.Rivers, sl 1 I r.1.Map.Roads], .agg [I r.2.1.Side, I r.2.1.At, I r.2.1.Points, ow 1 I r.2.1.Queue], I r.2.2.1, I r.2.2.2]
theorem cs_DrawTurnsUntil {a0 : (List Int)} {r : Gi_Board × Gi_Works × Int × Int} (H : Ds_DrawTurnsUntil a0 = some r) : Ct X.P X.gl 7 [sl 1 (D.int .u8) a0] [] (Rs_DrawTurnsUntil r) [] :=
  Ct.of func7 (c := bdy f7) (by kernel_rfl) (by kernel_rfl) <|
  eBind H fun r1 hr1 H =>
  eBind H fun r2 hr2 H =>
  eBind H fun r3 hr3 H =>
  eBind H fun r4 hr4 H =>
  eBind H fun r5 hr5 H =>
  eW Rs_DrawTurnsUntil (fun _ => []) H <| gE func7 [r0, r0, rg [hC 1 true [2] (Rs_l1Cur_anyBoard r1) (Ns_l1Cur_anyBoard r1)], rg [{ i := 3, frz := [3, 4, 12, 13, 14], call := some { cl := true, ins := [2], args := [.ptr 0 3 0 0, .agg [sl 5 gi_Terrain r1.1.Rules.Terrains, sl 6 gi_Kind r1.1.Rules.Kinds, I r1.1.Rules.Stack, I r1.1.Rules.River, I r1.1.Rules.Road, I r1.1.Rules.Supply, I r1.1.Rules.Turns, I r1.1.Map.Width, I r1.1.Map.Height, sl 1 I r1.1.Map.Terrain, sl 1 I r1.1.Map.Rivers, sl 1 I r1.1.Map.Roads]], res := Rs_l1Cur_works r2, G' := Ns_l1Cur_works r2 }, post := [.er 3 (List.map gi_Terrain r1.1.Rules.Terrains)], xtra := [3] }, hC 5 true [2] (Rs_l1Cur_pick r3) (Ns_l1Cur_pick r3), hC 7 true [2] (Rs_l1Cur_pick r4) (Ns_l1Cur_pick r4), hC 11 true [2] (Rs_l1Cur_income r5) (Ns_l1Cur_income r5)]] (by kernel_rfl) (PI (1 : Nat) <| P1 (cs_l1Cur_anyBoard hr1) <| PI (0 : Nat) <| PI (0 : Nat) <| PE ero_79 r1.1.Rules.Terrains <| PL gi_Kind r1.1.Rules.Kinds <| PI (r1.1.Rules.Stack : Int) <| PI (r1.1.Rules.River : Int) <| PI (r1.1.Rules.Road : Int) <| PI (r1.1.Rules.Supply : Int) <| PI (r1.1.Rules.Turns : Int) <| PI (r1.1.Map.Width : Int) <| PI (r1.1.Map.Height : Int) <| PL I r1.1.Map.Terrain <| PL I r1.1.Map.Rivers <| PL I r1.1.Map.Roads <| PI (1 : Nat) <| P1 (cs_l1Cur_works hr2) <| P2 (erL (List.map goi_Terrain r1.1.Rules.Terrains) = erL (List.map gi_Terrain r1.1.Rules.Terrains)) (erL_map2 ero_79 r1.1.Rules.Terrains) <| PI (1 : Nat) <| P1 (cs_l1Cur_pick hr3) <| PI (1 : Nat) <| P1 (cs_l1Cur_pick hr4) <| P2 (¬ (7 : Int) = 0) (by decide) <| PI (1 : Nat) <| P1 (cs_l1Cur_income hr5) <| P0)
/-! loop example/g00886/impl isIncome -/
theorem ci_isIncome {a0 : Int} {r : Bool} (H : Di_isIncome a0 = some r) : Ct X.P X.gl 27 [I a0] [] (RB r) [] :=
  Ct.of func27 (c := bdy f27) (by kernel_rfl) (by kernel_rfl) <|
  eBind H fun r1 hr1 H =>
  eW RB (fun _ => []) H <| gE func27 [r0, rg [hC 1 true [] (RB r1) []]] (by kernel_rfl) (P1 (ci_inRange hr1) <| P0)
/-! loop example/g00886/impl kindPrice -/
theorem ci_kindPrice {a0 : Gi_Board} {a1 : Int} {r : Int} (H : Di_kindPrice a0 a1 = some r) : Ct X.P X.gl 35 [.agg [sl 5 gi_Terrain a0.Rules.Terrains, sl 6 gi_Kind a0.Rules.Kinds, I a0.Rules.Stack, I a0.Rules.River, I a0.Rules.Road, I a0.Rules.Supply, I a0.Rules.Turns, I a0.Map.Width, I a0.Map.Height, sl 1 I a0.Map.Terrain, sl 1 I a0.Map.Rivers, sl 1 I a0.Map.Roads], I a1] [] (RI r) [] :=
  Ct.of func35 (c := bdy f35) (by kernel_rfl) (by kernel_rfl) <|
  eCk H fun h1 H =>
  eBind H fun x2 hx2 H =>
  eCk H fun h3 H =>
  eBind H fun x4 hx4 H =>
  eW RI (fun _ => []) H <| gE func35 [r0, rg [hE 6 (gi_Kind x2), hE 13 (gi_Kind x4)]] (by kernel_rfl) (P1 h1 <| P1 (int_lt_of_at h1 hx2) <| P1 (at_map gi_Kind hx2) <| P1 h3 <| P1 (int_lt_of_at h3 hx4) <| P1 (at_map gi_Kind hx4) <| P0)
/-! loop example/g00886/impl pricesOf -/
noncomputable def Ki_pricesOf : Si_pricesOf → List Item
  | .h1 .. => nav 300 3 [] [.code (bdy f28)]
def Zi_pricesOf : Si_pricesOf → St
  | .h1 sum0 t1 t2 t3 b4 => ⟨sts 21 [(2, .ptr 0 12 0 0), (5, I sum0), (8, sl 1 I t1), (9, I t2), (10, I t3)], [some ⟨false, true, 12, 1, [.agg [sl 5 gi_Terrain b4.Rules.Terrains, sl 6 gi_Kind b4.Rules.Kinds, I b4.Rules.Stack, I b4.Rules.River, I b4.Rules.Road, I b4.Rules.Supply, I b4.Rules.Turns, I b4.Map.Width, I b4.Map.Height, sl 1 I b4.Map.Terrain, sl 1 I b4.Map.Rivers, sl 1 I b4.Map.Roads]]⟩]⟩
abbrev Qi_pricesOf := Nx X 28 0 Ki_pricesOf Zi_pricesOf RI (fun _ => [])
theorem ni_pricesOf : ∀ s o, Bi_pricesOf s = some o → Qi_pricesOf (Ki_pricesOf s) (Zi_pricesOf s) o
  | .h1 sum0 t1 t2 t3 b4, o, H =>
    eIf H (fun h1 H =>
      eCk H fun h2 H =>
      eBind H fun x3 hx3 H =>
      eBind H fun r4 hr4 H =>
      eN H fun r hn => gO [rg [hT 0], rg [hE 1 (I x3)], rg [hC 3 true [] (RI r4) []], r0, .canon [0] [2, 5, 8, 9, 10]] (by kernel_rfl) (P2 ((decide (t3 < t2)) = true) (decide_eq_true h1) <| P1 h2 <| P1 (int_lt_of_at h2 hx3) <| P1 (at_map I hx3) <| P1 (ci_kindPrice hr4) <| P0) hn)
    (fun h1 H =>
      eN H <| gE func28 [rg [hF 0], r0] (by kernel_rfl) (P2 ((decide (t3 < t2)) = false) (decide_eq_false h1) <| P0))
theorem wi_pricesOf : ∀ s r, loop Bi_pricesOf s = some r → Wc X 28 0 (Ki_pricesOf s) (Zi_pricesOf s) (RI r) ((fun _ => []) r) := Nx.all (ni_pricesOf)
theorem ci_pricesOf {a0 : Gi_Board} {a1 : (List Int)} {r : Int} (H : Di_pricesOf a0 a1 = some r) : Ct X.P X.gl 28 [.agg [sl 5 gi_Terrain a0.Rules.Terrains, sl 6 gi_Kind a0.Rules.Kinds, I a0.Rules.Stack, I a0.Rules.River, I a0.Rules.Road, I a0.Rules.Supply, I a0.Rules.Turns, I a0.Map.Width, I a0.Map.Height, sl 1 I a0.Map.Terrain, sl 1 I a0.Map.Rivers, sl 1 I a0.Map.Roads], sl 1 I a1] [] (RI r) [] :=
  Ct.of func28 (c := bdy f28) (by kernel_rfl) (by kernel_rfl) <|
  gO [r0, r0, r0, .canon [0] [2, 5, 8, 9, 10]] (by kernel_rfl) P0 (wi_pricesOf _ _ H)
/-! loop example/g00886/impl TurnsUntil -/
def Ri_TurnsUntil (r : Int × Bool) : List D := [I r.1, .bool r.2]
theorem ci_TurnsUntil {a0 : Gi_Board} {a1 : Gi_Works} {a2 : Int} {a3 : Int} {r : Int × Bool} (H : Di_TurnsUntil a0 a1 a2 a3 = some r) : Ct X.P X.gl 8 [.agg [sl 5 gi_Terrain a0.Rules.Terrains, sl 6 gi_Kind a0.Rules.Kinds, I a0.Rules.Stack, I a0.Rules.River, I a0.Rules.Road, I a0.Rules.Supply, I a0.Rules.Turns, I a0.Map.Width, I a0.Map.Height, sl 1 I a0.Map.Terrain, sl 1 I a0.Map.Rivers, sl 1 I a0.Map.Roads], .agg [I a1.Side, I a1.At, I a1.Points, sl 1 I a1.Queue], I a2, I a3] [] (Ri_TurnsUntil r) [] :=
  Ct.of func8 (c := bdy f8) (by kernel_rfl) (by kernel_rfl) <|
  eBind H fun r1 hr1 H =>
  gS [r0] (by kernel_rfl) P0 <|
  eIf H (fun h2 H =>
    eBind H fun r3 hr3 H =>
    eIf H (fun h4 H =>
      eBind H fun r5 hr5 H =>
      eIf H (fun h6 H =>
        eCk H fun h7 H =>
        eCk H fun h8 H =>
        eBind H fun r9 hr9 H =>
        gS [rg [{ i := 2, call := some { cl := true, auto := true, ins := [], res := (RB r1), G' := [] }, dec := some true }, { i := 9, call := some { cl := true, auto := true, ins := [], res := (RB r3), G' := [] }, dec := some true }, { i := 14, call := some { cl := true, auto := true, ins := [], res := (RB r5), G' := [] }, dec := some true }], rg [hA 5 ((List.take ((Int.toNat (IntKind.wrap .i64 (a2 + 1))) - 0) (List.drop 0 a1.Queue)).length) (List.map I (List.take ((Int.toNat (IntKind.wrap .i64 (a2 + 1))) - 0) (List.drop 0 a1.Queue))), hC 6 true [] (RI r9) []]] (by kernel_rfl) (P1 (ci_hasWorks hr1) <| P2 (r1 = true) (h2) <| P1 (ci_isIndex hr3) <| P2 (r3 = true) (h4) <| P1 (ci_isIncome hr5) <| P2 (r5 = true) (h6) <| P2 ((0 : Int) ≤ (IntKind.wrap .i64 (a2 + 1))) h7 <| P2 (((IntKind.wrap .i64 (a2 + 1)) : Int) ≤ ((a1.Queue.length : Nat) : Int)) h8 <| P2 ((List.take ((Int.toNat (IntKind.wrap .i64 (a2 + 1))) - 0) (List.drop 0 a1.Queue)).length = (Int.toNat (IntKind.wrap .i64 (a2 + 1))) - 0) (by simp <;> omega) <| P2 (List.take ((Int.toNat (IntKind.wrap .i64 (a2 + 1))) - 0) (List.drop 0 (List.map I a1.Queue)) = List.map I (List.take ((Int.toNat (IntKind.wrap .i64 (a2 + 1))) - 0) (List.drop 0 a1.Queue))) (by simp [List.map_drop, List.map_take]) <| P1 (ci_pricesOf hr9) <| P0) <|
        eIf H (fun h10 H =>
          eW Ri_TurnsUntil (fun _ => []) H <| gE func8 [rg [hT 1], r0] (by kernel_rfl) (P2 ((((if 0 < (IntKind.wrap .i64 (r9 - a1.Points)) then (IntKind.wrap .i64 (r9 - a1.Points)) else 0) : Int) == 0) = true) (beqT h10) <| P0))
        (fun h10 H =>
          gS [rg [hF 1]] (by kernel_rfl) (P2 ((((if 0 < (IntKind.wrap .i64 (r9 - a1.Points)) then (IntKind.wrap .i64 (r9 - a1.Points)) else 0) : Int) == 0) = false) (beqF h10) <| P0) <|
          eIf H (fun h11 H =>
            eW Ri_TurnsUntil (fun _ => []) H <| gE func8 [rg [hT 1], r0] (by kernel_rfl) (P2 (((a3 : Int) == 0) = true) (beqT h11) <| P0))
          (fun h11 H =>
            eCk H fun h12 H =>
            eW Ri_TurnsUntil (fun _ => []) H <| gE func8 [rg [hF 1], r0] (by kernel_rfl) (P2 (((a3 : Int) == 0) = false) (beqF h11) <| P2 (¬ (a3 : Int) = 0) h12 <| P0))))
      (fun h6 H =>
        eW Ri_TurnsUntil (fun _ => []) H <| gE func8 [rg [{ i := 2, call := some { cl := true, auto := true, ins := [], res := (RB r1), G' := [] }, dec := some true }, { i := 9, call := some { cl := true, auto := true, ins := [], res := (RB r3), G' := [] }, dec := some true }, { i := 14, call := some { cl := true, auto := true, ins := [], res := (RB r5), G' := [] }, dec := some false }], r0] (by kernel_rfl) (P1 (ci_hasWorks hr1) <| P2 (r1 = true) (h2) <| P1 (ci_isIndex hr3) <| P2 (r3 = true) (h4) <| P1 (ci_isIncome hr5) <| P2 (r5 = false) (eqF h6) <| P0)))
    (fun h4 H =>
      eW Ri_TurnsUntil (fun _ => []) H <| gE func8 [rg [{ i := 2, call := some { cl := true, auto := true, ins := [], res := (RB r1), G' := [] }, dec := some true }, { i := 9, call := some { cl := true, auto := true, ins := [], res := (RB r3), G' := [] }, dec := some false }], r0] (by kernel_rfl) (P1 (ci_hasWorks hr1) <| P2 (r1 = true) (h2) <| P1 (ci_isIndex hr3) <| P2 (r3 = false) (eqF h4) <| P0)))
  (fun h2 H =>
    eW Ri_TurnsUntil (fun _ => []) H <| gE func8 [rg [{ i := 2, call := some { cl := true, auto := true, ins := [], res := (RB r1), G' := [] }, dec := some false }], r0] (by kernel_rfl) (P1 (ci_hasWorks hr1) <| P2 (r1 = false) (eqF h2) <| P0))
/-! loop example/g00886/spec pdPrice -/
theorem cs_pdPrice {a0 : Gi_Board} {a1 : Int} {r : Int} (H : Ds_pdPrice a0 a1 = some r) : Ct X.P X.gl 51 [.agg [sl 5 gi_Terrain a0.Rules.Terrains, sl 6 gi_Kind a0.Rules.Kinds, I a0.Rules.Stack, I a0.Rules.River, I a0.Rules.Road, I a0.Rules.Supply, I a0.Rules.Turns, I a0.Map.Width, I a0.Map.Height, sl 1 I a0.Map.Terrain, sl 1 I a0.Map.Rivers, sl 1 I a0.Map.Roads], I a1] [] (RI r) [] :=
  Ct.of func51 (c := bdy f51) (by kernel_rfl) (by kernel_rfl) <|
  eCk H fun h1 H =>
  eBind H fun x2 hx2 H =>
  eCk H fun h3 H =>
  eBind H fun x4 hx4 H =>
  eW RI (fun _ => []) H <| gE func51 [r0, rg [hE 6 (gi_Kind x2), hE 13 (gi_Kind x4)]] (by kernel_rfl) (P1 h1 <| P1 (int_lt_of_at h1 hx2) <| P1 (at_map gi_Kind hx2) <| P1 h3 <| P1 (int_lt_of_at h3 hx4) <| P1 (at_map gi_Kind hx4) <| P0)
/-! loop example/g00886/spec pdSum -/
noncomputable def Ks_pdSum : Ss_pdSum → List Item
  | .h1 .. => nav 300 3 [] [.code (bdy f30)]
def Zs_pdSum : Ss_pdSum → St
  | .h1 sum0 t1 t2 t3 b4 => ⟨sts 21 [(2, .ptr 0 12 0 0), (5, I sum0), (8, sl 1 I t1), (9, I t2), (10, I t3)], [some ⟨false, true, 12, 1, [.agg [sl 5 gi_Terrain b4.Rules.Terrains, sl 6 gi_Kind b4.Rules.Kinds, I b4.Rules.Stack, I b4.Rules.River, I b4.Rules.Road, I b4.Rules.Supply, I b4.Rules.Turns, I b4.Map.Width, I b4.Map.Height, sl 1 I b4.Map.Terrain, sl 1 I b4.Map.Rivers, sl 1 I b4.Map.Roads]]⟩]⟩
abbrev Qs_pdSum := Nx X 30 0 Ks_pdSum Zs_pdSum RI (fun _ => [])
theorem ns_pdSum : ∀ s o, Bs_pdSum s = some o → Qs_pdSum (Ks_pdSum s) (Zs_pdSum s) o
  | .h1 sum0 t1 t2 t3 b4, o, H =>
    eIf H (fun h1 H =>
      eCk H fun h2 H =>
      eBind H fun x3 hx3 H =>
      eBind H fun r4 hr4 H =>
      eN H fun r hn => gO [rg [hT 0], rg [hE 1 (I x3)], rg [hC 3 true [] (RI r4) []], r0, .canon [0] [2, 5, 8, 9, 10]] (by kernel_rfl) (P2 ((decide (t3 < t2)) = true) (decide_eq_true h1) <| P1 h2 <| P1 (int_lt_of_at h2 hx3) <| P1 (at_map I hx3) <| P1 (cs_pdPrice hr4) <| P0) hn)
    (fun h1 H =>
      eN H <| gE func30 [rg [hF 0], r0] (by kernel_rfl) (P2 ((decide (t3 < t2)) = false) (decide_eq_false h1) <| P0))
theorem ws_pdSum : ∀ s r, loop Bs_pdSum s = some r → Wc X 30 0 (Ks_pdSum s) (Zs_pdSum s) (RI r) ((fun _ => []) r) := Nx.all (ns_pdSum)
theorem cs_pdSum {a0 : Gi_Board} {a1 : (List Int)} {r : Int} (H : Ds_pdSum a0 a1 = some r) : Ct X.P X.gl 30 [.agg [sl 5 gi_Terrain a0.Rules.Terrains, sl 6 gi_Kind a0.Rules.Kinds, I a0.Rules.Stack, I a0.Rules.River, I a0.Rules.Road, I a0.Rules.Supply, I a0.Rules.Turns, I a0.Map.Width, I a0.Map.Height, sl 1 I a0.Map.Terrain, sl 1 I a0.Map.Rivers, sl 1 I a0.Map.Roads], sl 1 I a1] [] (RI r) [] :=
  Ct.of func30 (c := bdy f30) (by kernel_rfl) (by kernel_rfl) <|
  gO [r0, r0, r0, .canon [0] [2, 5, 8, 9, 10]] (by kernel_rfl) P0 (ws_pdSum _ _ H)
/-! loop example/g00886/spec TurnsUntil -/
def Rs_TurnsUntil (r : Int × Bool) : List D := [I r.1, .bool r.2]
theorem cs_TurnsUntil {a0 : Gi_Board} {a1 : Gi_Works} {a2 : Int} {a3 : Int} {r : Int × Bool} (H : Ds_TurnsUntil a0 a1 a2 a3 = some r) : Ct X.P X.gl 9 [.agg [sl 5 gi_Terrain a0.Rules.Terrains, sl 6 gi_Kind a0.Rules.Kinds, I a0.Rules.Stack, I a0.Rules.River, I a0.Rules.Road, I a0.Rules.Supply, I a0.Rules.Turns, I a0.Map.Width, I a0.Map.Height, sl 1 I a0.Map.Terrain, sl 1 I a0.Map.Rivers, sl 1 I a0.Map.Roads], .agg [I a1.Side, I a1.At, I a1.Points, sl 1 I a1.Queue], I a2, I a3] [] (Rs_TurnsUntil r) [] :=
  Ct.of func9 (c := bdy f9) (by kernel_rfl) (by kernel_rfl) <|
  eBind H fun r1 hr1 H =>
  gS [r0] (by kernel_rfl) P0 <|
  eIf H (fun h2 H =>
    eBind H fun r3 hr3 H =>
    eIf H (fun h4 H =>
      eBind H fun r5 hr5 H =>
      eIf H (fun h6 H =>
        eCk H fun h7 H =>
        eCk H fun h8 H =>
        eBind H fun r9 hr9 H =>
        gS [rg [{ i := 2, call := some { cl := true, auto := true, ins := [], res := (RB r1), G' := [] }, dec := some true }, { i := 10, call := some { cl := true, auto := true, ins := [], res := (RB r3), G' := [] }, dec := some true }, { i := 15, call := some { cl := true, auto := true, ins := [], res := (RB r5), G' := [] }, dec := some true }], rg [hA 5 ((List.take ((Int.toNat (IntKind.wrap .i64 (a2 + 1))) - 0) (List.drop 0 a1.Queue)).length) (List.map I (List.take ((Int.toNat (IntKind.wrap .i64 (a2 + 1))) - 0) (List.drop 0 a1.Queue))), hC 6 true [] (RI r9) []]] (by kernel_rfl) (P1 (cs_pdGood hr1) <| P2 (r1 = true) (h2) <| P1 (cs_l1In hr3) <| P2 (r3 = true) (h4) <| P1 (cs_l1In hr5) <| P2 (r5 = true) (h6) <| P2 ((0 : Int) ≤ (IntKind.wrap .i64 (a2 + 1))) h7 <| P2 (((IntKind.wrap .i64 (a2 + 1)) : Int) ≤ ((a1.Queue.length : Nat) : Int)) h8 <| P2 ((List.take ((Int.toNat (IntKind.wrap .i64 (a2 + 1))) - 0) (List.drop 0 a1.Queue)).length = (Int.toNat (IntKind.wrap .i64 (a2 + 1))) - 0) (by simp <;> omega) <| P2 (List.take ((Int.toNat (IntKind.wrap .i64 (a2 + 1))) - 0) (List.drop 0 (List.map I a1.Queue)) = List.map I (List.take ((Int.toNat (IntKind.wrap .i64 (a2 + 1))) - 0) (List.drop 0 a1.Queue))) (by simp [List.map_drop, List.map_take]) <| P1 (cs_pdSum hr9) <| P0) <|
        eIf H (fun h10 H =>
          eW Rs_TurnsUntil (fun _ => []) H <| gE func9 [rg [hT 1], r0] (by kernel_rfl) (P2 ((decide ((IntKind.wrap .i64 (r9 - a1.Points)) ≤ 0)) = true) (decide_eq_true h10) <| P0))
        (fun h10 H =>
          gS [rg [hF 1]] (by kernel_rfl) (P2 ((decide ((IntKind.wrap .i64 (r9 - a1.Points)) ≤ 0)) = false) (decide_eq_false h10) <| P0) <|
          eIf H (fun h11 H =>
            eW Rs_TurnsUntil (fun _ => []) H <| gE func9 [rg [hT 1], r0] (by kernel_rfl) (P2 (((a3 : Int) == 0) = true) (beqT h11) <| P0))
          (fun h11 H =>
            eCk H fun h12 H =>
            eW Rs_TurnsUntil (fun _ => []) H <| gE func9 [rg [hF 1], r0] (by kernel_rfl) (P2 (((a3 : Int) == 0) = false) (beqF h11) <| P2 (¬ (a3 : Int) = 0) h12 <| P0))))
      (fun h6 H =>
        eW Rs_TurnsUntil (fun _ => []) H <| gE func9 [rg [{ i := 2, call := some { cl := true, auto := true, ins := [], res := (RB r1), G' := [] }, dec := some true }, { i := 10, call := some { cl := true, auto := true, ins := [], res := (RB r3), G' := [] }, dec := some true }, { i := 15, call := some { cl := true, auto := true, ins := [], res := (RB r5), G' := [] }, dec := some false }], r0] (by kernel_rfl) (P1 (cs_pdGood hr1) <| P2 (r1 = true) (h2) <| P1 (cs_l1In hr3) <| P2 (r3 = true) (h4) <| P1 (cs_l1In hr5) <| P2 (r5 = false) (eqF h6) <| P0)))
    (fun h4 H =>
      eW Rs_TurnsUntil (fun _ => []) H <| gE func9 [rg [{ i := 2, call := some { cl := true, auto := true, ins := [], res := (RB r1), G' := [] }, dec := some true }, { i := 10, call := some { cl := true, auto := true, ins := [], res := (RB r3), G' := [] }, dec := some false }], r0] (by kernel_rfl) (P1 (cs_pdGood hr1) <| P2 (r1 = true) (h2) <| P1 (cs_l1In hr3) <| P2 (r3 = false) (eqF h4) <| P0)))
  (fun h2 H =>
    eW Rs_TurnsUntil (fun _ => []) H <| gE func9 [rg [{ i := 2, call := some { cl := true, auto := true, ins := [], res := (RB r1), G' := [] }, dec := some false }], r0] (by kernel_rfl) (P1 (cs_pdGood hr1) <| P2 (r1 = false) (eqF h2) <| P0))
/-! loop example/g00886/spec DrawRemoveKind -/
def Rs_DrawRemoveKind (r : Gi_Board × Gi_Works × Int) : List D := [.agg [sl 5 gi_Terrain r.1.Rules.Terrains, sl 6 gi_Kind r.1.Rules.Kinds, I r.1.Rules.Stack, I r.1.Rules.River, I r.1.Rules.Road, I r.1.Rules.Supply, I r.1.Rules.Turns, I r.1.Map.Width, I r.1.Map.Height, sl 1 I r.1.Map.Terrain, sl 1 I r.1.Map.Rivers, sl 1 I r.1.Map.Roads], .agg [I r.2.1.Side, I r.2.1.At, I r.2.1.Points, ow 1 I r.2.1.Queue], I r.2.2]
theorem cs_DrawRemoveKind {a0 : (List Int)} {r : Gi_Board × Gi_Works × Int} (H : Ds_DrawRemoveKind a0 = some r) : Ct X.P X.gl 10 [sl 1 (D.int .u8) a0] [] (Rs_DrawRemoveKind r) [] :=
  Ct.of func10 (c := bdy f10) (by kernel_rfl) (by kernel_rfl) <|
  eBind H fun r1 hr1 H =>
  eBind H fun r2 hr2 H =>
  eBind H fun r3 hr3 H =>
  eBind H fun r4 hr4 H =>
  eW Rs_DrawRemoveKind (fun _ => []) H <| gE func10 [r0, r0, rg [hC 1 true [2] (Rs_l1Cur_anyBoard r1) (Ns_l1Cur_anyBoard r1)], rg [{ i := 3, frz := [3, 4, 12, 13, 14], call := some { cl := true, ins := [2], args := [.ptr 0 3 0 0, .agg [sl 5 gi_Terrain r1.1.Rules.Terrains, sl 6 gi_Kind r1.1.Rules.Kinds, I r1.1.Rules.Stack, I r1.1.Rules.River, I r1.1.Rules.Road, I r1.1.Rules.Supply, I r1.1.Rules.Turns, I r1.1.Map.Width, I r1.1.Map.Height, sl 1 I r1.1.Map.Terrain, sl 1 I r1.1.Map.Rivers, sl 1 I r1.1.Map.Roads]], res := Rs_l1Cur_works r2, G' := Ns_l1Cur_works r2 }, post := [.er 3 (List.map gi_Terrain r1.1.Rules.Terrains)], xtra := [3] }, hC 5 true [2] (Rs_l1Cur_pick r3) (Ns_l1Cur_pick r3), hC 7 true [2] (Rs_l1Cur_pick r4) (Ns_l1Cur_pick r4)]] (by kernel_rfl) (PI (1 : Nat) <| P1 (cs_l1Cur_anyBoard hr1) <| PI (0 : Nat) <| PI (0 : Nat) <| PE ero_79 r1.1.Rules.Terrains <| PL gi_Kind r1.1.Rules.Kinds <| PI (r1.1.Rules.Stack : Int) <| PI (r1.1.Rules.River : Int) <| PI (r1.1.Rules.Road : Int) <| PI (r1.1.Rules.Supply : Int) <| PI (r1.1.Rules.Turns : Int) <| PI (r1.1.Map.Width : Int) <| PI (r1.1.Map.Height : Int) <| PL I r1.1.Map.Terrain <| PL I r1.1.Map.Rivers <| PL I r1.1.Map.Roads <| PI (1 : Nat) <| P1 (cs_l1Cur_works hr2) <| P2 (erL (List.map goi_Terrain r1.1.Rules.Terrains) = erL (List.map gi_Terrain r1.1.Rules.Terrains)) (erL_map2 ero_79 r1.1.Rules.Terrains) <| PI (1 : Nat) <| P1 (cs_l1Cur_pick hr3) <| PI (1 : Nat) <| P1 (cs_l1Cur_pick hr4) <| P2 (¬ (7 : Int) = 0) (by decide) <| P0)
/-! slices Delete -/
def Rslices_Delete_int (r : List Int) : List D := [ow 1 I r]
def Nslices_Delete_int (r : List Int) : List Root := [deadR]
theorem cslices_Delete_int {a0 : (List Int)} {a1 : Int} {a2 : Int} {r : (List Int)} (H : Dslices_Delete_int a0 a1 a2 = some r) : Ct X.P X.gl 31 [.ref 0 1 none, I a1, I a2] [⟨false, false, 1, a0.length, List.map I a0⟩] (Rslices_Delete_int r) (Nslices_Delete_int r) :=
  eCk H fun h H => eRet (P := fun r => Ct X.P X.gl 31 [.ref 0 1 none, I a1, I a2] [⟨false, false, 1, a0.length, List.map I a0⟩] (Rslices_Delete_int r) (Nslices_Delete_int r)) H <| ct_del (P := X.P) (ρ := laysNm223_ren) laysNm223 ⟨f31, func31, by kernel_rfl, by kernel_rfl⟩ h.1 h.2.1 h.2.2.1 h.2.2.2
/-! loop example/g00886/impl RemoveKind -/
def Ri_RemoveKind (r : Gi_Works × Bool) : List D := [.agg [I r.1.Side, I r.1.At, I r.1.Points, ow 1 I r.1.Queue], .bool r.2]
theorem ci_RemoveKind {a0 : Gi_Board} {a1 : Gi_Works} {a2 : Int} {r : Gi_Works × Bool} (H : Di_RemoveKind a0 a1 a2 = some r) : Ct X.P X.gl 11 [.agg [sl 5 gi_Terrain a0.Rules.Terrains, sl 6 gi_Kind a0.Rules.Kinds, I a0.Rules.Stack, I a0.Rules.River, I a0.Rules.Road, I a0.Rules.Supply, I a0.Rules.Turns, I a0.Map.Width, I a0.Map.Height, sl 1 I a0.Map.Terrain, sl 1 I a0.Map.Rivers, sl 1 I a0.Map.Roads], .agg [I a1.Side, I a1.At, I a1.Points, sl 1 I a1.Queue], I a2] [] (Ri_RemoveKind r) [] :=
  Ct.of func11 (c := bdy f11) (by kernel_rfl) (by kernel_rfl) <|
  eBind H fun r1 hr1 H =>
  gS [r0] (by kernel_rfl) P0 <|
  eIf H (fun h2 H =>
    eBind H fun r3 hr3 H =>
    eIf H (fun h4 H =>
      eBind H fun r5 hr5 H =>
      eBind H fun r6 hr6 H =>
      eW Ri_RemoveKind (fun _ => []) H <| gE func11 [rg [{ i := 2, call := some { cl := true, auto := true, ins := [], res := (RB r1), G' := [] }, dec := some true }, { i := 9, call := some { cl := true, auto := true, ins := [], res := (RB r3), G' := [] }, dec := some true }], rg [hC 1 true [] (Ri_cloneWorks r5) []], rg [hC 5 true [6] (Rslices_Delete_int r6) (Nslices_Delete_int r6)], r0] (by kernel_rfl) (P1 (ci_hasWorks hr1) <| P2 (r1 = true) (h2) <| P1 (ci_isIndex hr3) <| P2 (r3 = true) (h4) <| P1 (ci_cloneWorks hr5) <| P1 (cslices_Delete_int hr6) <| P0))
    (fun h4 H =>
      eW Ri_RemoveKind (fun _ => []) H <| gE func11 [rg [{ i := 2, call := some { cl := true, auto := true, ins := [], res := (RB r1), G' := [] }, dec := some true }, { i := 9, call := some { cl := true, auto := true, ins := [], res := (RB r3), G' := [] }, dec := some false }], r0] (by kernel_rfl) (P1 (ci_hasWorks hr1) <| P2 (r1 = true) (h2) <| P1 (ci_isIndex hr3) <| P2 (r3 = false) (eqF h4) <| P0)))
  (fun h2 H =>
    eW Ri_RemoveKind (fun _ => []) H <| gE func11 [rg [{ i := 2, call := some { cl := true, auto := true, ins := [], res := (RB r1), G' := [] }, dec := some false }], r0] (by kernel_rfl) (P1 (ci_hasWorks hr1) <| P2 (r1 = false) (eqF h2) <| P0))
/-! loop example/g00886/spec pdWithout -/
def Rs_pdWithout (r : Gi_Works) : List D := [.agg [I r.Side, I r.At, I r.Points, ow 1 I r.Queue]]
noncomputable def Ks_pdWithout : Ss_pdWithout → List Item
  | .h1 .. => nav 300 3 [] [.code (bdy f32)]
  | .h2 .. => nav 300 8 [true, true] [.code (bdy f32)]
def Zs_pdWithout : Ss_pdWithout → St
  | .h1 k0 t1 t2 t3 b4 b5 b6 b7 b8 b9 => ⟨sts 34 [(1, I k0), (4, .ptr 0 4 0 0), (5, .ptr 1 4 0 0), (16, sl 1 I t1), (17, I t2), (18, I t3)], [some ⟨false, true, 4, 1, [.agg [I b4, I b5, I b6, .nil]]⟩, some ⟨false, true, 4, 1, [.agg [I b7, I b8, I b9, .nil]]⟩]⟩
  | .h2 k0 t1 t2 t3 b4 b5 b6 b7 b8 b9 l10 => ⟨sts 34 [(1, I k0), (4, .ptr 0 4 0 0), (5, .ptr 1 4 0 0), (16, sl 1 I t1), (17, I t2), (18, I t3)], [some ⟨false, true, 4, 1, [.agg [I b4, I b5, I b6, .nil]]⟩, some ⟨false, true, 4, 1, [.agg [I b7, I b8, I b9, .ref 2 1 none]]⟩, some ⟨false, false, 1, l10.length, List.map I l10⟩]⟩
abbrev Qs_pdWithout := Nx X 32 0 Ks_pdWithout Zs_pdWithout Rs_pdWithout (fun _ => [])
theorem ns_pdWithout : ∀ s o, Bs_pdWithout s = some o → Qs_pdWithout (Ks_pdWithout s) (Zs_pdWithout s) o
  | .h1 k0 t1 t2 t3 b4 b5 b6 b7 b8 b9, o, H =>
    eIf H (fun h1 H =>
      eCk H fun h2 H =>
      eBind H fun x3 hx3 H =>
      gN [rg [hT 0], rg [hE 2 (I x3)]] (by kernel_rfl) (P2 ((decide (t3 < t2)) = true) (decide_eq_true h1) <| P1 h2 <| P1 (int_lt_of_at h2 hx3) <| P1 (at_map I hx3) <| P0) <|
      eIf H (fun h4 H =>
        eN H fun r hn => gO [rg [hF 2], r0, .canon [0, 1] [1, 4, 5, 16, 17, 18]] (by kernel_rfl) (P2 (((t3 : Int) != k0) = false) (bneF h4) <| P0) hn)
      (fun h4 H =>
        eCk H fun h5 H =>
        eN H fun r hn => gO [rg [hT 2], rg [hA 4 ([x3].length) (List.map I [x3])], r0, .canon [0, 1, 3] [1, 4, 5, 16, 17, 18]] (by kernel_rfl) (P2 (((t3 : Int) != k0) = true) (bneT h4) <| P2 ([x3].length = 0 + [x3].length) (by simp <;> omega) <| P2 ((0 + [x3].length) * 8 ≤ 70368744177664) (by have := h5; simp at this ⊢ <;> omega) <| P2 (([] : List D) ++ List.map I [x3] = List.map I [x3]) (by simp) <| P0) hn))
    (fun h1 H =>
      eN H <| gE func32 [rg [hF 0], r0] (by kernel_rfl) (P2 ((decide (t3 < t2)) = false) (decide_eq_false h1) <| P0))
  | .h2 k0 t1 t2 t3 b4 b5 b6 b7 b8 b9 l10, o, H =>
    eIf H (fun h1 H =>
      eCk H fun h2 H =>
      eBind H fun x3 hx3 H =>
      gN [rg [hT 0], rg [hE 2 (I x3)]] (by kernel_rfl) (P2 ((decide (t3 < t2)) = true) (decide_eq_true h1) <| P1 h2 <| P1 (int_lt_of_at h2 hx3) <| P1 (at_map I hx3) <| P0) <|
      eIf H (fun h4 H =>
        eN H fun r hn => gO [rg [hF 2], r0, .canon [0, 1, 2] [1, 4, 5, 16, 17, 18]] (by kernel_rfl) (P2 (((t3 : Int) != k0) = false) (bneF h4) <| P0) hn)
      (fun h4 H =>
        eCk H fun h5 H =>
        eN H fun r hn => gO [rg [hT 2], rg [hA 4 ((l10 ++ [x3]).length) (List.map I (l10 ++ [x3]))], r0, .canon [0, 1, 4] [1, 4, 5, 16, 17, 18]] (by kernel_rfl) (P2 (((t3 : Int) != k0) = true) (bneT h4) <| P1 (apL l10 [x3]) <| P1 (apB h5) <| P1 (apM I l10 [x3]) <| P0) hn))
    (fun h1 H =>
      eN H <| gE func32 [rg [hF 0], r0] (by kernel_rfl) (P2 ((decide (t3 < t2)) = false) (decide_eq_false h1) <| P0))
theorem ws_pdWithout : ∀ s r, loop Bs_pdWithout s = some r → Wc X 32 0 (Ks_pdWithout s) (Zs_pdWithout s) (Rs_pdWithout r) ((fun _ => []) r) := Nx.all (ns_pdWithout)
theorem cs_pdWithout {a0 : Gi_Works} {a1 : Int} {r : Gi_Works} (H : Ds_pdWithout a0 a1 = some r) : Ct X.P X.gl 32 [.agg [I a0.Side, I a0.At, I a0.Points, sl 1 I a0.Queue], I a1] [] (Rs_pdWithout r) [] :=
  Ct.of func32 (c := bdy f32) (by kernel_rfl) (by kernel_rfl) <|
  gO [r0, r0, r0, .canon [1, 2] [1, 4, 5, 16, 17, 18]] (by kernel_rfl) P0 (ws_pdWithout _ _ H)
/-! loop example/g00886/spec RemoveKind -/
def Rs_RemoveKind (r : Gi_Works × Bool) : List D := [.agg [I r.1.Side, I r.1.At, I r.1.Points, ow 1 I r.1.Queue], .bool r.2]
theorem cs_RemoveKind {a0 : Gi_Board} {a1 : Gi_Works} {a2 : Int} {r : Gi_Works × Bool} (H : Ds_RemoveKind a0 a1 a2 = some r) : Ct X.P X.gl 12 [.agg [sl 5 gi_Terrain a0.Rules.Terrains, sl 6 gi_Kind a0.Rules.Kinds, I a0.Rules.Stack, I a0.Rules.River, I a0.Rules.Road, I a0.Rules.Supply, I a0.Rules.Turns, I a0.Map.Width, I a0.Map.Height, sl 1 I a0.Map.Terrain, sl 1 I a0.Map.Rivers, sl 1 I a0.Map.Roads], .agg [I a1.Side, I a1.At, I a1.Points, sl 1 I a1.Queue], I a2] [] (Rs_RemoveKind r) [] :=
  Ct.of func12 (c := bdy f12) (by kernel_rfl) (by kernel_rfl) <|
  eBind H fun r1 hr1 H =>
  gS [r0] (by kernel_rfl) P0 <|
  eIf H (fun h2 H =>
    eBind H fun r3 hr3 H =>
    eIf H (fun h4 H =>
      eBind H fun r5 hr5 H =>
      eW Rs_RemoveKind (fun _ => []) H <| gE func12 [rg [{ i := 2, call := some { cl := true, auto := true, ins := [], res := (RB r1), G' := [] }, dec := some true }, { i := 10, call := some { cl := true, auto := true, ins := [], res := (RB r3), G' := [] }, dec := some true }], rg [hC 2 true [] (Rs_pdWithout r5) []]] (by kernel_rfl) (P1 (cs_pdGood hr1) <| P2 (r1 = true) (h2) <| P1 (cs_l1In hr3) <| P2 (r3 = true) (h4) <| P1 (cs_pdWithout hr5) <| P0))
    (fun h4 H =>
      eW Rs_RemoveKind (fun _ => []) H <| gE func12 [rg [{ i := 2, call := some { cl := true, auto := true, ins := [], res := (RB r1), G' := [] }, dec := some true }, { i := 10, call := some { cl := true, auto := true, ins := [], res := (RB r3), G' := [] }, dec := some false }], r0] (by kernel_rfl) (P1 (cs_pdGood hr1) <| P2 (r1 = true) (h2) <| P1 (cs_l1In hr3) <| P2 (r3 = false) (eqF h4) <| P0)))
  (fun h2 H =>
    eW Rs_RemoveKind (fun _ => []) H <| gE func12 [rg [{ i := 2, call := some { cl := true, auto := true, ins := [], res := (RB r1), G' := [] }, dec := some false }], r0] (by kernel_rfl) (P1 (cs_pdGood hr1) <| P2 (r1 = false) (eqF h2) <| P0))
/-! loop example/g00886/laws qInts -/
noncomputable def Kw_qInts : Sw_qInts → List Item
  | .h1 .. => nav 300 3 [false] [.code (bdy f33)]
def Zw_qInts : Sw_qInts → St
  | .h1 va0 b1 t2 t3 => ⟨sts 26 [(0, sl 1 I va0), (1, sl 1 I b1), (12, I t2), (13, I t3)], []⟩
abbrev Qw_qInts := Nx X 33 0 Kw_qInts Zw_qInts RB (fun _ => [])
theorem nw_qInts : ∀ s o, Bw_qInts s = some o → Qw_qInts (Kw_qInts s) (Zw_qInts s) o
  | .h1 va0 b1 t2 t3, o, H =>
    eIf H (fun h1 H =>
      eCk H fun h2 H =>
      eBind H fun x3 hx3 H =>
      eCk H fun h4 H =>
      eBind H fun x5 hx5 H =>
      gN [rg [hT 0], r0] (by kernel_rfl) (P2 ((decide (t3 < t2)) = true) (decide_eq_true h1) <| P0) <|
      eIf H (fun h6 H =>
        eN H fun r hn => gO [rg [hE 3 (I x3), hE 7 (I x5), hF 8], r0, .canon [] [0, 1, 12, 13]] (by kernel_rfl) (P1 h2 <| P1 (int_lt_of_at h2 hx3) <| P1 (at_map I hx3) <| P1 h4 <| P1 (int_lt_of_at h4 hx5) <| P1 (at_map I hx5) <| P2 (((x3 : Int) != x5) = false) (bneF h6) <| P0) hn)
      (fun h6 H =>
        eN H <| gE func33 [rg [hE 3 (I x3), hE 7 (I x5), hT 8], r0] (by kernel_rfl) (P1 h2 <| P1 (int_lt_of_at h2 hx3) <| P1 (at_map I hx3) <| P1 h4 <| P1 (int_lt_of_at h4 hx5) <| P1 (at_map I hx5) <| P2 (((x3 : Int) != x5) = true) (bneT h6) <| P0)))
    (fun h1 H =>
      eN H <| gE func33 [rg [hF 0], r0] (by kernel_rfl) (P2 ((decide (t3 < t2)) = false) (decide_eq_false h1) <| P0))
theorem ww_qInts : ∀ s r, loop Bw_qInts s = some r → Wc X 33 0 (Kw_qInts s) (Zw_qInts s) (RB r) ((fun _ => []) r) := Nx.all (nw_qInts)
theorem cw_qInts {a0 : (List Int)} {a1 : (List Int)} {r : Bool} (H : Dw_qInts a0 a1 = some r) : Ct X.P X.gl 33 [sl 1 I a0, sl 1 I a1] [] (RB r) [] :=
  Ct.of func33 (c := bdy f33) (by kernel_rfl) (by kernel_rfl) <|
  gS [r0] (by kernel_rfl) P0 <|
  eIf H (fun h1 H =>
    gO [rg [hF 4], r0, .canon [] [0, 1, 12, 13]] (by kernel_rfl) (P2 (((((a0.length : Nat) : Int) : Int) != ((a1.length : Nat) : Int)) = false) (bneF h1) <| P0) (ww_qInts _ _ H))
  (fun h1 H =>
    eW RB (fun _ => []) H <| gE func33 [rg [hT 4], r0] (by kernel_rfl) (P2 (((((a0.length : Nat) : Int) : Int) != ((a1.length : Nat) : Int)) = true) (bneT h1) <| P0))
/-! loop example/g00886/laws qWorks -/
theorem cw_qWorks {a0 : Gi_Works} {a1 : Gi_Works} {r : Bool} (H : Dw_qWorks a0 a1 = some r) : Ct X.P X.gl 13 [.agg [I a0.Side, I a0.At, I a0.Points, sl 1 I a0.Queue], .agg [I a1.Side, I a1.At, I a1.Points, sl 1 I a1.Queue]] [] (RB r) [] :=
  Ct.of func13 (c := bdy f13) (by kernel_rfl) (by kernel_rfl) <|
  gS [r0] (by kernel_rfl) P0 <|
  eIf H (fun h1 H =>
    eIf H (fun h2 H =>
      eIf H (fun h3 H =>
        eBind H fun r4 hr4 H =>
        eW RB (fun _ => []) H <| gE func13 [rg [hT 4, hT 10, hT 17, hC 24 true [] (RB r4) []]] (by kernel_rfl) (P2 (((a0.Side : Int) == a1.Side) = true) (beqT h1) <| P2 (((a0.At : Int) == a1.At) = true) (beqT h2) <| P2 (((a0.Points : Int) == a1.Points) = true) (beqT h3) <| P1 (cw_qInts hr4) <| P0))
      (fun h3 H =>
        eW RB (fun _ => []) H <| gE func13 [rg [hT 4, hT 10, hF 17]] (by kernel_rfl) (P2 (((a0.Side : Int) == a1.Side) = true) (beqT h1) <| P2 (((a0.At : Int) == a1.At) = true) (beqT h2) <| P2 (((a0.Points : Int) == a1.Points) = false) (beqF h3) <| P0)))
    (fun h2 H =>
      eW RB (fun _ => []) H <| gE func13 [rg [hT 4, hF 10]] (by kernel_rfl) (P2 (((a0.Side : Int) == a1.Side) = true) (beqT h1) <| P2 (((a0.At : Int) == a1.At) = false) (beqF h2) <| P0)))
  (fun h1 H =>
    eW RB (fun _ => []) H <| gE func13 [rg [hF 4]] (by kernel_rfl) (P2 (((a0.Side : Int) == a1.Side) = false) (beqF h1) <| P0))
/-! loop example/g00886/impl QueuePrice -/
def Ri_QueuePrice (r : Int × Bool) : List D := [I r.1, .bool r.2]
theorem ci_QueuePrice {a0 : Gi_Board} {a1 : Gi_Works} {r : Int × Bool} (H : Di_QueuePrice a0 a1 = some r) : Ct X.P X.gl 15 [.agg [sl 5 gi_Terrain a0.Rules.Terrains, sl 6 gi_Kind a0.Rules.Kinds, I a0.Rules.Stack, I a0.Rules.River, I a0.Rules.Road, I a0.Rules.Supply, I a0.Rules.Turns, I a0.Map.Width, I a0.Map.Height, sl 1 I a0.Map.Terrain, sl 1 I a0.Map.Rivers, sl 1 I a0.Map.Roads], .agg [I a1.Side, I a1.At, I a1.Points, sl 1 I a1.Queue]] [] (Ri_QueuePrice r) [] :=
  Ct.of func15 (c := bdy f15) (by kernel_rfl) (by kernel_rfl) <|
  eBind H fun r1 hr1 H =>
  gS [r0] (by kernel_rfl) P0 <|
  eIf H (fun h2 H =>
    eBind H fun r3 hr3 H =>
    eW Ri_QueuePrice (fun _ => []) H <| gE func15 [rg [{ i := 2, call := some { cl := true, auto := true, ins := [], res := (RB r1), G' := [] }, dec := some true }], rg [hC 3 true [] (RI r3) []]] (by kernel_rfl) (P1 (ci_hasWorks hr1) <| P2 (r1 = true) (h2) <| P1 (ci_pricesOf hr3) <| P0))
  (fun h2 H =>
    eW Ri_QueuePrice (fun _ => []) H <| gE func15 [rg [{ i := 2, call := some { cl := true, auto := true, ins := [], res := (RB r1), G' := [] }, dec := some false }], r0] (by kernel_rfl) (P1 (ci_hasWorks hr1) <| P2 (r1 = false) (eqF h2) <| P0))
/-! loop example/g00886/impl isKindOf -/
theorem ci_isKindOf {a0 : Gi_Board} {a1 : Int} {r : Bool} (H : Di_isKindOf a0 a1 = some r) : Ct X.P X.gl 34 [.agg [sl 5 gi_Terrain a0.Rules.Terrains, sl 6 gi_Kind a0.Rules.Kinds, I a0.Rules.Stack, I a0.Rules.River, I a0.Rules.Road, I a0.Rules.Supply, I a0.Rules.Turns, I a0.Map.Width, I a0.Map.Height, sl 1 I a0.Map.Terrain, sl 1 I a0.Map.Rivers, sl 1 I a0.Map.Roads], I a1] [] (RB r) [] :=
  Ct.of func34 (c := bdy f34) (by kernel_rfl) (by kernel_rfl) <|
  eBind H fun r1 hr1 H =>
  gS [r0] (by kernel_rfl) P0 <|
  eIf H (fun h2 H =>
    eBind H fun r3 hr3 H =>
    eW RB (fun _ => []) H <| gE func34 [rg [{ i := 1, call := some { cl := true, auto := true, ins := [], res := (RB r1), G' := [] }, dec := some true }, hC 8 true [] (RB r3) []]] (by kernel_rfl) (P1 (ci_IsBoard hr1) <| P2 (r1 = true) (h2) <| P1 (ci_isIndex hr3) <| P0))
  (fun h2 H =>
    eW RB (fun _ => []) H <| gE func34 [rg [{ i := 1, call := some { cl := true, auto := true, ins := [], res := (RB r1), G' := [] }, dec := some false }]] (by kernel_rfl) (P1 (ci_IsBoard hr1) <| P2 (r1 = false) (eqF h2) <| P0))
/-! loop example/g00886/impl KindPrice -/
def Ri_KindPrice (r : Int × Bool) : List D := [I r.1, .bool r.2]
theorem ci_KindPrice {a0 : Gi_Board} {a1 : Int} {r : Int × Bool} (H : Di_KindPrice a0 a1 = some r) : Ct X.P X.gl 14 [.agg [sl 5 gi_Terrain a0.Rules.Terrains, sl 6 gi_Kind a0.Rules.Kinds, I a0.Rules.Stack, I a0.Rules.River, I a0.Rules.Road, I a0.Rules.Supply, I a0.Rules.Turns, I a0.Map.Width, I a0.Map.Height, sl 1 I a0.Map.Terrain, sl 1 I a0.Map.Rivers, sl 1 I a0.Map.Roads], I a1] [] (Ri_KindPrice r) [] :=
  Ct.of func14 (c := bdy f14) (by kernel_rfl) (by kernel_rfl) <|
  eBind H fun r1 hr1 H =>
  gS [r0] (by kernel_rfl) P0 <|
  eIf H (fun h2 H =>
    eBind H fun r3 hr3 H =>
    eW Ri_KindPrice (fun _ => []) H <| gE func14 [rg [{ i := 2, call := some { cl := true, auto := true, ins := [], res := (RB r1), G' := [] }, dec := some true }], rg [hC 2 true [] (RI r3) []]] (by kernel_rfl) (P1 (ci_isKindOf hr1) <| P2 (r1 = true) (h2) <| P1 (ci_kindPrice hr3) <| P0))
  (fun h2 H =>
    eW Ri_KindPrice (fun _ => []) H <| gE func14 [rg [{ i := 2, call := some { cl := true, auto := true, ins := [], res := (RB r1), G' := [] }, dec := some false }], r0] (by kernel_rfl) (P1 (ci_isKindOf hr1) <| P2 (r1 = false) (eqF h2) <| P0))
/-! loop example/g00886/laws FnQueues -/
noncomputable def Kw_FnQueues : Sw_FnQueues → List Item
  | .h1 .. => nav 300 15 [false, false, true] [.code (bdy f3)]
  | .h2 .. => nav 300 13 [false, false, false] [.code (bdy f3)]
def Zw_FnQueues : Sw_FnQueues → St
  | .h1 kind0 ok1 income2 n3 price4 t5 t6 t7 b8 b9 b10 b11 b12 b13 b14 b15 b16 b17 b18 l19 l20 l21 => ⟨sts 236 [(5, .ptr 0 12 0 0), (6, .ptr 1 4 0 0), (7, I kind0), (8, .ptr 2 4 0 0), (9, .bool ok1), (12, .ptr 3 12 0 0), (13, .ptr 4 4 0 0), (15, I income2), (16, I n3), (27, I price4), (144, sl 1 I t5), (145, I t6), (146, I t7)], [some ⟨false, true, 12, 1, [.agg [sl 5 gi_Terrain b8.Rules.Terrains, sl 6 gi_Kind b8.Rules.Kinds, I b8.Rules.Stack, I b8.Rules.River, I b8.Rules.Road, I b8.Rules.Supply, I b8.Rules.Turns, I b8.Map.Width, I b8.Map.Height, sl 1 I b8.Map.Terrain, sl 1 I b8.Map.Rivers, sl 1 I b8.Map.Roads]]⟩, some ⟨false, true, 4, 1, [.agg [I b9, I b10, I b11, .ref 5 1 none]]⟩, some ⟨false, true, 4, 1, [.agg [I b12, I b13, I b14, .ref 6 1 none]]⟩, some ⟨false, true, 12, 1, [.agg [sl 5 gi_Terrain b15.Rules.Terrains, sl 6 gi_Kind b15.Rules.Kinds, I b15.Rules.Stack, I b15.Rules.River, I b15.Rules.Road, I b15.Rules.Supply, I b15.Rules.Turns, I b15.Map.Width, I b15.Map.Height, sl 1 I b15.Map.Terrain, sl 1 I b15.Map.Rivers, sl 1 I b15.Map.Roads]]⟩, some ⟨false, true, 4, 1, [.agg [I b16, I b17, I b18, .ref 7 1 none]]⟩, some ⟨false, false, 1, l19.length, List.map I l19⟩, some ⟨false, false, 1, l20.length, List.map I l20⟩, some ⟨true, false, 1, l21.length, List.map I l21⟩]⟩
  | .h2 kind0 ok1 b2 b3 b4 b5 b6 b7 b8 l9 l10 => ⟨sts 236 [(5, .ptr 0 12 0 0), (6, .ptr 1 4 0 0), (7, I kind0), (8, .ptr 2 4 0 0), (9, .bool ok1)], [some ⟨false, true, 12, 1, [.agg [sl 5 gi_Terrain b2.Rules.Terrains, sl 6 gi_Kind b2.Rules.Kinds, I b2.Rules.Stack, I b2.Rules.River, I b2.Rules.Road, I b2.Rules.Supply, I b2.Rules.Turns, I b2.Map.Width, I b2.Map.Height, sl 1 I b2.Map.Terrain, sl 1 I b2.Map.Rivers, sl 1 I b2.Map.Roads]]⟩, some ⟨false, true, 4, 1, [.agg [I b3, I b4, I b5, .ref 3 1 none]]⟩, some ⟨false, true, 4, 1, [.agg [I b6, I b7, I b8, .ref 4 1 none]]⟩, some ⟨false, false, 1, l9.length, List.map I l9⟩, some ⟨false, false, 1, l10.length, List.map I l10⟩]⟩
abbrev Qw_FnQueues := Nx X 3 0 Kw_FnQueues Zw_FnQueues RB (fun _ => [])
theorem nw_FnQueues : ∀ s o, Bw_FnQueues s = some o → Qw_FnQueues (Kw_FnQueues s) (Zw_FnQueues s) o
  | .h1 kind0 ok1 income2 n3 price4 t5 t6 t7 b8 b9 b10 b11 b12 b13 b14 b15 b16 b17 b18 l19 l20 l21, o, H =>
    eIf H (fun h1 H =>
      eCk H fun h2 H =>
      eBind H fun x3 hx3 H =>
      eBind H fun r4 hr4 H =>
      gN [rg [hT 0], rg [hE 1 (I x3)]] (by kernel_rfl) (P2 ((decide (t7 < t6)) = true) (decide_eq_true h1) <| P1 h2 <| P1 (int_lt_of_at h2 hx3) <| P1 (at_map I hx3) <| P0) <|
      eIf H (fun h5 H =>
        eN H fun r hn => gO [rg [hC 2 true [] (Ri_KindPrice r4) [], hT 5], r0, r0, r0, .canon [0, 1, 2, 3, 4, 5, 6, 7] [5, 6, 7, 8, 9, 12, 13, 15, 16, 27, 144, 145, 146]] (by kernel_rfl) (P1 (ci_KindPrice hr4) <| P2 (r4.2 = true) (h5) <| P0) hn)
      (fun h5 H =>
        eN H <| gE func3 [rg [hC 2 true [] (Ri_KindPrice r4) [], hF 5], r0, r0] (by kernel_rfl) (P1 (ci_KindPrice hr4) <| P2 (r4.2 = false) (eqF h5) <| P0)))
    (fun h1 H =>
      gN [rg [hF 0]] (by kernel_rfl) (P2 ((decide (t7 < t6)) = false) (decide_eq_false h1) <| P0) <|
      eIf H (fun h2 H =>
        eN H <| gE func3 [rg [hT 7], r0] (by kernel_rfl) (P2 ((decide ((IntKind.wrap .i64 (b18 + (IntKind.wrap .i64 (n3 * income2)))) < price4)) = true) (decide_eq_true h2) <| P0))
      (fun h2 H =>
        eIf H (fun h3 H =>
          eIf H (fun h4 H =>
            eN H <| gE func3 [rg [hF 7, hT 10, hT 20], r0] (by kernel_rfl) (P2 ((decide ((IntKind.wrap .i64 (b18 + (IntKind.wrap .i64 (n3 * income2)))) < price4)) = false) (decide_eq_false h2) <| P2 ((decide (n3 > 0)) = true) (decide_eq_true h3) <| P2 ((decide ((IntKind.wrap .i64 (b18 + (IntKind.wrap .i64 ((IntKind.wrap .i64 (n3 - 1)) * income2)))) ≥ price4)) = true) (decide_eq_true h4) <| P0))
          (fun h4 H =>
            eN H fun r hn => gO [rg [hF 7, hT 10, hF 20], .canon [0, 1, 2, 5, 6] [5, 6, 7, 8, 9]] (by kernel_rfl) (P2 ((decide ((IntKind.wrap .i64 (b18 + (IntKind.wrap .i64 (n3 * income2)))) < price4)) = false) (decide_eq_false h2) <| P2 ((decide (n3 > 0)) = true) (decide_eq_true h3) <| P2 ((decide ((IntKind.wrap .i64 (b18 + (IntKind.wrap .i64 ((IntKind.wrap .i64 (n3 - 1)) * income2)))) ≥ price4)) = false) (decide_eq_false h4) <| P0) hn))
        (fun h3 H =>
          eN H fun r hn => gO [rg [hF 7, hF 10], .canon [0, 1, 2, 5, 6] [5, 6, 7, 8, 9]] (by kernel_rfl) (P2 ((decide ((IntKind.wrap .i64 (b18 + (IntKind.wrap .i64 (n3 * income2)))) < price4)) = false) (decide_eq_false h2) <| P2 ((decide (n3 > 0)) = false) (decide_eq_false h3) <| P0) hn)))
  | .h2 kind0 true b2 b3 b4 b5 b6 b7 b8 l9 l10, o, H =>
    eBind H fun r1 hr1 H =>
    gN [r0] (by kernel_rfl) P0 <|
    eIf H (fun h2 H =>
      eBind H fun r3 hr3 H =>
      gN [rg [hC 5 false [] (Ri_RemoveKind r1) [], hT 8]] (by kernel_rfl) (P2 (nfL (List.flatMap D.cells (Ri_RemoveKind r1))) ⟨trivial, trivial, trivial, nfL_map nf_3 _, trivial, trivial⟩ <| P2 (nfG []) trivial <| P1 (ci_RemoveKind hr1) <| P2 (r1.2 = true) (h2) <| P0) <|
      eIf H (fun h4 H =>
        eBind H fun r5 hr5 H =>
        gN [rg [hC 2 false [] (Ri_QueuePrice r3) [], hT 5]] (by kernel_rfl) (P1 (ci_QueuePrice hr3) <| P2 (r3.2 = true) (h4) <| P0) <|
        eIf H (fun h6 H =>
          eBind H fun r7 hr7 H =>
          gN [rg [hC 2 false [] (Ri_QueuePrice r5) [], hT 5]] (by kernel_rfl) (P1 (ci_QueuePrice hr5) <| P2 (r5.2 = true) (h6) <| P0) <|
          eIf H (fun h8 H =>
            eBind H fun r9 hr9 H =>
            gN [rg [hC 2 true [] (Ri_KindPrice r7) [], hT 5]] (by kernel_rfl) (P1 (ci_KindPrice hr7) <| P2 (r7.2 = true) (h8) <| P0) <|
            eIf H (fun h10 H =>
              eN H <| gE func3 [rg [{ i := 4, call := some { cl := false, auto := true, ins := [], res := (RB r9), G' := [] }, dec := some true }]] (by kernel_rfl) (P1 (cw_qWorks hr9) <| P2 (r9 = true) (h10) <| P0))
            (fun h10 H =>
              eN H <| gE func3 [rg [{ i := 4, call := some { cl := false, auto := true, ins := [], res := (RB r9), G' := [] }, dec := some false }]] (by kernel_rfl) (P1 (cw_qWorks hr9) <| P2 (r9 = false) (eqF h10) <| P0)))
          (fun h8 H =>
            eBind H fun r9 hr9 H =>
            gN [rg [hC 2 true [] (Ri_KindPrice r7) [], hF 5]] (by kernel_rfl) (P1 (ci_KindPrice hr7) <| P2 (r7.2 = false) (eqF h8) <| P0) <|
            eIf H (fun h10 H =>
              eN H <| gE func3 [rg [{ i := 4, call := some { cl := false, auto := true, ins := [], res := (RB r9), G' := [] }, dec := some true }]] (by kernel_rfl) (P1 (cw_qWorks hr9) <| P2 (r9 = true) (h10) <| P0))
            (fun h10 H =>
              eN H <| gE func3 [rg [{ i := 4, call := some { cl := false, auto := true, ins := [], res := (RB r9), G' := [] }, dec := some false }]] (by kernel_rfl) (P1 (cw_qWorks hr9) <| P2 (r9 = false) (eqF h10) <| P0))))
        (fun h6 H =>
          eBind H fun r7 hr7 H =>
          gN [rg [hC 2 false [] (Ri_QueuePrice r5) [], hF 5]] (by kernel_rfl) (P1 (ci_QueuePrice hr5) <| P2 (r5.2 = false) (eqF h6) <| P0) <|
          eIf H (fun h8 H =>
            eBind H fun r9 hr9 H =>
            gN [rg [hC 2 true [] (Ri_KindPrice r7) [], hT 5]] (by kernel_rfl) (P1 (ci_KindPrice hr7) <| P2 (r7.2 = true) (h8) <| P0) <|
            eIf H (fun h10 H =>
              eN H <| gE func3 [rg [{ i := 4, call := some { cl := false, auto := true, ins := [], res := (RB r9), G' := [] }, dec := some true }]] (by kernel_rfl) (P1 (cw_qWorks hr9) <| P2 (r9 = true) (h10) <| P0))
            (fun h10 H =>
              eN H <| gE func3 [rg [{ i := 4, call := some { cl := false, auto := true, ins := [], res := (RB r9), G' := [] }, dec := some false }]] (by kernel_rfl) (P1 (cw_qWorks hr9) <| P2 (r9 = false) (eqF h10) <| P0)))
          (fun h8 H =>
            eBind H fun r9 hr9 H =>
            gN [rg [hC 2 true [] (Ri_KindPrice r7) [], hF 5]] (by kernel_rfl) (P1 (ci_KindPrice hr7) <| P2 (r7.2 = false) (eqF h8) <| P0) <|
            eIf H (fun h10 H =>
              eN H <| gE func3 [rg [{ i := 4, call := some { cl := false, auto := true, ins := [], res := (RB r9), G' := [] }, dec := some true }]] (by kernel_rfl) (P1 (cw_qWorks hr9) <| P2 (r9 = true) (h10) <| P0))
            (fun h10 H =>
              eN H <| gE func3 [rg [{ i := 4, call := some { cl := false, auto := true, ins := [], res := (RB r9), G' := [] }, dec := some false }]] (by kernel_rfl) (P1 (cw_qWorks hr9) <| P2 (r9 = false) (eqF h10) <| P0)))))
      (fun h4 H =>
        eBind H fun r5 hr5 H =>
        gN [rg [hC 2 false [] (Ri_QueuePrice r3) [], hF 5]] (by kernel_rfl) (P1 (ci_QueuePrice hr3) <| P2 (r3.2 = false) (eqF h4) <| P0) <|
        eIf H (fun h6 H =>
          eBind H fun r7 hr7 H =>
          gN [rg [hC 2 false [] (Ri_QueuePrice r5) [], hT 5]] (by kernel_rfl) (P1 (ci_QueuePrice hr5) <| P2 (r5.2 = true) (h6) <| P0) <|
          eIf H (fun h8 H =>
            eBind H fun r9 hr9 H =>
            gN [rg [hC 2 true [] (Ri_KindPrice r7) [], hT 5]] (by kernel_rfl) (P1 (ci_KindPrice hr7) <| P2 (r7.2 = true) (h8) <| P0) <|
            eIf H (fun h10 H =>
              eN H <| gE func3 [rg [{ i := 4, call := some { cl := false, auto := true, ins := [], res := (RB r9), G' := [] }, dec := some true }]] (by kernel_rfl) (P1 (cw_qWorks hr9) <| P2 (r9 = true) (h10) <| P0))
            (fun h10 H =>
              eN H <| gE func3 [rg [{ i := 4, call := some { cl := false, auto := true, ins := [], res := (RB r9), G' := [] }, dec := some false }]] (by kernel_rfl) (P1 (cw_qWorks hr9) <| P2 (r9 = false) (eqF h10) <| P0)))
          (fun h8 H =>
            eBind H fun r9 hr9 H =>
            gN [rg [hC 2 true [] (Ri_KindPrice r7) [], hF 5]] (by kernel_rfl) (P1 (ci_KindPrice hr7) <| P2 (r7.2 = false) (eqF h8) <| P0) <|
            eIf H (fun h10 H =>
              eN H <| gE func3 [rg [{ i := 4, call := some { cl := false, auto := true, ins := [], res := (RB r9), G' := [] }, dec := some true }]] (by kernel_rfl) (P1 (cw_qWorks hr9) <| P2 (r9 = true) (h10) <| P0))
            (fun h10 H =>
              eN H <| gE func3 [rg [{ i := 4, call := some { cl := false, auto := true, ins := [], res := (RB r9), G' := [] }, dec := some false }]] (by kernel_rfl) (P1 (cw_qWorks hr9) <| P2 (r9 = false) (eqF h10) <| P0))))
        (fun h6 H =>
          eBind H fun r7 hr7 H =>
          gN [rg [hC 2 false [] (Ri_QueuePrice r5) [], hF 5]] (by kernel_rfl) (P1 (ci_QueuePrice hr5) <| P2 (r5.2 = false) (eqF h6) <| P0) <|
          eIf H (fun h8 H =>
            eBind H fun r9 hr9 H =>
            gN [rg [hC 2 true [] (Ri_KindPrice r7) [], hT 5]] (by kernel_rfl) (P1 (ci_KindPrice hr7) <| P2 (r7.2 = true) (h8) <| P0) <|
            eIf H (fun h10 H =>
              eN H <| gE func3 [rg [{ i := 4, call := some { cl := false, auto := true, ins := [], res := (RB r9), G' := [] }, dec := some true }]] (by kernel_rfl) (P1 (cw_qWorks hr9) <| P2 (r9 = true) (h10) <| P0))
            (fun h10 H =>
              eN H <| gE func3 [rg [{ i := 4, call := some { cl := false, auto := true, ins := [], res := (RB r9), G' := [] }, dec := some false }]] (by kernel_rfl) (P1 (cw_qWorks hr9) <| P2 (r9 = false) (eqF h10) <| P0)))
          (fun h8 H =>
            eBind H fun r9 hr9 H =>
            gN [rg [hC 2 true [] (Ri_KindPrice r7) [], hF 5]] (by kernel_rfl) (P1 (ci_KindPrice hr7) <| P2 (r7.2 = false) (eqF h8) <| P0) <|
            eIf H (fun h10 H =>
              eN H <| gE func3 [rg [{ i := 4, call := some { cl := false, auto := true, ins := [], res := (RB r9), G' := [] }, dec := some true }]] (by kernel_rfl) (P1 (cw_qWorks hr9) <| P2 (r9 = true) (h10) <| P0))
            (fun h10 H =>
              eN H <| gE func3 [rg [{ i := 4, call := some { cl := false, auto := true, ins := [], res := (RB r9), G' := [] }, dec := some false }]] (by kernel_rfl) (P1 (cw_qWorks hr9) <| P2 (r9 = false) (eqF h10) <| P0))))))
    (fun h2 H =>
      eBind H fun r3 hr3 H =>
      gN [rg [hC 5 false [] (Ri_RemoveKind r1) [], hF 8]] (by kernel_rfl) (P2 (nfL (List.flatMap D.cells (Ri_RemoveKind r1))) ⟨trivial, trivial, trivial, nfL_map nf_3 _, trivial, trivial⟩ <| P2 (nfG []) trivial <| P1 (ci_RemoveKind hr1) <| P2 (r1.2 = false) (eqF h2) <| P0) <|
      eIf H (fun h4 H =>
        eBind H fun r5 hr5 H =>
        gN [rg [hC 2 false [] (Ri_QueuePrice r3) [], hT 5]] (by kernel_rfl) (P1 (ci_QueuePrice hr3) <| P2 (r3.2 = true) (h4) <| P0) <|
        eIf H (fun h6 H =>
          eBind H fun r7 hr7 H =>
          gN [rg [hC 2 false [] (Ri_QueuePrice r5) [], hT 5]] (by kernel_rfl) (P1 (ci_QueuePrice hr5) <| P2 (r5.2 = true) (h6) <| P0) <|
          eIf H (fun h8 H =>
            eN H <| gE func3 [rg [hC 2 true [] (Ri_KindPrice r7) [], hT 5], r0] (by kernel_rfl) (P1 (ci_KindPrice hr7) <| P2 (r7.2 = true) (h8) <| P0))
          (fun h8 H =>
            eN H <| gE func3 [rg [hC 2 true [] (Ri_KindPrice r7) [], hF 5], r0] (by kernel_rfl) (P1 (ci_KindPrice hr7) <| P2 (r7.2 = false) (eqF h8) <| P0)))
        (fun h6 H =>
          eBind H fun r7 hr7 H =>
          gN [rg [hC 2 false [] (Ri_QueuePrice r5) [], hF 5]] (by kernel_rfl) (P1 (ci_QueuePrice hr5) <| P2 (r5.2 = false) (eqF h6) <| P0) <|
          eIf H (fun h8 H =>
            eN H <| gE func3 [rg [hC 2 true [] (Ri_KindPrice r7) [], hT 5], r0] (by kernel_rfl) (P1 (ci_KindPrice hr7) <| P2 (r7.2 = true) (h8) <| P0))
          (fun h8 H =>
            eN H <| gE func3 [rg [hC 2 true [] (Ri_KindPrice r7) [], hF 5], r0] (by kernel_rfl) (P1 (ci_KindPrice hr7) <| P2 (r7.2 = false) (eqF h8) <| P0))))
      (fun h4 H =>
        eBind H fun r5 hr5 H =>
        gN [rg [hC 2 false [] (Ri_QueuePrice r3) [], hF 5]] (by kernel_rfl) (P1 (ci_QueuePrice hr3) <| P2 (r3.2 = false) (eqF h4) <| P0) <|
        eIf H (fun h6 H =>
          eBind H fun r7 hr7 H =>
          gN [rg [hC 2 false [] (Ri_QueuePrice r5) [], hT 5]] (by kernel_rfl) (P1 (ci_QueuePrice hr5) <| P2 (r5.2 = true) (h6) <| P0) <|
          eIf H (fun h8 H =>
            eN H <| gE func3 [rg [hC 2 true [] (Ri_KindPrice r7) [], hT 5], r0] (by kernel_rfl) (P1 (ci_KindPrice hr7) <| P2 (r7.2 = true) (h8) <| P0))
          (fun h8 H =>
            eN H <| gE func3 [rg [hC 2 true [] (Ri_KindPrice r7) [], hF 5], r0] (by kernel_rfl) (P1 (ci_KindPrice hr7) <| P2 (r7.2 = false) (eqF h8) <| P0)))
        (fun h6 H =>
          eBind H fun r7 hr7 H =>
          gN [rg [hC 2 false [] (Ri_QueuePrice r5) [], hF 5]] (by kernel_rfl) (P1 (ci_QueuePrice hr5) <| P2 (r5.2 = false) (eqF h6) <| P0) <|
          eIf H (fun h8 H =>
            eN H <| gE func3 [rg [hC 2 true [] (Ri_KindPrice r7) [], hT 5], r0] (by kernel_rfl) (P1 (ci_KindPrice hr7) <| P2 (r7.2 = true) (h8) <| P0))
          (fun h8 H =>
            eN H <| gE func3 [rg [hC 2 true [] (Ri_KindPrice r7) [], hF 5], r0] (by kernel_rfl) (P1 (ci_KindPrice hr7) <| P2 (r7.2 = false) (eqF h8) <| P0)))))
  | .h2 kind0 false b2 b3 b4 b5 b6 b7 b8 l9 l10, o, H =>
    eN H <| gE func3 [r0, r0] (by kernel_rfl) P0
theorem ww_FnQueues : ∀ s r, loop Bw_FnQueues s = some r → Wc X 3 0 (Kw_FnQueues s) (Zw_FnQueues s) (RB r) ((fun _ => []) r) := Nx.all (nw_FnQueues)
theorem cw_FnQueues {a0 : (List Int)} {a1 : (List Int)} {r : Bool} (H : Dw_FnQueues a0 a1 = some r) : Ct X.P X.gl 3 [sl 1 (D.int .u8) a0, sl 1 (D.int .u8) a1] [] (RB r) [] :=
  Ct.of func3 (c := bdy f3) (by kernel_rfl) (by kernel_rfl) <|
  gS [r0] (by kernel_rfl) P0 <|
  eIf H (fun h1 H =>
    eW RB (fun _ => []) H <| gE func3 [rg [hT 5], r0] (by kernel_rfl) (P2 ((decide ((IntKind.wrap .i64 (((a0.length : Nat) : Int) + ((a1.length : Nat) : Int))) > 1048576)) = true) (decide_eq_true h1) <| P0))
  (fun h1 H =>
    eBind H fun r2 hr2 H =>
    eBind H fun r3 hr3 H =>
    eBind H fun r4 hr4 H =>
    eBind H fun r5 hr5 H =>
    eBind H fun r6 hr6 H =>
    gS [rg [hF 5], rg [hC 1 true [] (Rs_DrawAppendKind r2) []], rg [hC 3 false [] (Ri_AppendKind r3) []], rg [hC 3 false [] (Rs_AppendKind r4) []], rg [hC 1 true [] (Rs_DrawTurnsUntil r5) []]] (by kernel_rfl) (P2 ((decide ((IntKind.wrap .i64 (((a0.length : Nat) : Int) + ((a1.length : Nat) : Int))) > 1048576)) = false) (decide_eq_false h1) <| P1 (cs_DrawAppendKind hr2) <| P2 (nfL (List.flatMap D.cells (Ri_AppendKind r3))) ⟨trivial, trivial, trivial, nfL_map nf_3 _, trivial, trivial⟩ <| P2 (nfG []) trivial <| P1 (ci_AppendKind hr3) <| P2 (nfL (List.flatMap D.cells (Rs_AppendKind r4))) ⟨trivial, trivial, trivial, nfL_map nf_3 _, trivial, trivial⟩ <| P2 (nfG []) trivial <| P1 (cs_AppendKind hr4) <| P1 (cs_DrawTurnsUntil hr5) <| P0) <|
    eIf H (fun h7 H =>
      eBind H fun r8 hr8 H =>
      eBind H fun r9 hr9 H =>
      eBind H fun r10 hr10 H =>
      eBind H fun r11 hr11 H =>
      gS [rg [hC 4 false [] (Ri_TurnsUntil r6) [], hT 7], rg [hC 4 false [] (Rs_TurnsUntil r8) []], rg [hC 1 true [] (Rs_DrawRemoveKind r9) []], rg [hC 3 false [] (Ri_RemoveKind r10) []], rg [hC 3 false [] (Rs_RemoveKind r11) []]] (by kernel_rfl) (P1 (ci_TurnsUntil hr6) <| P2 (r6.2 = true) (h7) <| P1 (cs_TurnsUntil hr8) <| P1 (cs_DrawRemoveKind hr9) <| P2 (nfL (List.flatMap D.cells (Ri_RemoveKind r10))) ⟨trivial, trivial, trivial, nfL_map nf_3 _, trivial, trivial⟩ <| P2 (nfG []) trivial <| P1 (ci_RemoveKind hr10) <| P2 (nfL (List.flatMap D.cells (Rs_RemoveKind r11))) ⟨trivial, trivial, trivial, nfL_map nf_3 _, trivial, trivial⟩ <| P2 (nfG []) trivial <| P1 (cs_RemoveKind hr11) <| P0) <|
      eIf H (fun h12 H =>
        eW RB (fun _ => []) H <| gE func3 [rg [hT 2], r0] (by kernel_rfl) (P2 ((!(r3.2 == r4.2)) = true) (h12) <| P0))
      (fun h12 H =>
        eBind H fun r13 hr13 H =>
        eIf H (fun h14 H =>
          eIf H (fun h15 H =>
            eW RB (fun _ => []) H <| gE func3 [rg [hF 2, { i := 6, call := some { cl := false, auto := true, ins := [], res := (RB r13), G' := [] }, dec := some true }, hT 12], r0] (by kernel_rfl) (P2 ((!(r3.2 == r4.2)) = false) (eqF h12) <| P1 (cw_qWorks hr13) <| P2 (r13 = true) (h14) <| P2 ((!(true == r8.2)) = true) (h15) <| P0))
          (fun h15 H =>
            eIf H (fun h16 H =>
              eIf H (fun h17 H =>
                eW RB (fun _ => []) H <| gE func3 [rg [hF 2, { i := 6, call := some { cl := false, auto := true, ins := [], res := (RB r13), G' := [] }, dec := some true }, hF 12, hF 17, hT 22], r0] (by kernel_rfl) (P2 ((!(r3.2 == r4.2)) = false) (eqF h12) <| P1 (cw_qWorks hr13) <| P2 (r13 = true) (h14) <| P2 ((!(true == r8.2)) = false) (eqF h15) <| P2 (((r6.1 : Int) != r8.1) = false) (bneF h16) <| P2 ((!(r10.2 == r11.2)) = true) (h17) <| P0))
              (fun h17 H =>
                eBind H fun r18 hr18 H =>
                eIf H (fun h19 H =>
                  eCk H fun h20 H =>
                  eCk H fun h21 H =>
                  gO [rg [hF 2, { i := 6, call := some { cl := false, auto := true, ins := [], res := (RB r13), G' := [] }, dec := some true }, hF 12, hF 17, hF 22, { i := 27, call := some { cl := false, auto := true, ins := [], res := (RB r18), G' := [] }, dec := some true }], r0, r0, .frz 43, r0, .vfz 144 (List.take ((Int.toNat (IntKind.wrap .i64 (r5.2.2.1 + 1))) - 0) (List.drop 0 r5.2.1.Queue)).length (List.map I (List.take ((Int.toNat (IntKind.wrap .i64 (r5.2.2.1 + 1))) - 0) (List.drop 0 r5.2.1.Queue))), .canon [16, 17, 22, 44, 45, 15, 21, 43] [5, 6, 7, 8, 9, 12, 13, 15, 16, 27, 144, 145, 146]] (by kernel_rfl) (P2 ((!(r3.2 == r4.2)) = false) (eqF h12) <| P1 (cw_qWorks hr13) <| P2 (r13 = true) (h14) <| P2 ((!(true == r8.2)) = false) (eqF h15) <| P2 (((r6.1 : Int) != r8.1) = false) (bneF h16) <| P2 ((!(r10.2 == r11.2)) = false) (eqF h17) <| P1 (cw_qWorks hr18) <| P2 (r18 = true) (h19) <| P2 ((0 : Int) ≤ (IntKind.wrap .i64 (r5.2.2.1 + 1))) h20 <| P2 (((IntKind.wrap .i64 (r5.2.2.1 + 1)) : Int) ≤ ((r5.2.1.Queue.length : Nat) : Int)) h21 <| P2 (((Int.toNat (IntKind.wrap .i64 (r5.2.2.1 + 1))) - 0) = (List.take ((Int.toNat (IntKind.wrap .i64 (r5.2.2.1 + 1))) - 0) (List.drop 0 r5.2.1.Queue)).length) (by first | (simp <;> omega) | (simp only [List.length_take, List.length_drop, List.length_nil] <;> omega)) <| P2 (List.take ((Int.toNat (IntKind.wrap .i64 (r5.2.2.1 + 1))) - 0) (List.drop 0 (List.map I r5.2.1.Queue)) = List.map I (List.take ((Int.toNat (IntKind.wrap .i64 (r5.2.2.1 + 1))) - 0) (List.drop 0 r5.2.1.Queue))) (by rw [List.map_take, List.map_drop]) <| P0) (ww_FnQueues _ _ H))
                (fun h19 H =>
                  eW RB (fun _ => []) H <| gE func3 [rg [hF 2, { i := 6, call := some { cl := false, auto := true, ins := [], res := (RB r13), G' := [] }, dec := some true }, hF 12, hF 17, hF 22, { i := 27, call := some { cl := false, auto := true, ins := [], res := (RB r18), G' := [] }, dec := some false }], r0] (by kernel_rfl) (P2 ((!(r3.2 == r4.2)) = false) (eqF h12) <| P1 (cw_qWorks hr13) <| P2 (r13 = true) (h14) <| P2 ((!(true == r8.2)) = false) (eqF h15) <| P2 (((r6.1 : Int) != r8.1) = false) (bneF h16) <| P2 ((!(r10.2 == r11.2)) = false) (eqF h17) <| P1 (cw_qWorks hr18) <| P2 (r18 = false) (eqF h19) <| P0))))
            (fun h16 H =>
              eW RB (fun _ => []) H <| gE func3 [rg [hF 2, { i := 6, call := some { cl := false, auto := true, ins := [], res := (RB r13), G' := [] }, dec := some true }, hF 12, hT 17], r0] (by kernel_rfl) (P2 ((!(r3.2 == r4.2)) = false) (eqF h12) <| P1 (cw_qWorks hr13) <| P2 (r13 = true) (h14) <| P2 ((!(true == r8.2)) = false) (eqF h15) <| P2 (((r6.1 : Int) != r8.1) = true) (bneT h16) <| P0))))
        (fun h14 H =>
          eW RB (fun _ => []) H <| gE func3 [rg [hF 2, { i := 6, call := some { cl := false, auto := true, ins := [], res := (RB r13), G' := [] }, dec := some false }], r0] (by kernel_rfl) (P2 ((!(r3.2 == r4.2)) = false) (eqF h12) <| P1 (cw_qWorks hr13) <| P2 (r13 = false) (eqF h14) <| P0))))
    (fun h7 H =>
      eBind H fun r8 hr8 H =>
      eBind H fun r9 hr9 H =>
      eBind H fun r10 hr10 H =>
      eBind H fun r11 hr11 H =>
      gS [rg [hC 4 false [] (Ri_TurnsUntil r6) [], hF 7], rg [hC 4 false [] (Rs_TurnsUntil r8) []], rg [hC 1 true [] (Rs_DrawRemoveKind r9) []], rg [hC 3 false [] (Ri_RemoveKind r10) []], rg [hC 3 false [] (Rs_RemoveKind r11) []]] (by kernel_rfl) (P1 (ci_TurnsUntil hr6) <| P2 (r6.2 = false) (eqF h7) <| P1 (cs_TurnsUntil hr8) <| P1 (cs_DrawRemoveKind hr9) <| P2 (nfL (List.flatMap D.cells (Ri_RemoveKind r10))) ⟨trivial, trivial, trivial, nfL_map nf_3 _, trivial, trivial⟩ <| P2 (nfG []) trivial <| P1 (ci_RemoveKind hr10) <| P2 (nfL (List.flatMap D.cells (Rs_RemoveKind r11))) ⟨trivial, trivial, trivial, nfL_map nf_3 _, trivial, trivial⟩ <| P2 (nfG []) trivial <| P1 (cs_RemoveKind hr11) <| P0) <|
      eIf H (fun h12 H =>
        eW RB (fun _ => []) H <| gE func3 [rg [hT 2], r0] (by kernel_rfl) (P2 ((!(r3.2 == r4.2)) = true) (h12) <| P0))
      (fun h12 H =>
        eBind H fun r13 hr13 H =>
        eIf H (fun h14 H =>
          eIf H (fun h15 H =>
            eW RB (fun _ => []) H <| gE func3 [rg [hF 2, { i := 6, call := some { cl := false, auto := true, ins := [], res := (RB r13), G' := [] }, dec := some true }, hT 12], r0] (by kernel_rfl) (P2 ((!(r3.2 == r4.2)) = false) (eqF h12) <| P1 (cw_qWorks hr13) <| P2 (r13 = true) (h14) <| P2 ((!(false == r8.2)) = true) (h15) <| P0))
          (fun h15 H =>
            eIf H (fun h16 H =>
              eIf H (fun h17 H =>
                eW RB (fun _ => []) H <| gE func3 [rg [hF 2, { i := 6, call := some { cl := false, auto := true, ins := [], res := (RB r13), G' := [] }, dec := some true }, hF 12, hF 17, hT 22], r0] (by kernel_rfl) (P2 ((!(r3.2 == r4.2)) = false) (eqF h12) <| P1 (cw_qWorks hr13) <| P2 (r13 = true) (h14) <| P2 ((!(false == r8.2)) = false) (eqF h15) <| P2 (((r6.1 : Int) != r8.1) = false) (bneF h16) <| P2 ((!(r10.2 == r11.2)) = true) (h17) <| P0))
              (fun h17 H =>
                eBind H fun r18 hr18 H =>
                eIf H (fun h19 H =>
                  gO [rg [hF 2, { i := 6, call := some { cl := false, auto := true, ins := [], res := (RB r13), G' := [] }, dec := some true }, hF 12, hF 17, hF 22, { i := 27, call := some { cl := false, auto := true, ins := [], res := (RB r18), G' := [] }, dec := some true }], r0, .canon [16, 17, 22, 15, 21] [5, 6, 7, 8, 9]] (by kernel_rfl) (P2 ((!(r3.2 == r4.2)) = false) (eqF h12) <| P1 (cw_qWorks hr13) <| P2 (r13 = true) (h14) <| P2 ((!(false == r8.2)) = false) (eqF h15) <| P2 (((r6.1 : Int) != r8.1) = false) (bneF h16) <| P2 ((!(r10.2 == r11.2)) = false) (eqF h17) <| P1 (cw_qWorks hr18) <| P2 (r18 = true) (h19) <| P0) (ww_FnQueues _ _ H))
                (fun h19 H =>
                  eW RB (fun _ => []) H <| gE func3 [rg [hF 2, { i := 6, call := some { cl := false, auto := true, ins := [], res := (RB r13), G' := [] }, dec := some true }, hF 12, hF 17, hF 22, { i := 27, call := some { cl := false, auto := true, ins := [], res := (RB r18), G' := [] }, dec := some false }], r0] (by kernel_rfl) (P2 ((!(r3.2 == r4.2)) = false) (eqF h12) <| P1 (cw_qWorks hr13) <| P2 (r13 = true) (h14) <| P2 ((!(false == r8.2)) = false) (eqF h15) <| P2 (((r6.1 : Int) != r8.1) = false) (bneF h16) <| P2 ((!(r10.2 == r11.2)) = false) (eqF h17) <| P1 (cw_qWorks hr18) <| P2 (r18 = false) (eqF h19) <| P0))))
            (fun h16 H =>
              eW RB (fun _ => []) H <| gE func3 [rg [hF 2, { i := 6, call := some { cl := false, auto := true, ins := [], res := (RB r13), G' := [] }, dec := some true }, hF 12, hT 17], r0] (by kernel_rfl) (P2 ((!(r3.2 == r4.2)) = false) (eqF h12) <| P1 (cw_qWorks hr13) <| P2 (r13 = true) (h14) <| P2 ((!(false == r8.2)) = false) (eqF h15) <| P2 (((r6.1 : Int) != r8.1) = true) (bneT h16) <| P0))))
        (fun h14 H =>
          eW RB (fun _ => []) H <| gE func3 [rg [hF 2, { i := 6, call := some { cl := false, auto := true, ins := [], res := (RB r13), G' := [] }, dec := some false }], r0] (by kernel_rfl) (P2 ((!(r3.2 == r4.2)) = false) (eqF h12) <| P1 (cw_qWorks hr13) <| P2 (r13 = false) (eqF h14) <| P0)))))
end Go.Proofs.YtcblbhjbocipbaaDoor.Ab
