/- Part of the proof of FnControlCard: no condition of its own. -/
import Derived.Test.YtakcjcjfcignjaaGreatDoorB5CNC
set_option linter.unusedVariables false
set_option linter.unusedSimpArgs false
open Go Go.Proofs Go.Proofs.Tryz
namespace Go.Proofs.YtakcjcjfcignjaaGreatDoor.Ab
/-! loop example/g00886/impl IsBoard -/
theorem ci_IsBoard {a0 : Gi_Board} {r : Bool} (H : Di_IsBoard a0 = some r) : Ct X.P X.gl 95 [.agg [sl 5 gi_Terrain a0.Rules.Terrains, sl 6 gi_Kind a0.Rules.Kinds, I a0.Rules.Stack, I a0.Rules.River, I a0.Rules.Road, I a0.Rules.Supply, I a0.Rules.Turns, I a0.Map.Width, I a0.Map.Height, sl 1 I a0.Map.Terrain, sl 1 I a0.Map.Rivers, sl 1 I a0.Map.Roads]] [] (RB r) [] :=
  Ct.of func95 (c := bdy f95) (by kernel_rfl) (by kernel_rfl) <|
  eBind H fun r1 hr1 H =>
  gS [r0] (by kernel_rfl) P0 <|
  eIf H (fun h2 H =>
    eBind H fun r3 hr3 H =>
    eIf H (fun h4 H =>
      eBind H fun r5 hr5 H =>
      eW RB (fun _ => []) H <| gE func95 [rg [{ i := 2, call := some { cl := true, auto := true, ins := [], res := (RB r1), G' := [] }, dec := some true }, { i := 7, call := some { cl := true, auto := true, ins := [], res := (RB r3), G' := [] }, dec := some true }], rg [hC 4 false [] (RB r5) []]] (by kernel_rfl) (P1 (ci_IsRules hr1) <| P2 (r1 = true) (h2) <| P1 (ci_IsMap hr3) <| P2 (r3 = true) (h4) <| P1 (cslices_ContainsFunc_int_i_IsBoard_1 hr5) <| P0))
    (fun h4 H =>
      eW RB (fun _ => []) H <| gE func95 [rg [{ i := 2, call := some { cl := true, auto := true, ins := [], res := (RB r1), G' := [] }, dec := some true }, { i := 7, call := some { cl := true, auto := true, ins := [], res := (RB r3), G' := [] }, dec := some false }], r0] (by kernel_rfl) (P1 (ci_IsRules hr1) <| P2 (r1 = true) (h2) <| P1 (ci_IsMap hr3) <| P2 (r3 = false) (eqF h4) <| P0)))
  (fun h2 H =>
    eW RB (fun _ => []) H <| gE func95 [rg [{ i := 2, call := some { cl := true, auto := true, ins := [], res := (RB r1), G' := [] }, dec := some false }], r0] (by kernel_rfl) (P1 (ci_IsRules hr1) <| P2 (r1 = false) (eqF h2) <| P0))
/-! loop example/g00886/impl sizeOf -/
theorem ci_sizeOf {a0 : Gi_Board} {r : Int} (H : Di_sizeOf a0 = some r) : Ct X.P X.gl 52 [.agg [sl 5 gi_Terrain a0.Rules.Terrains, sl 6 gi_Kind a0.Rules.Kinds, I a0.Rules.Stack, I a0.Rules.River, I a0.Rules.Road, I a0.Rules.Supply, I a0.Rules.Turns, I a0.Map.Width, I a0.Map.Height, sl 1 I a0.Map.Terrain, sl 1 I a0.Map.Rivers, sl 1 I a0.Map.Roads]] [] (RI r) [] :=
  Ct.of func52 (c := bdy f52) (by kernel_rfl) (by kernel_rfl) <|
  eW RI (fun _ => []) H <| gE func52 [r0, r0] (by kernel_rfl) P0
/-! loop example/g00886/impl isSide -/
theorem ci_isSide {a0 : Int} {r : Bool} (H : Di_isSide a0 = some r) : Ct X.P X.gl 178 [I a0] [] (RB r) [] :=
  Ct.of func178 (c := bdy f178) (by kernel_rfl) (by kernel_rfl) <|
  eBind H fun r1 hr1 H =>
  eW RB (fun _ => []) H <| gE func178 [r0, rg [hC 1 true [] (RB r1) []]] (by kernel_rfl) (P1 (ci_inRange hr1) <| P0)
/-! loop example/g00886/impl terrainAt -/
def Ri_terrainAt (r : Gi_Terrain) : List D := [.agg [.str r.Name, sl 1 I r.Cost, I r.Shift, I r.Height, .bool r.Blocks]]
theorem ci_terrainAt {a0 : Gi_Board} {a1 : Int} {r : Gi_Terrain} (H : Di_terrainAt a0 a1 = some r) : Ct X.P X.gl 110 [.agg [sl 5 gi_Terrain a0.Rules.Terrains, sl 6 gi_Kind a0.Rules.Kinds, I a0.Rules.Stack, I a0.Rules.River, I a0.Rules.Road, I a0.Rules.Supply, I a0.Rules.Turns, I a0.Map.Width, I a0.Map.Height, sl 1 I a0.Map.Terrain, sl 1 I a0.Map.Rivers, sl 1 I a0.Map.Roads], I a1] [] (Ri_terrainAt r) [] :=
  Ct.of func110 (c := bdy f110) (by kernel_rfl) (by kernel_rfl) <|
  eCk H fun h1 H =>
  eBind H fun x2 hx2 H =>
  eCk H fun h3 H =>
  eBind H fun x4 hx4 H =>
  eW Ri_terrainAt (fun _ => []) H <| gE func110 [r0, rg [hE 8 (I x2), hE 10 (gi_Terrain x4)]] (by kernel_rfl) (P1 h1 <| P1 (int_lt_of_at h1 hx2) <| P1 (at_map I hx2) <| P1 h3 <| P1 (int_lt_of_at h3 hx4) <| P1 (at_map gi_Terrain hx4) <| P0)
/-! loop example/g00886/impl enterCost -/
theorem ci_enterCost {a0 : Gi_Board} {a1 : Int} {a2 : Int} {r : Int} (H : Di_enterCost a0 a1 a2 = some r) : Ct X.P X.gl 73 [.agg [sl 5 gi_Terrain a0.Rules.Terrains, sl 6 gi_Kind a0.Rules.Kinds, I a0.Rules.Stack, I a0.Rules.River, I a0.Rules.Road, I a0.Rules.Supply, I a0.Rules.Turns, I a0.Map.Width, I a0.Map.Height, sl 1 I a0.Map.Terrain, sl 1 I a0.Map.Rivers, sl 1 I a0.Map.Roads], I a1, I a2] [] (RI r) [] :=
  Ct.of func73 (c := bdy f73) (by kernel_rfl) (by kernel_rfl) <|
  eBind H fun r1 hr1 H =>
  eCk H fun h2 H =>
  eBind H fun x3 hx3 H =>
  eW RI (fun _ => []) H <| gE func73 [r0, rg [hC 2 true [] (Ri_terrainAt r1) [], hE 6 (I x3)]] (by kernel_rfl) (P1 (ci_terrainAt hr1) <| P1 h2 <| P1 (int_lt_of_at h2 hx3) <| P1 (at_map I hx3) <| P0)
/-! loop example/g00886/impl goodUnit -/
theorem ci_goodUnit {a0 : Gi_Board} {a1 : Gi_Unit} {r : Bool} (H : Di_goodUnit a0 a1 = some r) : Ct X.P X.gl 155 [.agg [sl 5 gi_Terrain a0.Rules.Terrains, sl 6 gi_Kind a0.Rules.Kinds, I a0.Rules.Stack, I a0.Rules.River, I a0.Rules.Road, I a0.Rules.Supply, I a0.Rules.Turns, I a0.Map.Width, I a0.Map.Height, sl 1 I a0.Map.Terrain, sl 1 I a0.Map.Rivers, sl 1 I a0.Map.Roads], .agg [I a1.Side, I a1.Kind, I a1.At, I a1.Steps]] [] (RB r) [] :=
  Ct.of func155 (c := bdy f155) (by kernel_rfl) (by kernel_rfl) <|
  eBind H fun r1 hr1 H =>
  gS [r0] (by kernel_rfl) P0 <|
  eIf H (fun h2 H =>
    eBind H fun r3 hr3 H =>
    eIf H (fun h4 H =>
      eCk H fun h5 H =>
      eBind H fun x6 hx6 H =>
      eBind H fun r7 hr7 H =>
      eIf H (fun h8 H =>
        gS [rg [{ i := 2, call := some { cl := true, auto := true, ins := [], res := (RB r1), G' := [] }, dec := some true }, { i := 11, call := some { cl := true, auto := true, ins := [], res := (RB r3), G' := [] }, dec := some true }, hE 24 (gi_Kind x6), { i := 25, call := some { cl := true, auto := true, ins := [], res := (RB r7), G' := [] }, dec := some true }]] (by kernel_rfl) (P1 (ci_isSide hr1) <| P2 (r1 = true) (h2) <| P1 (ci_isIndex hr3) <| P2 (r3 = true) (h4) <| P1 h5 <| P1 (int_lt_of_at h5 hx6) <| P1 (at_map gi_Kind hx6) <| P1 (ci_inRange hr7) <| P2 (r7 = true) (h8) <| P0) <|
        eIf H (fun h9 H =>
          eW RB (fun _ => []) H <| gE func155 [rg [hT 2], r0] (by kernel_rfl) (P2 (((a1.At : Int) == (-1)) = true) (beqT h9) <| P0))
        (fun h9 H =>
          gS [rg [hF 2]] (by kernel_rfl) (P2 (((a1.At : Int) == (-1)) = false) (beqF h9) <| P0) <|
          eIf H (fun h10 H =>
            eBind H fun r11 hr11 H =>
            eBind H fun r12 hr12 H =>
            eIf H (fun h13 H =>
              eBind H fun r14 hr14 H =>
              eW RB (fun _ => []) H <| gE func155 [rg [hT 2, hC 7 true [] (RI r11) [], { i := 8, call := some { cl := true, auto := true, ins := [], res := (RB r12), G' := [] }, dec := some true }, hC 16 true [] (RI r14) []]] (by kernel_rfl) (P2 ((decide (a1.Steps > 0)) = true) (decide_eq_true h10) <| P1 (ci_sizeOf hr11) <| P1 (ci_isIndex hr12) <| P2 (r12 = true) (h13) <| P1 (ci_enterCost hr14) <| P0))
            (fun h13 H =>
              eW RB (fun _ => []) H <| gE func155 [rg [hT 2, hC 7 true [] (RI r11) [], { i := 8, call := some { cl := true, auto := true, ins := [], res := (RB r12), G' := [] }, dec := some false }]] (by kernel_rfl) (P2 ((decide (a1.Steps > 0)) = true) (decide_eq_true h10) <| P1 (ci_sizeOf hr11) <| P1 (ci_isIndex hr12) <| P2 (r12 = false) (eqF h13) <| P0)))
          (fun h10 H =>
            eW RB (fun _ => []) H <| gE func155 [rg [hF 2]] (by kernel_rfl) (P2 ((decide (a1.Steps > 0)) = false) (decide_eq_false h10) <| P0))))
      (fun h8 H =>
        eW RB (fun _ => []) H <| gE func155 [rg [{ i := 2, call := some { cl := true, auto := true, ins := [], res := (RB r1), G' := [] }, dec := some true }, { i := 11, call := some { cl := true, auto := true, ins := [], res := (RB r3), G' := [] }, dec := some true }, hE 24 (gi_Kind x6), { i := 25, call := some { cl := true, auto := true, ins := [], res := (RB r7), G' := [] }, dec := some false }], r0] (by kernel_rfl) (P1 (ci_isSide hr1) <| P2 (r1 = true) (h2) <| P1 (ci_isIndex hr3) <| P2 (r3 = true) (h4) <| P1 h5 <| P1 (int_lt_of_at h5 hx6) <| P1 (at_map gi_Kind hx6) <| P1 (ci_inRange hr7) <| P2 (r7 = false) (eqF h8) <| P0)))
    (fun h4 H =>
      eW RB (fun _ => []) H <| gE func155 [rg [{ i := 2, call := some { cl := true, auto := true, ins := [], res := (RB r1), G' := [] }, dec := some true }, { i := 11, call := some { cl := true, auto := true, ins := [], res := (RB r3), G' := [] }, dec := some false }], r0] (by kernel_rfl) (P1 (ci_isSide hr1) <| P2 (r1 = true) (h2) <| P1 (ci_isIndex hr3) <| P2 (r3 = false) (eqF h4) <| P0)))
  (fun h2 H =>
    eW RB (fun _ => []) H <| gE func155 [rg [{ i := 2, call := some { cl := true, auto := true, ins := [], res := (RB r1), G' := [] }, dec := some false }], r0] (by kernel_rfl) (P1 (ci_isSide hr1) <| P2 (r1 = false) (eqF h2) <| P0))
/-! loop example/g00886/impl goodState -/
noncomputable def Ki_goodState : Si_goodState → List Item
  | .h1 .. => nav 300 4 [false] [.code (bdy f112)]
def Zi_goodState : Si_goodState → St
  | .h1 t0 t1 t2 b3 l4 => ⟨sts 80 [(2, .ptr 0 12 0 0), (5, .ref 1 2 none), (31, sl 4 gi_Unit t0), (32, I t1), (33, I t2)], [some ⟨false, true, 12, 1, [.agg [sl 5 gi_Terrain b3.Rules.Terrains, sl 6 gi_Kind b3.Rules.Kinds, I b3.Rules.Stack, I b3.Rules.River, I b3.Rules.Road, I b3.Rules.Supply, I b3.Rules.Turns, I b3.Map.Width, I b3.Map.Height, sl 1 I b3.Map.Terrain, sl 1 I b3.Map.Rivers, sl 1 I b3.Map.Roads]]⟩, some ⟨false, false, 2, l4.length, List.map gA2I l4⟩]⟩
abbrev Qi_goodState := Nx X 112 0 Ki_goodState Zi_goodState RB (fun _ => [])
theorem ni_goodState : ∀ s o, Bi_goodState s = some o → Qi_goodState (Ki_goodState s) (Zi_goodState s) o
  | .h1 t0 t1 t2 b3 l4, o, H =>
    eIf H (fun h1 H =>
      eCk H fun h2 H =>
      eBind H fun x3 hx3 H =>
      eBind H fun r4 hr4 H =>
      gN [rg [hT 0], rg [hE 1 (gi_Unit x3)]] (by kernel_rfl) (P2 ((decide (t2 < t1)) = true) (decide_eq_true h1) <| P1 h2 <| P1 (int_lt_of_at h2 hx3) <| P1 (at_map gi_Unit hx3) <| P0) <|
      eIf H (fun h5 H =>
        gN [rg [{ i := 2, call := some { cl := true, auto := true, ins := [], res := (RB r4), G' := [] }, dec := some true }]] (by kernel_rfl) (P1 (ci_goodUnit hr4) <| P2 (r4 = true) (h5) <| P0) <|
        eIf H (fun h6 H =>
          eN H fun r hn => gO [rg [hT 2], r0, .canon [0, 1] [2, 5, 31, 32, 33]] (by kernel_rfl) (P2 ((decide (x3.At < 0)) = true) (decide_eq_true h6) <| P0) hn)
        (fun h6 H =>
          eCk H fun h7 H =>
          eBind H fun x8 hx8 H =>
          gN [rg [hF 2]] (by kernel_rfl) (P2 ((decide (x3.At < 0)) = false) (decide_eq_false h6) <| P0) <|
          eIf H (fun h9 H =>
            eCk H fun h10 H =>
            eBind H fun x11 hx11 H =>
            eCk H fun h12 H =>
            eBind H fun x13 hx13 H =>
            gN [rg [{ i := 6, n := 0 }, hE 7 (gA2I x8), { i := 10, n := 0 }, hA 11 ((List.set l4 (Int.toNat x3.At) (GA2I.mk (IntKind.wrap .i64 (x8.c0 + 1)) x11.c1)).length) (List.map gA2I (List.set l4 (Int.toNat x3.At) (GA2I.mk (IntKind.wrap .i64 (x8.c0 + 1)) x11.c1)))]] (by kernel_rfl) (P1 h7 <| P1 (int_lt_of_at h7 hx8) <| P1 h9 <| P1 (at_map gA2I hx8) <| P1 h10 <| P1 (int_lt_of_at h10 hx11) <| P1 h9 <| P1 (lt_of_at hx11) <| P2 (setCells (List.map gA2I l4) (Int.toNat x3.At) 0 [I (IntKind.wrap .i64 (x8.c0 + 1))] = List.map gA2I (List.set l4 (Int.toNat x3.At) (GA2I.mk (IntKind.wrap .i64 (x8.c0 + 1)) x11.c1))) (setCells_map hx11 rfl) <| P1 (setLen l4 (Int.toNat x3.At) (GA2I.mk (IntKind.wrap .i64 (x8.c0 + 1)) x11.c1)) <| P0) <|
            eIf H (fun h14 H =>
              eIf H (fun h15 H =>
                eN H <| gE func112 [rg [{ i := 7, n := 0 }, hE 8 (gA2I x13), hT 9], r0] (by kernel_rfl) (P1 h12 <| P1 (int_lt_of_at h12 hx13) <| P1 h14 <| P1 (at_map gA2I hx13) <| P2 ((decide (x13.c0 > 0)) = true) (decide_eq_true h15) <| P0))
              (fun h15 H =>
                eCk H fun h16 H =>
                eBind H fun x17 hx17 H =>
                eIf H (fun h18 H =>
                  eN H <| gE func112 [rg [{ i := 7, n := 0 }, hE 8 (gA2I x13), hF 9, { i := 17, n := 0 }, hE 18 (gA2I x17), hT 22], r0] (by kernel_rfl) (P1 h12 <| P1 (int_lt_of_at h12 hx13) <| P1 h14 <| P1 (at_map gA2I hx13) <| P2 ((decide (x13.c0 > 0)) = false) (decide_eq_false h15) <| P1 h16 <| P1 (int_lt_of_at h16 hx17) <| P1 h9 <| P1 (at_map gA2I hx17) <| P2 ((decide (x17.c0 > b3.Rules.Stack)) = true) (decide_eq_true h18) <| P0))
                (fun h18 H =>
                  eN H fun r hn => gO [rg [{ i := 7, n := 0 }, hE 8 (gA2I x13), hF 9, { i := 17, n := 0 }, hE 18 (gA2I x17), hF 22], r0, .canon [0, 1] [2, 5, 31, 32, 33]] (by kernel_rfl) (P1 h12 <| P1 (int_lt_of_at h12 hx13) <| P1 h14 <| P1 (at_map gA2I hx13) <| P2 ((decide (x13.c0 > 0)) = false) (decide_eq_false h15) <| P1 h16 <| P1 (int_lt_of_at h16 hx17) <| P1 h9 <| P1 (at_map gA2I hx17) <| P2 ((decide (x17.c0 > b3.Rules.Stack)) = false) (decide_eq_false h18) <| P0) hn)))
            (fun h14 H =>
              eCk H fun h15 H =>
              eIf H (fun h16 H =>
                eN H <| gE func112 [rg [{ i := 7, n := 1 }, hE 8 (gA2I x13), hT 9], r0] (by kernel_rfl) (P1 h12 <| P1 (int_lt_of_at h12 hx13) <| P1 h15 <| P1 (at_map gA2I hx13) <| P2 ((decide (x13.c1 > 0)) = true) (decide_eq_true h16) <| P0))
              (fun h16 H =>
                eCk H fun h17 H =>
                eBind H fun x18 hx18 H =>
                eIf H (fun h19 H =>
                  eN H <| gE func112 [rg [{ i := 7, n := 1 }, hE 8 (gA2I x13), hF 9, { i := 17, n := 0 }, hE 18 (gA2I x18), hT 22], r0] (by kernel_rfl) (P1 h12 <| P1 (int_lt_of_at h12 hx13) <| P1 h15 <| P1 (at_map gA2I hx13) <| P2 ((decide (x13.c1 > 0)) = false) (decide_eq_false h16) <| P1 h17 <| P1 (int_lt_of_at h17 hx18) <| P1 h9 <| P1 (at_map gA2I hx18) <| P2 ((decide (x18.c0 > b3.Rules.Stack)) = true) (decide_eq_true h19) <| P0))
                (fun h19 H =>
                  eN H fun r hn => gO [rg [{ i := 7, n := 1 }, hE 8 (gA2I x13), hF 9, { i := 17, n := 0 }, hE 18 (gA2I x18), hF 22], r0, .canon [0, 1] [2, 5, 31, 32, 33]] (by kernel_rfl) (P1 h12 <| P1 (int_lt_of_at h12 hx13) <| P1 h15 <| P1 (at_map gA2I hx13) <| P2 ((decide (x13.c1 > 0)) = false) (decide_eq_false h16) <| P1 h17 <| P1 (int_lt_of_at h17 hx18) <| P1 h9 <| P1 (at_map gA2I hx18) <| P2 ((decide (x18.c0 > b3.Rules.Stack)) = false) (decide_eq_false h19) <| P0) hn))))
          (fun h9 H =>
            eCk H fun h10 H =>
            eCk H fun h11 H =>
            eBind H fun x12 hx12 H =>
            eCk H fun h13 H =>
            eBind H fun x14 hx14 H =>
            gN [rg [{ i := 6, n := 1 }, hE 7 (gA2I x8), { i := 10, n := 1 }, hA 11 ((List.set l4 (Int.toNat x3.At) (GA2I.mk x12.c0 (IntKind.wrap .i64 (x8.c1 + 1)))).length) (List.map gA2I (List.set l4 (Int.toNat x3.At) (GA2I.mk x12.c0 (IntKind.wrap .i64 (x8.c1 + 1)))))]] (by kernel_rfl) (P1 h7 <| P1 (int_lt_of_at h7 hx8) <| P1 h10 <| P1 (at_map gA2I hx8) <| P1 h11 <| P1 (int_lt_of_at h11 hx12) <| P1 h10 <| P1 (lt_of_at hx12) <| P2 (setCells (List.map gA2I l4) (Int.toNat x3.At) 1 [I (IntKind.wrap .i64 (x8.c1 + 1))] = List.map gA2I (List.set l4 (Int.toNat x3.At) (GA2I.mk x12.c0 (IntKind.wrap .i64 (x8.c1 + 1))))) (setCells_map hx12 rfl) <| P1 (setLen l4 (Int.toNat x3.At) (GA2I.mk x12.c0 (IntKind.wrap .i64 (x8.c1 + 1)))) <| P0) <|
            eIf H (fun h15 H =>
              eIf H (fun h16 H =>
                eN H <| gE func112 [rg [{ i := 7, n := 0 }, hE 8 (gA2I x14), hT 9], r0] (by kernel_rfl) (P1 h13 <| P1 (int_lt_of_at h13 hx14) <| P1 h15 <| P1 (at_map gA2I hx14) <| P2 ((decide (x14.c0 > 0)) = true) (decide_eq_true h16) <| P0))
              (fun h16 H =>
                eCk H fun h17 H =>
                eBind H fun x18 hx18 H =>
                eIf H (fun h19 H =>
                  eN H <| gE func112 [rg [{ i := 7, n := 0 }, hE 8 (gA2I x14), hF 9, { i := 17, n := 1 }, hE 18 (gA2I x18), hT 22], r0] (by kernel_rfl) (P1 h13 <| P1 (int_lt_of_at h13 hx14) <| P1 h15 <| P1 (at_map gA2I hx14) <| P2 ((decide (x14.c0 > 0)) = false) (decide_eq_false h16) <| P1 h17 <| P1 (int_lt_of_at h17 hx18) <| P1 h10 <| P1 (at_map gA2I hx18) <| P2 ((decide (x18.c1 > b3.Rules.Stack)) = true) (decide_eq_true h19) <| P0))
                (fun h19 H =>
                  eN H fun r hn => gO [rg [{ i := 7, n := 0 }, hE 8 (gA2I x14), hF 9, { i := 17, n := 1 }, hE 18 (gA2I x18), hF 22], r0, .canon [0, 1] [2, 5, 31, 32, 33]] (by kernel_rfl) (P1 h13 <| P1 (int_lt_of_at h13 hx14) <| P1 h15 <| P1 (at_map gA2I hx14) <| P2 ((decide (x14.c0 > 0)) = false) (decide_eq_false h16) <| P1 h17 <| P1 (int_lt_of_at h17 hx18) <| P1 h10 <| P1 (at_map gA2I hx18) <| P2 ((decide (x18.c1 > b3.Rules.Stack)) = false) (decide_eq_false h19) <| P0) hn)))
            (fun h15 H =>
              eCk H fun h16 H =>
              eIf H (fun h17 H =>
                eN H <| gE func112 [rg [{ i := 7, n := 1 }, hE 8 (gA2I x14), hT 9], r0] (by kernel_rfl) (P1 h13 <| P1 (int_lt_of_at h13 hx14) <| P1 h16 <| P1 (at_map gA2I hx14) <| P2 ((decide (x14.c1 > 0)) = true) (decide_eq_true h17) <| P0))
              (fun h17 H =>
                eCk H fun h18 H =>
                eBind H fun x19 hx19 H =>
                eIf H (fun h20 H =>
                  eN H <| gE func112 [rg [{ i := 7, n := 1 }, hE 8 (gA2I x14), hF 9, { i := 17, n := 1 }, hE 18 (gA2I x19), hT 22], r0] (by kernel_rfl) (P1 h13 <| P1 (int_lt_of_at h13 hx14) <| P1 h16 <| P1 (at_map gA2I hx14) <| P2 ((decide (x14.c1 > 0)) = false) (decide_eq_false h17) <| P1 h18 <| P1 (int_lt_of_at h18 hx19) <| P1 h10 <| P1 (at_map gA2I hx19) <| P2 ((decide (x19.c1 > b3.Rules.Stack)) = true) (decide_eq_true h20) <| P0))
                (fun h20 H =>
                  eN H fun r hn => gO [rg [{ i := 7, n := 1 }, hE 8 (gA2I x14), hF 9, { i := 17, n := 1 }, hE 18 (gA2I x19), hF 22], r0, .canon [0, 1] [2, 5, 31, 32, 33]] (by kernel_rfl) (P1 h13 <| P1 (int_lt_of_at h13 hx14) <| P1 h16 <| P1 (at_map gA2I hx14) <| P2 ((decide (x14.c1 > 0)) = false) (decide_eq_false h17) <| P1 h18 <| P1 (int_lt_of_at h18 hx19) <| P1 h10 <| P1 (at_map gA2I hx19) <| P2 ((decide (x19.c1 > b3.Rules.Stack)) = false) (decide_eq_false h20) <| P0) hn))))))
      (fun h5 H =>
        eN H <| gE func112 [rg [{ i := 2, call := some { cl := true, auto := true, ins := [], res := (RB r4), G' := [] }, dec := some false }], r0] (by kernel_rfl) (P1 (ci_goodUnit hr4) <| P2 (r4 = false) (eqF h5) <| P0)))
    (fun h1 H =>
      eN H <| gE func112 [rg [hF 0], r0] (by kernel_rfl) (P2 ((decide (t2 < t1)) = false) (decide_eq_false h1) <| P0))
theorem wi_goodState : ∀ s r, loop Bi_goodState s = some r → Wc X 112 0 (Ki_goodState s) (Zi_goodState s) (RB r) ((fun _ => []) r) := Nx.all ni_goodState
theorem ci_goodState {a0 : Gi_Board} {a1 : Gi_State} {r : Bool} (H : Di_goodState a0 a1 = some r) : Ct X.P X.gl 112 [.agg [sl 5 gi_Terrain a0.Rules.Terrains, sl 6 gi_Kind a0.Rules.Kinds, I a0.Rules.Stack, I a0.Rules.River, I a0.Rules.Road, I a0.Rules.Supply, I a0.Rules.Turns, I a0.Map.Width, I a0.Map.Height, sl 1 I a0.Map.Terrain, sl 1 I a0.Map.Rivers, sl 1 I a0.Map.Roads], .agg [I a1.Turn, I a1.Weather, sl 4 gi_Unit a1.Units]] [] (RB r) [] :=
  Ct.of func112 (c := bdy f112) (by kernel_rfl) (by kernel_rfl) <|
  eBind H fun r1 hr1 H =>
  gS [r0] (by kernel_rfl) P0 <|
  eIf H (fun h2 H =>
    eBind H fun r3 hr3 H =>
    eIf H (fun h4 H =>
      eIf H (fun h5 H =>
        eW RB (fun _ => []) H <| gE func112 [rg [{ i := 5, call := some { cl := true, auto := true, ins := [], res := (RB r1), G' := [] }, dec := some true }, { i := 10, call := some { cl := true, auto := true, ins := [], res := (RB r3), G' := [] }, dec := some true }, hT 17], r0] (by kernel_rfl) (P1 (ci_inRange hr1) <| P2 (r1 = true) (h2) <| P1 (ci_inRange hr3) <| P2 (r3 = true) (h4) <| P2 ((decide (((a1.Units.length : Nat) : Int) > 12)) = true) (decide_eq_true h5) <| P0))
      (fun h5 H =>
        eBind H fun r6 hr6 H =>
        eCk H fun h7 H =>
        eCk H fun h8 H =>
        gO [rg [{ i := 5, call := some { cl := true, auto := true, ins := [], res := (RB r1), G' := [] }, dec := some true }, { i := 10, call := some { cl := true, auto := true, ins := [], res := (RB r3), G' := [] }, dec := some true }, hF 17], rg [hC 1 true [] (RI r6) [], hA 2 ((List.replicate (Int.toNat r6) (GA2I.mk 0 0)).length) (List.map gA2I (List.replicate (Int.toNat r6) (GA2I.mk 0 0)))], r0, .canon [0, 2] [2, 5, 31, 32, 33]] (by kernel_rfl) (P1 (ci_inRange hr1) <| P2 (r1 = true) (h2) <| P1 (ci_inRange hr3) <| P2 (r3 = true) (h4) <| P2 ((decide (((a1.Units.length : Nat) : Int) > 12)) = false) (decide_eq_false h5) <| P1 (ci_sizeOf hr6) <| PI (r6 : Int) <| P2 ((0 : Int) ≤ r6) h7 <| P2 (Int.toNat r6 * 16 ≤ 140737488355328) h8 <| P1 (repLen (Int.toNat r6) (GA2I.mk 0 0)) <| P1 (repMap gA2I (Int.toNat r6) (GA2I.mk 0 0)) <| P0) (wi_goodState _ _ H)))
    (fun h4 H =>
      eW RB (fun _ => []) H <| gE func112 [rg [{ i := 5, call := some { cl := true, auto := true, ins := [], res := (RB r1), G' := [] }, dec := some true }, { i := 10, call := some { cl := true, auto := true, ins := [], res := (RB r3), G' := [] }, dec := some false }], r0] (by kernel_rfl) (P1 (ci_inRange hr1) <| P2 (r1 = true) (h2) <| P1 (ci_inRange hr3) <| P2 (r3 = false) (eqF h4) <| P0)))
  (fun h2 H =>
    eW RB (fun _ => []) H <| gE func112 [rg [{ i := 5, call := some { cl := true, auto := true, ins := [], res := (RB r1), G' := [] }, dec := some false }], r0] (by kernel_rfl) (P1 (ci_inRange hr1) <| P2 (r1 = false) (eqF h2) <| P0))
/-! loop example/g00886/impl fits -/
theorem ci_fits {a0 : Gi_Board} {a1 : Gi_State} {r : Bool} (H : Di_fits a0 a1 = some r) : Ct X.P X.gl 76 [.agg [sl 5 gi_Terrain a0.Rules.Terrains, sl 6 gi_Kind a0.Rules.Kinds, I a0.Rules.Stack, I a0.Rules.River, I a0.Rules.Road, I a0.Rules.Supply, I a0.Rules.Turns, I a0.Map.Width, I a0.Map.Height, sl 1 I a0.Map.Terrain, sl 1 I a0.Map.Rivers, sl 1 I a0.Map.Roads], .agg [I a1.Turn, I a1.Weather, sl 4 gi_Unit a1.Units]] [] (RB r) [] :=
  Ct.of func76 (c := bdy f76) (by kernel_rfl) (by kernel_rfl) <|
  eBind H fun r1 hr1 H =>
  gS [r0] (by kernel_rfl) P0 <|
  eIf H (fun h2 H =>
    eBind H fun r3 hr3 H =>
    eW RB (fun _ => []) H <| gE func76 [rg [{ i := 1, call := some { cl := true, auto := true, ins := [], res := (RB r1), G' := [] }, dec := some true }, hC 5 true [] (RB r3) []]] (by kernel_rfl) (P1 (ci_IsBoard hr1) <| P2 (r1 = true) (h2) <| P1 (ci_goodState hr3) <| P0))
  (fun h2 H =>
    eW RB (fun _ => []) H <| gE func76 [rg [{ i := 1, call := some { cl := true, auto := true, ins := [], res := (RB r1), G' := [] }, dec := some false }]] (by kernel_rfl) (P1 (ci_IsBoard hr1) <| P2 (r1 = false) (eqF h2) <| P0))
/-! loop example/g00886/impl ownerOf -/
noncomputable def Ki_ownerOf : Si_ownerOf → List Item
  | .h1 .. => nav 300 2 [] [.code (bdy f71)]
def Zi_ownerOf : Si_ownerOf → St
  | .h1 i0 t1 t2 t3 => ⟨sts 21 [(1, I i0), (8, sl 4 gi_Unit t1), (9, I t2), (10, I t3)], []⟩
abbrev Qi_ownerOf := Nx X 71 0 Ki_ownerOf Zi_ownerOf RI (fun _ => [])
theorem ni_ownerOf : ∀ s o, Bi_ownerOf s = some o → Qi_ownerOf (Ki_ownerOf s) (Zi_ownerOf s) o
  | .h1 i0 t1 t2 t3, o, H =>
    eIf H (fun h1 H =>
      eCk H fun h2 H =>
      eBind H fun x3 hx3 H =>
      gN [rg [hT 0], rg [hE 1 (gi_Unit x3)]] (by kernel_rfl) (P2 ((decide (t3 < t2)) = true) (decide_eq_true h1) <| P1 h2 <| P1 (int_lt_of_at h2 hx3) <| P1 (at_map gi_Unit hx3) <| P0) <|
      eIf H (fun h4 H =>
        eN H <| gE func71 [rg [hT 3], r0] (by kernel_rfl) (P2 (((x3.At : Int) == i0) = true) (beqT h4) <| P0))
      (fun h4 H =>
        eN H fun r hn => gO [rg [hF 3], r0, .canon [] [1, 8, 9, 10]] (by kernel_rfl) (P2 (((x3.At : Int) == i0) = false) (beqF h4) <| P0) hn))
    (fun h1 H =>
      eN H <| gE func71 [rg [hF 0], r0] (by kernel_rfl) (P2 ((decide (t3 < t2)) = false) (decide_eq_false h1) <| P0))
theorem wi_ownerOf : ∀ s r, loop Bi_ownerOf s = some r → Wc X 71 0 (Ki_ownerOf s) (Zi_ownerOf s) (RI r) ((fun _ => []) r) := Nx.all ni_ownerOf
theorem ci_ownerOf {a0 : Gi_State} {a1 : Int} {r : Int} (H : Di_ownerOf a0 a1 = some r) : Ct X.P X.gl 71 [.agg [I a0.Turn, I a0.Weather, sl 4 gi_Unit a0.Units], I a1] [] (RI r) [] :=
  Ct.of func71 (c := bdy f71) (by kernel_rfl) (by kernel_rfl) <|
  gO [r0, r0, .canon [] [1, 8, 9, 10]] (by kernel_rfl) P0 (wi_ownerOf _ _ H)
/-! loop example/g00886/impl edgeOf -/
theorem ci_edgeOf {a0 : Gi_Map} {a1 : Int} {a2 : Int} {r : Int} (H : Di_edgeOf a0 a1 a2 = some r) : Ct X.P X.gl 130 [.agg [I a0.Width, I a0.Height, sl 1 I a0.Terrain, sl 1 I a0.Rivers, sl 1 I a0.Roads], I a1, I a2] [] (RI r) [] :=
  Ct.of func130 (c := bdy f130) (by kernel_rfl) (by kernel_rfl) <|
  eBind H fun r1 hr1 H =>
  gS [r0, rg [hC 3 true [] (RI r1) []]] (by kernel_rfl) (P1 (ci_nextTo hr1) <| P0) <|
  eIf H (fun h2 H =>
    eW RI (fun _ => []) H <| gE func130 [rg [hT 1], r0] (by kernel_rfl) (P2 ((decide (r1 < 0)) = true) (decide_eq_true h2) <| P0))
  (fun h2 H =>
    gS [rg [hF 1]] (by kernel_rfl) (P2 ((decide (r1 < 0)) = false) (decide_eq_false h2) <| P0) <|
    eIf H (fun h3 H =>
      eW RI (fun _ => []) H <| gE func130 [rg [hT 1], r0] (by kernel_rfl) (P2 ((decide (a2 < 3)) = true) (decide_eq_true h3) <| P0))
    (fun h3 H =>
      eW RI (fun _ => []) H <| gE func130 [rg [hF 1], r0] (by kernel_rfl) (P2 ((decide (a2 < 3)) = false) (decide_eq_false h3) <| P0)))
/-! slices Index   int int  -/
noncomputable def Kslices_Index_int : Sslices_Index_int → List Item
  | .h1 .. => nav 300 2 [] [.code (bdy f102)]
def Zslices_Index_int : Sslices_Index_int → St
  | .h1 s0 v1 t2 t3 => ⟨sts 19 [(0, sl 1 I s0), (1, I v1), (7, I t2), (8, I t3)], []⟩
abbrev Qslices_Index_int := Nx X 102 0 Kslices_Index_int Zslices_Index_int RI (fun _ => [])
theorem nslices_Index_int : ∀ s o, Bslices_Index_int s = some o → Qslices_Index_int (Kslices_Index_int s) (Zslices_Index_int s) o
  | .h1 s0 v1 t2 t3, o, H =>
    eIf H (fun h1 H =>
      eCk H fun h2 H =>
      eBind H fun x3 hx3 H =>
      gN [rg [hT 0], r0] (by kernel_rfl) (P2 ((decide (t3 < t2)) = true) (decide_eq_true h1) <| P0) <|
      eIf H (fun h4 H =>
        eN H <| gE func102 [rg [hE 4 (I x3), hT 5], r0] (by kernel_rfl) (P1 h2 <| P1 (int_lt_of_at h2 hx3) <| P1 (at_map I hx3) <| P2 (((v1 : Int) == x3) = true) (beqT h4) <| P0))
      (fun h4 H =>
        eN H fun r hn => gO [rg [hE 4 (I x3), hF 5], r0, .canon [] [0, 1, 7, 8]] (by kernel_rfl) (P1 h2 <| P1 (int_lt_of_at h2 hx3) <| P1 (at_map I hx3) <| P2 (((v1 : Int) == x3) = false) (beqF h4) <| P0) hn))
    (fun h1 H =>
      eN H <| gE func102 [rg [hF 0], r0] (by kernel_rfl) (P2 ((decide (t3 < t2)) = false) (decide_eq_false h1) <| P0))
theorem wslices_Index_int : ∀ s r, loop Bslices_Index_int s = some r → Wc X 102 0 (Kslices_Index_int s) (Zslices_Index_int s) (RI r) ((fun _ => []) r) := Nx.all nslices_Index_int
theorem cslices_Index_int {a0 : (List Int)} {a1 : Int} {r : Int} (H : Dslices_Index_int a0 a1 = some r) : Ct X.P X.gl 102 [sl 1 I a0, I a1] [] (RI r) [] :=
  Ct.of func102 (c := bdy f102) (by kernel_rfl) (by kernel_rfl) <|
  gO [r0, r0, .canon [] [0, 1, 7, 8]] (by kernel_rfl) P0 (wslices_Index_int _ _ H)
/-! slices Contains   int int  -/
theorem cslices_Contains_int {a0 : (List Int)} {a1 : Int} {r : Bool} (H : Dslices_Contains_int a0 a1 = some r) : Ct X.P X.gl 54 [sl 1 I a0, I a1] [] (RB r) [] :=
  Ct.of func54 (c := bdy f54) (by kernel_rfl) (by kernel_rfl) <|
  eBind H fun r1 hr1 H =>
  eW RB (fun _ => []) H <| gE func54 [r0, rg [hC 2 true [] (RI r1) []]] (by kernel_rfl) (P1 (cslices_Index_int hr1) <| P0)
/-! loop example/g00886/impl crossesFreely -/
theorem ci_crossesFreely {a0 : Gi_Map} {a1 : Int} {r : Bool} (H : Di_crossesFreely a0 a1 = some r) : Ct X.P X.gl 129 [.agg [I a0.Width, I a0.Height, sl 1 I a0.Terrain, sl 1 I a0.Rivers, sl 1 I a0.Roads], I a1] [] (RB r) [] :=
  Ct.of func129 (c := bdy f129) (by kernel_rfl) (by kernel_rfl) <|
  eBind H fun r1 hr1 H =>
  gS [r0] (by kernel_rfl) P0 <|
  eIf H (fun h2 H =>
    eBind H fun r3 hr3 H =>
    eW RB (fun _ => []) H <| gE func129 [rg [{ i := 3, call := some { cl := true, auto := true, ins := [], res := (RB r1), G' := [] }, dec := some true }, hC 9 true [] (RB r3) []]] (by kernel_rfl) (P1 (cslices_Contains_int hr1) <| P2 (r1 = true) (h2) <| P1 (cslices_Contains_int hr3) <| P0))
  (fun h2 H =>
    eW RB (fun _ => []) H <| gE func129 [rg [{ i := 3, call := some { cl := true, auto := true, ins := [], res := (RB r1), G' := [] }, dec := some false }]] (by kernel_rfl) (P1 (cslices_Contains_int hr1) <| P2 (r1 = false) (eqF h2) <| P0))
/-! loop example/g00886/impl controls -/
noncomputable def Ki_controls : Si_controls → List Item
  | .h1 .. => nav 300 3 [false] [.code (bdy f111)]
def Zi_controls : Si_controls → St
  | .h1 i0 t1 b2 b3 => ⟨sts 51 [(2, I i0), (3, .ptr 0 12 0 0), (4, .ptr 1 4 0 0), (30, I t1)], [some ⟨false, true, 12, 1, [.agg [sl 5 gi_Terrain b2.Rules.Terrains, sl 6 gi_Kind b2.Rules.Kinds, I b2.Rules.Stack, I b2.Rules.River, I b2.Rules.Road, I b2.Rules.Supply, I b2.Rules.Turns, I b2.Map.Width, I b2.Map.Height, sl 1 I b2.Map.Terrain, sl 1 I b2.Map.Rivers, sl 1 I b2.Map.Roads]]⟩, some ⟨false, true, 4, 1, [.agg [I b3.Side, I b3.Kind, I b3.At, I b3.Steps]]⟩]⟩
abbrev Qi_controls := Nx X 111 0 Ki_controls Zi_controls RB (fun _ => [])
theorem ni_controls : ∀ s o, Bi_controls s = some o → Qi_controls (Ki_controls s) (Zi_controls s) o
  | .h1 i0 t1 b2 b3, o, H =>
    eIf H (fun h1 H =>
      eBind H fun r2 hr2 H =>
      gN [rg [hT 0], r0] (by kernel_rfl) (P2 ((decide (t1 < 6)) = true) (decide_eq_true h1) <| P0) <|
      eIf H (fun h3 H =>
        eBind H fun r4 hr4 H =>
        eBind H fun r5 hr5 H =>
        eN H <| gE func111 [rg [hC 5 true [] (RI r2) [], hT 7], rg [hC 7 true [] (RI r4) [], hC 8 true [] (RB r5) []]] (by kernel_rfl) (P1 (ci_nextTo hr2) <| P2 (((r2 : Int) == i0) = true) (beqT h3) <| P1 (ci_edgeOf hr4) <| P1 (ci_crossesFreely hr5) <| P0))
      (fun h3 H =>
        eN H fun r hn => gO [rg [hC 5 true [] (RI r2) [], hF 7], r0, .canon [0, 1] [2, 3, 4, 30]] (by kernel_rfl) (P1 (ci_nextTo hr2) <| P2 (((r2 : Int) == i0) = false) (beqF h3) <| P0) hn))
    (fun h1 H =>
      eN H <| gE func111 [rg [hF 0], r0] (by kernel_rfl) (P2 ((decide (t1 < 6)) = false) (decide_eq_false h1) <| P0))
theorem wi_controls : ∀ s r, loop Bi_controls s = some r → Wc X 111 0 (Ki_controls s) (Zi_controls s) (RB r) ((fun _ => []) r) := Nx.all ni_controls
theorem ci_controls {a0 : Gi_Board} {a1 : Gi_Unit} {a2 : Int} {r : Bool} (H : Di_controls a0 a1 a2 = some r) : Ct X.P X.gl 111 [.agg [sl 5 gi_Terrain a0.Rules.Terrains, sl 6 gi_Kind a0.Rules.Kinds, I a0.Rules.Stack, I a0.Rules.River, I a0.Rules.Road, I a0.Rules.Supply, I a0.Rules.Turns, I a0.Map.Width, I a0.Map.Height, sl 1 I a0.Map.Terrain, sl 1 I a0.Map.Rivers, sl 1 I a0.Map.Roads], .agg [I a1.Side, I a1.Kind, I a1.At, I a1.Steps], I a2] [] (RB r) [] :=
  Ct.of func111 (c := bdy f111) (by kernel_rfl) (by kernel_rfl) <|
  gS [r0] (by kernel_rfl) P0 <|
  eIf H (fun h1 H =>
    eW RB (fun _ => []) H <| gE func111 [rg [hT 2], r0] (by kernel_rfl) (P2 ((decide (a1.At < 0)) = true) (decide_eq_true h1) <| P0))
  (fun h1 H =>
    eCk H fun h2 H =>
    eBind H fun x3 hx3 H =>
    eIf H (fun h4 H =>
      eBind H fun r5 hr5 H =>
      eIf H (fun h6 H =>
        eW RB (fun _ => []) H <| gE func111 [rg [hF 2, { i := 11, el := some (gi_Kind x3), dec := some true }, hC 19 true [] (RI r5) [], hT 20], r0] (by kernel_rfl) (P2 ((decide (a1.At < 0)) = false) (decide_eq_false h1) <| P1 h2 <| P1 (int_lt_of_at h2 hx3) <| P1 (at_map gi_Kind hx3) <| P2 (x3.Zone = true) (h4) <| P1 (ci_enterCost hr5) <| P2 (((r5 : Int) == 0) = true) (beqT h6) <| P0))
      (fun h6 H =>
        gO [rg [hF 2, { i := 11, el := some (gi_Kind x3), dec := some true }, hC 19 true [] (RI r5) [], hF 20], r0, .canon [0, 1] [2, 3, 4, 30]] (by kernel_rfl) (P2 ((decide (a1.At < 0)) = false) (decide_eq_false h1) <| P1 h2 <| P1 (int_lt_of_at h2 hx3) <| P1 (at_map gi_Kind hx3) <| P2 (x3.Zone = true) (h4) <| P1 (ci_enterCost hr5) <| P2 (((r5 : Int) == 0) = false) (beqF h6) <| P0) (wi_controls _ _ H)))
    (fun h4 H =>
      eW RB (fun _ => []) H <| gE func111 [rg [hF 2, { i := 11, el := some (gi_Kind x3), dec := some false }], r0] (by kernel_rfl) (P2 ((decide (a1.At < 0)) = false) (decide_eq_false h1) <| P1 h2 <| P1 (int_lt_of_at h2 hx3) <| P1 (at_map gi_Kind hx3) <| P2 (x3.Zone = false) (eqF h4) <| P0)))
/-! loop example/g00886/impl inZone -/
noncomputable def Ki_inZone : Si_inZone → List Item
  | .h1 .. => nav 300 2 [] [.code (bdy f74)]
def Zi_inZone : Si_inZone → St
  | .h1 side0 i1 t2 t3 t4 b5 => ⟨sts 29 [(2, I side0), (3, I i1), (4, .ptr 0 12 0 0), (12, sl 4 gi_Unit t2), (13, I t3), (14, I t4)], [some ⟨false, true, 12, 1, [.agg [sl 5 gi_Terrain b5.Rules.Terrains, sl 6 gi_Kind b5.Rules.Kinds, I b5.Rules.Stack, I b5.Rules.River, I b5.Rules.Road, I b5.Rules.Supply, I b5.Rules.Turns, I b5.Map.Width, I b5.Map.Height, sl 1 I b5.Map.Terrain, sl 1 I b5.Map.Rivers, sl 1 I b5.Map.Roads]]⟩]⟩
abbrev Qi_inZone := Nx X 74 0 Ki_inZone Zi_inZone RB (fun _ => [])
theorem ni_inZone : ∀ s o, Bi_inZone s = some o → Qi_inZone (Ki_inZone s) (Zi_inZone s) o
  | .h1 side0 i1 t2 t3 t4 b5, o, H =>
    eIf H (fun h1 H =>
      eCk H fun h2 H =>
      eBind H fun x3 hx3 H =>
      gN [rg [hT 0], rg [hE 1 (gi_Unit x3)]] (by kernel_rfl) (P2 ((decide (t4 < t3)) = true) (decide_eq_true h1) <| P1 h2 <| P1 (int_lt_of_at h2 hx3) <| P1 (at_map gi_Unit hx3) <| P0) <|
      eIf H (fun h4 H =>
        eBind H fun r5 hr5 H =>
        eIf H (fun h6 H =>
          eN H <| gE func74 [rg [hT 3, { i := 8, call := some { cl := true, auto := true, ins := [], res := (RB r5), G' := [] }, dec := some true }], r0] (by kernel_rfl) (P2 (((x3.Side : Int) == side0) = true) (beqT h4) <| P1 (ci_controls hr5) <| P2 (r5 = true) (h6) <| P0))
        (fun h6 H =>
          eN H fun r hn => gO [rg [hT 3, { i := 8, call := some { cl := true, auto := true, ins := [], res := (RB r5), G' := [] }, dec := some false }], r0, .canon [0] [2, 3, 4, 12, 13, 14]] (by kernel_rfl) (P2 (((x3.Side : Int) == side0) = true) (beqT h4) <| P1 (ci_controls hr5) <| P2 (r5 = false) (eqF h6) <| P0) hn))
      (fun h4 H =>
        eN H fun r hn => gO [rg [hF 3], r0, .canon [0] [2, 3, 4, 12, 13, 14]] (by kernel_rfl) (P2 (((x3.Side : Int) == side0) = false) (beqF h4) <| P0) hn))
    (fun h1 H =>
      eN H <| gE func74 [rg [hF 0], r0] (by kernel_rfl) (P2 ((decide (t4 < t3)) = false) (decide_eq_false h1) <| P0))
theorem wi_inZone : ∀ s r, loop Bi_inZone s = some r → Wc X 74 0 (Ki_inZone s) (Zi_inZone s) (RB r) ((fun _ => []) r) := Nx.all ni_inZone
theorem ci_inZone {a0 : Gi_Board} {a1 : Gi_State} {a2 : Int} {a3 : Int} {r : Bool} (H : Di_inZone a0 a1 a2 a3 = some r) : Ct X.P X.gl 74 [.agg [sl 5 gi_Terrain a0.Rules.Terrains, sl 6 gi_Kind a0.Rules.Kinds, I a0.Rules.Stack, I a0.Rules.River, I a0.Rules.Road, I a0.Rules.Supply, I a0.Rules.Turns, I a0.Map.Width, I a0.Map.Height, sl 1 I a0.Map.Terrain, sl 1 I a0.Map.Rivers, sl 1 I a0.Map.Roads], .agg [I a1.Turn, I a1.Weather, sl 4 gi_Unit a1.Units], I a2, I a3] [] (RB r) [] :=
  Ct.of func74 (c := bdy f74) (by kernel_rfl) (by kernel_rfl) <|
  gO [r0, r0, .canon [0] [2, 3, 4, 12, 13, 14]] (by kernel_rfl) P0 (wi_inZone _ _ H)
/-! loop example/g00886/impl controlOf -/
theorem ci_controlOf {a0 : Gi_Board} {a1 : Gi_State} {a2 : Int} {r : Int} (H : Di_controlOf a0 a1 a2 = some r) : Ct X.P X.gl 77 [.agg [sl 5 gi_Terrain a0.Rules.Terrains, sl 6 gi_Kind a0.Rules.Kinds, I a0.Rules.Stack, I a0.Rules.River, I a0.Rules.Road, I a0.Rules.Supply, I a0.Rules.Turns, I a0.Map.Width, I a0.Map.Height, sl 1 I a0.Map.Terrain, sl 1 I a0.Map.Rivers, sl 1 I a0.Map.Roads], .agg [I a1.Turn, I a1.Weather, sl 4 gi_Unit a1.Units], I a2] [] (RI r) [] :=
  Ct.of func77 (c := bdy f77) (by kernel_rfl) (by kernel_rfl) <|
  eBind H fun r1 hr1 H =>
  eBind H fun r2 hr2 H =>
  gS [r0, rg [hC 2 true [] (RI r1) []]] (by kernel_rfl) (P1 (ci_ownerOf hr1) <| P0) <|
  eIf H (fun h3 H =>
    eBind H fun r4 hr4 H =>
    eIf H (fun h5 H =>
      gS [rg [{ i := 3, call := some { cl := true, auto := true, ins := [], res := (RB r2), G' := [] }, dec := some true }, { i := 7, call := some { cl := true, auto := true, ins := [], res := (RB r4), G' := [] }, dec := some true }]] (by kernel_rfl) (P1 (ci_inZone hr2) <| P2 (r2 = true) (h3) <| P1 (ci_inZone hr4) <| P2 (r4 = true) (h5) <| P0) <|
      eIf H (fun h6 H =>
        eW RI (fun _ => []) H <| gE func77 [rg [hT 1], r0] (by kernel_rfl) (P2 ((decide (r1 ≥ 0)) = true) (decide_eq_true h6) <| P0))
      (fun h6 H =>
        eW RI (fun _ => []) H <| gE func77 [rg [hF 1], r0, r0] (by kernel_rfl) (P2 ((decide (r1 ≥ 0)) = false) (decide_eq_false h6) <| P0)))
    (fun h5 H =>
      gS [rg [{ i := 3, call := some { cl := true, auto := true, ins := [], res := (RB r2), G' := [] }, dec := some true }, { i := 7, call := some { cl := true, auto := true, ins := [], res := (RB r4), G' := [] }, dec := some false }]] (by kernel_rfl) (P1 (ci_inZone hr2) <| P2 (r2 = true) (h3) <| P1 (ci_inZone hr4) <| P2 (r4 = false) (eqF h5) <| P0) <|
      eIf H (fun h6 H =>
        eW RI (fun _ => []) H <| gE func77 [rg [hT 1], r0] (by kernel_rfl) (P2 ((decide (r1 ≥ 0)) = true) (decide_eq_true h6) <| P0))
      (fun h6 H =>
        eW RI (fun _ => []) H <| gE func77 [rg [hF 1], r0, r0, r0] (by kernel_rfl) (P2 ((decide (r1 ≥ 0)) = false) (decide_eq_false h6) <| P0))))
  (fun h3 H =>
    eBind H fun r4 hr4 H =>
    eIf H (fun h5 H =>
      gS [rg [{ i := 3, call := some { cl := true, auto := true, ins := [], res := (RB r2), G' := [] }, dec := some false }, { i := 7, call := some { cl := true, auto := true, ins := [], res := (RB r4), G' := [] }, dec := some true }]] (by kernel_rfl) (P1 (ci_inZone hr2) <| P2 (r2 = false) (eqF h3) <| P1 (ci_inZone hr4) <| P2 (r4 = true) (h5) <| P0) <|
      eIf H (fun h6 H =>
        eW RI (fun _ => []) H <| gE func77 [rg [hT 1], r0] (by kernel_rfl) (P2 ((decide (r1 ≥ 0)) = true) (decide_eq_true h6) <| P0))
      (fun h6 H =>
        eW RI (fun _ => []) H <| gE func77 [rg [hF 1], r0, r0, r0, r0] (by kernel_rfl) (P2 ((decide (r1 ≥ 0)) = false) (decide_eq_false h6) <| P0)))
    (fun h5 H =>
      gS [rg [{ i := 3, call := some { cl := true, auto := true, ins := [], res := (RB r2), G' := [] }, dec := some false }, { i := 7, call := some { cl := true, auto := true, ins := [], res := (RB r4), G' := [] }, dec := some false }]] (by kernel_rfl) (P1 (ci_inZone hr2) <| P2 (r2 = false) (eqF h3) <| P1 (ci_inZone hr4) <| P2 (r4 = false) (eqF h5) <| P0) <|
      eIf H (fun h6 H =>
        eW RI (fun _ => []) H <| gE func77 [rg [hT 1], r0] (by kernel_rfl) (P2 ((decide (r1 ≥ 0)) = true) (decide_eq_true h6) <| P0))
      (fun h6 H =>
        eW RI (fun _ => []) H <| gE func77 [rg [hF 1], r0, r0, r0, r0] (by kernel_rfl) (P2 ((decide (r1 ≥ 0)) = false) (decide_eq_false h6) <| P0))))
/-! loop example/g00886/impl ControlMap -/
def Ri_ControlMap (r : (List Int) × Bool) : List D := [ow 1 I r.1, .bool r.2]
noncomputable def Ki_ControlMap : Si_ControlMap → List Item
  | .h1 .. => nav 300 4 [false] [.code (bdy f29)]
def Zi_ControlMap : Si_ControlMap → St
  | .h1 t0 t1 b2 b3 l4 => ⟨sts 29 [(2, .ptr 0 12 0 0), (3, .ptr 1 3 0 0), (6, .ref 2 1 none), (16, I t0), (17, I t1)], [some ⟨false, true, 12, 1, [.agg [sl 5 gi_Terrain b2.Rules.Terrains, sl 6 gi_Kind b2.Rules.Kinds, I b2.Rules.Stack, I b2.Rules.River, I b2.Rules.Road, I b2.Rules.Supply, I b2.Rules.Turns, I b2.Map.Width, I b2.Map.Height, sl 1 I b2.Map.Terrain, sl 1 I b2.Map.Rivers, sl 1 I b2.Map.Roads]]⟩, some ⟨false, true, 3, 1, [.agg [I b3.Turn, I b3.Weather, sl 4 gi_Unit b3.Units]]⟩, some ⟨false, false, 1, l4.length, List.map I l4⟩]⟩
abbrev Qi_ControlMap := Nx X 29 0 Ki_ControlMap Zi_ControlMap Ri_ControlMap (fun _ => [])
theorem ni_ControlMap : ∀ s o, Bi_ControlMap s = some o → Qi_ControlMap (Ki_ControlMap s) (Zi_ControlMap s) o
  | .h1 t0 t1 b2 b3 l4, o, H =>
    eIf H (fun h1 H =>
      eBind H fun r2 hr2 H =>
      eCk H fun h3 H =>
      eN H fun r hn => gO [rg [hT 0], r0, rg [hC 4 true [] (RI r2) [], hA 6 ((l4 ++ [r2]).length) (List.map I (l4 ++ [r2]))], r0, .canon [0, 1, 4] [2, 3, 6, 16, 17]] (by kernel_rfl) (P2 ((decide (t1 < t0)) = true) (decide_eq_true h1) <| P1 (ci_controlOf hr2) <| P1 (apL l4 [r2]) <| P1 (apB h3) <| P1 (apM I l4 [r2]) <| P0) hn)
    (fun h1 H =>
      eN H <| gE func29 [rg [hF 0], r0] (by kernel_rfl) (P2 ((decide (t1 < t0)) = false) (decide_eq_false h1) <| P0))
theorem wi_ControlMap : ∀ s r, loop Bi_ControlMap s = some r → Wc X 29 0 (Ki_ControlMap s) (Zi_ControlMap s) (Ri_ControlMap r) ((fun _ => []) r) := Nx.all ni_ControlMap
theorem ci_ControlMap {a0 : Gi_Board} {a1 : Gi_State} {r : (List Int) × Bool} (H : Di_ControlMap a0 a1 = some r) : Ct X.P X.gl 29 [.agg [sl 5 gi_Terrain a0.Rules.Terrains, sl 6 gi_Kind a0.Rules.Kinds, I a0.Rules.Stack, I a0.Rules.River, I a0.Rules.Road, I a0.Rules.Supply, I a0.Rules.Turns, I a0.Map.Width, I a0.Map.Height, sl 1 I a0.Map.Terrain, sl 1 I a0.Map.Rivers, sl 1 I a0.Map.Roads], .agg [I a1.Turn, I a1.Weather, sl 4 gi_Unit a1.Units]] [] (Ri_ControlMap r) [] :=
  Ct.of func29 (c := bdy f29) (by kernel_rfl) (by kernel_rfl) <|
  eBind H fun r1 hr1 H =>
  gS [r0] (by kernel_rfl) P0 <|
  eIf H (fun h2 H =>
    gO [rg [{ i := 2, call := some { cl := true, auto := true, ins := [], res := (RB r1), G' := [] }, dec := some true }], r0, r0, .canon [0, 1, 2] [2, 3, 6, 16, 17]] (by kernel_rfl) (P1 (ci_fits hr1) <| P2 (r1 = true) (h2) <| P0) (wi_ControlMap _ _ H))
  (fun h2 H =>
    eW Ri_ControlMap (fun _ => []) H <| gE func29 [rg [{ i := 2, call := some { cl := true, auto := true, ins := [], res := (RB r1), G' := [] }, dec := some false }], r0] (by kernel_rfl) (P1 (ci_fits hr1) <| P2 (r1 = false) (eqF h2) <| P0))
/-! loop example/g00886/spec sOwner -/
noncomputable def Ks_sOwner : Ss_sOwner → List Item
  | .h1 .. => nav 300 2 [] [.code (bdy f82)]
def Zs_sOwner : Ss_sOwner → St
  | .h1 i0 t1 t2 t3 => ⟨sts 21 [(1, I i0), (8, sl 4 gi_Unit t1), (9, I t2), (10, I t3)], []⟩
abbrev Qs_sOwner := Nx X 82 0 Ks_sOwner Zs_sOwner RI (fun _ => [])
theorem ns_sOwner : ∀ s o, Bs_sOwner s = some o → Qs_sOwner (Ks_sOwner s) (Zs_sOwner s) o
  | .h1 i0 t1 t2 t3, o, H =>
    eIf H (fun h1 H =>
      eCk H fun h2 H =>
      eBind H fun x3 hx3 H =>
      gN [rg [hT 0], rg [hE 1 (gi_Unit x3)]] (by kernel_rfl) (P2 ((decide (t3 < t2)) = true) (decide_eq_true h1) <| P1 h2 <| P1 (int_lt_of_at h2 hx3) <| P1 (at_map gi_Unit hx3) <| P0) <|
      eIf H (fun h4 H =>
        eN H <| gE func82 [rg [hT 3], r0] (by kernel_rfl) (P2 (((x3.At : Int) == i0) = true) (beqT h4) <| P0))
      (fun h4 H =>
        eN H fun r hn => gO [rg [hF 3], r0, .canon [] [1, 8, 9, 10]] (by kernel_rfl) (P2 (((x3.At : Int) == i0) = false) (beqF h4) <| P0) hn))
    (fun h1 H =>
      eN H <| gE func82 [rg [hF 0], r0] (by kernel_rfl) (P2 ((decide (t3 < t2)) = false) (decide_eq_false h1) <| P0))
theorem ws_sOwner : ∀ s r, loop Bs_sOwner s = some r → Wc X 82 0 (Ks_sOwner s) (Zs_sOwner s) (RI r) ((fun _ => []) r) := Nx.all ns_sOwner
theorem cs_sOwner {a0 : Gi_State} {a1 : Int} {r : Int} (H : Ds_sOwner a0 a1 = some r) : Ct X.P X.gl 82 [.agg [I a0.Turn, I a0.Weather, sl 4 gi_Unit a0.Units], I a1] [] (RI r) [] :=
  Ct.of func82 (c := bdy f82) (by kernel_rfl) (by kernel_rfl) <|
  gO [r0, r0, .canon [] [1, 8, 9, 10]] (by kernel_rfl) P0 (ws_sOwner _ _ H)
/-! loop example/g00886/spec l1Has -/
noncomputable def Ks_l1Has : Ss_l1Has → List Item
  | .h1 .. => nav 300 2 [] [.code (bdy f55)]
def Zs_l1Has : Ss_l1Has → St
  | .h1 n0 t1 t2 t3 => ⟨sts 17 [(1, I n0), (7, sl 1 I t1), (8, I t2), (9, I t3)], []⟩
abbrev Qs_l1Has := Nx X 55 0 Ks_l1Has Zs_l1Has RB (fun _ => [])
theorem ns_l1Has : ∀ s o, Bs_l1Has s = some o → Qs_l1Has (Ks_l1Has s) (Zs_l1Has s) o
  | .h1 n0 t1 t2 t3, o, H =>
    eIf H (fun h1 H =>
      eCk H fun h2 H =>
      eBind H fun x3 hx3 H =>
      gN [rg [hT 0], rg [hE 1 (I x3)]] (by kernel_rfl) (P2 ((decide (t3 < t2)) = true) (decide_eq_true h1) <| P1 h2 <| P1 (int_lt_of_at h2 hx3) <| P1 (at_map I hx3) <| P0) <|
      eIf H (fun h4 H =>
        eN H <| gE func55 [rg [hT 2], r0] (by kernel_rfl) (P2 (((x3 : Int) == n0) = true) (beqT h4) <| P0))
      (fun h4 H =>
        eN H fun r hn => gO [rg [hF 2], r0, .canon [] [1, 7, 8, 9]] (by kernel_rfl) (P2 (((x3 : Int) == n0) = false) (beqF h4) <| P0) hn))
    (fun h1 H =>
      eN H <| gE func55 [rg [hF 0], r0] (by kernel_rfl) (P2 ((decide (t3 < t2)) = false) (decide_eq_false h1) <| P0))
theorem ws_l1Has : ∀ s r, loop Bs_l1Has s = some r → Wc X 55 0 (Ks_l1Has s) (Zs_l1Has s) (RB r) ((fun _ => []) r) := Nx.all ns_l1Has
theorem cs_l1Has {a0 : (List Int)} {a1 : Int} {r : Bool} (H : Ds_l1Has a0 a1 = some r) : Ct X.P X.gl 55 [sl 1 I a0, I a1] [] (RB r) [] :=
  Ct.of func55 (c := bdy f55) (by kernel_rfl) (by kernel_rfl) <|
  gO [r0, r0, .canon [] [1, 7, 8, 9]] (by kernel_rfl) P0 (ws_l1Has _ _ H)
/-! loop example/g00886/spec mRiver -/
theorem cs_mRiver {a0 : Gi_Map} {a1 : Int} {a2 : Int} {r : Bool} (H : Ds_mRiver a0 a1 a2 = some r) : Ct X.P X.gl 135 [.agg [I a0.Width, I a0.Height, sl 1 I a0.Terrain, sl 1 I a0.Rivers, sl 1 I a0.Roads], I a1, I a2] [] (RB r) [] :=
  Ct.of func135 (c := bdy f135) (by kernel_rfl) (by kernel_rfl) <|
  eBind H fun r1 hr1 H =>
  eBind H fun r2 hr2 H =>
  eW RB (fun _ => []) H <| gE func135 [r0, rg [hC 5 true [] (RI r1) [], hC 6 true [] (RB r2) []]] (by kernel_rfl) (P1 (cs_mEdge hr1) <| P1 (cs_l1Has hr2) <| P0)
/-! loop example/g00886/spec mRoad -/
theorem cs_mRoad {a0 : Gi_Map} {a1 : Int} {a2 : Int} {r : Bool} (H : Ds_mRoad a0 a1 a2 = some r) : Ct X.P X.gl 136 [.agg [I a0.Width, I a0.Height, sl 1 I a0.Terrain, sl 1 I a0.Rivers, sl 1 I a0.Roads], I a1, I a2] [] (RB r) [] :=
  Ct.of func136 (c := bdy f136) (by kernel_rfl) (by kernel_rfl) <|
  eBind H fun r1 hr1 H =>
  eBind H fun r2 hr2 H =>
  eW RB (fun _ => []) H <| gE func136 [r0, rg [hC 5 true [] (RI r1) [], hC 6 true [] (RB r2) []]] (by kernel_rfl) (P1 (cs_mEdge hr1) <| P1 (cs_l1Has hr2) <| P0)
/-! loop example/g00886/spec zExerts -/
noncomputable def Ks_zExerts : Ss_zExerts → List Item
  | .h1 .. => nav 300 4 [false] [.code (bdy f156)]
def Zs_zExerts : Ss_zExerts → St
  | .h1 t0 t1 b2 b3 => ⟨sts 65 [(3, I t0), (4, .ptr 0 12 0 0), (9, .ptr 1 4 0 0), (10, I t1)], [some ⟨false, true, 12, 1, [.agg [sl 5 gi_Terrain b2.Rules.Terrains, sl 6 gi_Kind b2.Rules.Kinds, I b2.Rules.Stack, I b2.Rules.River, I b2.Rules.Road, I b2.Rules.Supply, I b2.Rules.Turns, I b2.Map.Width, I b2.Map.Height, sl 1 I b2.Map.Terrain, sl 1 I b2.Map.Rivers, sl 1 I b2.Map.Roads]]⟩, some ⟨false, true, 4, 1, [.agg [I b3.Side, I b3.Kind, I b3.At, I b3.Steps]]⟩]⟩
abbrev Qs_zExerts := Nx X 156 0 Ks_zExerts Zs_zExerts RB (fun _ => [])
theorem ns_zExerts : ∀ s o, Bs_zExerts s = some o → Qs_zExerts (Ks_zExerts s) (Zs_zExerts s) o
  | .h1 t0 t1 b2 b3, o, H =>
    eIf H (fun h1 H =>
      eBind H fun r2 hr2 H =>
      gN [rg [hT 1]] (by kernel_rfl) (P2 ((decide (t1 < 6)) = true) (decide_eq_true h1) <| P0) <|
      eIf H (fun h3 H =>
        eBind H fun r4 hr4 H =>
        gN [rg [hC 5 true [] (RI r2) [], hT 7]] (by kernel_rfl) (P1 (cs_mNext hr2) <| P2 (((r2 : Int) == t0) = true) (beqT h3) <| P0) <|
        eIf H (fun h5 H =>
          eBind H fun r6 hr6 H =>
          eN H <| gE func156 [rg [{ i := 5, call := some { cl := true, auto := true, ins := [], res := (RB r4), G' := [] }, dec := some true }, hC 13 true [] (RB r6) []]] (by kernel_rfl) (P1 (cs_mRiver hr4) <| P2 (r4 = true) (h5) <| P1 (cs_mRoad hr6) <| P0))
        (fun h5 H =>
          eN H <| gE func156 [rg [{ i := 5, call := some { cl := true, auto := true, ins := [], res := (RB r4), G' := [] }, dec := some false }]] (by kernel_rfl) (P1 (cs_mRiver hr4) <| P2 (r4 = false) (eqF h5) <| P0)))
      (fun h3 H =>
        eN H fun r hn => gO [rg [hC 5 true [] (RI r2) [], hF 7], r0, .canon [0, 1] [3, 4, 9, 10]] (by kernel_rfl) (P1 (cs_mNext hr2) <| P2 (((r2 : Int) == t0) = false) (beqF h3) <| P0) hn))
    (fun h1 H =>
      eN H <| gE func156 [rg [hF 1], r0] (by kernel_rfl) (P2 ((decide (t1 < 6)) = false) (decide_eq_false h1) <| P0))
theorem ws_zExerts : ∀ s r, loop Bs_zExerts s = some r → Wc X 156 0 (Ks_zExerts s) (Zs_zExerts s) (RB r) ((fun _ => []) r) := Nx.all ns_zExerts
theorem cs_zExerts {a0 : Gi_Board} {a1 : Gi_State} {a2 : Int} {a3 : Int} {r : Bool} (H : Ds_zExerts a0 a1 a2 a3 = some r) : Ct X.P X.gl 156 [.agg [sl 5 gi_Terrain a0.Rules.Terrains, sl 6 gi_Kind a0.Rules.Kinds, I a0.Rules.Stack, I a0.Rules.River, I a0.Rules.Road, I a0.Rules.Supply, I a0.Rules.Turns, I a0.Map.Width, I a0.Map.Height, sl 1 I a0.Map.Terrain, sl 1 I a0.Map.Rivers, sl 1 I a0.Map.Roads], .agg [I a1.Turn, I a1.Weather, sl 4 gi_Unit a1.Units], I a2, I a3] [] (RB r) [] :=
  Ct.of func156 (c := bdy f156) (by kernel_rfl) (by kernel_rfl) <|
  eCk H fun h1 H =>
  eBind H fun x2 hx2 H =>
  gS [r0, rg [hE 4 (gi_Unit x2)]] (by kernel_rfl) (P1 h1 <| P1 (int_lt_of_at h1 hx2) <| P1 (at_map gi_Unit hx2) <| P0) <|
  eIf H (fun h3 H =>
    eW RB (fun _ => []) H <| gE func156 [rg [hT 2], r0] (by kernel_rfl) (P2 ((decide (x2.At < 0)) = true) (decide_eq_true h3) <| P0))
  (fun h3 H =>
    eCk H fun h4 H =>
    eBind H fun x5 hx5 H =>
    eIf H (fun h6 H =>
      eBind H fun r7 hr7 H =>
      eIf H (fun h8 H =>
        eW RB (fun _ => []) H <| gE func156 [rg [hF 2, { i := 11, el := some (gi_Kind x5), dec := some true }, hC 19 true [] (RI r7) [], hT 20], r0] (by kernel_rfl) (P2 ((decide (x2.At < 0)) = false) (decide_eq_false h3) <| P1 h4 <| P1 (int_lt_of_at h4 hx5) <| P1 (at_map gi_Kind hx5) <| P2 (x5.Zone = true) (h6) <| P1 (cs_bCost hr7) <| P2 (((r7 : Int) == 0) = true) (beqT h8) <| P0))
      (fun h8 H =>
        gO [rg [hF 2, { i := 11, el := some (gi_Kind x5), dec := some true }, hC 19 true [] (RI r7) [], hF 20], r0, .canon [0, 2] [3, 4, 9, 10]] (by kernel_rfl) (P2 ((decide (x2.At < 0)) = false) (decide_eq_false h3) <| P1 h4 <| P1 (int_lt_of_at h4 hx5) <| P1 (at_map gi_Kind hx5) <| P2 (x5.Zone = true) (h6) <| P1 (cs_bCost hr7) <| P2 (((r7 : Int) == 0) = false) (beqF h8) <| P0) (ws_zExerts _ _ H)))
    (fun h6 H =>
      eW RB (fun _ => []) H <| gE func156 [rg [hF 2, { i := 11, el := some (gi_Kind x5), dec := some false }], r0] (by kernel_rfl) (P2 ((decide (x2.At < 0)) = false) (decide_eq_false h3) <| P1 h4 <| P1 (int_lt_of_at h4 hx5) <| P1 (at_map gi_Kind hx5) <| P2 (x5.Zone = false) (eqF h6) <| P0)))
/-! loop example/g00886/spec zSources -/
def Rs_zSources (r : (List Int)) : List D := [ow 1 I r]
noncomputable def Ks_zSources : Ss_zSources → List Item
  | .h1 .. => nav 300 3 [] [.code (bdy f120)]
def Zs_zSources : Ss_zSources → St
  | .h1 side0 i1 t2 t3 t4 b5 b6 l7 => ⟨sts 37 [(2, I side0), (3, I i1), (4, .ptr 0 12 0 0), (5, .ptr 1 3 0 0), (9, .ref 2 1 none), (13, sl 4 gi_Unit t2), (14, I t3), (15, I t4)], [some ⟨false, true, 12, 1, [.agg [sl 5 gi_Terrain b5.Rules.Terrains, sl 6 gi_Kind b5.Rules.Kinds, I b5.Rules.Stack, I b5.Rules.River, I b5.Rules.Road, I b5.Rules.Supply, I b5.Rules.Turns, I b5.Map.Width, I b5.Map.Height, sl 1 I b5.Map.Terrain, sl 1 I b5.Map.Rivers, sl 1 I b5.Map.Roads]]⟩, some ⟨false, true, 3, 1, [.agg [I b6.Turn, I b6.Weather, sl 4 gi_Unit b6.Units]]⟩, some ⟨false, false, 1, l7.length, List.map I l7⟩]⟩
abbrev Qs_zSources := Nx X 120 0 Ks_zSources Zs_zSources Rs_zSources (fun _ => [])
theorem ns_zSources : ∀ s o, Bs_zSources s = some o → Qs_zSources (Ks_zSources s) (Zs_zSources s) o
  | .h1 side0 i1 t2 t3 t4 b5 b6 l7, o, H =>
    eIf H (fun h1 H =>
      eCk H fun h2 H =>
      eBind H fun x3 hx3 H =>
      gN [rg [hT 0], rg [hE 2 (gi_Unit x3)]] (by kernel_rfl) (P2 ((decide (t4 < t3)) = true) (decide_eq_true h1) <| P1 h2 <| P1 (int_lt_of_at h2 hx3) <| P1 (at_map gi_Unit hx3) <| P0) <|
      eIf H (fun h4 H =>
        eBind H fun r5 hr5 H =>
        eIf H (fun h6 H =>
          eCk H fun h7 H =>
          eN H fun r hn => gO [rg [hT 3, { i := 9, call := some { cl := true, auto := true, ins := [], res := (RB r5), G' := [] }, dec := some true }], rg [hA 3 ((l7 ++ [t4]).length) (List.map I (l7 ++ [t4]))], r0, .canon [0, 1, 5] [2, 3, 4, 5, 9, 13, 14, 15]] (by kernel_rfl) (P2 (((x3.Side : Int) == side0) = true) (beqT h4) <| P1 (cs_zExerts hr5) <| P2 (r5 = true) (h6) <| P1 (apL l7 [t4]) <| P1 (apB h7) <| P1 (apM I l7 [t4]) <| P0) hn)
        (fun h6 H =>
          eN H fun r hn => gO [rg [hT 3, { i := 9, call := some { cl := true, auto := true, ins := [], res := (RB r5), G' := [] }, dec := some false }], r0, .canon [0, 1, 2] [2, 3, 4, 5, 9, 13, 14, 15]] (by kernel_rfl) (P2 (((x3.Side : Int) == side0) = true) (beqT h4) <| P1 (cs_zExerts hr5) <| P2 (r5 = false) (eqF h6) <| P0) hn))
      (fun h4 H =>
        eN H fun r hn => gO [rg [hF 3], r0, .canon [0, 1, 2] [2, 3, 4, 5, 9, 13, 14, 15]] (by kernel_rfl) (P2 (((x3.Side : Int) == side0) = false) (beqF h4) <| P0) hn))
    (fun h1 H =>
      eN H <| gE func120 [rg [hF 0], r0] (by kernel_rfl) (P2 ((decide (t4 < t3)) = false) (decide_eq_false h1) <| P0))
theorem ws_zSources : ∀ s r, loop Bs_zSources s = some r → Wc X 120 0 (Ks_zSources s) (Zs_zSources s) (Rs_zSources r) ((fun _ => []) r) := Nx.all ns_zSources
theorem cs_zSources {a0 : Gi_Board} {a1 : Gi_State} {a2 : Int} {a3 : Int} {r : (List Int)} (H : Ds_zSources a0 a1 a2 a3 = some r) : Ct X.P X.gl 120 [.agg [sl 5 gi_Terrain a0.Rules.Terrains, sl 6 gi_Kind a0.Rules.Kinds, I a0.Rules.Stack, I a0.Rules.River, I a0.Rules.Road, I a0.Rules.Supply, I a0.Rules.Turns, I a0.Map.Width, I a0.Map.Height, sl 1 I a0.Map.Terrain, sl 1 I a0.Map.Rivers, sl 1 I a0.Map.Roads], .agg [I a1.Turn, I a1.Weather, sl 4 gi_Unit a1.Units], I a2, I a3] [] (Rs_zSources r) [] :=
  Ct.of func120 (c := bdy f120) (by kernel_rfl) (by kernel_rfl) <|
  gO [r0, r0, r0, .own 9 1, .canon [0, 1, 2] [2, 3, 4, 5, 9, 13, 14, 15]] (by kernel_rfl) P0 (ws_zSources _ _ H)
/-! loop example/g00886/spec zIn -/
theorem cs_zIn {a0 : Gi_Board} {a1 : Gi_State} {a2 : Int} {a3 : Int} {r : Bool} (H : Ds_zIn a0 a1 a2 a3 = some r) : Ct X.P X.gl 83 [.agg [sl 5 gi_Terrain a0.Rules.Terrains, sl 6 gi_Kind a0.Rules.Kinds, I a0.Rules.Stack, I a0.Rules.River, I a0.Rules.Road, I a0.Rules.Supply, I a0.Rules.Turns, I a0.Map.Width, I a0.Map.Height, sl 1 I a0.Map.Terrain, sl 1 I a0.Map.Rivers, sl 1 I a0.Map.Roads], .agg [I a1.Turn, I a1.Weather, sl 4 gi_Unit a1.Units], I a2, I a3] [] (RB r) [] :=
  Ct.of func83 (c := bdy f83) (by kernel_rfl) (by kernel_rfl) <|
  eBind H fun r1 hr1 H =>
  eW RB (fun _ => []) H <| gE func83 [r0, rg [hC 4 true [] (Rs_zSources r1) []]] (by kernel_rfl) (P1 (cs_zSources hr1) <| P0)
/-! loop example/g00886/spec zControl -/
theorem cs_zControl {a0 : Gi_Board} {a1 : Gi_State} {a2 : Int} {r : Int} (H : Ds_zControl a0 a1 a2 = some r) : Ct X.P X.gl 115 [.agg [sl 5 gi_Terrain a0.Rules.Terrains, sl 6 gi_Kind a0.Rules.Kinds, I a0.Rules.Stack, I a0.Rules.River, I a0.Rules.Road, I a0.Rules.Supply, I a0.Rules.Turns, I a0.Map.Width, I a0.Map.Height, sl 1 I a0.Map.Terrain, sl 1 I a0.Map.Rivers, sl 1 I a0.Map.Roads], .agg [I a1.Turn, I a1.Weather, sl 4 gi_Unit a1.Units], I a2] [] (RI r) [] :=
  Ct.of func115 (c := bdy f115) (by kernel_rfl) (by kernel_rfl) <|
  eBind H fun r1 hr1 H =>
  gS [r0, rg [hC 2 true [] (RI r1) []]] (by kernel_rfl) (P1 (cs_sOwner hr1) <| P0) <|
  eIf H (fun h2 H =>
    eW RI (fun _ => []) H <| gE func115 [rg [hT 1], r0] (by kernel_rfl) (P2 ((decide (r1 ≥ 0)) = true) (decide_eq_true h2) <| P0))
  (fun h2 H =>
    eBind H fun r3 hr3 H =>
    gS [rg [hF 1]] (by kernel_rfl) (P2 ((decide (r1 ≥ 0)) = false) (decide_eq_false h2) <| P0) <|
    eIf H (fun h4 H =>
      eBind H fun r5 hr5 H =>
      eIf H (fun h6 H =>
        eW RI (fun _ => []) H <| gE func115 [rg [{ i := 3, call := some { cl := true, auto := true, ins := [], res := (RB r3), G' := [] }, dec := some true }, { i := 7, call := some { cl := true, auto := true, ins := [], res := (RB r5), G' := [] }, dec := some true }], r0, r0] (by kernel_rfl) (P1 (cs_zIn hr3) <| P2 (r3 = true) (h4) <| P1 (cs_zIn hr5) <| P2 (r5 = true) (h6) <| P0))
      (fun h6 H =>
        eW RI (fun _ => []) H <| gE func115 [rg [{ i := 3, call := some { cl := true, auto := true, ins := [], res := (RB r3), G' := [] }, dec := some true }, { i := 7, call := some { cl := true, auto := true, ins := [], res := (RB r5), G' := [] }, dec := some false }], r0, r0, r0] (by kernel_rfl) (P1 (cs_zIn hr3) <| P2 (r3 = true) (h4) <| P1 (cs_zIn hr5) <| P2 (r5 = false) (eqF h6) <| P0)))
    (fun h4 H =>
      eBind H fun r5 hr5 H =>
      eIf H (fun h6 H =>
        eW RI (fun _ => []) H <| gE func115 [rg [{ i := 3, call := some { cl := true, auto := true, ins := [], res := (RB r3), G' := [] }, dec := some false }, { i := 7, call := some { cl := true, auto := true, ins := [], res := (RB r5), G' := [] }, dec := some true }], r0, r0, r0, r0] (by kernel_rfl) (P1 (cs_zIn hr3) <| P2 (r3 = false) (eqF h4) <| P1 (cs_zIn hr5) <| P2 (r5 = true) (h6) <| P0))
      (fun h6 H =>
        eW RI (fun _ => []) H <| gE func115 [rg [{ i := 3, call := some { cl := true, auto := true, ins := [], res := (RB r3), G' := [] }, dec := some false }, { i := 7, call := some { cl := true, auto := true, ins := [], res := (RB r5), G' := [] }, dec := some false }], r0, r0, r0, r0] (by kernel_rfl) (P1 (cs_zIn hr3) <| P2 (r3 = false) (eqF h4) <| P1 (cs_zIn hr5) <| P2 (r5 = false) (eqF h6) <| P0))))
/-! loop example/g00886/spec zMap -/
def Rs_zMap (r : (List Int)) : List D := [ow 1 I r]
noncomputable def Ks_zMap : Ss_zMap → List Item
  | .h1 .. => nav 300 3 [] [.code (bdy f79)]
def Zs_zMap : Ss_zMap → St
  | .h1 i0 b1 b2 l3 => ⟨sts 22 [(2, .ptr 0 12 0 0), (3, .ptr 1 3 0 0), (5, .ref 2 1 none), (6, I i0)], [some ⟨false, true, 12, 1, [.agg [sl 5 gi_Terrain b1.Rules.Terrains, sl 6 gi_Kind b1.Rules.Kinds, I b1.Rules.Stack, I b1.Rules.River, I b1.Rules.Road, I b1.Rules.Supply, I b1.Rules.Turns, I b1.Map.Width, I b1.Map.Height, sl 1 I b1.Map.Terrain, sl 1 I b1.Map.Rivers, sl 1 I b1.Map.Roads]]⟩, some ⟨false, true, 3, 1, [.agg [I b2.Turn, I b2.Weather, sl 4 gi_Unit b2.Units]]⟩, some ⟨false, false, 1, l3.length, List.map I l3⟩]⟩
abbrev Qs_zMap := Nx X 79 0 Ks_zMap Zs_zMap Rs_zMap (fun _ => [])
theorem ns_zMap : ∀ s o, Bs_zMap s = some o → Qs_zMap (Ks_zMap s) (Zs_zMap s) o
  | .h1 i0 b1 b2 l3, o, H =>
    have H := (Bs_zMap.eq_1 ..).symm.trans H
    eBind H fun r1 hr1 H =>
    eIf H (fun h2 H =>
      eBind H fun r3 hr3 H =>
      eCk H fun h4 H =>
      eN H fun r hn => gO [rg [hC 3 true [] (RI r1) [], hT 4], rg [hC 4 true [] (RI r3) [], hA 6 ((l3 ++ [r3]).length) (List.map I (l3 ++ [r3]))], r0, .canon [0, 1, 4] [2, 3, 5, 6]] (by kernel_rfl) (P1 (cs_mSize hr1) <| P2 ((decide (i0 < r1)) = true) (decide_eq_true h2) <| P1 (cs_zControl hr3) <| P1 (apL l3 [r3]) <| P1 (apB h4) <| P1 (apM I l3 [r3]) <| P0) hn)
    (fun h2 H =>
      eN H <| gE func79 [rg [hC 3 true [] (RI r1) [], hF 4], r0] (by kernel_rfl) (P1 (cs_mSize hr1) <| P2 ((decide (i0 < r1)) = false) (decide_eq_false h2) <| P0))
theorem ws_zMap : ∀ s r, loop Bs_zMap s = some r → Wc X 79 0 (Ks_zMap s) (Zs_zMap s) (Rs_zMap r) ((fun _ => []) r) := Nx.all ns_zMap
theorem cs_zMap {a0 : Gi_Board} {a1 : Gi_State} {r : (List Int)} (H : Ds_zMap a0 a1 = some r) : Ct X.P X.gl 79 [.agg [sl 5 gi_Terrain a0.Rules.Terrains, sl 6 gi_Kind a0.Rules.Kinds, I a0.Rules.Stack, I a0.Rules.River, I a0.Rules.Road, I a0.Rules.Supply, I a0.Rules.Turns, I a0.Map.Width, I a0.Map.Height, sl 1 I a0.Map.Terrain, sl 1 I a0.Map.Rivers, sl 1 I a0.Map.Roads], .agg [I a1.Turn, I a1.Weather, sl 4 gi_Unit a1.Units]] [] (Rs_zMap r) [] :=
  Ct.of func79 (c := bdy f79) (by kernel_rfl) (by kernel_rfl) <|
  gO [r0, r0, r0, .own 5 1, .canon [0, 1, 2] [2, 3, 5, 6]] (by kernel_rfl) P0 (ws_zMap _ _ H)
/-! loop example/g00886/spec ControlMap -/
def Rs_ControlMap (r : (List Int) × Bool) : List D := [ow 1 I r.1, .bool r.2]
theorem cs_ControlMap {a0 : Gi_Board} {a1 : Gi_State} {r : (List Int) × Bool} (H : Ds_ControlMap a0 a1 = some r) : Ct X.P X.gl 30 [.agg [sl 5 gi_Terrain a0.Rules.Terrains, sl 6 gi_Kind a0.Rules.Kinds, I a0.Rules.Stack, I a0.Rules.River, I a0.Rules.Road, I a0.Rules.Supply, I a0.Rules.Turns, I a0.Map.Width, I a0.Map.Height, sl 1 I a0.Map.Terrain, sl 1 I a0.Map.Rivers, sl 1 I a0.Map.Roads], .agg [I a1.Turn, I a1.Weather, sl 4 gi_Unit a1.Units]] [] (Rs_ControlMap r) [] :=
  Ct.of func30 (c := bdy f30) (by kernel_rfl) (by kernel_rfl) <|
  eBind H fun r1 hr1 H =>
  gS [r0] (by kernel_rfl) P0 <|
  eIf H (fun h2 H =>
    eBind H fun r3 hr3 H =>
    eW Rs_ControlMap (fun _ => []) H <| gE func30 [rg [{ i := 2, call := some { cl := true, auto := true, ins := [], res := (RB r1), G' := [] }, dec := some true }], rg [hC 2 true [] (Rs_zMap r3) []]] (by kernel_rfl) (P1 (cs_sGood hr1) <| P2 (r1 = true) (h2) <| P1 (cs_zMap hr3) <| P0))
  (fun h2 H =>
    eW Rs_ControlMap (fun _ => []) H <| gE func30 [rg [{ i := 2, call := some { cl := true, auto := true, ins := [], res := (RB r1), G' := [] }, dec := some false }], r0] (by kernel_rfl) (P1 (cs_sGood hr1) <| P2 (r1 = false) (eqF h2) <| P0))
/-! loop example/g00886/spec DrawCountControlled -/
def Rs_DrawCountControlled (r : Gi_Board × Gi_State) : List D := [.agg [sl 5 gi_Terrain r.1.Rules.Terrains, sl 6 gi_Kind r.1.Rules.Kinds, I r.1.Rules.Stack, I r.1.Rules.River, I r.1.Rules.Road, I r.1.Rules.Supply, I r.1.Rules.Turns, I r.1.Map.Width, I r.1.Map.Height, sl 1 I r.1.Map.Terrain, sl 1 I r.1.Map.Rivers, sl 1 I r.1.Map.Roads], .agg [I r.2.Turn, I r.2.Weather, ow 4 gi_Unit r.2.Units]]
theorem cs_DrawCountControlled {a0 : (List Int)} {r : Gi_Board × Gi_State} (H : Ds_DrawCountControlled a0 = some r) : Ct X.P X.gl 31 [sl 1 (D.int .u8) a0] [] (Rs_DrawCountControlled r) [] :=
  Ct.of func31 (c := bdy f31) (by kernel_rfl) (by kernel_rfl) <|
  eBind H fun r1 hr1 H =>
  eW Rs_DrawCountControlled (fun _ => []) H <| gE func31 [r0, rg [hC 1 true [] (Rs_DrawIsState r1) []]] (by kernel_rfl) (P1 (cs_DrawIsState hr1) <| P0)
/-! loop example/g00886/impl CountControlled -/
def Ri_CountControlled (r : (List Int) × Bool) : List D := [ow 1 I r.1, .bool r.2]
noncomputable def Ki_CountControlled : Si_CountControlled → List Item
  | .h1 .. => nav 300 5 [false] [.code (bdy f32)]
def Zi_CountControlled : Si_CountControlled → St
  | .h1 t0 t1 l2 l3 => ⟨sts 41 [(8, .ref 0 1 none), (20, .ref 1 1 none), (21, I t0), (22, I t1)], [some ⟨false, false, 1, l2.length, List.map I l2⟩, some ⟨false, false, 1, l3.length, List.map I l3⟩]⟩
abbrev Qi_CountControlled := Nx X 32 0 Ki_CountControlled Zi_CountControlled Ri_CountControlled (fun _ => [])
theorem ni_CountControlled : ∀ s o, Bi_CountControlled s = some o → Qi_CountControlled (Ki_CountControlled s) (Zi_CountControlled s) o
  | .h1 t0 t1 l2 l3, o, H =>
    eIf H (fun h1 H =>
      eCk H fun h2 H =>
      eBind H fun x3 hx3 H =>
      gN [rg [hT 0], rg [hE 1 (I x3)]] (by kernel_rfl) (P2 ((decide (t1 < t0)) = true) (decide_eq_true h1) <| P1 h2 <| P1 (int_lt_of_at h2 hx3) <| P1 (at_map I hx3) <| P0) <|
      eIf H (fun h4 H =>
        eBind H fun x5 hx5 H =>
        eBind H fun x6 hx6 H =>
        eN H fun r hn => gO [rg [hT 1], rg [hE 2 (I x5), hA 5 ((List.set l2 (Int.toNat 3) (IntKind.wrap .i64 (x5 + 1))).length) (List.map I (List.set l2 (Int.toNat 3) (IntKind.wrap .i64 (x5 + 1))))], r0, .canon [0, 1] [8, 20, 21, 22]] (by kernel_rfl) (P2 (((x3 : Int) == (-1)) = true) (beqT h4) <| P2 ((0 : Int) ≤ 3) (by decide) <| P1 (int_lt_of_at (by decide : (0 : Int) ≤ 3) hx5) <| P1 (at_map I hx5) <| P2 ((0 : Int) ≤ 3) (by decide) <| P1 (int_lt_of_at (by decide : (0 : Int) ≤ 3) hx6) <| P1 (lt_of_at hx6) <| P2 (setCells (List.map I l2) (Int.toNat 3) 0 [I (IntKind.wrap .i64 (x5 + 1))] = List.map I (List.set l2 (Int.toNat 3) (IntKind.wrap .i64 (x5 + 1)))) (setCells_map hx6 rfl) <| P1 (setLen l2 (Int.toNat 3) (IntKind.wrap .i64 (x5 + 1))) <| P0) hn)
      (fun h4 H =>
        eCk H fun h5 H =>
        eBind H fun x6 hx6 H =>
        eCk H fun h7 H =>
        eBind H fun x8 hx8 H =>
        eN H fun r hn => gO [rg [hF 1], rg [hE 3 (I x6), hA 6 ((List.set l2 (Int.toNat x3) (IntKind.wrap .i64 (x6 + 1))).length) (List.map I (List.set l2 (Int.toNat x3) (IntKind.wrap .i64 (x6 + 1))))], r0, .canon [0, 1] [8, 20, 21, 22]] (by kernel_rfl) (P2 (((x3 : Int) == (-1)) = false) (beqF h4) <| P1 h5 <| P1 (int_lt_of_at h5 hx6) <| P1 (at_map I hx6) <| P1 h7 <| P1 (int_lt_of_at h7 hx8) <| P1 (lt_of_at hx8) <| P2 (setCells (List.map I l2) (Int.toNat x3) 0 [I (IntKind.wrap .i64 (x6 + 1))] = List.map I (List.set l2 (Int.toNat x3) (IntKind.wrap .i64 (x6 + 1)))) (setCells_map hx8 rfl) <| P1 (setLen l2 (Int.toNat x3) (IntKind.wrap .i64 (x6 + 1))) <| P0) hn))
    (fun h1 H =>
      eN H <| gE func32 [rg [hF 0], r0] (by kernel_rfl) (P2 ((decide (t1 < t0)) = false) (decide_eq_false h1) <| P0))
theorem wi_CountControlled : ∀ s r, loop Bi_CountControlled s = some r → Wc X 32 0 (Ki_CountControlled s) (Zi_CountControlled s) (Ri_CountControlled r) ((fun _ => []) r) := Nx.all ni_CountControlled
theorem ci_CountControlled {a0 : Gi_Board} {a1 : Gi_State} {r : (List Int) × Bool} (H : Di_CountControlled a0 a1 = some r) : Ct X.P X.gl 32 [.agg [sl 5 gi_Terrain a0.Rules.Terrains, sl 6 gi_Kind a0.Rules.Kinds, I a0.Rules.Stack, I a0.Rules.River, I a0.Rules.Road, I a0.Rules.Supply, I a0.Rules.Turns, I a0.Map.Width, I a0.Map.Height, sl 1 I a0.Map.Terrain, sl 1 I a0.Map.Rivers, sl 1 I a0.Map.Roads], .agg [I a1.Turn, I a1.Weather, sl 4 gi_Unit a1.Units]] [] (Ri_CountControlled r) [] :=
  Ct.of func32 (c := bdy f32) (by kernel_rfl) (by kernel_rfl) <|
  eBind H fun r1 hr1 H =>
  gS [r0] (by kernel_rfl) P0 <|
  eIf H (fun h2 H =>
    eCk H fun h3 H =>
    gO [rg [hC 2 true [] (Ri_ControlMap r1) [], hT 5], r0, rg [hA 0 ((List.replicate (Int.toNat 4) (0 : Int)).length) (List.map I (List.replicate (Int.toNat 4) (0 : Int)))], r0, .canon [3, 2] [8, 20, 21, 22]] (by kernel_rfl) (P1 (ci_ControlMap hr1) <| P2 (r1.2 = true) (h2) <| PI (4 : Int) <| P2 ((0 : Int) ≤ 4) (by decide) <| P2 (Int.toNat 4 * 8 ≤ 140737488355328) h3 <| P1 (repLen (Int.toNat 4) (0 : Int)) <| P1 (repMap I (Int.toNat 4) (0 : Int)) <| P0) (wi_CountControlled _ _ H))
  (fun h2 H =>
    eW Ri_CountControlled (fun _ => []) H <| gE func32 [rg [hC 2 true [] (Ri_ControlMap r1) [], hF 5], r0, r0] (by kernel_rfl) (P1 (ci_ControlMap hr1) <| P2 (r1.2 = false) (eqF h2) <| P0))
/-! loop example/g00886/spec CountControlled -/
def Rs_CountControlled (r : (List Int) × Bool) : List D := [ow 1 I r.1, .bool r.2]
noncomputable def Ks_CountControlled : Ss_CountControlled → List Item
  | .h1 .. => nav 300 4 [false] [.code (bdy f33)]
def Zs_CountControlled : Ss_CountControlled → St
  | .h1 t0 t1 l2 l3 => ⟨sts 38 [(6, .ref 0 1 none), (16, .ref 1 1 none), (17, I t0), (18, I t1)], [some ⟨false, false, 1, l2.length, List.map I l2⟩, some ⟨false, false, 1, l3.length, List.map I l3⟩]⟩
abbrev Qs_CountControlled := Nx X 33 0 Ks_CountControlled Zs_CountControlled Rs_CountControlled (fun _ => [])
theorem ns_CountControlled : ∀ s o, Bs_CountControlled s = some o → Qs_CountControlled (Ks_CountControlled s) (Zs_CountControlled s) o
  | .h1 t0 t1 l2 l3, o, H =>
    eIf H (fun h1 H =>
      eCk H fun h2 H =>
      eBind H fun x3 hx3 H =>
      gN [rg [hT 0], rg [hE 1 (I x3)], r0] (by kernel_rfl) (P2 ((decide (t1 < t0)) = true) (decide_eq_true h1) <| P1 h2 <| P1 (int_lt_of_at h2 hx3) <| P1 (at_map I hx3) <| P0) <|
      eIf H (fun h4 H =>
        eBind H fun x5 hx5 H =>
        eBind H fun x6 hx6 H =>
        eN H fun r hn => gO [rg [hT 0], rg [hE 2 (I x5), hA 5 ((List.set l2 (Int.toNat 3) (IntKind.wrap .i64 (x5 + 1))).length) (List.map I (List.set l2 (Int.toNat 3) (IntKind.wrap .i64 (x5 + 1))))], r0, .canon [0, 1] [6, 16, 17, 18]] (by kernel_rfl) (P2 (((x3 : Int) == (-1)) = true) (beqT h4) <| P2 ((0 : Int) ≤ 3) (by decide) <| P1 (int_lt_of_at (by decide : (0 : Int) ≤ 3) hx5) <| P1 (at_map I hx5) <| P2 ((0 : Int) ≤ 3) (by decide) <| P1 (int_lt_of_at (by decide : (0 : Int) ≤ 3) hx6) <| P1 (lt_of_at hx6) <| P2 (setCells (List.map I l2) (Int.toNat 3) 0 [I (IntKind.wrap .i64 (x5 + 1))] = List.map I (List.set l2 (Int.toNat 3) (IntKind.wrap .i64 (x5 + 1)))) (setCells_map hx6 rfl) <| P1 (setLen l2 (Int.toNat 3) (IntKind.wrap .i64 (x5 + 1))) <| P0) hn)
      (fun h4 H =>
        eCk H fun h5 H =>
        eBind H fun x6 hx6 H =>
        eCk H fun h7 H =>
        eBind H fun x8 hx8 H =>
        eN H fun r hn => gO [rg [hF 0], rg [hE 3 (I x6), hA 6 ((List.set l2 (Int.toNat x3) (IntKind.wrap .i64 (x6 + 1))).length) (List.map I (List.set l2 (Int.toNat x3) (IntKind.wrap .i64 (x6 + 1))))], r0, .canon [0, 1] [6, 16, 17, 18]] (by kernel_rfl) (P2 (((x3 : Int) == (-1)) = false) (beqF h4) <| P1 h5 <| P1 (int_lt_of_at h5 hx6) <| P1 (at_map I hx6) <| P1 h7 <| P1 (int_lt_of_at h7 hx8) <| P1 (lt_of_at hx8) <| P2 (setCells (List.map I l2) (Int.toNat x3) 0 [I (IntKind.wrap .i64 (x6 + 1))] = List.map I (List.set l2 (Int.toNat x3) (IntKind.wrap .i64 (x6 + 1)))) (setCells_map hx8 rfl) <| P1 (setLen l2 (Int.toNat x3) (IntKind.wrap .i64 (x6 + 1))) <| P0) hn))
    (fun h1 H =>
      eN H <| gE func33 [rg [hF 0], r0] (by kernel_rfl) (P2 ((decide (t1 < t0)) = false) (decide_eq_false h1) <| P0))
theorem ws_CountControlled : ∀ s r, loop Bs_CountControlled s = some r → Wc X 33 0 (Ks_CountControlled s) (Zs_CountControlled s) (Rs_CountControlled r) ((fun _ => []) r) := Nx.all ns_CountControlled
theorem cs_CountControlled {a0 : Gi_Board} {a1 : Gi_State} {r : (List Int) × Bool} (H : Ds_CountControlled a0 a1 = some r) : Ct X.P X.gl 33 [.agg [sl 5 gi_Terrain a0.Rules.Terrains, sl 6 gi_Kind a0.Rules.Kinds, I a0.Rules.Stack, I a0.Rules.River, I a0.Rules.Road, I a0.Rules.Supply, I a0.Rules.Turns, I a0.Map.Width, I a0.Map.Height, sl 1 I a0.Map.Terrain, sl 1 I a0.Map.Rivers, sl 1 I a0.Map.Roads], .agg [I a1.Turn, I a1.Weather, sl 4 gi_Unit a1.Units]] [] (Rs_CountControlled r) [] :=
  Ct.of func33 (c := bdy f33) (by kernel_rfl) (by kernel_rfl) <|
  eBind H fun r1 hr1 H =>
  gS [r0] (by kernel_rfl) P0 <|
  eIf H (fun h2 H =>
    eCk H fun h3 H =>
    eBind H fun r4 hr4 H =>
    gO [rg [{ i := 2, call := some { cl := true, auto := true, ins := [], res := (RB r1), G' := [] }, dec := some true }], rg [hA 0 ((List.replicate (Int.toNat 4) (0 : Int)).length) (List.map I (List.replicate (Int.toNat 4) (0 : Int)))], rg [hC 2 true [] (Rs_zMap r4) []], .canon [2, 3] [6, 16, 17, 18]] (by kernel_rfl) (P1 (cs_sGood hr1) <| P2 (r1 = true) (h2) <| PI (4 : Int) <| P2 ((0 : Int) ≤ 4) (by decide) <| P2 (Int.toNat 4 * 8 ≤ 140737488355328) h3 <| P1 (repLen (Int.toNat 4) (0 : Int)) <| P1 (repMap I (Int.toNat 4) (0 : Int)) <| P1 (cs_zMap hr4) <| P0) (ws_CountControlled _ _ H))
  (fun h2 H =>
    eW Rs_CountControlled (fun _ => []) H <| gE func33 [rg [{ i := 2, call := some { cl := true, auto := true, ins := [], res := (RB r1), G' := [] }, dec := some false }], r0] (by kernel_rfl) (P1 (cs_sGood hr1) <| P2 (r1 = false) (eqF h2) <| P0))
/-!   loop example/g00886/spec l1Cur  unitIn -/
def Rs_l1Cur_unitIn (r : Int × Gs_l1Cur) : List D := [I r.1]
def Ns_l1Cur_unitIn (r : Int × Gs_l1Cur) : List Root := [⟨false, true, 3, 1, [.agg [sl 1 (D.int .u8) r.2.code, I r.2.at_, .int .u64 r.2.seed]]⟩]
theorem cs_l1Cur_unitIn {a0 : Gs_l1Cur} {a1 : Gi_State} {r : Int × Gs_l1Cur} (H : Ds_l1Cur_unitIn a0 a1 = some r) : Ct X.P X.gl 57 [.ptr 0 3 0 0, .agg [I a1.Turn, I a1.Weather, sl 4 gi_Unit a1.Units]] [⟨false, true, 3, 1, [.agg [sl 1 (D.int .u8) a0.code, I a0.at_, .int .u64 a0.seed]]⟩] (Rs_l1Cur_unitIn r) (Ns_l1Cur_unitIn r) :=
  Ct.of func57 (c := bdy f57) (by kernel_rfl) (by kernel_rfl) <|
  eBind H fun r1 hr1 H =>
  eBind H fun r2 hr2 H =>
  eW Rs_l1Cur_unitIn Ns_l1Cur_unitIn H <| gE func57 [r0, rg [hC 5 true [0] (Rs_l1Cur_pick r1) (Ns_l1Cur_pick r1), hC 7 true [0] (Rs_l1Cur_pick r2) (Ns_l1Cur_pick r2)]] (by kernel_rfl) (PI (1 : Nat) <| P1 (cs_l1Cur_pick hr1) <| PI (1 : Nat) <| P1 (cs_l1Cur_pick hr2) <| P2 (¬ (15 : Int) = 0) (by decide) <| P0)
/-! loop example/g00886/spec DrawFreeExits -/
def Rs_DrawFreeExits (r : Gi_Board × Gi_State × Int) : List D := [.agg [sl 5 gi_Terrain r.1.Rules.Terrains, sl 6 gi_Kind r.1.Rules.Kinds, I r.1.Rules.Stack, I r.1.Rules.River, I r.1.Rules.Road, I r.1.Rules.Supply, I r.1.Rules.Turns, I r.1.Map.Width, I r.1.Map.Height, sl 1 I r.1.Map.Terrain, sl 1 I r.1.Map.Rivers, sl 1 I r.1.Map.Roads], .agg [I r.2.1.Turn, I r.2.1.Weather, sl 4 gi_Unit r.2.1.Units], I r.2.2]
theorem cs_DrawFreeExits {a0 : (List Int)} {r : Gi_Board × Gi_State × Int} (H : Ds_DrawFreeExits a0 = some r) : Ct X.P X.gl 16 [sl 1 (D.int .u8) a0] [] (Rs_DrawFreeExits r) [] :=
  Ct.of func16 (c := bdy f16) (by kernel_rfl) (by kernel_rfl) <|
  eBind H fun r1 hr1 H =>
  eBind H fun r2 hr2 H =>
  eW Rs_DrawFreeExits (fun _ => []) H <| gE func16 [r0, r0, rg [hC 1 true [2] (Rs_l1Cur_game r1) (Ns_l1Cur_game r1)], rg [{ i := 4, frz := [17], call := some { cl := true, auto := true, ins := [2], res := (Rs_l1Cur_unitIn r2), G' := (Ns_l1Cur_unitIn r2) } }]] (by kernel_rfl) (PI (1 : Nat) <| P1 (cs_l1Cur_game hr1) <| PI (1 : Nat) <| P1 (cs_l1Cur_unitIn hr2) <| P0)
/-! loop example/g00886/spec DrawIsSurrounded -/
def Rs_DrawIsSurrounded (r : Gi_Board × Gi_State × Int) : List D := [.agg [sl 5 gi_Terrain r.1.Rules.Terrains, sl 6 gi_Kind r.1.Rules.Kinds, I r.1.Rules.Stack, I r.1.Rules.River, I r.1.Rules.Road, I r.1.Rules.Supply, I r.1.Rules.Turns, I r.1.Map.Width, I r.1.Map.Height, sl 1 I r.1.Map.Terrain, sl 1 I r.1.Map.Rivers, sl 1 I r.1.Map.Roads], .agg [I r.2.1.Turn, I r.2.1.Weather, sl 4 gi_Unit r.2.1.Units], I r.2.2]
theorem cs_DrawIsSurrounded {a0 : (List Int)} {r : Gi_Board × Gi_State × Int} (H : Ds_DrawIsSurrounded a0 = some r) : Ct X.P X.gl 34 [sl 1 (D.int .u8) a0] [] (Rs_DrawIsSurrounded r) [] :=
  Ct.of func34 (c := bdy f34) (by kernel_rfl) (by kernel_rfl) <|
  eBind H fun r1 hr1 H =>
  eW Rs_DrawIsSurrounded (fun _ => []) H <| gE func34 [r0, rg [hC 1 true [] (Rs_DrawFreeExits r1) []]] (by kernel_rfl) (P1 (cs_DrawFreeExits hr1) <| P0)
/-! loop example/g00886/impl hasUnit -/
theorem ci_hasUnit {a0 : Gi_Board} {a1 : Gi_State} {a2 : Int} {r : Bool} (H : Di_hasUnit a0 a1 a2 = some r) : Ct X.P X.gl 58 [.agg [sl 5 gi_Terrain a0.Rules.Terrains, sl 6 gi_Kind a0.Rules.Kinds, I a0.Rules.Stack, I a0.Rules.River, I a0.Rules.Road, I a0.Rules.Supply, I a0.Rules.Turns, I a0.Map.Width, I a0.Map.Height, sl 1 I a0.Map.Terrain, sl 1 I a0.Map.Rivers, sl 1 I a0.Map.Roads], .agg [I a1.Turn, I a1.Weather, sl 4 gi_Unit a1.Units], I a2] [] (RB r) [] :=
  Ct.of func58 (c := bdy f58) (by kernel_rfl) (by kernel_rfl) <|
  eBind H fun r1 hr1 H =>
  gS [r0] (by kernel_rfl) P0 <|
  eIf H (fun h2 H =>
    eBind H fun r3 hr3 H =>
    eW RB (fun _ => []) H <| gE func58 [rg [{ i := 2, call := some { cl := true, auto := true, ins := [], res := (RB r1), G' := [] }, dec := some true }, hC 8 true [] (RB r3) []]] (by kernel_rfl) (P1 (ci_fits hr1) <| P2 (r1 = true) (h2) <| P1 (ci_isIndex hr3) <| P0))
  (fun h2 H =>
    eW RB (fun _ => []) H <| gE func58 [rg [{ i := 2, call := some { cl := true, auto := true, ins := [], res := (RB r1), G' := [] }, dec := some false }]] (by kernel_rfl) (P1 (ci_fits hr1) <| P2 (r1 = false) (eqF h2) <| P0))
/-! loop example/g00886/impl neighboursOn -/
def Ri_neighboursOn (r : (List Int)) : List D := [ow 1 I r]
noncomputable def Ki_neighboursOn : Si_neighboursOn → List Item
  | .h1 .. => nav 300 3 [] [.code (bdy f72)]
def Zi_neighboursOn : Si_neighboursOn → St
  | .h1 i0 t1 b2 l3 => ⟨sts 24 [(1, I i0), (2, .ptr 0 5 0 0), (5, .ref 1 1 none), (9, I t1)], [some ⟨false, true, 5, 1, [.agg [I b2.Width, I b2.Height, sl 1 I b2.Terrain, sl 1 I b2.Rivers, sl 1 I b2.Roads]]⟩, some ⟨false, false, 1, l3.length, List.map I l3⟩]⟩
abbrev Qi_neighboursOn := Nx X 72 0 Ki_neighboursOn Zi_neighboursOn Ri_neighboursOn (fun _ => [])
theorem ni_neighboursOn : ∀ s o, Bi_neighboursOn s = some o → Qi_neighboursOn (Ki_neighboursOn s) (Zi_neighboursOn s) o
  | .h1 i0 t1 b2 l3, o, H =>
    eIf H (fun h1 H =>
      eBind H fun r2 hr2 H =>
      gN [rg [hT 0], r0, rg [hC 3 true [] (RI r2) []]] (by kernel_rfl) (P2 ((decide (t1 < 6)) = true) (decide_eq_true h1) <| P1 (ci_nextTo hr2) <| P0) <|
      eIf H (fun h3 H =>
        eCk H fun h4 H =>
        eN H fun r hn => gO [rg [hT 1], rg [hA 3 ((l3 ++ [r2]).length) (List.map I (l3 ++ [r2]))], r0, .canon [0, 3] [1, 2, 5, 9]] (by kernel_rfl) (P2 ((decide (r2 ≥ 0)) = true) (decide_eq_true h3) <| P1 (apL l3 [r2]) <| P1 (apB h4) <| P1 (apM I l3 [r2]) <| P0) hn)
      (fun h3 H =>
        eN H fun r hn => gO [rg [hF 1], r0, .canon [0, 1] [1, 2, 5, 9]] (by kernel_rfl) (P2 ((decide (r2 ≥ 0)) = false) (decide_eq_false h3) <| P0) hn))
    (fun h1 H =>
      eN H <| gE func72 [rg [hF 0], r0] (by kernel_rfl) (P2 ((decide (t1 < 6)) = false) (decide_eq_false h1) <| P0))
theorem wi_neighboursOn : ∀ s r, loop Bi_neighboursOn s = some r → Wc X 72 0 (Ki_neighboursOn s) (Zi_neighboursOn s) (Ri_neighboursOn r) ((fun _ => []) r) := Nx.all ni_neighboursOn
theorem ci_neighboursOn {a0 : Gi_Map} {a1 : Int} {r : (List Int)} (H : Di_neighboursOn a0 a1 = some r) : Ct X.P X.gl 72 [.agg [I a0.Width, I a0.Height, sl 1 I a0.Terrain, sl 1 I a0.Rivers, sl 1 I a0.Roads], I a1] [] (Ri_neighboursOn r) [] :=
  Ct.of func72 (c := bdy f72) (by kernel_rfl) (by kernel_rfl) <|
  gO [r0, r0, r0, .canon [0, 1] [1, 2, 5, 9]] (by kernel_rfl) P0 (wi_neighboursOn _ _ H)
/-! loop example/g00886/impl IsSurrounded -/
def Ri_IsSurrounded (r : Bool × Bool) : List D := [.bool r.1, .bool r.2]
noncomputable def Ki_IsSurrounded : Si_IsSurrounded → List Item
  | .h1 .. => nav 300 4 [false] [.code (bdy f26)]
def Zi_IsSurrounded : Si_IsSurrounded → St
  | .h1 t0 t1 b2 b3 b4 l5 => ⟨sts 66 [(3, .ptr 0 12 0 0), (4, .ptr 1 3 0 0), (8, .ptr 2 4 0 0), (34, .ref 3 1 none), (35, I t0), (36, I t1)], [some ⟨false, true, 12, 1, [.agg [sl 5 gi_Terrain b2.Rules.Terrains, sl 6 gi_Kind b2.Rules.Kinds, I b2.Rules.Stack, I b2.Rules.River, I b2.Rules.Road, I b2.Rules.Supply, I b2.Rules.Turns, I b2.Map.Width, I b2.Map.Height, sl 1 I b2.Map.Terrain, sl 1 I b2.Map.Rivers, sl 1 I b2.Map.Roads]]⟩, some ⟨false, true, 3, 1, [.agg [I b3.Turn, I b3.Weather, sl 4 gi_Unit b3.Units]]⟩, some ⟨false, true, 4, 1, [.agg [I b4.Side, I b4.Kind, I b4.At, I b4.Steps]]⟩, some ⟨false, false, 1, l5.length, List.map I l5⟩]⟩
abbrev Qi_IsSurrounded := Nx X 26 0 Ki_IsSurrounded Zi_IsSurrounded Ri_IsSurrounded (fun _ => [])
theorem ni_IsSurrounded : ∀ s o, Bi_IsSurrounded s = some o → Qi_IsSurrounded (Ki_IsSurrounded s) (Zi_IsSurrounded s) o
  | .h1 t0 t1 b2 b3 b4 l5, o, H =>
    eIf H (fun h1 H =>
      eCk H fun h2 H =>
      eBind H fun x3 hx3 H =>
      eBind H fun r4 hr4 H =>
      gN [rg [hT 0], rg [hE 1 (I x3)]] (by kernel_rfl) (P2 ((decide (t1 < t0)) = true) (decide_eq_true h1) <| P1 h2 <| P1 (int_lt_of_at h2 hx3) <| P1 (at_map I hx3) <| P0) <|
      eIf H (fun h5 H =>
        eN H fun r hn => gO [rg [hC 4 true [] (RI r4) [], hF 5], r0, .canon [0, 1, 2, 3] [3, 4, 8, 34, 35, 36]] (by kernel_rfl) (P1 (ci_enterCost hr4) <| P2 (((r4 : Int) != 0) = false) (bneF h5) <| P0) hn)
      (fun h5 H =>
        eBind H fun r6 hr6 H =>
        eIf H (fun h7 H =>
          eN H fun r hn => gO [rg [hC 4 true [] (RI r4) [], hT 5, hC 9 true [] (RI r6) [], hF 13], r0, .canon [0, 1, 2, 3] [3, 4, 8, 34, 35, 36]] (by kernel_rfl) (P1 (ci_enterCost hr4) <| P2 (((r4 : Int) != 0) = true) (bneT h5) <| P1 (ci_ownerOf hr6) <| P2 (((r6 : Int) != (IntKind.wrap .i64 (1 - b4.Side))) = false) (bneF h7) <| P0) hn)
        (fun h7 H =>
          eBind H fun r8 hr8 H =>
          eIf H (fun h9 H =>
            eN H fun r hn => gO [rg [hC 4 true [] (RI r4) [], hT 5, hC 9 true [] (RI r6) [], hT 13, { i := 22, call := some { cl := true, auto := true, ins := [], res := (RB r8), G' := [] }, dec := some true }], r0, .canon [0, 1, 2, 3] [3, 4, 8, 34, 35, 36]] (by kernel_rfl) (P1 (ci_enterCost hr4) <| P2 (((r4 : Int) != 0) = true) (bneT h5) <| P1 (ci_ownerOf hr6) <| P2 (((r6 : Int) != (IntKind.wrap .i64 (1 - b4.Side))) = true) (bneT h7) <| P1 (ci_inZone hr8) <| P2 (r8 = true) (h9) <| P0) hn)
          (fun h9 H =>
            eN H <| gE func26 [rg [hC 4 true [] (RI r4) [], hT 5, hC 9 true [] (RI r6) [], hT 13, { i := 22, call := some { cl := true, auto := true, ins := [], res := (RB r8), G' := [] }, dec := some false }], r0] (by kernel_rfl) (P1 (ci_enterCost hr4) <| P2 (((r4 : Int) != 0) = true) (bneT h5) <| P1 (ci_ownerOf hr6) <| P2 (((r6 : Int) != (IntKind.wrap .i64 (1 - b4.Side))) = true) (bneT h7) <| P1 (ci_inZone hr8) <| P2 (r8 = false) (eqF h9) <| P0)))))
    (fun h1 H =>
      eN H <| gE func26 [rg [hF 0], r0] (by kernel_rfl) (P2 ((decide (t1 < t0)) = false) (decide_eq_false h1) <| P0))
theorem wi_IsSurrounded : ∀ s r, loop Bi_IsSurrounded s = some r → Wc X 26 0 (Ki_IsSurrounded s) (Zi_IsSurrounded s) (Ri_IsSurrounded r) ((fun _ => []) r) := Nx.all ni_IsSurrounded
theorem ci_IsSurrounded {a0 : Gi_Board} {a1 : Gi_State} {a2 : Int} {r : Bool × Bool} (H : Di_IsSurrounded a0 a1 a2 = some r) : Ct X.P X.gl 26 [.agg [sl 5 gi_Terrain a0.Rules.Terrains, sl 6 gi_Kind a0.Rules.Kinds, I a0.Rules.Stack, I a0.Rules.River, I a0.Rules.Road, I a0.Rules.Supply, I a0.Rules.Turns, I a0.Map.Width, I a0.Map.Height, sl 1 I a0.Map.Terrain, sl 1 I a0.Map.Rivers, sl 1 I a0.Map.Roads], .agg [I a1.Turn, I a1.Weather, sl 4 gi_Unit a1.Units], I a2] [] (Ri_IsSurrounded r) [] :=
  Ct.of func26 (c := bdy f26) (by kernel_rfl) (by kernel_rfl) <|
  eBind H fun r1 hr1 H =>
  gS [r0] (by kernel_rfl) P0 <|
  eIf H (fun h2 H =>
    eCk H fun h3 H =>
    eBind H fun x4 hx4 H =>
    eIf H (fun h5 H =>
      eW Ri_IsSurrounded (fun _ => []) H <| gE func26 [rg [{ i := 3, call := some { cl := true, auto := true, ins := [], res := (RB r1), G' := [] }, dec := some true }, hE 11 (gi_Unit x4), hT 12], r0] (by kernel_rfl) (P1 (ci_hasUnit hr1) <| P2 (r1 = true) (h2) <| P1 h3 <| P1 (int_lt_of_at h3 hx4) <| P1 (at_map gi_Unit hx4) <| P2 ((decide (x4.At < 0)) = true) (decide_eq_true h5) <| P0))
    (fun h5 H =>
      eCk H fun h6 H =>
      eBind H fun x7 hx7 H =>
      eBind H fun r8 hr8 H =>
      gO [rg [{ i := 3, call := some { cl := true, auto := true, ins := [], res := (RB r1), G' := [] }, dec := some true }, hE 11 (gi_Unit x4), hF 12], rg [hE 4 (gi_Unit x7)], rg [hC 4 true [] (Ri_neighboursOn r8) []], .canon [0, 1, 2, 3] [3, 4, 8, 34, 35, 36]] (by kernel_rfl) (P1 (ci_hasUnit hr1) <| P2 (r1 = true) (h2) <| P1 h3 <| P1 (int_lt_of_at h3 hx4) <| P1 (at_map gi_Unit hx4) <| P2 ((decide (x4.At < 0)) = false) (decide_eq_false h5) <| P1 h6 <| P1 (int_lt_of_at h6 hx7) <| P1 (at_map gi_Unit hx7) <| P1 (ci_neighboursOn hr8) <| P0) (wi_IsSurrounded _ _ H)))
  (fun h2 H =>
    eW Ri_IsSurrounded (fun _ => []) H <| gE func26 [rg [{ i := 3, call := some { cl := true, auto := true, ins := [], res := (RB r1), G' := [] }, dec := some false }], r0] (by kernel_rfl) (P1 (ci_hasUnit hr1) <| P2 (r1 = false) (eqF h2) <| P0))
/-! loop example/g00886/spec sHas -/
theorem cs_sHas {a0 : Gi_Board} {a1 : Gi_State} {a2 : Int} {r : Bool} (H : Ds_sHas a0 a1 a2 = some r) : Ct X.P X.gl 60 [.agg [sl 5 gi_Terrain a0.Rules.Terrains, sl 6 gi_Kind a0.Rules.Kinds, I a0.Rules.Stack, I a0.Rules.River, I a0.Rules.Road, I a0.Rules.Supply, I a0.Rules.Turns, I a0.Map.Width, I a0.Map.Height, sl 1 I a0.Map.Terrain, sl 1 I a0.Map.Rivers, sl 1 I a0.Map.Roads], .agg [I a1.Turn, I a1.Weather, sl 4 gi_Unit a1.Units], I a2] [] (RB r) [] :=
  Ct.of func60 (c := bdy f60) (by kernel_rfl) (by kernel_rfl) <|
  eBind H fun r1 hr1 H =>
  gS [r0] (by kernel_rfl) P0 <|
  eIf H (fun h2 H =>
    eBind H fun r3 hr3 H =>
    eW RB (fun _ => []) H <| gE func60 [rg [{ i := 2, call := some { cl := true, auto := true, ins := [], res := (RB r1), G' := [] }, dec := some true }, hC 9 true [] (RB r3) []]] (by kernel_rfl) (P1 (cs_sGood hr1) <| P2 (r1 = true) (h2) <| P1 (cs_l1In hr3) <| P0))
  (fun h2 H =>
    eW RB (fun _ => []) H <| gE func60 [rg [{ i := 2, call := some { cl := true, auto := true, ins := [], res := (RB r1), G' := [] }, dec := some false }]] (by kernel_rfl) (P1 (cs_sGood hr1) <| P2 (r1 = false) (eqF h2) <| P0))
/-! loop example/g00886/spec IsSurrounded -/
def Rs_IsSurrounded (r : Bool × Bool) : List D := [.bool r.1, .bool r.2]
noncomputable def Ks_IsSurrounded : Ss_IsSurrounded → List Item
  | .h1 .. => nav 300 4 [false] [.code (bdy f35)]
def Zs_IsSurrounded : Ss_IsSurrounded → St
  | .h1 t0 b1 b2 b3 => ⟨sts 69 [(3, .ptr 0 12 0 0), (4, .ptr 1 3 0 0), (8, .ptr 2 4 0 0), (9, I t0)], [some ⟨false, true, 12, 1, [.agg [sl 5 gi_Terrain b1.Rules.Terrains, sl 6 gi_Kind b1.Rules.Kinds, I b1.Rules.Stack, I b1.Rules.River, I b1.Rules.Road, I b1.Rules.Supply, I b1.Rules.Turns, I b1.Map.Width, I b1.Map.Height, sl 1 I b1.Map.Terrain, sl 1 I b1.Map.Rivers, sl 1 I b1.Map.Roads]]⟩, some ⟨false, true, 3, 1, [.agg [I b2.Turn, I b2.Weather, sl 4 gi_Unit b2.Units]]⟩, some ⟨false, true, 4, 1, [.agg [I b3.Side, I b3.Kind, I b3.At, I b3.Steps]]⟩]⟩
abbrev Qs_IsSurrounded := Nx X 35 0 Ks_IsSurrounded Zs_IsSurrounded Rs_IsSurrounded (fun _ => [])
theorem ns_IsSurrounded : ∀ s o, Bs_IsSurrounded s = some o → Qs_IsSurrounded (Ks_IsSurrounded s) (Zs_IsSurrounded s) o
  | .h1 t0 b1 b2 b3, o, H =>
    eIf H (fun h1 H =>
      eBind H fun r2 hr2 H =>
      gN [rg [hT 1], rg [hC 5 true [] (RI r2) []]] (by kernel_rfl) (P2 ((decide (t0 < 6)) = true) (decide_eq_true h1) <| P1 (cs_mNext hr2) <| P0) <|
      eIf H (fun h3 H =>
        eBind H fun r4 hr4 H =>
        eIf H (fun h5 H =>
          eBind H fun r6 hr6 H =>
          eIf H (fun h7 H =>
            eN H fun r hn => gO [rg [hT 1, hC 7 true [] (RI r4) [], hT 8, hC 13 true [] (RI r6) [], hF 17], r0, .canon [0, 1, 2] [3, 4, 8, 9]] (by kernel_rfl) (P2 ((decide (r2 ≥ 0)) = true) (decide_eq_true h3) <| P1 (cs_bCost hr4) <| P2 ((decide (r4 > 0)) = true) (decide_eq_true h5) <| P1 (cs_sOwner hr6) <| P2 (((r6 : Int) != (IntKind.wrap .i64 (1 - b3.Side))) = false) (bneF h7) <| P0) hn)
          (fun h7 H =>
            eBind H fun r8 hr8 H =>
            eIf H (fun h9 H =>
              eN H fun r hn => gO [rg [hT 1, hC 7 true [] (RI r4) [], hT 8, hC 13 true [] (RI r6) [], hT 17, { i := 26, call := some { cl := true, auto := true, ins := [], res := (RB r8), G' := [] }, dec := some true }], r0, .canon [0, 1, 2] [3, 4, 8, 9]] (by kernel_rfl) (P2 ((decide (r2 ≥ 0)) = true) (decide_eq_true h3) <| P1 (cs_bCost hr4) <| P2 ((decide (r4 > 0)) = true) (decide_eq_true h5) <| P1 (cs_sOwner hr6) <| P2 (((r6 : Int) != (IntKind.wrap .i64 (1 - b3.Side))) = true) (bneT h7) <| P1 (cs_zIn hr8) <| P2 (r8 = true) (h9) <| P0) hn)
            (fun h9 H =>
              eN H <| gE func35 [rg [hT 1, hC 7 true [] (RI r4) [], hT 8, hC 13 true [] (RI r6) [], hT 17, { i := 26, call := some { cl := true, auto := true, ins := [], res := (RB r8), G' := [] }, dec := some false }], r0] (by kernel_rfl) (P2 ((decide (r2 ≥ 0)) = true) (decide_eq_true h3) <| P1 (cs_bCost hr4) <| P2 ((decide (r4 > 0)) = true) (decide_eq_true h5) <| P1 (cs_sOwner hr6) <| P2 (((r6 : Int) != (IntKind.wrap .i64 (1 - b3.Side))) = true) (bneT h7) <| P1 (cs_zIn hr8) <| P2 (r8 = false) (eqF h9) <| P0))))
        (fun h5 H =>
          eN H fun r hn => gO [rg [hT 1, hC 7 true [] (RI r4) [], hF 8], r0, .canon [0, 1, 2] [3, 4, 8, 9]] (by kernel_rfl) (P2 ((decide (r2 ≥ 0)) = true) (decide_eq_true h3) <| P1 (cs_bCost hr4) <| P2 ((decide (r4 > 0)) = false) (decide_eq_false h5) <| P0) hn))
      (fun h3 H =>
        eN H fun r hn => gO [rg [hF 1], r0, .canon [0, 1, 2] [3, 4, 8, 9]] (by kernel_rfl) (P2 ((decide (r2 ≥ 0)) = false) (decide_eq_false h3) <| P0) hn))
    (fun h1 H =>
      eN H <| gE func35 [rg [hF 1], r0] (by kernel_rfl) (P2 ((decide (t0 < 6)) = false) (decide_eq_false h1) <| P0))
theorem ws_IsSurrounded : ∀ s r, loop Bs_IsSurrounded s = some r → Wc X 35 0 (Ks_IsSurrounded s) (Zs_IsSurrounded s) (Rs_IsSurrounded r) ((fun _ => []) r) := Nx.all ns_IsSurrounded
theorem cs_IsSurrounded {a0 : Gi_Board} {a1 : Gi_State} {a2 : Int} {r : Bool × Bool} (H : Ds_IsSurrounded a0 a1 a2 = some r) : Ct X.P X.gl 35 [.agg [sl 5 gi_Terrain a0.Rules.Terrains, sl 6 gi_Kind a0.Rules.Kinds, I a0.Rules.Stack, I a0.Rules.River, I a0.Rules.Road, I a0.Rules.Supply, I a0.Rules.Turns, I a0.Map.Width, I a0.Map.Height, sl 1 I a0.Map.Terrain, sl 1 I a0.Map.Rivers, sl 1 I a0.Map.Roads], .agg [I a1.Turn, I a1.Weather, sl 4 gi_Unit a1.Units], I a2] [] (Rs_IsSurrounded r) [] :=
  Ct.of func35 (c := bdy f35) (by kernel_rfl) (by kernel_rfl) <|
  eBind H fun r1 hr1 H =>
  gS [r0] (by kernel_rfl) P0 <|
  eIf H (fun h2 H =>
    eCk H fun h3 H =>
    eBind H fun x4 hx4 H =>
    eIf H (fun h5 H =>
      eW Rs_IsSurrounded (fun _ => []) H <| gE func35 [rg [{ i := 3, call := some { cl := true, auto := true, ins := [], res := (RB r1), G' := [] }, dec := some true }, hE 11 (gi_Unit x4), hT 12], r0] (by kernel_rfl) (P1 (cs_sHas hr1) <| P2 (r1 = true) (h2) <| P1 h3 <| P1 (int_lt_of_at h3 hx4) <| P1 (at_map gi_Unit hx4) <| P2 ((decide (x4.At < 0)) = true) (decide_eq_true h5) <| P0))
    (fun h5 H =>
      eCk H fun h6 H =>
      eBind H fun x7 hx7 H =>
      gO [rg [{ i := 3, call := some { cl := true, auto := true, ins := [], res := (RB r1), G' := [] }, dec := some true }, hE 11 (gi_Unit x4), hF 12], rg [hE 4 (gi_Unit x7)], r0, .canon [0, 1, 2] [3, 4, 8, 9]] (by kernel_rfl) (P1 (cs_sHas hr1) <| P2 (r1 = true) (h2) <| P1 h3 <| P1 (int_lt_of_at h3 hx4) <| P1 (at_map gi_Unit hx4) <| P2 ((decide (x4.At < 0)) = false) (decide_eq_false h5) <| P1 h6 <| P1 (int_lt_of_at h6 hx7) <| P1 (at_map gi_Unit hx7) <| P0) (ws_IsSurrounded _ _ H)))
  (fun h2 H =>
    eW Rs_IsSurrounded (fun _ => []) H <| gE func35 [rg [{ i := 3, call := some { cl := true, auto := true, ins := [], res := (RB r1), G' := [] }, dec := some false }], r0] (by kernel_rfl) (P1 (cs_sHas hr1) <| P2 (r1 = false) (eqF h2) <| P0))
/-! loop example/g00886/laws qInts -/
noncomputable def Kw_qInts : Sw_qInts → List Item
  | .h1 .. => nav 300 3 [false] [.code (bdy f22)]
def Zw_qInts : Sw_qInts → St
  | .h1 va0 b1 t2 t3 => ⟨sts 26 [(0, sl 1 I va0), (1, sl 1 I b1), (12, I t2), (13, I t3)], []⟩
abbrev Qw_qInts := Nx X 22 0 Kw_qInts Zw_qInts RB (fun _ => [])
theorem nw_qInts : ∀ s o, Bw_qInts s = some o → Qw_qInts (Kw_qInts s) (Zw_qInts s) o
  | .h1 va0 b1 t2 t3, o, H =>
    eIf H (fun h1 H =>
      eCk H fun h2 H =>
      eBind H fun x3 hx3 H =>
      eCk H fun h4 H =>
      eBind H fun x5 hx5 H =>
      gN [rg [hT 0], r0] (by kernel_rfl) (P2 ((decide (t3 < t2)) = true) (decide_eq_true h1) <| P0) <|
      eIf H (fun h6 H =>
        eN H fun r hn => gO [rg [hE 3 (I x3), hE 7 (I x5), hF 8], r0, .canon [] [0, 1, 12, 13]] (by kernel_rfl) (P1 h2 <| P1 (int_lt_of_at h2 hx3) <| P1 (at_map I hx3) <| P1 h4 <| P1 (int_lt_of_at h4 hx5) <| P1 (at_map I hx5) <| P2 (((x3 : Int) != x5) = false) (bneF h6) <| P0) hn)
      (fun h6 H =>
        eN H <| gE func22 [rg [hE 3 (I x3), hE 7 (I x5), hT 8], r0] (by kernel_rfl) (P1 h2 <| P1 (int_lt_of_at h2 hx3) <| P1 (at_map I hx3) <| P1 h4 <| P1 (int_lt_of_at h4 hx5) <| P1 (at_map I hx5) <| P2 (((x3 : Int) != x5) = true) (bneT h6) <| P0)))
    (fun h1 H =>
      eN H <| gE func22 [rg [hF 0], r0] (by kernel_rfl) (P2 ((decide (t3 < t2)) = false) (decide_eq_false h1) <| P0))
theorem ww_qInts : ∀ s r, loop Bw_qInts s = some r → Wc X 22 0 (Kw_qInts s) (Zw_qInts s) (RB r) ((fun _ => []) r) := Nx.all nw_qInts
theorem cw_qInts {a0 : (List Int)} {a1 : (List Int)} {r : Bool} (H : Dw_qInts a0 a1 = some r) : Ct X.P X.gl 22 [sl 1 I a0, sl 1 I a1] [] (RB r) [] :=
  Ct.of func22 (c := bdy f22) (by kernel_rfl) (by kernel_rfl) <|
  gS [r0] (by kernel_rfl) P0 <|
  eIf H (fun h1 H =>
    gO [rg [hF 4], r0, .canon [] [0, 1, 12, 13]] (by kernel_rfl) (P2 (((((a0.length : Nat) : Int) : Int) != ((a1.length : Nat) : Int)) = false) (bneF h1) <| P0) (ww_qInts _ _ H))
  (fun h1 H =>
    eW RB (fun _ => []) H <| gE func22 [rg [hT 4], r0] (by kernel_rfl) (P2 (((((a0.length : Nat) : Int) : Int) != ((a1.length : Nat) : Int)) = true) (bneT h1) <| P0))
/-! loop example/g00886/laws qSum -/
noncomputable def Kw_qSum : Sw_qSum → List Item
  | .h1 .. => nav 300 3 [] [.code (bdy f36)]
def Zw_qSum : Sw_qSum → St
  | .h1 sum0 t1 t2 t3 => ⟨sts 17 [(3, I sum0), (6, sl 1 I t1), (7, I t2), (8, I t3)], []⟩
abbrev Qw_qSum := Nx X 36 0 Kw_qSum Zw_qSum RI (fun _ => [])
theorem nw_qSum : ∀ s o, Bw_qSum s = some o → Qw_qSum (Kw_qSum s) (Zw_qSum s) o
  | .h1 sum0 t1 t2 t3, o, H =>
    eIf H (fun h1 H =>
      eCk H fun h2 H =>
      eBind H fun x3 hx3 H =>
      eN H fun r hn => gO [rg [hT 0], rg [hE 1 (I x3)], r0, r0, .canon [] [3, 6, 7, 8]] (by kernel_rfl) (P2 ((decide (t3 < t2)) = true) (decide_eq_true h1) <| P1 h2 <| P1 (int_lt_of_at h2 hx3) <| P1 (at_map I hx3) <| P0) hn)
    (fun h1 H =>
      eN H <| gE func36 [rg [hF 0], r0] (by kernel_rfl) (P2 ((decide (t3 < t2)) = false) (decide_eq_false h1) <| P0))
theorem ww_qSum : ∀ s r, loop Bw_qSum s = some r → Wc X 36 0 (Kw_qSum s) (Zw_qSum s) (RI r) ((fun _ => []) r) := Nx.all nw_qSum
theorem cw_qSum {a0 : (List Int)} {r : Int} (H : Dw_qSum a0 = some r) : Ct X.P X.gl 36 [sl 1 I a0] [] (RI r) [] :=
  Ct.of func36 (c := bdy f36) (by kernel_rfl) (by kernel_rfl) <|
  gO [r0, r0, r0, .canon [] [3, 6, 7, 8]] (by kernel_rfl) P0 (ww_qSum _ _ H)
/-! loop example/g00886/laws FnControl -/
noncomputable def Kw_FnControl : Sw_FnControl → List Item
  | .h1 .. => nav 300 15 [false, false, false, false] [.code (bdy f5)]
def Zw_FnControl : Sw_FnControl → St
  | .h1 t0 t1 l2 l3 => ⟨sts 152 [(7, .ref 0 1 none), (132, .ref 1 4 none), (133, I t0), (134, I t1)], [some ⟨false, false, 1, l2.length, List.map I l2⟩, some ⟨false, false, 4, l3.length, List.map gi_Unit l3⟩]⟩
abbrev Qw_FnControl := Nx X 5 0 Kw_FnControl Zw_FnControl RB (fun _ => [])
theorem nw_FnControl : ∀ s o, Bw_FnControl s = some o → Qw_FnControl (Kw_FnControl s) (Zw_FnControl s) o
  | .h1 t0 t1 l2 l3, o, H =>
    eIf H (fun h1 H =>
      eCk H fun h2 H =>
      eBind H fun x3 hx3 H =>
      gN [rg [hT 0], rg [hE 1 (gi_Unit x3)]] (by kernel_rfl) (P2 ((decide (t1 < t0)) = true) (decide_eq_true h1) <| P1 h2 <| P1 (int_lt_of_at h2 hx3) <| P1 (at_map gi_Unit hx3) <| P0) <|
      eIf H (fun h4 H =>
        eCk H fun h5 H =>
        eBind H fun x6 hx6 H =>
        eIf H (fun h7 H =>
          eN H fun r hn => gO [rg [hT 2, hE 8 (I x6), hF 11], r0, .canon [0, 1] [7, 132, 133, 134]] (by kernel_rfl) (P2 ((decide (x3.At ≥ 0)) = true) (decide_eq_true h4) <| P1 h5 <| P1 (int_lt_of_at h5 hx6) <| P1 (at_map I hx6) <| P2 (((x6 : Int) != x3.Side) = false) (bneF h7) <| P0) hn)
        (fun h7 H =>
          eN H <| gE func5 [rg [hT 2, hE 8 (I x6), hT 11], r0] (by kernel_rfl) (P2 ((decide (x3.At ≥ 0)) = true) (decide_eq_true h4) <| P1 h5 <| P1 (int_lt_of_at h5 hx6) <| P1 (at_map I hx6) <| P2 (((x6 : Int) != x3.Side) = true) (bneT h7) <| P0)))
      (fun h4 H =>
        eN H fun r hn => gO [rg [hF 2], r0, .canon [0, 1] [7, 132, 133, 134]] (by kernel_rfl) (P2 ((decide (x3.At ≥ 0)) = false) (decide_eq_false h4) <| P0) hn))
    (fun h1 H =>
      eN H <| gE func5 [rg [hF 0], r0] (by kernel_rfl) (P2 ((decide (t1 < t0)) = false) (decide_eq_false h1) <| P0))
theorem ww_FnControl : ∀ s r, loop Bw_FnControl s = some r → Wc X 5 0 (Kw_FnControl s) (Zw_FnControl s) (RB r) ((fun _ => []) r) := Nx.all nw_FnControl
theorem cw_FnControl {a0 : (List Int)} {a1 : (List Int)} {r : Bool} (H : Dw_FnControl a0 a1 = some r) : Ct X.P X.gl 5 [sl 1 (D.int .u8) a0, sl 1 (D.int .u8) a1] [] (RB r) [] :=
  Ct.of func5 (c := bdy f5) (by kernel_rfl) (by kernel_rfl) <|
  gS [r0] (by kernel_rfl) P0 <|
  eIf H (fun h1 H =>
    eW RB (fun _ => []) H <| gE func5 [rg [hT 5], r0] (by kernel_rfl) (P2 ((decide ((IntKind.wrap .i64 (((a0.length : Nat) : Int) + ((a1.length : Nat) : Int))) > 1048576)) = true) (decide_eq_true h1) <| P0))
  (fun h1 H =>
    eBind H fun r2 hr2 H =>
    eBind H fun r3 hr3 H =>
    gS [rg [hF 5], rg [hC 1 true [] (Rs_DrawControlMap r2) []]] (by kernel_rfl) (P2 ((decide ((IntKind.wrap .i64 (((a0.length : Nat) : Int) + ((a1.length : Nat) : Int))) > 1048576)) = false) (decide_eq_false h1) <| P1 (cs_DrawControlMap hr2) <| P0) <|
    eIf H (fun h4 H =>
      eBind H fun r5 hr5 H =>
      eBind H fun r6 hr6 H =>
      eBind H fun r7 hr7 H =>
      gS [rg [hC 2 false [] (Ri_ControlMap r3) [], hT 5], rg [hC 2 false [] (Rs_ControlMap r5) []], rg [hC 1 true [] (Rs_DrawCountControlled r6) []]] (by kernel_rfl) (P2 (nfL (List.flatMap D.cells (Ri_ControlMap r3))) ⟨nfL_map nf_3 _, trivial, trivial⟩ <| P2 (nfG []) trivial <| P1 (ci_ControlMap hr3) <| P2 (r3.2 = true) (h4) <| P2 (nfL (List.flatMap D.cells (Rs_ControlMap r5))) ⟨nfL_map nf_3 _, trivial, trivial⟩ <| P2 (nfG []) trivial <| P1 (cs_ControlMap hr5) <| P1 (cs_DrawCountControlled hr6) <| P0) <|
      eIf H (fun h8 H =>
        eBind H fun r9 hr9 H =>
        eBind H fun r10 hr10 H =>
        eBind H fun r11 hr11 H =>
        eBind H fun r12 hr12 H =>
        gS [rg [hC 2 false [] (Ri_CountControlled r7) [], hT 5], rg [hC 2 false [] (Rs_CountControlled r9) []], rg [hC 1 true [] (Rs_DrawIsSurrounded r10) []], rg [hC 3 true [] (Ri_IsSurrounded r11) []], rg [hC 3 true [] (Rs_IsSurrounded r12) []]] (by kernel_rfl) (P2 (nfL (List.flatMap D.cells (Ri_CountControlled r7))) ⟨nfL_map nf_3 _, trivial, trivial⟩ <| P2 (nfG []) trivial <| P1 (ci_CountControlled hr7) <| P2 (r7.2 = true) (h8) <| P2 (nfL (List.flatMap D.cells (Rs_CountControlled r9))) ⟨nfL_map nf_3 _, trivial, trivial⟩ <| P2 (nfG []) trivial <| P1 (cs_CountControlled hr9) <| P1 (cs_DrawIsSurrounded hr10) <| P1 (ci_IsSurrounded hr11) <| P1 (cs_IsSurrounded hr12) <| P0) <|
        eIf H (fun h13 H =>
          eW RB (fun _ => []) H <| gE func5 [rg [hT 2], r0] (by kernel_rfl) (P2 ((!(true == r5.2)) = true) (h13) <| P0))
        (fun h13 H =>
          eBind H fun r14 hr14 H =>
          eIf H (fun h15 H =>
            eIf H (fun h16 H =>
              eW RB (fun _ => []) H <| gE func5 [rg [hF 2, { i := 6, call := some { cl := false, auto := true, ins := [], res := (RB r14), G' := [] }, dec := some true }, hT 12], r0] (by kernel_rfl) (P2 ((!(true == r5.2)) = false) (eqF h13) <| P1 (cw_qInts hr14) <| P2 (r14 = true) (h15) <| P2 ((!(true == r9.2)) = true) (h16) <| P0))
            (fun h16 H =>
              eBind H fun r17 hr17 H =>
              eIf H (fun h18 H =>
                eIf H (fun h19 H =>
                  eW RB (fun _ => []) H <| gE func5 [rg [hF 2, { i := 6, call := some { cl := false, auto := true, ins := [], res := (RB r14), G' := [] }, dec := some true }, hF 12, { i := 17, call := some { cl := false, auto := true, ins := [], res := (RB r17), G' := [] }, dec := some true }, hT 23], r0] (by kernel_rfl) (P2 ((!(true == r5.2)) = false) (eqF h13) <| P1 (cw_qInts hr14) <| P2 (r14 = true) (h15) <| P2 ((!(true == r9.2)) = false) (eqF h16) <| P1 (cw_qInts hr17) <| P2 (r17 = true) (h18) <| P2 ((!(r11.2 == r12.2)) = true) (h19) <| P0))
                (fun h19 H =>
                  eIf H (fun h20 H =>
                    eW RB (fun _ => []) H <| gE func5 [rg [hF 2, { i := 6, call := some { cl := false, auto := true, ins := [], res := (RB r14), G' := [] }, dec := some true }, hF 12, { i := 17, call := some { cl := false, auto := true, ins := [], res := (RB r17), G' := [] }, dec := some true }, hF 23, hT 28], r0] (by kernel_rfl) (P2 ((!(true == r5.2)) = false) (eqF h13) <| P1 (cw_qInts hr14) <| P2 (r14 = true) (h15) <| P2 ((!(true == r9.2)) = false) (eqF h16) <| P1 (cw_qInts hr17) <| P2 (r17 = true) (h18) <| P2 ((!(r11.2 == r12.2)) = false) (eqF h19) <| P2 ((!(r11.1 == r12.1)) = true) (h20) <| P0))
                  (fun h20 H =>
                    eBind H fun r21 hr21 H =>
                    gS [rg [hF 2, { i := 6, call := some { cl := false, auto := true, ins := [], res := (RB r14), G' := [] }, dec := some true }, hF 12, { i := 17, call := some { cl := false, auto := true, ins := [], res := (RB r17), G' := [] }, dec := some true }, hF 23, hF 28]] (by kernel_rfl) (P2 ((!(true == r5.2)) = false) (eqF h13) <| P1 (cw_qInts hr14) <| P2 (r14 = true) (h15) <| P2 ((!(true == r9.2)) = false) (eqF h16) <| P1 (cw_qInts hr17) <| P2 (r17 = true) (h18) <| P2 ((!(r11.2 == r12.2)) = false) (eqF h19) <| P2 ((!(r11.1 == r12.1)) = false) (eqF h20) <| P0) <|
                    eIf H (fun h22 H =>
                      gO [rg [hC 3 false [] (RI r21) [], hF 11], r0, r0, .canon [17, 14] [7, 132, 133, 134]] (by kernel_rfl) (P1 (cw_qSum hr21) <| P2 (((r21 : Int) != (IntKind.wrap .i64 (r6.1.Map.Width * r6.1.Map.Height))) = false) (bneF h22) <| P0) (ww_FnControl _ _ H))
                    (fun h22 H =>
                      eW RB (fun _ => []) H <| gE func5 [rg [hC 3 false [] (RI r21) [], hT 11], r0] (by kernel_rfl) (P1 (cw_qSum hr21) <| P2 (((r21 : Int) != (IntKind.wrap .i64 (r6.1.Map.Width * r6.1.Map.Height))) = true) (bneT h22) <| P0)))))
              (fun h18 H =>
                eW RB (fun _ => []) H <| gE func5 [rg [hF 2, { i := 6, call := some { cl := false, auto := true, ins := [], res := (RB r14), G' := [] }, dec := some true }, hF 12, { i := 17, call := some { cl := false, auto := true, ins := [], res := (RB r17), G' := [] }, dec := some false }], r0] (by kernel_rfl) (P2 ((!(true == r5.2)) = false) (eqF h13) <| P1 (cw_qInts hr14) <| P2 (r14 = true) (h15) <| P2 ((!(true == r9.2)) = false) (eqF h16) <| P1 (cw_qInts hr17) <| P2 (r17 = false) (eqF h18) <| P0))))
          (fun h15 H =>
            eW RB (fun _ => []) H <| gE func5 [rg [hF 2, { i := 6, call := some { cl := false, auto := true, ins := [], res := (RB r14), G' := [] }, dec := some false }], r0] (by kernel_rfl) (P2 ((!(true == r5.2)) = false) (eqF h13) <| P1 (cw_qInts hr14) <| P2 (r14 = false) (eqF h15) <| P0))))
      (fun h8 H =>
        eBind H fun r9 hr9 H =>
        eBind H fun r10 hr10 H =>
        eBind H fun r11 hr11 H =>
        eBind H fun r12 hr12 H =>
        gS [rg [hC 2 false [] (Ri_CountControlled r7) [], hF 5], rg [hC 2 false [] (Rs_CountControlled r9) []], rg [hC 1 true [] (Rs_DrawIsSurrounded r10) []], rg [hC 3 true [] (Ri_IsSurrounded r11) []], rg [hC 3 true [] (Rs_IsSurrounded r12) []]] (by kernel_rfl) (P2 (nfL (List.flatMap D.cells (Ri_CountControlled r7))) ⟨nfL_map nf_3 _, trivial, trivial⟩ <| P2 (nfG []) trivial <| P1 (ci_CountControlled hr7) <| P2 (r7.2 = false) (eqF h8) <| P2 (nfL (List.flatMap D.cells (Rs_CountControlled r9))) ⟨nfL_map nf_3 _, trivial, trivial⟩ <| P2 (nfG []) trivial <| P1 (cs_CountControlled hr9) <| P1 (cs_DrawIsSurrounded hr10) <| P1 (ci_IsSurrounded hr11) <| P1 (cs_IsSurrounded hr12) <| P0) <|
        eIf H (fun h13 H =>
          eW RB (fun _ => []) H <| gE func5 [rg [hT 2], r0] (by kernel_rfl) (P2 ((!(true == r5.2)) = true) (h13) <| P0))
        (fun h13 H =>
          eBind H fun r14 hr14 H =>
          eIf H (fun h15 H =>
            eIf H (fun h16 H =>
              eW RB (fun _ => []) H <| gE func5 [rg [hF 2, { i := 6, call := some { cl := false, auto := true, ins := [], res := (RB r14), G' := [] }, dec := some true }, hT 12], r0] (by kernel_rfl) (P2 ((!(true == r5.2)) = false) (eqF h13) <| P1 (cw_qInts hr14) <| P2 (r14 = true) (h15) <| P2 ((!(false == r9.2)) = true) (h16) <| P0))
            (fun h16 H =>
              eBind H fun r17 hr17 H =>
              eIf H (fun h18 H =>
                eIf H (fun h19 H =>
                  eW RB (fun _ => []) H <| gE func5 [rg [hF 2, { i := 6, call := some { cl := false, auto := true, ins := [], res := (RB r14), G' := [] }, dec := some true }, hF 12, { i := 17, call := some { cl := false, auto := true, ins := [], res := (RB r17), G' := [] }, dec := some true }, hT 23], r0] (by kernel_rfl) (P2 ((!(true == r5.2)) = false) (eqF h13) <| P1 (cw_qInts hr14) <| P2 (r14 = true) (h15) <| P2 ((!(false == r9.2)) = false) (eqF h16) <| P1 (cw_qInts hr17) <| P2 (r17 = true) (h18) <| P2 ((!(r11.2 == r12.2)) = true) (h19) <| P0))
                (fun h19 H =>
                  eIf H (fun h20 H =>
                    eW RB (fun _ => []) H <| gE func5 [rg [hF 2, { i := 6, call := some { cl := false, auto := true, ins := [], res := (RB r14), G' := [] }, dec := some true }, hF 12, { i := 17, call := some { cl := false, auto := true, ins := [], res := (RB r17), G' := [] }, dec := some true }, hF 23, hT 28], r0] (by kernel_rfl) (P2 ((!(true == r5.2)) = false) (eqF h13) <| P1 (cw_qInts hr14) <| P2 (r14 = true) (h15) <| P2 ((!(false == r9.2)) = false) (eqF h16) <| P1 (cw_qInts hr17) <| P2 (r17 = true) (h18) <| P2 ((!(r11.2 == r12.2)) = false) (eqF h19) <| P2 ((!(r11.1 == r12.1)) = true) (h20) <| P0))
                  (fun h20 H =>
                    gO [rg [hF 2, { i := 6, call := some { cl := false, auto := true, ins := [], res := (RB r14), G' := [] }, dec := some true }, hF 12, { i := 17, call := some { cl := false, auto := true, ins := [], res := (RB r17), G' := [] }, dec := some true }, hF 23, hF 28], r0, r0, r0, .canon [17, 14] [7, 132, 133, 134]] (by kernel_rfl) (P2 ((!(true == r5.2)) = false) (eqF h13) <| P1 (cw_qInts hr14) <| P2 (r14 = true) (h15) <| P2 ((!(false == r9.2)) = false) (eqF h16) <| P1 (cw_qInts hr17) <| P2 (r17 = true) (h18) <| P2 ((!(r11.2 == r12.2)) = false) (eqF h19) <| P2 ((!(r11.1 == r12.1)) = false) (eqF h20) <| P0) (ww_FnControl _ _ H))))
              (fun h18 H =>
                eW RB (fun _ => []) H <| gE func5 [rg [hF 2, { i := 6, call := some { cl := false, auto := true, ins := [], res := (RB r14), G' := [] }, dec := some true }, hF 12, { i := 17, call := some { cl := false, auto := true, ins := [], res := (RB r17), G' := [] }, dec := some false }], r0] (by kernel_rfl) (P2 ((!(true == r5.2)) = false) (eqF h13) <| P1 (cw_qInts hr14) <| P2 (r14 = true) (h15) <| P2 ((!(false == r9.2)) = false) (eqF h16) <| P1 (cw_qInts hr17) <| P2 (r17 = false) (eqF h18) <| P0))))
          (fun h15 H =>
            eW RB (fun _ => []) H <| gE func5 [rg [hF 2, { i := 6, call := some { cl := false, auto := true, ins := [], res := (RB r14), G' := [] }, dec := some false }], r0] (by kernel_rfl) (P2 ((!(true == r5.2)) = false) (eqF h13) <| P1 (cw_qInts hr14) <| P2 (r14 = false) (eqF h15) <| P0)))))
    (fun h4 H =>
      eBind H fun r5 hr5 H =>
      eBind H fun r6 hr6 H =>
      eBind H fun r7 hr7 H =>
      gS [rg [hC 2 false [] (Ri_ControlMap r3) [], hF 5], rg [hC 2 false [] (Rs_ControlMap r5) []], rg [hC 1 true [] (Rs_DrawCountControlled r6) []]] (by kernel_rfl) (P2 (nfL (List.flatMap D.cells (Ri_ControlMap r3))) ⟨nfL_map nf_3 _, trivial, trivial⟩ <| P2 (nfG []) trivial <| P1 (ci_ControlMap hr3) <| P2 (r3.2 = false) (eqF h4) <| P2 (nfL (List.flatMap D.cells (Rs_ControlMap r5))) ⟨nfL_map nf_3 _, trivial, trivial⟩ <| P2 (nfG []) trivial <| P1 (cs_ControlMap hr5) <| P1 (cs_DrawCountControlled hr6) <| P0) <|
      eIf H (fun h8 H =>
        eBind H fun r9 hr9 H =>
        eBind H fun r10 hr10 H =>
        eBind H fun r11 hr11 H =>
        eBind H fun r12 hr12 H =>
        gS [rg [hC 2 false [] (Ri_CountControlled r7) [], hT 5], rg [hC 2 false [] (Rs_CountControlled r9) []], rg [hC 1 true [] (Rs_DrawIsSurrounded r10) []], rg [hC 3 true [] (Ri_IsSurrounded r11) []], rg [hC 3 true [] (Rs_IsSurrounded r12) []]] (by kernel_rfl) (P2 (nfL (List.flatMap D.cells (Ri_CountControlled r7))) ⟨nfL_map nf_3 _, trivial, trivial⟩ <| P2 (nfG []) trivial <| P1 (ci_CountControlled hr7) <| P2 (r7.2 = true) (h8) <| P2 (nfL (List.flatMap D.cells (Rs_CountControlled r9))) ⟨nfL_map nf_3 _, trivial, trivial⟩ <| P2 (nfG []) trivial <| P1 (cs_CountControlled hr9) <| P1 (cs_DrawIsSurrounded hr10) <| P1 (ci_IsSurrounded hr11) <| P1 (cs_IsSurrounded hr12) <| P0) <|
        eIf H (fun h13 H =>
          eW RB (fun _ => []) H <| gE func5 [rg [hT 2], r0] (by kernel_rfl) (P2 ((!(false == r5.2)) = true) (h13) <| P0))
        (fun h13 H =>
          eBind H fun r14 hr14 H =>
          eIf H (fun h15 H =>
            eIf H (fun h16 H =>
              eW RB (fun _ => []) H <| gE func5 [rg [hF 2, { i := 6, call := some { cl := false, auto := true, ins := [], res := (RB r14), G' := [] }, dec := some true }, hT 12], r0] (by kernel_rfl) (P2 ((!(false == r5.2)) = false) (eqF h13) <| P1 (cw_qInts hr14) <| P2 (r14 = true) (h15) <| P2 ((!(true == r9.2)) = true) (h16) <| P0))
            (fun h16 H =>
              eBind H fun r17 hr17 H =>
              eIf H (fun h18 H =>
                eIf H (fun h19 H =>
                  eW RB (fun _ => []) H <| gE func5 [rg [hF 2, { i := 6, call := some { cl := false, auto := true, ins := [], res := (RB r14), G' := [] }, dec := some true }, hF 12, { i := 17, call := some { cl := false, auto := true, ins := [], res := (RB r17), G' := [] }, dec := some true }, hT 23], r0] (by kernel_rfl) (P2 ((!(false == r5.2)) = false) (eqF h13) <| P1 (cw_qInts hr14) <| P2 (r14 = true) (h15) <| P2 ((!(true == r9.2)) = false) (eqF h16) <| P1 (cw_qInts hr17) <| P2 (r17 = true) (h18) <| P2 ((!(r11.2 == r12.2)) = true) (h19) <| P0))
                (fun h19 H =>
                  eIf H (fun h20 H =>
                    eW RB (fun _ => []) H <| gE func5 [rg [hF 2, { i := 6, call := some { cl := false, auto := true, ins := [], res := (RB r14), G' := [] }, dec := some true }, hF 12, { i := 17, call := some { cl := false, auto := true, ins := [], res := (RB r17), G' := [] }, dec := some true }, hF 23, hT 28], r0] (by kernel_rfl) (P2 ((!(false == r5.2)) = false) (eqF h13) <| P1 (cw_qInts hr14) <| P2 (r14 = true) (h15) <| P2 ((!(true == r9.2)) = false) (eqF h16) <| P1 (cw_qInts hr17) <| P2 (r17 = true) (h18) <| P2 ((!(r11.2 == r12.2)) = false) (eqF h19) <| P2 ((!(r11.1 == r12.1)) = true) (h20) <| P0))
                  (fun h20 H =>
                    eBind H fun r21 hr21 H =>
                    gS [rg [hF 2, { i := 6, call := some { cl := false, auto := true, ins := [], res := (RB r14), G' := [] }, dec := some true }, hF 12, { i := 17, call := some { cl := false, auto := true, ins := [], res := (RB r17), G' := [] }, dec := some true }, hF 23, hF 28]] (by kernel_rfl) (P2 ((!(false == r5.2)) = false) (eqF h13) <| P1 (cw_qInts hr14) <| P2 (r14 = true) (h15) <| P2 ((!(true == r9.2)) = false) (eqF h16) <| P1 (cw_qInts hr17) <| P2 (r17 = true) (h18) <| P2 ((!(r11.2 == r12.2)) = false) (eqF h19) <| P2 ((!(r11.1 == r12.1)) = false) (eqF h20) <| P0) <|
                    eIf H (fun h22 H =>
                      eW RB (fun _ => []) H <| gE func5 [rg [hC 3 false [] (RI r21) [], hF 11], r0, r0] (by kernel_rfl) (P1 (cw_qSum hr21) <| P2 (((r21 : Int) != (IntKind.wrap .i64 (r6.1.Map.Width * r6.1.Map.Height))) = false) (bneF h22) <| P0))
                    (fun h22 H =>
                      eW RB (fun _ => []) H <| gE func5 [rg [hC 3 false [] (RI r21) [], hT 11], r0] (by kernel_rfl) (P1 (cw_qSum hr21) <| P2 (((r21 : Int) != (IntKind.wrap .i64 (r6.1.Map.Width * r6.1.Map.Height))) = true) (bneT h22) <| P0)))))
              (fun h18 H =>
                eW RB (fun _ => []) H <| gE func5 [rg [hF 2, { i := 6, call := some { cl := false, auto := true, ins := [], res := (RB r14), G' := [] }, dec := some true }, hF 12, { i := 17, call := some { cl := false, auto := true, ins := [], res := (RB r17), G' := [] }, dec := some false }], r0] (by kernel_rfl) (P2 ((!(false == r5.2)) = false) (eqF h13) <| P1 (cw_qInts hr14) <| P2 (r14 = true) (h15) <| P2 ((!(true == r9.2)) = false) (eqF h16) <| P1 (cw_qInts hr17) <| P2 (r17 = false) (eqF h18) <| P0))))
          (fun h15 H =>
            eW RB (fun _ => []) H <| gE func5 [rg [hF 2, { i := 6, call := some { cl := false, auto := true, ins := [], res := (RB r14), G' := [] }, dec := some false }], r0] (by kernel_rfl) (P2 ((!(false == r5.2)) = false) (eqF h13) <| P1 (cw_qInts hr14) <| P2 (r14 = false) (eqF h15) <| P0))))
      (fun h8 H =>
        eBind H fun r9 hr9 H =>
        eBind H fun r10 hr10 H =>
        eBind H fun r11 hr11 H =>
        eBind H fun r12 hr12 H =>
        gS [rg [hC 2 false [] (Ri_CountControlled r7) [], hF 5], rg [hC 2 false [] (Rs_CountControlled r9) []], rg [hC 1 true [] (Rs_DrawIsSurrounded r10) []], rg [hC 3 true [] (Ri_IsSurrounded r11) []], rg [hC 3 true [] (Rs_IsSurrounded r12) []]] (by kernel_rfl) (P2 (nfL (List.flatMap D.cells (Ri_CountControlled r7))) ⟨nfL_map nf_3 _, trivial, trivial⟩ <| P2 (nfG []) trivial <| P1 (ci_CountControlled hr7) <| P2 (r7.2 = false) (eqF h8) <| P2 (nfL (List.flatMap D.cells (Rs_CountControlled r9))) ⟨nfL_map nf_3 _, trivial, trivial⟩ <| P2 (nfG []) trivial <| P1 (cs_CountControlled hr9) <| P1 (cs_DrawIsSurrounded hr10) <| P1 (ci_IsSurrounded hr11) <| P1 (cs_IsSurrounded hr12) <| P0) <|
        eIf H (fun h13 H =>
          eW RB (fun _ => []) H <| gE func5 [rg [hT 2], r0] (by kernel_rfl) (P2 ((!(false == r5.2)) = true) (h13) <| P0))
        (fun h13 H =>
          eBind H fun r14 hr14 H =>
          eIf H (fun h15 H =>
            eIf H (fun h16 H =>
              eW RB (fun _ => []) H <| gE func5 [rg [hF 2, { i := 6, call := some { cl := false, auto := true, ins := [], res := (RB r14), G' := [] }, dec := some true }, hT 12], r0] (by kernel_rfl) (P2 ((!(false == r5.2)) = false) (eqF h13) <| P1 (cw_qInts hr14) <| P2 (r14 = true) (h15) <| P2 ((!(false == r9.2)) = true) (h16) <| P0))
            (fun h16 H =>
              eBind H fun r17 hr17 H =>
              eIf H (fun h18 H =>
                eIf H (fun h19 H =>
                  eW RB (fun _ => []) H <| gE func5 [rg [hF 2, { i := 6, call := some { cl := false, auto := true, ins := [], res := (RB r14), G' := [] }, dec := some true }, hF 12, { i := 17, call := some { cl := false, auto := true, ins := [], res := (RB r17), G' := [] }, dec := some true }, hT 23], r0] (by kernel_rfl) (P2 ((!(false == r5.2)) = false) (eqF h13) <| P1 (cw_qInts hr14) <| P2 (r14 = true) (h15) <| P2 ((!(false == r9.2)) = false) (eqF h16) <| P1 (cw_qInts hr17) <| P2 (r17 = true) (h18) <| P2 ((!(r11.2 == r12.2)) = true) (h19) <| P0))
                (fun h19 H =>
                  eIf H (fun h20 H =>
                    eW RB (fun _ => []) H <| gE func5 [rg [hF 2, { i := 6, call := some { cl := false, auto := true, ins := [], res := (RB r14), G' := [] }, dec := some true }, hF 12, { i := 17, call := some { cl := false, auto := true, ins := [], res := (RB r17), G' := [] }, dec := some true }, hF 23, hT 28], r0] (by kernel_rfl) (P2 ((!(false == r5.2)) = false) (eqF h13) <| P1 (cw_qInts hr14) <| P2 (r14 = true) (h15) <| P2 ((!(false == r9.2)) = false) (eqF h16) <| P1 (cw_qInts hr17) <| P2 (r17 = true) (h18) <| P2 ((!(r11.2 == r12.2)) = false) (eqF h19) <| P2 ((!(r11.1 == r12.1)) = true) (h20) <| P0))
                  (fun h20 H =>
                    eW RB (fun _ => []) H <| gE func5 [rg [hF 2, { i := 6, call := some { cl := false, auto := true, ins := [], res := (RB r14), G' := [] }, dec := some true }, hF 12, { i := 17, call := some { cl := false, auto := true, ins := [], res := (RB r17), G' := [] }, dec := some true }, hF 23, hF 28], r0, r0, r0] (by kernel_rfl) (P2 ((!(false == r5.2)) = false) (eqF h13) <| P1 (cw_qInts hr14) <| P2 (r14 = true) (h15) <| P2 ((!(false == r9.2)) = false) (eqF h16) <| P1 (cw_qInts hr17) <| P2 (r17 = true) (h18) <| P2 ((!(r11.2 == r12.2)) = false) (eqF h19) <| P2 ((!(r11.1 == r12.1)) = false) (eqF h20) <| P0))))
              (fun h18 H =>
                eW RB (fun _ => []) H <| gE func5 [rg [hF 2, { i := 6, call := some { cl := false, auto := true, ins := [], res := (RB r14), G' := [] }, dec := some true }, hF 12, { i := 17, call := some { cl := false, auto := true, ins := [], res := (RB r17), G' := [] }, dec := some false }], r0] (by kernel_rfl) (P2 ((!(false == r5.2)) = false) (eqF h13) <| P1 (cw_qInts hr14) <| P2 (r14 = true) (h15) <| P2 ((!(false == r9.2)) = false) (eqF h16) <| P1 (cw_qInts hr17) <| P2 (r17 = false) (eqF h18) <| P0))))
          (fun h15 H =>
            eW RB (fun _ => []) H <| gE func5 [rg [hF 2, { i := 6, call := some { cl := false, auto := true, ins := [], res := (RB r14), G' := [] }, dec := some false }], r0] (by kernel_rfl) (P2 ((!(false == r5.2)) = false) (eqF h13) <| P1 (cw_qInts hr14) <| P2 (r14 = false) (eqF h15) <| P0))))))
end Go.Proofs.YtakcjcjfcignjaaGreatDoor.Ab
