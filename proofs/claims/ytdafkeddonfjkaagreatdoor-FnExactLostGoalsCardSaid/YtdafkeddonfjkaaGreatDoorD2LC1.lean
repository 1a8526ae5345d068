/- Part of the proof of FnExactLostGoalsCard: no condition of its own. -/
import Derived.Test.YtdafkeddonfjkaaGreatDoorD2LC
set_option linter.unusedVariables false
set_option linter.unusedSimpArgs false
open Go Go.Proofs Go.Proofs.Tryz
namespace Go.Proofs.YtdafkeddonfjkaaGreatDoor.Ab
noncomputable def Ki_goodState : Si_goodState → List Item
 | .h1 .. => nav 300 4 [false] [.code (bdy f121)]
def Zi_goodState : Si_goodState → St
 | .h1 t0 t1 t2 b3 l4 => ⟨sts 80 [(2, .ptr 0 12 0 0), (5, .ref 1 2 none), (31, sl 4 gi_Unit t0), (32, I t1), (33, I t2)], [some ⟨false, true, 12, 1, [gi_Board b3]⟩, some ⟨false, false, 2, l4.length, List.map gA2I l4⟩]⟩
abbrev Qi_goodState := Nx X 121 0 Ki_goodState Zi_goodState RB (fun _ => [])
theorem ni_goodState : ∀ s o, Bi_goodState s = some o → Qi_goodState (Ki_goodState s) (Zi_goodState s) o
 | .h1 t0 t1 t2 b3 l4, o, H =>
  eIf H (fun h1 H =>
  eCk H fun h2 H =>
  eBind H fun x3 hx3 H =>
  eBind H fun r4 hr4 H =>
  gN [rg [hT 0], rg [hE 1 (gi_Unit x3)]] (by kernel_rfl) (P2 ((decide (t2 < t1)) = true) (decide_eq_true h1)<|P1 h2<|P1 (int_lt_of_at h2 hx3)<|P1 (at_map gi_Unit hx3)<|P0) <|
  eIf H (fun h5 H =>
  gN [rg [{ i := 2, call := some { cl := true, auto := true, ins := [], res := (RB r4), G' := [] }, dec := some true }]] (by kernel_rfl) (P1 (ci_goodUnit hr4)<|P2 (r4 = true) (h5)<|P0) <|
  eIf H (fun h6 H =>
  eN H fun r hn => gO [rg [hT 2], r0, .canon [0, 1] [2, 5, 31, 32, 33]] (by kernel_rfl) (P2 ((decide (x3.At < 0)) = true) (decide_eq_true h6)<|P0) hn)
  (fun h6 H =>
  eCk H fun h7 H =>
  eBind H fun x8 hx8 H =>
  gN [rg [hF 2]] (by kernel_rfl) (P2 ((decide (x3.At < 0)) = false) (decide_eq_false h6)<|P0) <|
  eIf H (fun h9 H =>
  eCk H fun h10 H =>
  eBind H fun x11 hx11 H =>
  eCk H fun h12 H =>
  eBind H fun x13 hx13 H =>
  gN [rg [{ i := 6, n := 0 }, hE 7 (gA2I x8), { i := 10, n := 0 }, hA 11 ((List.set l4 (Int.toNat x3.At) (GA2I.mk (IntKind.wrap .i64 (x8.c0 + 1)) x11.c1)).length) (List.map gA2I (List.set l4 (Int.toNat x3.At) (GA2I.mk (IntKind.wrap .i64 (x8.c0 + 1)) x11.c1)))]] (by kernel_rfl) (P1 h7<|P1 (int_lt_of_at h7 hx8)<|P1 h9<|P1 (at_map gA2I hx8)<|P1 h10<|P1 (int_lt_of_at h10 hx11)<|P1 h9<|P1 (lt_of_at hx11)<|P2 (setCells (List.map gA2I l4) (Int.toNat x3.At) 0 [I (IntKind.wrap .i64 (x8.c0 + 1))] = List.map gA2I (List.set l4 (Int.toNat x3.At) (GA2I.mk (IntKind.wrap .i64 (x8.c0 + 1)) x11.c1))) (setCells_map hx11 rfl)<|P1 (setLen l4 (Int.toNat x3.At) (GA2I.mk (IntKind.wrap .i64 (x8.c0 + 1)) x11.c1))<|P0) <|
  eIf H (fun h14 H =>
  eIf H (fun h15 H =>
  eN H<|gE func121 [rg [{ i := 7, n := 0 }, hE 8 (gA2I x13), hT 9], r0] (by kernel_rfl) (P1 h12<|P1 (int_lt_of_at h12 hx13)<|P1 h14<|P1 (at_map gA2I hx13)<|P2 ((decide (x13.c0 > 0)) = true) (decide_eq_true h15)<|P0))
  (fun h15 H =>
  eCk H fun h16 H =>
  eBind H fun x17 hx17 H =>
  eIf H (fun h18 H =>
  eN H<|gE func121 [rg [{ i := 7, n := 0 }, hE 8 (gA2I x13), hF 9, { i := 17, n := 0 }, hE 18 (gA2I x17), hT 22], r0] (by kernel_rfl) (P1 h12<|P1 (int_lt_of_at h12 hx13)<|P1 h14<|P1 (at_map gA2I hx13)<|P2 ((decide (x13.c0 > 0)) = false) (decide_eq_false h15)<|P1 h16<|P1 (int_lt_of_at h16 hx17)<|P1 h9<|P1 (at_map gA2I hx17)<|P2 ((decide (x17.c0 > b3.Rules.Stack)) = true) (decide_eq_true h18)<|P0))
  (fun h18 H =>
  eN H fun r hn => gO [rg [{ i := 7, n := 0 }, hE 8 (gA2I x13), hF 9, { i := 17, n := 0 }, hE 18 (gA2I x17), hF 22], r0, .canon [0, 1] [2, 5, 31, 32, 33]] (by kernel_rfl) (P1 h12<|P1 (int_lt_of_at h12 hx13)<|P1 h14<|P1 (at_map gA2I hx13)<|P2 ((decide (x13.c0 > 0)) = false) (decide_eq_false h15)<|P1 h16<|P1 (int_lt_of_at h16 hx17)<|P1 h9<|P1 (at_map gA2I hx17)<|P2 ((decide (x17.c0 > b3.Rules.Stack)) = false) (decide_eq_false h18)<|P0) hn)))
  (fun h14 H =>
  eCk H fun h15 H =>
  eIf H (fun h16 H =>
  eN H<|gE func121 [rg [{ i := 7, n := 1 }, hE 8 (gA2I x13), hT 9], r0] (by kernel_rfl) (P1 h12<|P1 (int_lt_of_at h12 hx13)<|P1 h15<|P1 (at_map gA2I hx13)<|P2 ((decide (x13.c1 > 0)) = true) (decide_eq_true h16)<|P0))
  (fun h16 H =>
  eCk H fun h17 H =>
  eBind H fun x18 hx18 H =>
  eIf H (fun h19 H =>
  eN H<|gE func121 [rg [{ i := 7, n := 1 }, hE 8 (gA2I x13), hF 9, { i := 17, n := 0 }, hE 18 (gA2I x18), hT 22], r0] (by kernel_rfl) (P1 h12<|P1 (int_lt_of_at h12 hx13)<|P1 h15<|P1 (at_map gA2I hx13)<|P2 ((decide (x13.c1 > 0)) = false) (decide_eq_false h16)<|P1 h17<|P1 (int_lt_of_at h17 hx18)<|P1 h9<|P1 (at_map gA2I hx18)<|P2 ((decide (x18.c0 > b3.Rules.Stack)) = true) (decide_eq_true h19)<|P0))
  (fun h19 H =>
  eN H fun r hn => gO [rg [{ i := 7, n := 1 }, hE 8 (gA2I x13), hF 9, { i := 17, n := 0 }, hE 18 (gA2I x18), hF 22], r0, .canon [0, 1] [2, 5, 31, 32, 33]] (by kernel_rfl) (P1 h12<|P1 (int_lt_of_at h12 hx13)<|P1 h15<|P1 (at_map gA2I hx13)<|P2 ((decide (x13.c1 > 0)) = false) (decide_eq_false h16)<|P1 h17<|P1 (int_lt_of_at h17 hx18)<|P1 h9<|P1 (at_map gA2I hx18)<|P2 ((decide (x18.c0 > b3.Rules.Stack)) = false) (decide_eq_false h19)<|P0) hn))))
  (fun h9 H =>
  eCk H fun h10 H =>
  eCk H fun h11 H =>
  eBind H fun x12 hx12 H =>
  eCk H fun h13 H =>
  eBind H fun x14 hx14 H =>
  gN [rg [{ i := 6, n := 1 }, hE 7 (gA2I x8), { i := 10, n := 1 }, hA 11 ((List.set l4 (Int.toNat x3.At) (GA2I.mk x12.c0 (IntKind.wrap .i64 (x8.c1 + 1)))).length) (List.map gA2I (List.set l4 (Int.toNat x3.At) (GA2I.mk x12.c0 (IntKind.wrap .i64 (x8.c1 + 1)))))]] (by kernel_rfl) (P1 h7<|P1 (int_lt_of_at h7 hx8)<|P1 h10<|P1 (at_map gA2I hx8)<|P1 h11<|P1 (int_lt_of_at h11 hx12)<|P1 h10<|P1 (lt_of_at hx12)<|P2 (setCells (List.map gA2I l4) (Int.toNat x3.At) 1 [I (IntKind.wrap .i64 (x8.c1 + 1))] = List.map gA2I (List.set l4 (Int.toNat x3.At) (GA2I.mk x12.c0 (IntKind.wrap .i64 (x8.c1 + 1))))) (setCells_map hx12 rfl)<|P1 (setLen l4 (Int.toNat x3.At) (GA2I.mk x12.c0 (IntKind.wrap .i64 (x8.c1 + 1))))<|P0) <|
  eIf H (fun h15 H =>
  eIf H (fun h16 H =>
  eN H<|gE func121 [rg [{ i := 7, n := 0 }, hE 8 (gA2I x14), hT 9], r0] (by kernel_rfl) (P1 h13<|P1 (int_lt_of_at h13 hx14)<|P1 h15<|P1 (at_map gA2I hx14)<|P2 ((decide (x14.c0 > 0)) = true) (decide_eq_true h16)<|P0))
  (fun h16 H =>
  eCk H fun h17 H =>
  eBind H fun x18 hx18 H =>
  eIf H (fun h19 H =>
  eN H<|gE func121 [rg [{ i := 7, n := 0 }, hE 8 (gA2I x14), hF 9, { i := 17, n := 1 }, hE 18 (gA2I x18), hT 22], r0] (by kernel_rfl) (P1 h13<|P1 (int_lt_of_at h13 hx14)<|P1 h15<|P1 (at_map gA2I hx14)<|P2 ((decide (x14.c0 > 0)) = false) (decide_eq_false h16)<|P1 h17<|P1 (int_lt_of_at h17 hx18)<|P1 h10<|P1 (at_map gA2I hx18)<|P2 ((decide (x18.c1 > b3.Rules.Stack)) = true) (decide_eq_true h19)<|P0))
  (fun h19 H =>
  eN H fun r hn => gO [rg [{ i := 7, n := 0 }, hE 8 (gA2I x14), hF 9, { i := 17, n := 1 }, hE 18 (gA2I x18), hF 22], r0, .canon [0, 1] [2, 5, 31, 32, 33]] (by kernel_rfl) (P1 h13<|P1 (int_lt_of_at h13 hx14)<|P1 h15<|P1 (at_map gA2I hx14)<|P2 ((decide (x14.c0 > 0)) = false) (decide_eq_false h16)<|P1 h17<|P1 (int_lt_of_at h17 hx18)<|P1 h10<|P1 (at_map gA2I hx18)<|P2 ((decide (x18.c1 > b3.Rules.Stack)) = false) (decide_eq_false h19)<|P0) hn)))
  (fun h15 H =>
  eCk H fun h16 H =>
  eIf H (fun h17 H =>
  eN H<|gE func121 [rg [{ i := 7, n := 1 }, hE 8 (gA2I x14), hT 9], r0] (by kernel_rfl) (P1 h13<|P1 (int_lt_of_at h13 hx14)<|P1 h16<|P1 (at_map gA2I hx14)<|P2 ((decide (x14.c1 > 0)) = true) (decide_eq_true h17)<|P0))
  (fun h17 H =>
  eCk H fun h18 H =>
  eBind H fun x19 hx19 H =>
  eIf H (fun h20 H =>
  eN H<|gE func121 [rg [{ i := 7, n := 1 }, hE 8 (gA2I x14), hF 9, { i := 17, n := 1 }, hE 18 (gA2I x19), hT 22], r0] (by kernel_rfl) (P1 h13<|P1 (int_lt_of_at h13 hx14)<|P1 h16<|P1 (at_map gA2I hx14)<|P2 ((decide (x14.c1 > 0)) = false) (decide_eq_false h17)<|P1 h18<|P1 (int_lt_of_at h18 hx19)<|P1 h10<|P1 (at_map gA2I hx19)<|P2 ((decide (x19.c1 > b3.Rules.Stack)) = true) (decide_eq_true h20)<|P0))
  (fun h20 H =>
  eN H fun r hn => gO [rg [{ i := 7, n := 1 }, hE 8 (gA2I x14), hF 9, { i := 17, n := 1 }, hE 18 (gA2I x19), hF 22], r0, .canon [0, 1] [2, 5, 31, 32, 33]] (by kernel_rfl) (P1 h13<|P1 (int_lt_of_at h13 hx14)<|P1 h16<|P1 (at_map gA2I hx14)<|P2 ((decide (x14.c1 > 0)) = false) (decide_eq_false h17)<|P1 h18<|P1 (int_lt_of_at h18 hx19)<|P1 h10<|P1 (at_map gA2I hx19)<|P2 ((decide (x19.c1 > b3.Rules.Stack)) = false) (decide_eq_false h20)<|P0) hn))))))
  (fun h5 H =>
  eN H<|gE func121 [rg [{ i := 2, call := some { cl := true, auto := true, ins := [], res := (RB r4), G' := [] }, dec := some false }], r0] (by kernel_rfl) (P1 (ci_goodUnit hr4)<|P2 (r4 = false) (eqF h5)<|P0)))
  (fun h1 H =>
  eN H<|gE func121 [rg [hF 0], r0] (by kernel_rfl) (P2 ((decide (t2 < t1)) = false) (decide_eq_false h1)<|P0))
theorem wi_goodState : ∀ s r, loop Bi_goodState s = some r → Wc X 121 0 (Ki_goodState s) (Zi_goodState s) (RB r) ((fun _ => []) r) := Nx.all (ni_goodState)
theorem ci_goodState {a0 : Gi_Board} {a1 : Gi_State} {r : Bool} (H : Di_goodState a0 a1 = some r) : Ct X.P X.gl 121 [gi_Board a0, gi_State a1] [] (RB r) [] :=
  Ct.of func121 (c := bdy f121) (by kernel_rfl) (by kernel_rfl) <|
  eBind H fun r1 hr1 H =>
  gS [r0] (by kernel_rfl) P0 <|
  eIf H (fun h2 H =>
  eBind H fun r3 hr3 H =>
  eIf H (fun h4 H =>
  eIf H (fun h5 H =>
  eW RB (fun _ => []) H<|gE func121 [rg [{ i := 5, call := some { cl := true, auto := true, ins := [], res := (RB r1), G' := [] }, dec := some true }, { i := 10, call := some { cl := true, auto := true, ins := [], res := (RB r3), G' := [] }, dec := some true }, hT 17], r0] (by kernel_rfl) (P1 (ci_inRange hr1)<|P2 (r1 = true) (h2)<|P1 (ci_inRange hr3)<|P2 (r3 = true) (h4)<|P2 ((decide (((a1.Units.length : Nat) : Int) > 12)) = true) (decide_eq_true h5)<|P0))
  (fun h5 H =>
  eBind H fun r6 hr6 H =>
  eCk H fun h7 H =>
  eCk H fun h8 H =>
  gO [rg [{ i := 5, call := some { cl := true, auto := true, ins := [], res := (RB r1), G' := [] }, dec := some true }, { i := 10, call := some { cl := true, auto := true, ins := [], res := (RB r3), G' := [] }, dec := some true }, hF 17], rg [hC 1 true [] (RI r6) [], hA 2 ((List.replicate (Int.toNat r6) (GA2I.mk 0 0)).length) (List.map gA2I (List.replicate (Int.toNat r6) (GA2I.mk 0 0)))], r0, .canon [0, 2] [2, 5, 31, 32, 33]] (by kernel_rfl) (P1 (ci_inRange hr1)<|P2 (r1 = true) (h2)<|P1 (ci_inRange hr3)<|P2 (r3 = true) (h4)<|P2 ((decide (((a1.Units.length : Nat) : Int) > 12)) = false) (decide_eq_false h5)<|P1 (ci_sizeOf hr6)<|PI r6<|P2 ((0 : Int) ≤ r6) h7<|P2 (Int.toNat r6 * 16 ≤ 140737488355328) h8<|P1 (repLen (Int.toNat r6) (GA2I.mk 0 0))<|P1 (repMap gA2I (Int.toNat r6) (GA2I.mk 0 0))<|P0) (wi_goodState _ _ H)))
  (fun h4 H =>
  eW RB (fun _ => []) H<|gE func121 [rg [{ i := 5, call := some { cl := true, auto := true, ins := [], res := (RB r1), G' := [] }, dec := some true }, { i := 10, call := some { cl := true, auto := true, ins := [], res := (RB r3), G' := [] }, dec := some false }], r0] (by kernel_rfl) (P1 (ci_inRange hr1)<|P2 (r1 = true) (h2)<|P1 (ci_inRange hr3)<|P2 (r3 = false) (eqF h4)<|P0)))
  (fun h2 H =>
  eW RB (fun _ => []) H<|gE func121 [rg [{ i := 5, call := some { cl := true, auto := true, ins := [], res := (RB r1), G' := [] }, dec := some false }], r0] (by kernel_rfl) (P1 (ci_inRange hr1)<|P2 (r1 = false) (eqF h2)<|P0))
noncomputable def Ki_goodConditions : Si_goodConditions → List Item
 | .h1 .. => nav 300 3 [false] [.code (bdy f122)]
def Zi_goodConditions : Si_goodConditions → St
 | .h1 t0 t1 t2 b3 b4 => ⟨sts 60 [(2, .ptr 0 12 0 0), (3, .ptr 1 3 0 0), (24, sl 2 gi_Goal t0), (25, I t1), (26, I t2)], [some ⟨false, true, 12, 1, [gi_Board b3]⟩, some ⟨false, true, 3, 1, [gi_Conditions b4]⟩]⟩
abbrev Qi_goodConditions := Nx X 122 0 Ki_goodConditions Zi_goodConditions RB (fun _ => [])
theorem ni_goodConditions : ∀ s o, Bi_goodConditions s = some o → Qi_goodConditions (Ki_goodConditions s) (Zi_goodConditions s) o
 | .h1 t0 t1 t2 b3 b4, o, H =>
  eIf H (fun h1 H =>
  eCk H fun h2 H =>
  eBind H fun x3 hx3 H =>
  eBind H fun r4 hr4 H =>
  eBind H fun r5 hr5 H =>
  gN [rg [hT 0], rg [hE 2 (gi_Goal x3)]] (by kernel_rfl) (P2 ((decide (t2 < t1)) = true) (decide_eq_true h1)<|P1 h2<|P1 (int_lt_of_at h2 hx3)<|P1 (at_map gi_Goal hx3)<|P0) <|
  eIf H (fun h6 H =>
  eBind H fun r7 hr7 H =>
  eIf H (fun h8 H =>
  eIf H (fun h9 H =>
  eCk H fun h10 H =>
  eBind H fun x11 hx11 H =>
  eIf H (fun h12 H =>
  eN H<|gE func122 [rg [hC 3 true [] (RI r4) [], { i := 4, call := some { cl := true, auto := true, ins := [], res := (RB r5), G' := [] }, dec := some true }, { i := 9, call := some { cl := true, auto := true, ins := [], res := (RB r7), G' := [] }, dec := some true }, hT 14, hE 22 (gi_Goal x11), hT 25], r0] (by kernel_rfl) (P1 (ci_sizeOf hr4)<|P1 (ci_isIndex hr5)<|P2 (r5 = true) (h6)<|P1 (ci_inRange hr7)<|P2 (r7 = true) (h8)<|P2 ((decide (t2 > 0)) = true) (decide_eq_true h9)<|P1 h10<|P1 (int_lt_of_at h10 hx11)<|P1 (at_map gi_Goal hx11)<|P2 ((decide (x11.At ≥ x3.At)) = true) (decide_eq_true h12)<|P0))
  (fun h12 H =>
  eN H fun r hn => gO [rg [hC 3 true [] (RI r4) [], { i := 4, call := some { cl := true, auto := true, ins := [], res := (RB r5), G' := [] }, dec := some true }, { i := 9, call := some { cl := true, auto := true, ins := [], res := (RB r7), G' := [] }, dec := some true }, hT 14, hE 22 (gi_Goal x11), hF 25], r0, .canon [0, 1] [2, 3, 24, 25, 26]] (by kernel_rfl) (P1 (ci_sizeOf hr4)<|P1 (ci_isIndex hr5)<|P2 (r5 = true) (h6)<|P1 (ci_inRange hr7)<|P2 (r7 = true) (h8)<|P2 ((decide (t2 > 0)) = true) (decide_eq_true h9)<|P1 h10<|P1 (int_lt_of_at h10 hx11)<|P1 (at_map gi_Goal hx11)<|P2 ((decide (x11.At ≥ x3.At)) = false) (decide_eq_false h12)<|P0) hn))
  (fun h9 H =>
  eN H fun r hn => gO [rg [hC 3 true [] (RI r4) [], { i := 4, call := some { cl := true, auto := true, ins := [], res := (RB r5), G' := [] }, dec := some true }, { i := 9, call := some { cl := true, auto := true, ins := [], res := (RB r7), G' := [] }, dec := some true }, hF 14], r0, .canon [0, 1] [2, 3, 24, 25, 26]] (by kernel_rfl) (P1 (ci_sizeOf hr4)<|P1 (ci_isIndex hr5)<|P2 (r5 = true) (h6)<|P1 (ci_inRange hr7)<|P2 (r7 = true) (h8)<|P2 ((decide (t2 > 0)) = false) (decide_eq_false h9)<|P0) hn))
  (fun h8 H =>
  eN H<|gE func122 [rg [hC 3 true [] (RI r4) [], { i := 4, call := some { cl := true, auto := true, ins := [], res := (RB r5), G' := [] }, dec := some true }, { i := 9, call := some { cl := true, auto := true, ins := [], res := (RB r7), G' := [] }, dec := some false }], r0] (by kernel_rfl) (P1 (ci_sizeOf hr4)<|P1 (ci_isIndex hr5)<|P2 (r5 = true) (h6)<|P1 (ci_inRange hr7)<|P2 (r7 = false) (eqF h8)<|P0)))
  (fun h6 H =>
  eN H<|gE func122 [rg [hC 3 true [] (RI r4) [], { i := 4, call := some { cl := true, auto := true, ins := [], res := (RB r5), G' := [] }, dec := some false }], r0] (by kernel_rfl) (P1 (ci_sizeOf hr4)<|P1 (ci_isIndex hr5)<|P2 (r5 = false) (eqF h6)<|P0)))
  (fun h1 H =>
  eN H<|gE func122 [rg [hF 0], r0] (by kernel_rfl) (P2 ((decide (t2 < t1)) = false) (decide_eq_false h1)<|P0))
theorem wi_goodConditions : ∀ s r, loop Bi_goodConditions s = some r → Wc X 122 0 (Ki_goodConditions s) (Zi_goodConditions s) (RB r) ((fun _ => []) r) := Nx.all (ni_goodConditions)
theorem ci_goodConditions {a0 : Gi_Board} {a1 : Gi_Conditions} {r : Bool} (H : Di_goodConditions a0 a1 = some r) : Ct X.P X.gl 122 [gi_Board a0, gi_Conditions a1] [] (RB r) [] :=
  Ct.of func122 (c := bdy f122) (by kernel_rfl) (by kernel_rfl) <|
  gS [r0] (by kernel_rfl) P0 <|
  eIf H (fun h1 H =>
  eW RB (fun _ => []) H<|gE func122 [rg [hT 3], r0] (by kernel_rfl) (P2 ((decide (((a1.Goals.length : Nat) : Int) > 12)) = true) (decide_eq_true h1)<|P0))
  (fun h1 H =>
  eBind H fun r2 hr2 H =>
  eIf H (fun h3 H =>
  eBind H fun r4 hr4 H =>
  eIf H (fun h5 H =>
  gO [rg [hF 3, { i := 7, call := some { cl := true, auto := true, ins := [], res := (RB r2), G' := [] }, dec := some true }, { i := 13, call := some { cl := true, auto := true, ins := [], res := (RB r4), G' := [] }, dec := some true }], r0, .canon [0, 1] [2, 3, 24, 25, 26]] (by kernel_rfl) (P2 ((decide (((a1.Goals.length : Nat) : Int) > 12)) = false) (decide_eq_false h1)<|P1 (ci_inRange hr2)<|P2 (r2 = true) (h3)<|P1 (ci_inRange hr4)<|P2 (r4 = true) (h5)<|P0) (wi_goodConditions _ _ H))
  (fun h5 H =>
  eW RB (fun _ => []) H<|gE func122 [rg [hF 3, { i := 7, call := some { cl := true, auto := true, ins := [], res := (RB r2), G' := [] }, dec := some true }, { i := 13, call := some { cl := true, auto := true, ins := [], res := (RB r4), G' := [] }, dec := some false }], r0] (by kernel_rfl) (P2 ((decide (((a1.Goals.length : Nat) : Int) > 12)) = false) (decide_eq_false h1)<|P1 (ci_inRange hr2)<|P2 (r2 = true) (h3)<|P1 (ci_inRange hr4)<|P2 (r4 = false) (eqF h5)<|P0)))
  (fun h3 H =>
  eW RB (fun _ => []) H<|gE func122 [rg [hF 3, { i := 7, call := some { cl := true, auto := true, ins := [], res := (RB r2), G' := [] }, dec := some false }], r0] (by kernel_rfl) (P2 ((decide (((a1.Goals.length : Nat) : Int) > 12)) = false) (decide_eq_false h1)<|P1 (ci_inRange hr2)<|P2 (r2 = false) (eqF h3)<|P0)))
theorem ci_areSources_1 {a0 : Int} {a1 : Gi_Board} {r : Bool} (H : Di_areSources_1 a0 a1 = some r) : Ct X.P X.gl 173 [I a0, .fptr 12 [.agg [sl 5 gi_Terrain a1.Rules.Terrains, sl 6 gi_Kind a1.Rules.Kinds, I a1.Rules.Stack, I a1.Rules.River, I a1.Rules.Road, I a1.Rules.Supply, I a1.Rules.Turns, I a1.Map.Width, I a1.Map.Height, sl 1 I a1.Map.Terrain, sl 1 I a1.Map.Rivers, sl 1 I a1.Map.Roads]] 0 0] [] (RB r) [] :=
  have H := (Di_areSources_1.eq_1 ..).symm.trans H
  Ct.of func173 (c := bdy f173) (by kernel_rfl) (by kernel_rfl) <|
  eBind H fun r1 hr1 H =>
  eBind H fun r2 hr2 H =>
  eW RB (fun _ => []) H<|gE func173 [r0, rg [hC 2 true [] (RI r1) [], hC 3 true [] (RB r2) []]] (by kernel_rfl) (P1 (ci_sizeOf hr1)<|P1 (ci_isIndex hr2)<|P0)
noncomputable def Kslices_IndexFunc_int_i_areSources_1 : Sslices_IndexFunc_int_i_areSources_1 → List Item
 | .h1 .. => nav 300 2 [] [.code (bdy f203)]
def Zslices_IndexFunc_int_i_areSources_1 : Sslices_IndexFunc_int_i_areSources_1 → St
 | .h1 s0 f1 t2 t3 => ⟨sts 19 [(0, sl 1 I s0), (1, .fn 173 [.fptr 12 [.agg [sl 5 gi_Terrain f1.Rules.Terrains, sl 6 gi_Kind f1.Rules.Kinds, I f1.Rules.Stack, I f1.Rules.River, I f1.Rules.Road, I f1.Rules.Supply, I f1.Rules.Turns, I f1.Map.Width, I f1.Map.Height, sl 1 I f1.Map.Terrain, sl 1 I f1.Map.Rivers, sl 1 I f1.Map.Roads]] 0 0]), (7, I t2), (8, I t3)], []⟩
abbrev Qslices_IndexFunc_int_i_areSources_1 := Nx X 203 0 Kslices_IndexFunc_int_i_areSources_1 Zslices_IndexFunc_int_i_areSources_1 RI (fun _ => [])
theorem nslices_IndexFunc_int_i_areSources_1 : ∀ s o, Bslices_IndexFunc_int_i_areSources_1 s = some o → Qslices_IndexFunc_int_i_areSources_1 (Kslices_IndexFunc_int_i_areSources_1 s) (Zslices_IndexFunc_int_i_areSources_1 s) o
 | .h1 s0 f1 t2 t3, o, H =>
  eIf H (fun h1 H =>
  eCk H fun h2 H =>
  eBind H fun x3 hx3 H =>
  eBind H fun r4 hr4 H =>
  gN [rg [hT 0], r0] (by kernel_rfl) (P2 ((decide (t3 < t2)) = true) (decide_eq_true h1)<|P0) <|
  eIf H (fun h5 H =>
  eN H<|gE func203 [rg [hE 4 (I x3), { i := 5, call := some { cl := true, auto := true, ins := [], res := (RB r4), G' := [] }, dec := some true }], r0] (by kernel_rfl) (P1 h2<|P1 (int_lt_of_at h2 hx3)<|P1 (at_map I hx3)<|P1 (ci_areSources_1 hr4)<|P2 (r4 = true) (h5)<|P0))
  (fun h5 H =>
  eN H fun r hn => gO [rg [hE 4 (I x3), { i := 5, call := some { cl := true, auto := true, ins := [], res := (RB r4), G' := [] }, dec := some false }], r0, .canon [] [0, 1, 7, 8]] (by kernel_rfl) (P1 h2<|P1 (int_lt_of_at h2 hx3)<|P1 (at_map I hx3)<|P1 (ci_areSources_1 hr4)<|P2 (r4 = false) (eqF h5)<|P0) hn))
  (fun h1 H =>
  eN H<|gE func203 [rg [hF 0], r0] (by kernel_rfl) (P2 ((decide (t3 < t2)) = false) (decide_eq_false h1)<|P0))
theorem wslices_IndexFunc_int_i_areSources_1 : ∀ s r, loop Bslices_IndexFunc_int_i_areSources_1 s = some r → Wc X 203 0 (Kslices_IndexFunc_int_i_areSources_1 s) (Zslices_IndexFunc_int_i_areSources_1 s) (RI r) ((fun _ => []) r) := Nx.all (nslices_IndexFunc_int_i_areSources_1)
theorem cslices_IndexFunc_int_i_areSources_1 {a0 : (List Int)} {a100 : Gi_Board} {r : Int} (H : Dslices_IndexFunc_int_i_areSources_1 a0 a100 = some r) : Ct X.P X.gl 203 [sl 1 I a0, .fn 173 [.fptr 12 [.agg [sl 5 gi_Terrain a100.Rules.Terrains, sl 6 gi_Kind a100.Rules.Kinds, I a100.Rules.Stack, I a100.Rules.River, I a100.Rules.Road, I a100.Rules.Supply, I a100.Rules.Turns, I a100.Map.Width, I a100.Map.Height, sl 1 I a100.Map.Terrain, sl 1 I a100.Map.Rivers, sl 1 I a100.Map.Roads]] 0 0]] [] (RI r) [] :=
  Ct.of func203 (c := bdy f203) (by kernel_rfl) (by kernel_rfl) <|
  gO [r0, r0, .canon [] [0, 1, 7, 8]] (by kernel_rfl) P0 (wslices_IndexFunc_int_i_areSources_1 _ _ H)
theorem cslices_ContainsFunc_int_i_areSources_1 {a0 : (List Int)} {a100 : Gi_Board} {r : Bool} (H : Dslices_ContainsFunc_int_i_areSources_1 a0 a100 = some r) : Ct X.P X.gl 167 [sl 1 I a0, .fn 173 [.fptr 12 [.agg [sl 5 gi_Terrain a100.Rules.Terrains, sl 6 gi_Kind a100.Rules.Kinds, I a100.Rules.Stack, I a100.Rules.River, I a100.Rules.Road, I a100.Rules.Supply, I a100.Rules.Turns, I a100.Map.Width, I a100.Map.Height, sl 1 I a100.Map.Terrain, sl 1 I a100.Map.Rivers, sl 1 I a100.Map.Roads]] 0 0]] [] (RB r) [] :=
  Ct.of func167 (c := bdy f167) (by kernel_rfl) (by kernel_rfl) <|
  eBind H fun r1 hr1 H =>
  eW RB (fun _ => []) H<|gE func167 [r0, rg [hC 2 true [] (RI r1) []]] (by kernel_rfl) (P1 (cslices_IndexFunc_int_i_areSources_1 hr1)<|P0)
theorem ci_areSources {a0 : Gi_Board} {a1 : (List Int)} {r : Bool} (H : Di_areSources a0 a1 = some r) : Ct X.P X.gl 123 [gi_Board a0, sl 1 I a1] [] (RB r) [] :=
  Ct.of func123 (c := bdy f123) (by kernel_rfl) (by kernel_rfl) <|
  gS [r0] (by kernel_rfl) P0 <|
  eIf H (fun h1 H =>
  eBind H fun r2 hr2 H =>
  eIf H (fun h3 H =>
  eBind H fun r4 hr4 H =>
  eW RB (fun _ => []) H<|gE func123 [rg [hT 2, { i := 5, call := some { cl := true, auto := true, ins := [], res := (RB r2), G' := [] }, dec := some true }, hC 10 false [] (RB r4) []]] (by kernel_rfl) (P2 ((decide (((a1.length : Nat) : Int) ≤ 6)) = true) (decide_eq_true h1)<|P1 (ci_increasing hr2)<|P2 (r2 = true) (h3)<|P1 (cslices_ContainsFunc_int_i_areSources_1 hr4)<|P0))
  (fun h3 H =>
  eW RB (fun _ => []) H<|gE func123 [rg [hT 2, { i := 5, call := some { cl := true, auto := true, ins := [], res := (RB r2), G' := [] }, dec := some false }]] (by kernel_rfl) (P2 ((decide (((a1.length : Nat) : Int) ≤ 6)) = true) (decide_eq_true h1)<|P1 (ci_increasing hr2)<|P2 (r2 = false) (eqF h3)<|P0)))
  (fun h1 H =>
  eW RB (fun _ => []) H<|gE func123 [rg [hF 2]] (by kernel_rfl) (P2 ((decide (((a1.length : Nat) : Int) ≤ 6)) = false) (decide_eq_false h1)<|P0))
theorem ci_ScenarioFault {a0 : Gi_Scenario} {r : Int} (H : Di_ScenarioFault a0 = some r) : Ct X.P X.gl 66 [gi_Scenario a0] [] (RI r) [] :=
  Ct.of func66 (c := bdy f66) (by kernel_rfl) (by kernel_rfl) <|
  eBind H fun r1 hr1 H =>
  gS [r0] (by kernel_rfl) P0 <|
  eIf H (fun h2 H =>
  eBind H fun r3 hr3 H =>
  gS [rg [{ i := 2, call := some { cl := true, auto := true, ins := [], res := (RB r1), G' := [] }, dec := some true }]] (by kernel_rfl) (P1 (ci_isName hr1)<|P2 (r1 = true) (h2)<|P0) <|
  eIf H (fun h4 H =>
  eBind H fun r5 hr5 H =>
  gS [rg [{ i := 2, call := some { cl := true, auto := true, ins := [], res := (RB r3), G' := [] }, dec := some true }]] (by kernel_rfl) (P1 (ci_IsBoard hr3)<|P2 (r3 = true) (h4)<|P0) <|
  eIf H (fun h6 H =>
  eBind H fun r7 hr7 H =>
  gS [rg [{ i := 2, call := some { cl := true, auto := true, ins := [], res := (RB r5), G' := [] }, dec := some true }]] (by kernel_rfl) (P1 (ci_IsCombatTable hr5)<|P2 (r5 = true) (h6)<|P0) <|
  eIf H (fun h8 H =>
  eBind H fun r9 hr9 H =>
  gS [rg [{ i := 4, call := some { cl := true, auto := true, ins := [], res := (RB r7), G' := [] }, dec := some true }]] (by kernel_rfl) (P1 (ci_goodState hr7)<|P2 (r7 = true) (h8)<|P0) <|
  eIf H (fun h10 H =>
  eBind H fun r11 hr11 H =>
  gS [rg [{ i := 4, call := some { cl := true, auto := true, ins := [], res := (RB r9), G' := [] }, dec := some true }]] (by kernel_rfl) (P1 (ci_goodConditions hr9)<|P2 (r9 = true) (h10)<|P0) <|
  eIf H (fun h12 H =>
  eBind H fun r13 hr13 H =>
  eIf H (fun h14 H =>
  eW RI (fun _ => []) H<|gE func66 [rg [{ i := 4, call := some { cl := true, auto := true, ins := [], res := (RB r11), G' := [] }, dec := some true }, { i := 11, call := some { cl := true, auto := true, ins := [], res := (RB r13), G' := [] }, dec := some true }], r0] (by kernel_rfl) (P1 (ci_areSources hr11)<|P2 (r11 = true) (h12)<|P1 (ci_areSources hr13)<|P2 (r13 = true) (h14)<|P0))
  (fun h14 H =>
  eW RI (fun _ => []) H<|gE func66 [rg [{ i := 4, call := some { cl := true, auto := true, ins := [], res := (RB r11), G' := [] }, dec := some true }, { i := 11, call := some { cl := true, auto := true, ins := [], res := (RB r13), G' := [] }, dec := some false }], r0] (by kernel_rfl) (P1 (ci_areSources hr11)<|P2 (r11 = true) (h12)<|P1 (ci_areSources hr13)<|P2 (r13 = false) (eqF h14)<|P0)))
  (fun h12 H =>
  eW RI (fun _ => []) H<|gE func66 [rg [{ i := 4, call := some { cl := true, auto := true, ins := [], res := (RB r11), G' := [] }, dec := some false }], r0] (by kernel_rfl) (P1 (ci_areSources hr11)<|P2 (r11 = false) (eqF h12)<|P0)))
  (fun h10 H =>
  eW RI (fun _ => []) H<|gE func66 [rg [{ i := 4, call := some { cl := true, auto := true, ins := [], res := (RB r9), G' := [] }, dec := some false }], r0] (by kernel_rfl) (P1 (ci_goodConditions hr9)<|P2 (r9 = false) (eqF h10)<|P0)))
  (fun h8 H =>
  eW RI (fun _ => []) H<|gE func66 [rg [{ i := 4, call := some { cl := true, auto := true, ins := [], res := (RB r7), G' := [] }, dec := some false }], r0] (by kernel_rfl) (P1 (ci_goodState hr7)<|P2 (r7 = false) (eqF h8)<|P0)))
  (fun h6 H =>
  eW RI (fun _ => []) H<|gE func66 [rg [{ i := 2, call := some { cl := true, auto := true, ins := [], res := (RB r5), G' := [] }, dec := some false }], r0] (by kernel_rfl) (P1 (ci_IsCombatTable hr5)<|P2 (r5 = false) (eqF h6)<|P0)))
  (fun h4 H =>
  eW RI (fun _ => []) H<|gE func66 [rg [{ i := 2, call := some { cl := true, auto := true, ins := [], res := (RB r3), G' := [] }, dec := some false }], r0] (by kernel_rfl) (P1 (ci_IsBoard hr3)<|P2 (r3 = false) (eqF h4)<|P0)))
  (fun h2 H =>
  eW RI (fun _ => []) H<|gE func66 [rg [{ i := 2, call := some { cl := true, auto := true, ins := [], res := (RB r1), G' := [] }, dec := some false }], r0] (by kernel_rfl) (P1 (ci_isName hr1)<|P2 (r1 = false) (eqF h2)<|P0))
theorem ci_IsScenario {a0 : Gi_Scenario} {r : Bool} (H : Di_IsScenario a0 = some r) : Ct X.P X.gl 32 [gi_Scenario a0] [] (RB r) [] :=
  Ct.of func32 (c := bdy f32) (by kernel_rfl) (by kernel_rfl) <|
  eBind H fun r1 hr1 H =>
  eW RB (fun _ => []) H<|gE func32 [r0, rg [hC 1 true [] (RI r1) []]] (by kernel_rfl) (P1 (ci_ScenarioFault hr1)<|P0)
def Ri_unitsOf (r : (List Int)) : List D := [ow 1 I r]
noncomputable def Ki_unitsOf : Si_unitsOf → List Item
 | .h1 .. => nav 300 3 [] [.code (bdy f34)]
def Zi_unitsOf : Si_unitsOf → St
 | .h1 side0 t1 t2 t3 l4 => ⟨sts 32 [(1, I side0), (5, .ref 0 1 none), (10, sl 4 gi_Unit t1), (11, I t2), (12, I t3)], [some ⟨false, false, 1, l4.length, List.map I l4⟩]⟩
abbrev Qi_unitsOf := Nx X 34 0 Ki_unitsOf Zi_unitsOf Ri_unitsOf (fun _ => [])
theorem ni_unitsOf : ∀ s o, Bi_unitsOf s = some o → Qi_unitsOf (Ki_unitsOf s) (Zi_unitsOf s) o
 | .h1 side0 t1 t2 t3 l4, o, H =>
  eIf H (fun h1 H =>
  eCk H fun h2 H =>
  eBind H fun x3 hx3 H =>
  gN [rg [hT 0], rg [hE 2 (gi_Unit x3)]] (by kernel_rfl) (P2 ((decide (t3 < t2)) = true) (decide_eq_true h1)<|P1 h2<|P1 (int_lt_of_at h2 hx3)<|P1 (at_map gi_Unit hx3)<|P0) <|
  eIf H (fun h4 H =>
  eIf H (fun h5 H =>
  eCk H fun h6 H =>
  eN H fun r hn => gO [rg [hT 3, hT 7], rg [hA 3 ((l4 ++ [t3]).length) (List.map I (l4 ++ [t3]))], r0, .canon [3] [1, 5, 10, 11, 12]] (by kernel_rfl) (P2 (((x3.Side : Int) == side0) = true) (beqT h4)<|P2 ((decide (x3.At ≥ 0)) = true) (decide_eq_true h5)<|P1 (apL l4 [t3])<|P1 (apB h6)<|P1 (apM I l4 [t3])<|P0) hn)
  (fun h5 H =>
  eN H fun r hn => gO [rg [hT 3, hF 7], r0, .canon [0] [1, 5, 10, 11, 12]] (by kernel_rfl) (P2 (((x3.Side : Int) == side0) = true) (beqT h4)<|P2 ((decide (x3.At ≥ 0)) = false) (decide_eq_false h5)<|P0) hn))
  (fun h4 H =>
  eN H fun r hn => gO [rg [hF 3], r0, .canon [0] [1, 5, 10, 11, 12]] (by kernel_rfl) (P2 (((x3.Side : Int) == side0) = false) (beqF h4)<|P0) hn))
  (fun h1 H =>
  eN H<|gE func34 [rg [hF 0], r0] (by kernel_rfl) (P2 ((decide (t3 < t2)) = false) (decide_eq_false h1)<|P0))
theorem wi_unitsOf : ∀ s r, loop Bi_unitsOf s = some r → Wc X 34 0 (Ki_unitsOf s) (Zi_unitsOf s) (Ri_unitsOf r) ((fun _ => []) r) := Nx.all (ni_unitsOf)
theorem ci_unitsOf {a0 : Gi_State} {a1 : Int} {r : (List Int)} (H : Di_unitsOf a0 a1 = some r) : Ct X.P X.gl 34 [gi_State a0, I a1] [] (Ri_unitsOf r) [] :=
  Ct.of func34 (c := bdy f34) (by kernel_rfl) (by kernel_rfl) <|
  gO [r0, r0, r0, .canon [1] [1, 5, 10, 11, 12]] (by kernel_rfl) P0 (wi_unitsOf _ _ H)
theorem ci_isKindOf {a0 : Gi_Board} {a1 : Int} {r : Bool} (H : Di_isKindOf a0 a1 = some r) : Ct X.P X.gl 68 [gi_Board a0, I a1] [] (RB r) [] :=
  Ct.of func68 (c := bdy f68) (by kernel_rfl) (by kernel_rfl) <|
  eBind H fun r1 hr1 H =>
  gS [r0] (by kernel_rfl) P0 <|
  eIf H (fun h2 H =>
  eBind H fun r3 hr3 H =>
  eW RB (fun _ => []) H<|gE func68 [rg [{ i := 1, call := some { cl := true, auto := true, ins := [], res := (RB r1), G' := [] }, dec := some true }, hC 8 true [] (RB r3) []]] (by kernel_rfl) (P1 (ci_IsBoard hr1)<|P2 (r1 = true) (h2)<|P1 (ci_isIndex hr3)<|P0))
  (fun h2 H =>
  eW RB (fun _ => []) H<|gE func68 [rg [{ i := 1, call := some { cl := true, auto := true, ins := [], res := (RB r1), G' := [] }, dec := some false }]] (by kernel_rfl) (P1 (ci_IsBoard hr1)<|P2 (r1 = false) (eqF h2)<|P0))
def Ri_openHexes (r : (List Int)) : List D := [ow 1 I r]
noncomputable def Ki_openHexes : Si_openHexes → List Item
 | .h1 .. => nav 300 3 [] [.code (bdy f124)]
def Zi_openHexes : Si_openHexes → St
 | .h1 kind0 t1 t2 b3 l4 => ⟨sts 26 [(1, I kind0), (2, .ptr 0 12 0 0), (5, .ref 1 1 none), (11, I t1), (12, I t2)], [some ⟨false, true, 12, 1, [gi_Board b3]⟩, some ⟨false, false, 1, l4.length, List.map I l4⟩]⟩
abbrev Qi_openHexes := Nx X 124 0 Ki_openHexes Zi_openHexes Ri_openHexes (fun _ => [])
theorem ni_openHexes : ∀ s o, Bi_openHexes s = some o → Qi_openHexes (Ki_openHexes s) (Zi_openHexes s) o
 | .h1 kind0 t1 t2 b3 l4, o, H =>
  eIf H (fun h1 H =>
  eBind H fun r2 hr2 H =>
  gN [rg [hT 0], r0] (by kernel_rfl) (P2 ((decide (t2 < t1)) = true) (decide_eq_true h1)<|P0) <|
  eIf H (fun h3 H =>
  eN H fun r hn => gO [rg [hC 3 true [] (RI r2) [], hF 4], r0, .canon [0, 1] [1, 2, 5, 11, 12]] (by kernel_rfl) (P1 (ci_enterCost hr2)<|P2 (((r2 : Int) != 0) = false) (bneF h3)<|P0) hn)
  (fun h3 H =>
  eCk H fun h4 H =>
  eN H fun r hn => gO [rg [hC 3 true [] (RI r2) [], hT 4], rg [hA 3 ((l4 ++ [t2]).length) (List.map I (l4 ++ [t2]))], r0, .canon [0, 3] [1, 2, 5, 11, 12]] (by kernel_rfl) (P1 (ci_enterCost hr2)<|P2 (((r2 : Int) != 0) = true) (bneT h3)<|P1 (apL l4 [t2])<|P1 (apB h4)<|P1 (apM I l4 [t2])<|P0) hn))
  (fun h1 H =>
  eN H<|gE func124 [rg [hF 0], r0] (by kernel_rfl) (P2 ((decide (t2 < t1)) = false) (decide_eq_false h1)<|P0))
theorem wi_openHexes : ∀ s r, loop Bi_openHexes s = some r → Wc X 124 0 (Ki_openHexes s) (Zi_openHexes s) (Ri_openHexes r) ((fun _ => []) r) := Nx.all (ni_openHexes)
theorem ci_openHexes {a0 : Gi_Board} {a1 : Int} {r : (List Int)} (H : Di_openHexes a0 a1 = some r) : Ct X.P X.gl 124 [gi_Board a0, I a1] [] (Ri_openHexes r) [] :=
  Ct.of func124 (c := bdy f124) (by kernel_rfl) (by kernel_rfl) <|
  gO [r0, r0, r0, .canon [0, 1] [1, 2, 5, 11, 12]] (by kernel_rfl) P0 (wi_openHexes _ _ H)
def Ri_neighboursOn (r : (List Int)) : List D := [ow 1 I r]
noncomputable def Ki_neighboursOn : Si_neighboursOn → List Item
 | .h1 .. => nav 300 3 [] [.code (bdy f125)]
def Zi_neighboursOn : Si_neighboursOn → St
 | .h1 i0 t1 b2 l3 => ⟨sts 24 [(1, I i0), (2, .ptr 0 5 0 0), (5, .ref 1 1 none), (9, I t1)], [some ⟨false, true, 5, 1, [gi_Map b2]⟩, some ⟨false, false, 1, l3.length, List.map I l3⟩]⟩
abbrev Qi_neighboursOn := Nx X 125 0 Ki_neighboursOn Zi_neighboursOn Ri_neighboursOn (fun _ => [])
theorem ni_neighboursOn : ∀ s o, Bi_neighboursOn s = some o → Qi_neighboursOn (Ki_neighboursOn s) (Zi_neighboursOn s) o
 | .h1 i0 t1 b2 l3, o, H =>
  eIf H (fun h1 H =>
  eBind H fun r2 hr2 H =>
  gN [rg [hT 0], r0, rg [hC 3 true [] (RI r2) []]] (by kernel_rfl) (P2 ((decide (t1 < 6)) = true) (decide_eq_true h1)<|P1 (ci_nextTo hr2)<|P0) <|
  eIf H (fun h3 H =>
  eCk H fun h4 H =>
  eN H fun r hn => gO [rg [hT 1], rg [hA 3 ((l3 ++ [r2]).length) (List.map I (l3 ++ [r2]))], r0, .canon [0, 3] [1, 2, 5, 9]] (by kernel_rfl) (P2 ((decide (r2 ≥ 0)) = true) (decide_eq_true h3)<|P1 (apL l3 [r2])<|P1 (apB h4)<|P1 (apM I l3 [r2])<|P0) hn)
  (fun h3 H =>
  eN H fun r hn => gO [rg [hF 1], r0, .canon [0, 1] [1, 2, 5, 9]] (by kernel_rfl) (P2 ((decide (r2 ≥ 0)) = false) (decide_eq_false h3)<|P0) hn))
  (fun h1 H =>
  eN H<|gE func125 [rg [hF 0], r0] (by kernel_rfl) (P2 ((decide (t1 < 6)) = false) (decide_eq_false h1)<|P0))
theorem wi_neighboursOn : ∀ s r, loop Bi_neighboursOn s = some r → Wc X 125 0 (Ki_neighboursOn s) (Zi_neighboursOn s) (Ri_neighboursOn r) ((fun _ => []) r) := Nx.all (ni_neighboursOn)
theorem ci_neighboursOn {a0 : Gi_Map} {a1 : Int} {r : (List Int)} (H : Di_neighboursOn a0 a1 = some r) : Ct X.P X.gl 125 [gi_Map a0, I a1] [] (Ri_neighboursOn r) [] :=
  Ct.of func125 (c := bdy f125) (by kernel_rfl) (by kernel_rfl) <|
  gO [r0, r0, r0, .canon [0, 1] [1, 2, 5, 9]] (by kernel_rfl) P0 (wi_neighboursOn _ _ H)
def Rslices_Sort_int (r : List Int) : List D := []
def Nslices_Sort_int (r : List Int) : List Root := [⟨false, false, 1, r.length, List.map I r⟩]
theorem cslices_Sort_int {a0 : (List Int)} {r : (List Int)} (H : Dslices_Sort_int a0 = some r) : Ct X.P X.gl 127 [.ref 0 1 none] [⟨false, false, 1, a0.length, List.map I a0⟩] (Rslices_Sort_int r) (Nslices_Sort_int r) :=
  eCk H fun h H => eRet (P := fun r => Ct X.P X.gl 127 [.ref 0 1 none] [⟨false, false, 1, a0.length, List.map I a0⟩] (Rslices_Sort_int r) (Nslices_Sort_int r)) H<|ct_sort (P := X.P) (ρ := lays_n189_ren) lays_n189 ⟨f127, func127, by kernel_rfl, by kernel_rfl⟩ h
def Ri_regionsOf (r : (List (List Int))) : List D := [ow 1 (ow 1 I) r]
noncomputable def Ki_regionsOf : Si_regionsOf → List Item
 | .h1 .. => nav 300 3 [] [.code (bdy f71)]
 | .h2 .. => nav 300 9 [true, false] [.code (bdy f71)]
 | .h3 .. => nav 300 11 [true, false, true] [.code (bdy f71)]
def Zi_regionsOf : Si_regionsOf → St
 | .h1 kind0 t1 t2 b3 l4 l5 l6 => ⟨sts 80 [(1, I kind0), (2, .ptr 0 12 0 0), (5, .ref 1 1 none), (6, .ref 2 1 none), (19, .ref 3 1 none), (20, I t1), (21, I t2)], [some ⟨false, true, 12, 1, [gi_Board b3]⟩, some ⟨false, false, 1, l4.length, List.map (ow 1 I) l4⟩, some ⟨false, false, 1, l5.length, List.map D.bool l5⟩, some ⟨false, false, 1, l6.length, List.map I l6⟩]⟩
 | .h2 kind0 vat1 t2 t3 b4 l5 l6 l7 l8 => ⟨sts 80 [(1, I kind0), (2, .ptr 0 12 0 0), (5, .ref 1 1 none), (6, .ref 2 1 none), (9, .ref 3 1 none), (10, I vat1), (19, .ref 4 1 none), (20, I t2), (21, I t3)], [some ⟨false, true, 12, 1, [gi_Board b4]⟩, some ⟨false, false, 1, l5.length, List.map (ow 1 I) l5⟩, some ⟨false, false, 1, l6.length, List.map D.bool l6⟩, some ⟨false, false, 1, l7.length, List.map I l7⟩, some ⟨false, false, 1, l8.length, List.map I l8⟩]⟩
 | .h3 kind0 vat1 t2 t3 t4 t5 b6 l7 l8 l9 l10 l11 => ⟨sts 80 [(1, I kind0), (2, .ptr 0 12 0 0), (5, .ref 1 1 none), (6, .ref 2 1 none), (9, .ref 3 1 none), (10, I vat1), (19, .ref 4 1 none), (20, I t2), (21, I t3), (46, .ref 5 1 none), (47, I t4), (48, I t5)], [some ⟨false, true, 12, 1, [gi_Board b6]⟩, some ⟨false, false, 1, l7.length, List.map (ow 1 I) l7⟩, some ⟨false, false, 1, l8.length, List.map D.bool l8⟩, some ⟨false, false, 1, l9.length, List.map I l9⟩, some ⟨false, false, 1, l10.length, List.map I l10⟩, some ⟨false, false, 1, l11.length, List.map I l11⟩]⟩
abbrev Qi_regionsOf := Nx X 71 0 Ki_regionsOf Zi_regionsOf Ri_regionsOf (fun _ => [])
theorem ni_regionsOf : ∀ s o, Bi_regionsOf s = some o → Qi_regionsOf (Ki_regionsOf s) (Zi_regionsOf s) o
 | .h1 kind0 t1 t2 b3 l4 l5 l6, o, H =>
  eIf H (fun h1 H =>
  eCk H fun h2 H =>
  eBind H fun x3 hx3 H =>
  eCk H fun h4 H =>
  eBind H fun x5 hx5 H =>
  gN [rg [hT 0], rg [hE 1 (I x3)]] (by kernel_rfl) (P2 ((decide (t2 < t1)) = true) (decide_eq_true h1)<|P1 h2<|P1 (int_lt_of_at h2 hx3)<|P1 (at_map I hx3)<|P0) <|
  eIf H (fun h6 H =>
  eN H fun r hn => gO [rg [{ i := 3, el := some (D.bool x5), dec := some true }], r0, .canon [0, 1, 2, 3] [1, 2, 5, 6, 19, 20, 21]] (by kernel_rfl) (P1 h4<|P1 (int_lt_of_at h4 hx5)<|P1 (at_map D.bool hx5)<|P2 (x5 = true) (h6)<|P0) hn)
  (fun h6 H =>
  eCk H fun h7 H =>
  eBind H fun x8 hx8 H =>
  eN H fun r hn => gO [rg [{ i := 3, el := some (D.bool x5), dec := some false }], rg [hA 3 ((List.set l5 (Int.toNat x3) true).length) (List.map D.bool (List.set l5 (Int.toNat x3) true))], r0, r0, .canon [0, 1, 2, 4, 3] [1, 2, 5, 6, 9, 10, 19, 20, 21]] (by kernel_rfl) (P1 h4<|P1 (int_lt_of_at h4 hx5)<|P1 (at_map D.bool hx5)<|P2 (x5 = false) (eqF h6)<|P1 h7<|P1 (int_lt_of_at h7 hx8)<|P1 (lt_of_at hx8)<|P2 (setCells (List.map D.bool l5) (Int.toNat x3) 0 [.bool true] = List.map D.bool (List.set l5 (Int.toNat x3) true)) (setCells_map hx8 rfl)<|P1 (setLen l5 (Int.toNat x3) true)<|P0) hn))
  (fun h1 H =>
  eN H<|gE func71 [rg [hF 0], r0] (by kernel_rfl) (P2 ((decide (t2 < t1)) = false) (decide_eq_false h1)<|P0))
 | .h2 kind0 vat1 t2 t3 b4 l5 l6 l7 l8, o, H =>
  eIf H (fun h1 H =>
  eCk H fun h2 H =>
  eBind H fun x3 hx3 H =>
  eBind H fun r4 hr4 H =>
  eN H fun r hn => gO [rg [hT 3], rg [hE 5 (I x3), hC 6 true [] (Ri_neighboursOn r4) []], .canon [0, 1, 2, 3, 4, 5] [1, 2, 5, 6, 9, 10, 19, 20, 21, 46, 47, 48]] (by kernel_rfl) (P2 ((decide (vat1 < ((l7.length : Nat) : Int))) = true) (decide_eq_true h1)<|P1 h2<|P1 (int_lt_of_at h2 hx3)<|P1 (at_map I hx3)<|P1 (ci_neighboursOn hr4)<|P0) hn)
  (fun h1 H =>
  eBind H fun r2 hr2 H =>
  eCk H fun h3 H =>
  eCk H fun h4 H =>
  eN H fun r hn => gO [rg [hF 3], rg [hC 1 true [3] (Rslices_Sort_int r2) (Nslices_Sort_int r2)], rg [{ i := 2, post := [.put 5 0 0 3 (List.map (ow 1 I) [r2]), .own 5 1] }, hA 3 ((l5 ++ [r2]).length) (List.map (ow 1 I) (l5 ++ [r2]))], r0, .canon [0, 6, 2, 4] [1, 2, 5, 6, 19, 20, 21]] (by kernel_rfl) (P2 ((decide (vat1 < ((l7.length : Nat) : Int))) = false) (decide_eq_false h1)<|P1 h3<|P1 (cslices_Sort_int hr2)<|P2 (getCells [.ref 3 1 none] 0 0 1 = some [.ref 3 1 none]) rfl<|P2 (setCells [.ref 3 1 none] 0 0 [ow 1 I r2] = List.map (ow 1 I) [r2]) rfl<|P1 (allOw_26 [r2])<|P2 ((1 : Nat) = 1) rfl<|P1 (apL l5 [r2])<|P1 (apB h4)<|P1 (apM (ow 1 I) l5 [r2])<|P0) hn)
 | .h3 kind0 vat1 t2 t3 t4 t5 b6 l7 l8 l9 l10 l11, o, H =>
  eIf H (fun h1 H =>
  eCk H fun h2 H =>
  eBind H fun x3 hx3 H =>
  eCk H fun h4 H =>
  eBind H fun x5 hx5 H =>
  gN [rg [hT 0], rg [hE 1 (I x3)]] (by kernel_rfl) (P2 ((decide (t5 < t4)) = true) (decide_eq_true h1)<|P1 h2<|P1 (int_lt_of_at h2 hx3)<|P1 (at_map I hx3)<|P0) <|
  eIf H (fun h6 H =>
  eN H fun r hn => gO [rg [{ i := 3, el := some (D.bool x5), dec := some true }], r0, .canon [0, 1, 2, 3, 4, 5] [1, 2, 5, 6, 9, 10, 19, 20, 21, 46, 47, 48]] (by kernel_rfl) (P1 h4<|P1 (int_lt_of_at h4 hx5)<|P1 (at_map D.bool hx5)<|P2 (x5 = true) (h6)<|P0) hn)
  (fun h6 H =>
  eBind H fun r7 hr7 H =>
  eIf H (fun h8 H =>
  eN H fun r hn => gO [rg [{ i := 3, el := some (D.bool x5), dec := some false }, hC 9 true [] (RI r7) [], hF 10], r0, .canon [0, 1, 2, 3, 4, 5] [1, 2, 5, 6, 9, 10, 19, 20, 21, 46, 47, 48]] (by kernel_rfl) (P1 h4<|P1 (int_lt_of_at h4 hx5)<|P1 (at_map D.bool hx5)<|P2 (x5 = false) (eqF h6)<|P1 (ci_enterCost hr7)<|P2 (((r7 : Int) != 0) = false) (bneF h8)<|P0) hn)
  (fun h8 H =>
  eCk H fun h9 H =>
  eBind H fun x10 hx10 H =>
  eCk H fun h11 H =>
  eN H fun r hn => gO [rg [{ i := 3, el := some (D.bool x5), dec := some false }, hC 9 true [] (RI r7) [], hT 10], rg [hA 3 ((List.set l8 (Int.toNat x3) true).length) (List.map D.bool (List.set l8 (Int.toNat x3) true))], rg [hA 3 ((l9 ++ [x3]).length) (List.map I (l9 ++ [x3]))], r0, .canon [0, 1, 2, 7, 4, 5] [1, 2, 5, 6, 9, 10, 19, 20, 21, 46, 47, 48]] (by kernel_rfl) (P1 h4<|P1 (int_lt_of_at h4 hx5)<|P1 (at_map D.bool hx5)<|P2 (x5 = false) (eqF h6)<|P1 (ci_enterCost hr7)<|P2 (((r7 : Int) != 0) = true) (bneT h8)<|P1 h9<|P1 (int_lt_of_at h9 hx10)<|P1 (lt_of_at hx10)<|P2 (setCells (List.map D.bool l8) (Int.toNat x3) 0 [.bool true] = List.map D.bool (List.set l8 (Int.toNat x3) true)) (setCells_map hx10 rfl)<|P1 (setLen l8 (Int.toNat x3) true)<|P1 (apL l9 [x3])<|P1 (apB h11)<|P1 (apM I l9 [x3])<|P0) hn)))
  (fun h1 H =>
  eN H fun r hn => gO [rg [hF 0], r0, .canon [0, 1, 2, 3, 4] [1, 2, 5, 6, 9, 10, 19, 20, 21]] (by kernel_rfl) (P2 ((decide (t5 < t4)) = false) (decide_eq_false h1)<|P0) hn)
theorem wi_regionsOf : ∀ s r, loop Bi_regionsOf s = some r → Wc X 71 0 (Ki_regionsOf s) (Zi_regionsOf s) (Ri_regionsOf r) ((fun _ => []) r) := Nx.all (ni_regionsOf)
theorem ci_regionsOf {a0 : Gi_Board} {a1 : Int} {r : (List (List Int))} (H : Di_regionsOf a0 a1 = some r) : Ct X.P X.gl 71 [gi_Board a0, I a1] [] (Ri_regionsOf r) [] :=
  have H := (Di_regionsOf.eq_1 ..).symm.trans H
  Ct.of func71 (c := bdy f71) (by kernel_rfl) (by kernel_rfl) <|
  eBind H fun r1 hr1 H =>
  eCk H fun h2 H =>
  eCk H fun h3 H =>
  eBind H fun r4 hr4 H =>
  gO [r0, rg [hC 2 true [] (RI r1) [], hA 3 ((List.replicate (Int.toNat r1) false).length) (List.map D.bool (List.replicate (Int.toNat r1) false))], rg [hC 2 true [] (Ri_openHexes r4) []], .canon [0, 1, 2, 3] [1, 2, 5, 6, 19, 20, 21]] (by kernel_rfl) (P1 (ci_sizeOf hr1)<|PI r1<|P2 ((0 : Int) ≤ r1) h2<|P2 (Int.toNat r1 * 1 ≤ 140737488355328) h3<|P1 (repLen (Int.toNat r1) false)<|P1 (repMap D.bool (Int.toNat r1) false)<|P1 (ci_openHexes hr4)<|P0) (wi_regionsOf _ _ H)
noncomputable def Kslices_Index_int : Sslices_Index_int → List Item
 | .h1 .. => nav 300 2 [] [.code (bdy f128)]
def Zslices_Index_int : Sslices_Index_int → St
 | .h1 s0 v1 t2 t3 => ⟨sts 19 [(0, sl 1 I s0), (1, I v1), (7, I t2), (8, I t3)], []⟩
abbrev Qslices_Index_int := Nx X 128 0 Kslices_Index_int Zslices_Index_int RI (fun _ => [])
theorem nslices_Index_int : ∀ s o, Bslices_Index_int s = some o → Qslices_Index_int (Kslices_Index_int s) (Zslices_Index_int s) o
 | .h1 s0 v1 t2 t3, o, H =>
  eIf H (fun h1 H =>
  eCk H fun h2 H =>
  eBind H fun x3 hx3 H =>
  gN [rg [hT 0], r0] (by kernel_rfl) (P2 ((decide (t3 < t2)) = true) (decide_eq_true h1)<|P0) <|
  eIf H (fun h4 H =>
  eN H<|gE func128 [rg [hE 4 (I x3), hT 5], r0] (by kernel_rfl) (P1 h2<|P1 (int_lt_of_at h2 hx3)<|P1 (at_map I hx3)<|P2 (((v1 : Int) == x3) = true) (beqT h4)<|P0))
  (fun h4 H =>
  eN H fun r hn => gO [rg [hE 4 (I x3), hF 5], r0, .canon [] [0, 1, 7, 8]] (by kernel_rfl) (P1 h2<|P1 (int_lt_of_at h2 hx3)<|P1 (at_map I hx3)<|P2 (((v1 : Int) == x3) = false) (beqF h4)<|P0) hn))
  (fun h1 H =>
  eN H<|gE func128 [rg [hF 0], r0] (by kernel_rfl) (P2 ((decide (t3 < t2)) = false) (decide_eq_false h1)<|P0))
theorem wslices_Index_int : ∀ s r, loop Bslices_Index_int s = some r → Wc X 128 0 (Kslices_Index_int s) (Zslices_Index_int s) (RI r) ((fun _ => []) r) := Nx.all (nslices_Index_int)
theorem cslices_Index_int {a0 : (List Int)} {a1 : Int} {r : Int} (H : Dslices_Index_int a0 a1 = some r) : Ct X.P X.gl 128 [sl 1 I a0, I a1] [] (RI r) [] :=
  Ct.of func128 (c := bdy f128) (by kernel_rfl) (by kernel_rfl) <|
  gO [r0, r0, .canon [] [0, 1, 7, 8]] (by kernel_rfl) P0 (wslices_Index_int _ _ H)
theorem cslices_Contains_int {a0 : (List Int)} {a1 : Int} {r : Bool} (H : Dslices_Contains_int a0 a1 = some r) : Ct X.P X.gl 72 [sl 1 I a0, I a1] [] (RB r) [] :=
  Ct.of func72 (c := bdy f72) (by kernel_rfl) (by kernel_rfl) <|
  eBind H fun r1 hr1 H =>
  eW RB (fun _ => []) H<|gE func72 [r0, rg [hC 2 true [] (RI r1) []]] (by kernel_rfl) (P1 (cslices_Index_int hr1)<|P0)
def Ri_SameRegion (r : Bool × Bool) : List D := [.bool r.1, .bool r.2]
noncomputable def Ki_SameRegion : Si_SameRegion → List Item
 | .h1 .. => nav 300 3 [false] [.code (bdy f35)]
 | .h2 .. => nav 300 7 [false, true, false] [.code (bdy f35)]
def Zi_SameRegion : Si_SameRegion → St
 | .h1 i0 k1 t2 t3 l4 => ⟨sts 45 [(2, I i0), (3, I k1), (32, .ref 0 1 none), (33, I t2), (34, I t3)], [some ⟨false, false, 1, l4.length, List.map (ow 1 I) l4⟩]⟩
 | .h2 i0 k1 t2 t3 l4 => ⟨sts 45 [(2, I i0), (3, I k1), (32, .ref 0 1 none), (33, I t2), (34, I t3)], [some ⟨true, false, 1, l4.length, List.map (sl 1 I) l4⟩]⟩
abbrev Qi_SameRegion := Nx X 35 0 Ki_SameRegion Zi_SameRegion Ri_SameRegion (fun _ => [])
theorem ni_SameRegion : ∀ s o, Bi_SameRegion s = some o → Qi_SameRegion (Ki_SameRegion s) (Zi_SameRegion s) o
 | .h1 i0 k1 t2 t3 l4, o, H =>
  eIf H (fun h1 H =>
  eCk H fun h2 H =>
  eBind H fun x3 hx3 H =>
  eBind H fun r4 hr4 H =>
  gN [rg [hT 0], .frz 0, .er 0 (List.map (sl 1 I) l4), rg [hE 1 ((sl 1 I) x3)]] (by kernel_rfl) (P2 ((decide (t3 < t2)) = true) (decide_eq_true h1)<|P2 (erL (List.map (ow 1 I) l4) = erL (List.map (sl 1 I) l4)) (erL_map2 ero_26 l4)<|P1 h2<|P1 (int_lt_of_at h2 hx3)<|P1 (at_map (sl 1 I) hx3)<|P0) <|
  eIf H (fun h5 H =>
  eBind H fun r6 hr6 H =>
  eN H<|gE func35 [rg [{ i := 2, call := some { cl := true, auto := true, ins := [], res := (RB r4), G' := [] }, dec := some true }], rg [hC 2 true [] (RB r6) []]] (by kernel_rfl) (P1 (cslices_Contains_int hr4)<|P2 (r4 = true) (h5)<|P1 (cslices_Contains_int hr6)<|P0))
  (fun h5 H =>
  eN H fun r hn => gO [rg [{ i := 2, call := some { cl := true, auto := true, ins := [], res := (RB r4), G' := [] }, dec := some false }], r0, .canon [0] [2, 3, 32, 33, 34]] (by kernel_rfl) (P1 (cslices_Contains_int hr4)<|P2 (r4 = false) (eqF h5)<|P0) hn))
  (fun h1 H =>
  eN H<|gE func35 [rg [hF 0], r0] (by kernel_rfl) (P2 ((decide (t3 < t2)) = false) (decide_eq_false h1)<|P0))
 | .h2 i0 k1 t2 t3 l4, o, H =>
  eIf H (fun h1 H =>
  eCk H fun h2 H =>
  eBind H fun x3 hx3 H =>
  eBind H fun r4 hr4 H =>
  gN [rg [hT 0], rg [hE 1 ((sl 1 I) x3)]] (by kernel_rfl) (P2 ((decide (t3 < t2)) = true) (decide_eq_true h1)<|P1 h2<|P1 (int_lt_of_at h2 hx3)<|P1 (at_map (sl 1 I) hx3)<|P0) <|
  eIf H (fun h5 H =>
  eBind H fun r6 hr6 H =>
  eN H<|gE func35 [rg [{ i := 2, call := some { cl := true, auto := true, ins := [], res := (RB r4), G' := [] }, dec := some true }], rg [hC 2 true [] (RB r6) []]] (by kernel_rfl) (P1 (cslices_Contains_int hr4)<|P2 (r4 = true) (h5)<|P1 (cslices_Contains_int hr6)<|P0))
  (fun h5 H =>
  eN H fun r hn => gO [rg [{ i := 2, call := some { cl := true, auto := true, ins := [], res := (RB r4), G' := [] }, dec := some false }], r0, .canon [0] [2, 3, 32, 33, 34]] (by kernel_rfl) (P1 (cslices_Contains_int hr4)<|P2 (r4 = false) (eqF h5)<|P0) hn))
  (fun h1 H =>
  eN H<|gE func35 [rg [hF 0], r0] (by kernel_rfl) (P2 ((decide (t3 < t2)) = false) (decide_eq_false h1)<|P0))
theorem wi_SameRegion : ∀ s r, loop Bi_SameRegion s = some r → Wc X 35 0 (Ki_SameRegion s) (Zi_SameRegion s) (Ri_SameRegion r) ((fun _ => []) r) := Nx.all (ni_SameRegion)
theorem ci_SameRegion {a0 : Gi_Board} {a1 : Int} {a2 : Int} {a3 : Int} {r : Bool × Bool} (H : Di_SameRegion a0 a1 a2 a3 = some r) : Ct X.P X.gl 35 [gi_Board a0, I a1, I a2, I a3] [] (Ri_SameRegion r) [] :=
  Ct.of func35 (c := bdy f35) (by kernel_rfl) (by kernel_rfl) <|
  eBind H fun r1 hr1 H =>
  gS [r0] (by kernel_rfl) P0 <|
  eIf H (fun h2 H =>
  eBind H fun r3 hr3 H =>
  eBind H fun r4 hr4 H =>
  eIf H (fun h5 H =>
  eBind H fun r6 hr6 H =>
  eBind H fun r7 hr7 H =>
  eIf H (fun h8 H =>
  eBind H fun r9 hr9 H =>
  gO [rg [{ i := 2, call := some { cl := true, auto := true, ins := [], res := (RB r1), G' := [] }, dec := some true }, hC 7 true [] (RI r3) [], { i := 8, call := some { cl := true, auto := true, ins := [], res := (RB r4), G' := [] }, dec := some true }, hC 14 true [] (RI r6) [], { i := 15, call := some { cl := true, auto := true, ins := [], res := (RB r7), G' := [] }, dec := some true }], rg [hC 2 true [] (Ri_regionsOf r9) []], .canon [1] [2, 3, 32, 33, 34]] (by kernel_rfl) (P1 (ci_isKindOf hr1)<|P2 (r1 = true) (h2)<|P1 (ci_sizeOf hr3)<|P1 (ci_isIndex hr4)<|P2 (r4 = true) (h5)<|P1 (ci_sizeOf hr6)<|P1 (ci_isIndex hr7)<|P2 (r7 = true) (h8)<|P1 (ci_regionsOf hr9)<|P0) (wi_SameRegion _ _ H))
  (fun h8 H =>
  eW Ri_SameRegion (fun _ => []) H<|gE func35 [rg [{ i := 2, call := some { cl := true, auto := true, ins := [], res := (RB r1), G' := [] }, dec := some true }, hC 7 true [] (RI r3) [], { i := 8, call := some { cl := true, auto := true, ins := [], res := (RB r4), G' := [] }, dec := some true }, hC 14 true [] (RI r6) [], { i := 15, call := some { cl := true, auto := true, ins := [], res := (RB r7), G' := [] }, dec := some false }], r0] (by kernel_rfl) (P1 (ci_isKindOf hr1)<|P2 (r1 = true) (h2)<|P1 (ci_sizeOf hr3)<|P1 (ci_isIndex hr4)<|P2 (r4 = true) (h5)<|P1 (ci_sizeOf hr6)<|P1 (ci_isIndex hr7)<|P2 (r7 = false) (eqF h8)<|P0)))
  (fun h5 H =>
  eW Ri_SameRegion (fun _ => []) H<|gE func35 [rg [{ i := 2, call := some { cl := true, auto := true, ins := [], res := (RB r1), G' := [] }, dec := some true }, hC 7 true [] (RI r3) [], { i := 8, call := some { cl := true, auto := true, ins := [], res := (RB r4), G' := [] }, dec := some false }], r0] (by kernel_rfl) (P1 (ci_isKindOf hr1)<|P2 (r1 = true) (h2)<|P1 (ci_sizeOf hr3)<|P1 (ci_isIndex hr4)<|P2 (r4 = false) (eqF h5)<|P0)))
  (fun h2 H =>
  eW Ri_SameRegion (fun _ => []) H<|gE func35 [rg [{ i := 2, call := some { cl := true, auto := true, ins := [], res := (RB r1), G' := [] }, dec := some false }], r0] (by kernel_rfl) (P1 (ci_isKindOf hr1)<|P2 (r1 = false) (eqF h2)<|P0))
def Ri_LostGoals (r : (List Int) × Bool) : List D := [ow 1 I r.1, .bool r.2]
noncomputable def Ki_LostGoals : Si_LostGoals → List Item
 | .h1 .. => nav 300 4 [false] [.code (bdy f8)]
 | .h2 .. => nav 300 8 [false, true] [.code (bdy f8)]
def Zi_LostGoals : Si_LostGoals → St
 | .h1 side0 t1 t2 t3 b4 l5 => ⟨sts 73 [(1, I side0), (2, .ptr 0 24 0 0), (6, .ref 1 1 none), (26, sl 2 gi_Goal t1), (27, I t2), (28, I t3)], [some ⟨false, true, 24, 1, [gi_Scenario b4]⟩, some ⟨false, false, 1, l5.length, List.map I l5⟩]⟩
 | .h2 side0 i1 lost2 t3 t4 t5 t6 t7 b8 l9 b10 l11 => ⟨sts 73 [(1, I side0), (2, .ptr 0 24 0 0), (6, .ref 1 1 none), (7, I i1), (8, .ptr 2 2 0 0), (9, .bool lost2), (26, sl 2 gi_Goal t3), (27, I t4), (28, I t5), (36, .ref 3 1 none), (37, I t6), (38, I t7)], [some ⟨false, true, 24, 1, [gi_Scenario b8]⟩, some ⟨false, false, 1, l9.length, List.map I l9⟩, some ⟨false, true, 2, 1, [gi_Goal b10]⟩, some ⟨false, false, 1, l11.length, List.map I l11⟩]⟩
abbrev Qi_LostGoals := Nx X 8 0 Ki_LostGoals Zi_LostGoals Ri_LostGoals (fun _ => [])
theorem ni_LostGoals : ∀ s o, Bi_LostGoals s = some o → Qi_LostGoals (Ki_LostGoals s) (Zi_LostGoals s) o
 | .h1 side0 t1 t2 t3 b4 l5, o, H =>
  eIf H (fun h1 H =>
  eCk H fun h2 H =>
  eBind H fun x3 hx3 H =>
  eBind H fun r4 hr4 H =>
  eN H fun r hn => gO [rg [hT 0], rg [hE 2 (gi_Goal x3)], r0, rg [hC 3 true [] (Ri_unitsOf r4) []], .canon [0, 1, 2, 3] [1, 2, 6, 7, 8, 9, 26, 27, 28, 36, 37, 38]] (by kernel_rfl) (P2 ((decide (t3 < t2)) = true) (decide_eq_true h1)<|P1 h2<|P1 (int_lt_of_at h2 hx3)<|P1 (at_map gi_Goal hx3)<|P1 (ci_unitsOf hr4)<|P0) hn)
  (fun h1 H =>
  eN H<|gE func8 [rg [hF 0], r0] (by kernel_rfl) (P2 ((decide (t3 < t2)) = false) (decide_eq_false h1)<|P0))
 | .h2 side0 i1 true t3 t4 t5 t6 t7 b8 l9 b10 l11, o, H =>
  eIf H (fun h1 H =>
  eCk H fun h2 H =>
  eBind H fun x3 hx3 H =>
  eCk H fun h4 H =>
  eBind H fun x5 hx5 H =>
  eBind H fun r6 hr6 H =>
  eN H fun r hn => gO [rg [hT 0], rg [hE 1 (I x3)], rg [hE 5 (gi_Unit x5)], rg [hC 8 true [] (Ri_SameRegion r6) []], r0, r0, .canon [0, 1, 2, 3] [1, 2, 6, 7, 8, 9, 26, 27, 28, 36, 37, 38]] (by kernel_rfl) (P2 ((decide (t7 < t6)) = true) (decide_eq_true h1)<|P1 h2<|P1 (int_lt_of_at h2 hx3)<|P1 (at_map I hx3)<|P1 h4<|P1 (int_lt_of_at h4 hx5)<|P1 (at_map gi_Unit hx5)<|P1 (ci_SameRegion hr6)<|P0) hn)
  (fun h1 H =>
  eCk H fun h2 H =>
  eN H fun r hn => gO [rg [hF 0], r0, rg [hA 3 ((l9 ++ [i1]).length) (List.map I (l9 ++ [i1]))], r0, .canon [0, 5] [1, 2, 6, 26, 27, 28]] (by kernel_rfl) (P2 ((decide (t7 < t6)) = false) (decide_eq_false h1)<|P1 (apL l9 [i1])<|P1 (apB h2)<|P1 (apM I l9 [i1])<|P0) hn)
 | .h2 side0 i1 false t3 t4 t5 t6 t7 b8 l9 b10 l11, o, H =>
  eIf H (fun h1 H =>
  eCk H fun h2 H =>
  eBind H fun x3 hx3 H =>
  eCk H fun h4 H =>
  eBind H fun x5 hx5 H =>
  eBind H fun r6 hr6 H =>
  eN H fun r hn => gO [rg [hT 0], rg [hE 1 (I x3)], rg [hE 5 (gi_Unit x5)], rg [hC 8 true [] (Ri_SameRegion r6) []], r0, r0, .canon [0, 1, 2, 3] [1, 2, 6, 7, 8, 9, 26, 27, 28, 36, 37, 38]] (by kernel_rfl) (P2 ((decide (t7 < t6)) = true) (decide_eq_true h1)<|P1 h2<|P1 (int_lt_of_at h2 hx3)<|P1 (at_map I hx3)<|P1 h4<|P1 (int_lt_of_at h4 hx5)<|P1 (at_map gi_Unit hx5)<|P1 (ci_SameRegion hr6)<|P0) hn)
  (fun h1 H =>
  eN H fun r hn => gO [rg [hF 0], r0, r0, .canon [0, 1] [1, 2, 6, 26, 27, 28]] (by kernel_rfl) (P2 ((decide (t7 < t6)) = false) (decide_eq_false h1)<|P0) hn)
theorem wi_LostGoals : ∀ s r, loop Bi_LostGoals s = some r → Wc X 8 0 (Ki_LostGoals s) (Zi_LostGoals s) (Ri_LostGoals r) ((fun _ => []) r) := Nx.all (ni_LostGoals)
theorem ci_LostGoals {a0 : Gi_Scenario} {a1 : Int} {r : (List Int) × Bool} (H : Di_LostGoals a0 a1 = some r) : Ct X.P X.gl 8 [gi_Scenario a0, I a1] [] (Ri_LostGoals r) [] :=
  Ct.of func8 (c := bdy f8) (by kernel_rfl) (by kernel_rfl) <|
  eBind H fun r1 hr1 H =>
  gS [r0] (by kernel_rfl) P0 <|
  eIf H (fun h2 H =>
  eBind H fun r3 hr3 H =>
  eIf H (fun h4 H =>
  gO [rg [{ i := 1, call := some { cl := true, auto := true, ins := [], res := (RB r1), G' := [] }, dec := some true }, { i := 5, call := some { cl := true, auto := true, ins := [], res := (RB r3), G' := [] }, dec := some true }], r0, r0, .canon [0, 1] [1, 2, 6, 26, 27, 28]] (by kernel_rfl) (P1 (ci_IsScenario hr1)<|P2 (r1 = true) (h2)<|P1 (ci_isSide hr3)<|P2 (r3 = true) (h4)<|P0) (wi_LostGoals _ _ H))
  (fun h4 H =>
  eW Ri_LostGoals (fun _ => []) H<|gE func8 [rg [{ i := 1, call := some { cl := true, auto := true, ins := [], res := (RB r1), G' := [] }, dec := some true }, { i := 5, call := some { cl := true, auto := true, ins := [], res := (RB r3), G' := [] }, dec := some false }], r0] (by kernel_rfl) (P1 (ci_IsScenario hr1)<|P2 (r1 = true) (h2)<|P1 (ci_isSide hr3)<|P2 (r3 = false) (eqF h4)<|P0)))
  (fun h2 H =>
  eW Ri_LostGoals (fun _ => []) H<|gE func8 [rg [{ i := 1, call := some { cl := true, auto := true, ins := [], res := (RB r1), G' := [] }, dec := some false }], r0] (by kernel_rfl) (P1 (ci_IsScenario hr1)<|P2 (r1 = false) (eqF h2)<|P0))
noncomputable def Kw_eqIntS : Sw_eqIntS → List Item
 | .h1 .. => nav 300 3 [false] [.code (bdy f9)]
def Zw_eqIntS : Sw_eqIntS → St
 | .h1 va0 b1 i2 => ⟨sts 26 [(0, sl 1 I va0), (1, sl 1 I b1), (5, I i2)], []⟩
abbrev Qw_eqIntS := Nx X 9 0 Kw_eqIntS Zw_eqIntS RB (fun _ => [])
theorem nw_eqIntS : ∀ s o, Bw_eqIntS s = some o → Qw_eqIntS (Kw_eqIntS s) (Zw_eqIntS s) o
 | .h1 va0 b1 i2, o, H =>
  eIf H (fun h1 H =>
  eCk H fun h2 H =>
  eBind H fun x3 hx3 H =>
  eCk H fun h4 H =>
  eBind H fun x5 hx5 H =>
  gN [rg [hT 3]] (by kernel_rfl) (P2 ((decide (i2 < ((va0.length : Nat) : Int))) = true) (decide_eq_true h1)<|P0) <|
  eIf H (fun h6 H =>
  eN H fun r hn => gO [rg [hE 3 (I x3), hE 7 (I x5), hF 8], r0, .canon [] [0, 1, 5]] (by kernel_rfl) (P1 h2<|P1 (int_lt_of_at h2 hx3)<|P1 (at_map I hx3)<|P1 h4<|P1 (int_lt_of_at h4 hx5)<|P1 (at_map I hx5)<|P2 (((x3 : Int) != x5) = false) (bneF h6)<|P0) hn)
  (fun h6 H =>
  eN H<|gE func9 [rg [hE 3 (I x3), hE 7 (I x5), hT 8], r0] (by kernel_rfl) (P1 h2<|P1 (int_lt_of_at h2 hx3)<|P1 (at_map I hx3)<|P1 h4<|P1 (int_lt_of_at h4 hx5)<|P1 (at_map I hx5)<|P2 (((x3 : Int) != x5) = true) (bneT h6)<|P0)))
  (fun h1 H =>
  eN H<|gE func9 [rg [hF 3], r0] (by kernel_rfl) (P2 ((decide (i2 < ((va0.length : Nat) : Int))) = false) (decide_eq_false h1)<|P0))
theorem ww_eqIntS : ∀ s r, loop Bw_eqIntS s = some r → Wc X 9 0 (Kw_eqIntS s) (Zw_eqIntS s) (RB r) ((fun _ => []) r) := Nx.all (nw_eqIntS)
theorem cw_eqIntS {a0 : (List Int)} {a1 : (List Int)} {r : Bool} (H : Dw_eqIntS a0 a1 = some r) : Ct X.P X.gl 9 [sl 1 I a0, sl 1 I a1] [] (RB r) [] :=
  Ct.of func9 (c := bdy f9) (by kernel_rfl) (by kernel_rfl) <|
  gS [r0] (by kernel_rfl) P0 <|
  eIf H (fun h1 H =>
  gO [rg [hF 4], r0, .canon [] [0, 1, 5]] (by kernel_rfl) (P2 (((((a0.length : Nat) : Int) : Int) != ((a1.length : Nat) : Int)) = false) (bneF h1)<|P0) (ww_eqIntS _ _ H))
  (fun h1 H =>
  eW RB (fun _ => []) H<|gE func9 [rg [hT 4], r0] (by kernel_rfl) (P2 (((((a0.length : Nat) : Int) : Int) != ((a1.length : Nat) : Int)) = true) (bneT h1)<|P0))
theorem cw_eqTerrain {a0 : Gi_Terrain} {a1 : Gi_Terrain} {r : Bool} (H : Dw_eqTerrain a0 a1 = some r) : Ct X.P X.gl 177 [gi_Terrain a0, gi_Terrain a1] [] (RB r) [] :=
  Ct.of func177 (c := bdy f177) (by kernel_rfl) (by kernel_rfl) <|
  gS [r0] (by kernel_rfl) P0 <|
  eIf H (fun h1 H =>
  eBind H fun r2 hr2 H =>
  gS [rg [hF 4]] (by kernel_rfl) (P2 ((!(a0.Name == a1.Name)) = false) (nbeqF h1)<|P0) <|
  eIf H (fun h3 H =>
  gS [rg [{ i := 4, call := some { cl := true, auto := true, ins := [], res := (RB r2), G' := [] }, dec := some true }]] (by kernel_rfl) (P1 (cw_eqIntS hr2)<|P2 (r2 = true) (h3)<|P0) <|
  eIf H (fun h4 H =>
  gS [rg [hF 4]] (by kernel_rfl) (P2 (((a0.Shift : Int) != a1.Shift) = false) (bneF h4)<|P0) <|
  eIf H (fun h5 H =>
  gS [rg [hF 4]] (by kernel_rfl) (P2 (((a0.Height : Int) != a1.Height) = false) (bneF h5)<|P0) <|
  eIf H (fun h6 H =>
  eW RB (fun _ => []) H<|gE func177 [rg [hT 4], r0] (by kernel_rfl) (P2 ((!(a0.Blocks == a1.Blocks)) = true) (h6)<|P0))
  (fun h6 H =>
  eW RB (fun _ => []) H<|gE func177 [rg [hF 4], r0] (by kernel_rfl) (P2 ((!(a0.Blocks == a1.Blocks)) = false) (eqF h6)<|P0)))
  (fun h5 H =>
  eW RB (fun _ => []) H<|gE func177 [rg [hT 4], r0] (by kernel_rfl) (P2 (((a0.Height : Int) != a1.Height) = true) (bneT h5)<|P0)))
  (fun h4 H =>
  eW RB (fun _ => []) H<|gE func177 [rg [hT 4], r0] (by kernel_rfl) (P2 (((a0.Shift : Int) != a1.Shift) = true) (bneT h4)<|P0)))
  (fun h3 H =>
  eW RB (fun _ => []) H<|gE func177 [rg [{ i := 4, call := some { cl := true, auto := true, ins := [], res := (RB r2), G' := [] }, dec := some false }], r0] (by kernel_rfl) (P1 (cw_eqIntS hr2)<|P2 (r2 = false) (eqF h3)<|P0)))
  (fun h1 H =>
  eW RB (fun _ => []) H<|gE func177 [rg [hT 4], r0] (by kernel_rfl) (P2 ((!(a0.Name == a1.Name)) = true) (nbeqT h1)<|P0))
noncomputable def Kw_eqTerrainS : Sw_eqTerrainS → List Item
 | .h1 .. => nav 300 3 [false] [.code (bdy f129)]
def Zw_eqTerrainS : Sw_eqTerrainS → St
 | .h1 va0 b1 i2 => ⟨sts 27 [(0, sl 5 gi_Terrain va0), (1, sl 5 gi_Terrain b1), (5, I i2)], []⟩
abbrev Qw_eqTerrainS := Nx X 129 0 Kw_eqTerrainS Zw_eqTerrainS RB (fun _ => [])
theorem nw_eqTerrainS : ∀ s o, Bw_eqTerrainS s = some o → Qw_eqTerrainS (Kw_eqTerrainS s) (Zw_eqTerrainS s) o
 | .h1 va0 b1 i2, o, H =>
  eIf H (fun h1 H =>
  eCk H fun h2 H =>
  eBind H fun x3 hx3 H =>
  eCk H fun h4 H =>
  eBind H fun x5 hx5 H =>
  eBind H fun r6 hr6 H =>
  gN [rg [hT 3]] (by kernel_rfl) (P2 ((decide (i2 < ((va0.length : Nat) : Int))) = true) (decide_eq_true h1)<|P0) <|
  eIf H (fun h7 H =>
  eN H fun r hn => gO [rg [hE 3 (gi_Terrain x3), hE 7 (gi_Terrain x5), { i := 8, call := some { cl := true, auto := true, ins := [], res := (RB r6), G' := [] }, dec := some true }], r0, .canon [] [0, 1, 5]] (by kernel_rfl) (P1 h2<|P1 (int_lt_of_at h2 hx3)<|P1 (at_map gi_Terrain hx3)<|P1 h4<|P1 (int_lt_of_at h4 hx5)<|P1 (at_map gi_Terrain hx5)<|P1 (cw_eqTerrain hr6)<|P2 (r6 = true) (h7)<|P0) hn)
  (fun h7 H =>
  eN H<|gE func129 [rg [hE 3 (gi_Terrain x3), hE 7 (gi_Terrain x5), { i := 8, call := some { cl := true, auto := true, ins := [], res := (RB r6), G' := [] }, dec := some false }], r0] (by kernel_rfl) (P1 h2<|P1 (int_lt_of_at h2 hx3)<|P1 (at_map gi_Terrain hx3)<|P1 h4<|P1 (int_lt_of_at h4 hx5)<|P1 (at_map gi_Terrain hx5)<|P1 (cw_eqTerrain hr6)<|P2 (r6 = false) (eqF h7)<|P0)))
  (fun h1 H =>
  eN H<|gE func129 [rg [hF 3], r0] (by kernel_rfl) (P2 ((decide (i2 < ((va0.length : Nat) : Int))) = false) (decide_eq_false h1)<|P0))
theorem ww_eqTerrainS : ∀ s r, loop Bw_eqTerrainS s = some r → Wc X 129 0 (Kw_eqTerrainS s) (Zw_eqTerrainS s) (RB r) ((fun _ => []) r) := Nx.all (nw_eqTerrainS)
theorem cw_eqTerrainS {a0 : (List Gi_Terrain)} {a1 : (List Gi_Terrain)} {r : Bool} (H : Dw_eqTerrainS a0 a1 = some r) : Ct X.P X.gl 129 [sl 5 gi_Terrain a0, sl 5 gi_Terrain a1] [] (RB r) [] :=
  Ct.of func129 (c := bdy f129) (by kernel_rfl) (by kernel_rfl) <|
  gS [r0] (by kernel_rfl) P0 <|
  eIf H (fun h1 H =>
  gO [rg [hF 4], r0, .canon [] [0, 1, 5]] (by kernel_rfl) (P2 (((((a0.length : Nat) : Int) : Int) != ((a1.length : Nat) : Int)) = false) (bneF h1)<|P0) (ww_eqTerrainS _ _ H))
  (fun h1 H =>
  eW RB (fun _ => []) H<|gE func129 [rg [hT 4], r0] (by kernel_rfl) (P2 (((((a0.length : Nat) : Int) : Int) != ((a1.length : Nat) : Int)) = true) (bneT h1)<|P0))
theorem cw_eqKind {a0 : Gi_Kind} {a1 : Gi_Kind} {r : Bool} (H : Dw_eqKind a0 a1 = some r) : Ct X.P X.gl 178 [gi_Kind a0, gi_Kind a1] [] (RB r) [] :=
  Ct.of func178 (c := bdy f178) (by kernel_rfl) (by kernel_rfl) <|
  gS [r0] (by kernel_rfl) P0 <|
  eIf H (fun h1 H =>
  gS [rg [hF 4]] (by kernel_rfl) (P2 ((!(a0.Name == a1.Name)) = false) (nbeqF h1)<|P0) <|
  eIf H (fun h2 H =>
  gS [rg [hF 4]] (by kernel_rfl) (P2 (((a0.Strength : Int) != a1.Strength) = false) (bneF h2)<|P0) <|
  eIf H (fun h3 H =>
  gS [rg [hF 4]] (by kernel_rfl) (P2 (((a0.Moves : Int) != a1.Moves) = false) (bneF h3)<|P0) <|
  eIf H (fun h4 H =>
  gS [rg [hF 4]] (by kernel_rfl) (P2 (((a0.Steps : Int) != a1.Steps) = false) (bneF h4)<|P0) <|
  eIf H (fun h5 H =>
  eW RB (fun _ => []) H<|gE func178 [rg [hT 4], r0] (by kernel_rfl) (P2 ((!(a0.Zone == a1.Zone)) = true) (h5)<|P0))
  (fun h5 H =>
  gS [rg [hF 4]] (by kernel_rfl) (P2 ((!(a0.Zone == a1.Zone)) = false) (eqF h5)<|P0) <|
  eIf H (fun h6 H =>
  eW RB (fun _ => []) H<|gE func178 [rg [hF 4], r0] (by kernel_rfl) (P2 (((a0.View : Int) != a1.View) = false) (bneF h6)<|P0))
  (fun h6 H =>
  eW RB (fun _ => []) H<|gE func178 [rg [hT 4], r0] (by kernel_rfl) (P2 (((a0.View : Int) != a1.View) = true) (bneT h6)<|P0))))
  (fun h4 H =>
  eW RB (fun _ => []) H<|gE func178 [rg [hT 4], r0] (by kernel_rfl) (P2 (((a0.Steps : Int) != a1.Steps) = true) (bneT h4)<|P0)))
  (fun h3 H =>
  eW RB (fun _ => []) H<|gE func178 [rg [hT 4], r0] (by kernel_rfl) (P2 (((a0.Moves : Int) != a1.Moves) = true) (bneT h3)<|P0)))
  (fun h2 H =>
  eW RB (fun _ => []) H<|gE func178 [rg [hT 4], r0] (by kernel_rfl) (P2 (((a0.Strength : Int) != a1.Strength) = true) (bneT h2)<|P0)))
  (fun h1 H =>
  eW RB (fun _ => []) H<|gE func178 [rg [hT 4], r0] (by kernel_rfl) (P2 ((!(a0.Name == a1.Name)) = true) (nbeqT h1)<|P0))
noncomputable def Kw_eqKindS : Sw_eqKindS → List Item
 | .h1 .. => nav 300 3 [false] [.code (bdy f130)]
def Zw_eqKindS : Sw_eqKindS → St
 | .h1 va0 b1 i2 => ⟨sts 27 [(0, sl 6 gi_Kind va0), (1, sl 6 gi_Kind b1), (5, I i2)], []⟩
abbrev Qw_eqKindS := Nx X 130 0 Kw_eqKindS Zw_eqKindS RB (fun _ => [])
theorem nw_eqKindS : ∀ s o, Bw_eqKindS s = some o → Qw_eqKindS (Kw_eqKindS s) (Zw_eqKindS s) o
 | .h1 va0 b1 i2, o, H =>
  eIf H (fun h1 H =>
  eCk H fun h2 H =>
  eBind H fun x3 hx3 H =>
  eCk H fun h4 H =>
  eBind H fun x5 hx5 H =>
  eBind H fun r6 hr6 H =>
  gN [rg [hT 3]] (by kernel_rfl) (P2 ((decide (i2 < ((va0.length : Nat) : Int))) = true) (decide_eq_true h1)<|P0) <|
  eIf H (fun h7 H =>
  eN H fun r hn => gO [rg [hE 3 (gi_Kind x3), hE 7 (gi_Kind x5), { i := 8, call := some { cl := true, auto := true, ins := [], res := (RB r6), G' := [] }, dec := some true }], r0, .canon [] [0, 1, 5]] (by kernel_rfl) (P1 h2<|P1 (int_lt_of_at h2 hx3)<|P1 (at_map gi_Kind hx3)<|P1 h4<|P1 (int_lt_of_at h4 hx5)<|P1 (at_map gi_Kind hx5)<|P1 (cw_eqKind hr6)<|P2 (r6 = true) (h7)<|P0) hn)
  (fun h7 H =>
  eN H<|gE func130 [rg [hE 3 (gi_Kind x3), hE 7 (gi_Kind x5), { i := 8, call := some { cl := true, auto := true, ins := [], res := (RB r6), G' := [] }, dec := some false }], r0] (by kernel_rfl) (P1 h2<|P1 (int_lt_of_at h2 hx3)<|P1 (at_map gi_Kind hx3)<|P1 h4<|P1 (int_lt_of_at h4 hx5)<|P1 (at_map gi_Kind hx5)<|P1 (cw_eqKind hr6)<|P2 (r6 = false) (eqF h7)<|P0)))
  (fun h1 H =>
  eN H<|gE func130 [rg [hF 3], r0] (by kernel_rfl) (P2 ((decide (i2 < ((va0.length : Nat) : Int))) = false) (decide_eq_false h1)<|P0))
theorem ww_eqKindS : ∀ s r, loop Bw_eqKindS s = some r → Wc X 130 0 (Kw_eqKindS s) (Zw_eqKindS s) (RB r) ((fun _ => []) r) := Nx.all (nw_eqKindS)
theorem cw_eqKindS {a0 : (List Gi_Kind)} {a1 : (List Gi_Kind)} {r : Bool} (H : Dw_eqKindS a0 a1 = some r) : Ct X.P X.gl 130 [sl 6 gi_Kind a0, sl 6 gi_Kind a1] [] (RB r) [] :=
  Ct.of func130 (c := bdy f130) (by kernel_rfl) (by kernel_rfl) <|
  gS [r0] (by kernel_rfl) P0 <|
  eIf H (fun h1 H =>
  gO [rg [hF 4], r0, .canon [] [0, 1, 5]] (by kernel_rfl) (P2 (((((a0.length : Nat) : Int) : Int) != ((a1.length : Nat) : Int)) = false) (bneF h1)<|P0) (ww_eqKindS _ _ H))
  (fun h1 H =>
  eW RB (fun _ => []) H<|gE func130 [rg [hT 4], r0] (by kernel_rfl) (P2 (((((a0.length : Nat) : Int) : Int) != ((a1.length : Nat) : Int)) = true) (bneT h1)<|P0))
theorem cw_eqRules {a0 : Gi_Rules} {a1 : Gi_Rules} {r : Bool} (H : Dw_eqRules a0 a1 = some r) : Ct X.P X.gl 73 [gi_Rules a0, gi_Rules a1] [] (RB r) [] :=
  Ct.of func73 (c := bdy f73) (by kernel_rfl) (by kernel_rfl) <|
  eBind H fun r1 hr1 H =>
  gS [r0] (by kernel_rfl) P0 <|
  eIf H (fun h2 H =>
  eBind H fun r3 hr3 H =>
  gS [rg [{ i := 4, call := some { cl := true, auto := true, ins := [], res := (RB r1), G' := [] }, dec := some true }]] (by kernel_rfl) (P1 (cw_eqTerrainS hr1)<|P2 (r1 = true) (h2)<|P0) <|
  eIf H (fun h4 H =>
  gS [rg [{ i := 4, call := some { cl := true, auto := true, ins := [], res := (RB r3), G' := [] }, dec := some true }]] (by kernel_rfl) (P1 (cw_eqKindS hr3)<|P2 (r3 = true) (h4)<|P0) <|
  eIf H (fun h5 H =>
  gS [rg [hF 4]] (by kernel_rfl) (P2 (((a0.Stack : Int) != a1.Stack) = false) (bneF h5)<|P0) <|
  eIf H (fun h6 H =>
  gS [rg [hF 4]] (by kernel_rfl) (P2 (((a0.River : Int) != a1.River) = false) (bneF h6)<|P0) <|
  eIf H (fun h7 H =>
  gS [rg [hF 4]] (by kernel_rfl) (P2 (((a0.Road : Int) != a1.Road) = false) (bneF h7)<|P0) <|
  eIf H (fun h8 H =>
  gS [rg [hF 4]] (by kernel_rfl) (P2 (((a0.Supply : Int) != a1.Supply) = false) (bneF h8)<|P0) <|
  eIf H (fun h9 H =>
  eW RB (fun _ => []) H<|gE func73 [rg [hF 4], r0] (by kernel_rfl) (P2 (((a0.Turns : Int) != a1.Turns) = false) (bneF h9)<|P0))
  (fun h9 H =>
  eW RB (fun _ => []) H<|gE func73 [rg [hT 4], r0] (by kernel_rfl) (P2 (((a0.Turns : Int) != a1.Turns) = true) (bneT h9)<|P0)))
  (fun h8 H =>
  eW RB (fun _ => []) H<|gE func73 [rg [hT 4], r0] (by kernel_rfl) (P2 (((a0.Supply : Int) != a1.Supply) = true) (bneT h8)<|P0)))
  (fun h7 H =>
  eW RB (fun _ => []) H<|gE func73 [rg [hT 4], r0] (by kernel_rfl) (P2 (((a0.Road : Int) != a1.Road) = true) (bneT h7)<|P0)))
  (fun h6 H =>
  eW RB (fun _ => []) H<|gE func73 [rg [hT 4], r0] (by kernel_rfl) (P2 (((a0.River : Int) != a1.River) = true) (bneT h6)<|P0)))
  (fun h5 H =>
  eW RB (fun _ => []) H<|gE func73 [rg [hT 4], r0] (by kernel_rfl) (P2 (((a0.Stack : Int) != a1.Stack) = true) (bneT h5)<|P0)))
  (fun h4 H =>
  eW RB (fun _ => []) H<|gE func73 [rg [{ i := 4, call := some { cl := true, auto := true, ins := [], res := (RB r3), G' := [] }, dec := some false }], r0] (by kernel_rfl) (P1 (cw_eqKindS hr3)<|P2 (r3 = false) (eqF h4)<|P0)))
  (fun h2 H =>
  eW RB (fun _ => []) H<|gE func73 [rg [{ i := 4, call := some { cl := true, auto := true, ins := [], res := (RB r1), G' := [] }, dec := some false }], r0] (by kernel_rfl) (P1 (cw_eqTerrainS hr1)<|P2 (r1 = false) (eqF h2)<|P0))
theorem cw_eqMap {a0 : Gi_Map} {a1 : Gi_Map} {r : Bool} (H : Dw_eqMap a0 a1 = some r) : Ct X.P X.gl 74 [gi_Map a0, gi_Map a1] [] (RB r) [] :=
  Ct.of func74 (c := bdy f74) (by kernel_rfl) (by kernel_rfl) <|
  gS [r0] (by kernel_rfl) P0 <|
  eIf H (fun h1 H =>
  gS [rg [hF 4]] (by kernel_rfl) (P2 (((a0.Width : Int) != a1.Width) = false) (bneF h1)<|P0) <|
  eIf H (fun h2 H =>
  eBind H fun r3 hr3 H =>
  gS [rg [hF 4]] (by kernel_rfl) (P2 (((a0.Height : Int) != a1.Height) = false) (bneF h2)<|P0) <|
  eIf H (fun h4 H =>
  eBind H fun r5 hr5 H =>
  gS [rg [{ i := 4, call := some { cl := true, auto := true, ins := [], res := (RB r3), G' := [] }, dec := some true }]] (by kernel_rfl) (P1 (cw_eqIntS hr3)<|P2 (r3 = true) (h4)<|P0) <|
  eIf H (fun h6 H =>
  eBind H fun r7 hr7 H =>
  gS [rg [{ i := 4, call := some { cl := true, auto := true, ins := [], res := (RB r5), G' := [] }, dec := some true }]] (by kernel_rfl) (P1 (cw_eqIntS hr5)<|P2 (r5 = true) (h6)<|P0) <|
  eIf H (fun h8 H =>
  eW RB (fun _ => []) H<|gE func74 [rg [{ i := 4, call := some { cl := true, auto := true, ins := [], res := (RB r7), G' := [] }, dec := some true }], r0] (by kernel_rfl) (P1 (cw_eqIntS hr7)<|P2 (r7 = true) (h8)<|P0))
  (fun h8 H =>
  eW RB (fun _ => []) H<|gE func74 [rg [{ i := 4, call := some { cl := true, auto := true, ins := [], res := (RB r7), G' := [] }, dec := some false }], r0] (by kernel_rfl) (P1 (cw_eqIntS hr7)<|P2 (r7 = false) (eqF h8)<|P0)))
  (fun h6 H =>
  eW RB (fun _ => []) H<|gE func74 [rg [{ i := 4, call := some { cl := true, auto := true, ins := [], res := (RB r5), G' := [] }, dec := some false }], r0] (by kernel_rfl) (P1 (cw_eqIntS hr5)<|P2 (r5 = false) (eqF h6)<|P0)))
  (fun h4 H =>
  eW RB (fun _ => []) H<|gE func74 [rg [{ i := 4, call := some { cl := true, auto := true, ins := [], res := (RB r3), G' := [] }, dec := some false }], r0] (by kernel_rfl) (P1 (cw_eqIntS hr3)<|P2 (r3 = false) (eqF h4)<|P0)))
  (fun h2 H =>
  eW RB (fun _ => []) H<|gE func74 [rg [hT 4], r0] (by kernel_rfl) (P2 (((a0.Height : Int) != a1.Height) = true) (bneT h2)<|P0)))
  (fun h1 H =>
  eW RB (fun _ => []) H<|gE func74 [rg [hT 4], r0] (by kernel_rfl) (P2 (((a0.Width : Int) != a1.Width) = true) (bneT h1)<|P0))
theorem cw_eqBoard {a0 : Gi_Board} {a1 : Gi_Board} {r : Bool} (H : Dw_eqBoard a0 a1 = some r) : Ct X.P X.gl 36 [gi_Board a0, gi_Board a1] [] (RB r) [] :=
  Ct.of func36 (c := bdy f36) (by kernel_rfl) (by kernel_rfl) <|
  eBind H fun r1 hr1 H =>
  gS [r0] (by kernel_rfl) P0 <|
  eIf H (fun h2 H =>
  eBind H fun r3 hr3 H =>
  gS [rg [{ i := 4, call := some { cl := true, auto := true, ins := [], res := (RB r1), G' := [] }, dec := some true }]] (by kernel_rfl) (P1 (cw_eqRules hr1)<|P2 (r1 = true) (h2)<|P0) <|
  eIf H (fun h4 H =>
  eW RB (fun _ => []) H<|gE func36 [rg [{ i := 4, call := some { cl := true, auto := true, ins := [], res := (RB r3), G' := [] }, dec := some true }], r0] (by kernel_rfl) (P1 (cw_eqMap hr3)<|P2 (r3 = true) (h4)<|P0))
  (fun h4 H =>
  eW RB (fun _ => []) H<|gE func36 [rg [{ i := 4, call := some { cl := true, auto := true, ins := [], res := (RB r3), G' := [] }, dec := some false }], r0] (by kernel_rfl) (P1 (cw_eqMap hr3)<|P2 (r3 = false) (eqF h4)<|P0)))
  (fun h2 H =>
  eW RB (fun _ => []) H<|gE func36 [rg [{ i := 4, call := some { cl := true, auto := true, ins := [], res := (RB r1), G' := [] }, dec := some false }], r0] (by kernel_rfl) (P1 (cw_eqRules hr1)<|P2 (r1 = false) (eqF h2)<|P0))
theorem cw_eqOdds {a0 : Gi_Odds} {a1 : Gi_Odds} {r : Bool} (H : Dw_eqOdds a0 a1 = some r) : Ct X.P X.gl 131 [gi_Odds a0, gi_Odds a1] [] (RB r) [] :=
  Ct.of func131 (c := bdy f131) (by kernel_rfl) (by kernel_rfl) <|
  gS [r0] (by kernel_rfl) P0 <|
  eIf H (fun h1 H =>
  gS [rg [hF 4]] (by kernel_rfl) (P2 (((a0.Num : Int) != a1.Num) = false) (bneF h1)<|P0) <|
  eIf H (fun h2 H =>
  eW RB (fun _ => []) H<|gE func131 [rg [hF 4], r0] (by kernel_rfl) (P2 (((a0.Den : Int) != a1.Den) = false) (bneF h2)<|P0))
  (fun h2 H =>
  eW RB (fun _ => []) H<|gE func131 [rg [hT 4], r0] (by kernel_rfl) (P2 (((a0.Den : Int) != a1.Den) = true) (bneT h2)<|P0)))
  (fun h1 H =>
  eW RB (fun _ => []) H<|gE func131 [rg [hT 4], r0] (by kernel_rfl) (P2 (((a0.Num : Int) != a1.Num) = true) (bneT h1)<|P0))
noncomputable def Kw_eqOddsS : Sw_eqOddsS → List Item
 | .h1 .. => nav 300 3 [false] [.code (bdy f75)]
def Zw_eqOddsS : Sw_eqOddsS → St
 | .h1 va0 b1 i2 => ⟨sts 27 [(0, sl 2 gi_Odds va0), (1, sl 2 gi_Odds b1), (5, I i2)], []⟩
abbrev Qw_eqOddsS := Nx X 75 0 Kw_eqOddsS Zw_eqOddsS RB (fun _ => [])
theorem nw_eqOddsS : ∀ s o, Bw_eqOddsS s = some o → Qw_eqOddsS (Kw_eqOddsS s) (Zw_eqOddsS s) o
 | .h1 va0 b1 i2, o, H =>
  eIf H (fun h1 H =>
  eCk H fun h2 H =>
  eBind H fun x3 hx3 H =>
  eCk H fun h4 H =>
  eBind H fun x5 hx5 H =>
  eBind H fun r6 hr6 H =>
  gN [rg [hT 3]] (by kernel_rfl) (P2 ((decide (i2 < ((va0.length : Nat) : Int))) = true) (decide_eq_true h1)<|P0) <|
  eIf H (fun h7 H =>
  eN H fun r hn => gO [rg [hE 3 (gi_Odds x3), hE 7 (gi_Odds x5), { i := 8, call := some { cl := true, auto := true, ins := [], res := (RB r6), G' := [] }, dec := some true }], r0, .canon [] [0, 1, 5]] (by kernel_rfl) (P1 h2<|P1 (int_lt_of_at h2 hx3)<|P1 (at_map gi_Odds hx3)<|P1 h4<|P1 (int_lt_of_at h4 hx5)<|P1 (at_map gi_Odds hx5)<|P1 (cw_eqOdds hr6)<|P2 (r6 = true) (h7)<|P0) hn)
  (fun h7 H =>
  eN H<|gE func75 [rg [hE 3 (gi_Odds x3), hE 7 (gi_Odds x5), { i := 8, call := some { cl := true, auto := true, ins := [], res := (RB r6), G' := [] }, dec := some false }], r0] (by kernel_rfl) (P1 h2<|P1 (int_lt_of_at h2 hx3)<|P1 (at_map gi_Odds hx3)<|P1 h4<|P1 (int_lt_of_at h4 hx5)<|P1 (at_map gi_Odds hx5)<|P1 (cw_eqOdds hr6)<|P2 (r6 = false) (eqF h7)<|P0)))
  (fun h1 H =>
  eN H<|gE func75 [rg [hF 3], r0] (by kernel_rfl) (P2 ((decide (i2 < ((va0.length : Nat) : Int))) = false) (decide_eq_false h1)<|P0))
theorem ww_eqOddsS : ∀ s r, loop Bw_eqOddsS s = some r → Wc X 75 0 (Kw_eqOddsS s) (Zw_eqOddsS s) (RB r) ((fun _ => []) r) := Nx.all (nw_eqOddsS)
theorem cw_eqOddsS {a0 : (List Gi_Odds)} {a1 : (List Gi_Odds)} {r : Bool} (H : Dw_eqOddsS a0 a1 = some r) : Ct X.P X.gl 75 [sl 2 gi_Odds a0, sl 2 gi_Odds a1] [] (RB r) [] :=
  Ct.of func75 (c := bdy f75) (by kernel_rfl) (by kernel_rfl) <|
  gS [r0] (by kernel_rfl) P0 <|
  eIf H (fun h1 H =>
  gO [rg [hF 4], r0, .canon [] [0, 1, 5]] (by kernel_rfl) (P2 (((((a0.length : Nat) : Int) : Int) != ((a1.length : Nat) : Int)) = false) (bneF h1)<|P0) (ww_eqOddsS _ _ H))
  (fun h1 H =>
  eW RB (fun _ => []) H<|gE func75 [rg [hT 4], r0] (by kernel_rfl) (P2 (((((a0.length : Nat) : Int) : Int) != ((a1.length : Nat) : Int)) = true) (bneT h1)<|P0))
noncomputable def Kw_eqIntSS : Sw_eqIntSS → List Item
 | .h1 .. => nav 300 3 [false] [.code (bdy f76)]
def Zw_eqIntSS : Sw_eqIntSS → St
 | .h1 va0 b1 i2 => ⟨sts 27 [(0, sl 1 (sl 1 I) va0), (1, sl 1 (sl 1 I) b1), (5, I i2)], []⟩
abbrev Qw_eqIntSS := Nx X 76 0 Kw_eqIntSS Zw_eqIntSS RB (fun _ => [])
theorem nw_eqIntSS : ∀ s o, Bw_eqIntSS s = some o → Qw_eqIntSS (Kw_eqIntSS s) (Zw_eqIntSS s) o
 | .h1 va0 b1 i2, o, H =>
  eIf H (fun h1 H =>
  eCk H fun h2 H =>
  eBind H fun x3 hx3 H =>
  eCk H fun h4 H =>
  eBind H fun x5 hx5 H =>
  eBind H fun r6 hr6 H =>
  gN [rg [hT 3]] (by kernel_rfl) (P2 ((decide (i2 < ((va0.length : Nat) : Int))) = true) (decide_eq_true h1)<|P0) <|
  eIf H (fun h7 H =>
  eN H fun r hn => gO [rg [hE 3 ((sl 1 I) x3), hE 7 ((sl 1 I) x5), { i := 8, call := some { cl := true, auto := true, ins := [], res := (RB r6), G' := [] }, dec := some true }], r0, .canon [] [0, 1, 5]] (by kernel_rfl) (P1 h2<|P1 (int_lt_of_at h2 hx3)<|P1 (at_map (sl 1 I) hx3)<|P1 h4<|P1 (int_lt_of_at h4 hx5)<|P1 (at_map (sl 1 I) hx5)<|P1 (cw_eqIntS hr6)<|P2 (r6 = true) (h7)<|P0) hn)
  (fun h7 H =>
  eN H<|gE func76 [rg [hE 3 ((sl 1 I) x3), hE 7 ((sl 1 I) x5), { i := 8, call := some { cl := true, auto := true, ins := [], res := (RB r6), G' := [] }, dec := some false }], r0] (by kernel_rfl) (P1 h2<|P1 (int_lt_of_at h2 hx3)<|P1 (at_map (sl 1 I) hx3)<|P1 h4<|P1 (int_lt_of_at h4 hx5)<|P1 (at_map (sl 1 I) hx5)<|P1 (cw_eqIntS hr6)<|P2 (r6 = false) (eqF h7)<|P0)))
  (fun h1 H =>
  eN H<|gE func76 [rg [hF 3], r0] (by kernel_rfl) (P2 ((decide (i2 < ((va0.length : Nat) : Int))) = false) (decide_eq_false h1)<|P0))
theorem ww_eqIntSS : ∀ s r, loop Bw_eqIntSS s = some r → Wc X 76 0 (Kw_eqIntSS s) (Zw_eqIntSS s) (RB r) ((fun _ => []) r) := Nx.all (nw_eqIntSS)
theorem cw_eqIntSS {a0 : (List (List Int))} {a1 : (List (List Int))} {r : Bool} (H : Dw_eqIntSS a0 a1 = some r) : Ct X.P X.gl 76 [sl 1 (sl 1 I) a0, sl 1 (sl 1 I) a1] [] (RB r) [] :=
  Ct.of func76 (c := bdy f76) (by kernel_rfl) (by kernel_rfl) <|
  gS [r0] (by kernel_rfl) P0 <|
  eIf H (fun h1 H =>
  gO [rg [hF 4], r0, .canon [] [0, 1, 5]] (by kernel_rfl) (P2 (((((a0.length : Nat) : Int) : Int) != ((a1.length : Nat) : Int)) = false) (bneF h1)<|P0) (ww_eqIntSS _ _ H))
  (fun h1 H =>
  eW RB (fun _ => []) H<|gE func76 [rg [hT 4], r0] (by kernel_rfl) (P2 (((((a0.length : Nat) : Int) : Int) != ((a1.length : Nat) : Int)) = true) (bneT h1)<|P0))
theorem cw_eqCombatTable {a0 : Gi_CombatTable} {a1 : Gi_CombatTable} {r : Bool} (H : Dw_eqCombatTable a0 a1 = some r) : Ct X.P X.gl 37 [gi_CombatTable a0, gi_CombatTable a1] [] (RB r) [] :=
  Ct.of func37 (c := bdy f37) (by kernel_rfl) (by kernel_rfl) <|
  eBind H fun r1 hr1 H =>
  gS [r0] (by kernel_rfl) P0 <|
  eIf H (fun h2 H =>
  gS [rg [{ i := 4, call := some { cl := true, auto := true, ins := [], res := (RB r1), G' := [] }, dec := some true }]] (by kernel_rfl) (P1 (cw_eqOddsS hr1)<|P2 (r1 = true) (h2)<|P0) <|
  eIf H (fun h3 H =>
  eBind H fun r4 hr4 H =>
  gS [rg [hF 4]] (by kernel_rfl) (P2 (((a0.Dice : Int) != a1.Dice) = false) (bneF h3)<|P0) <|
  eIf H (fun h5 H =>
  eW RB (fun _ => []) H<|gE func37 [rg [{ i := 4, call := some { cl := true, auto := true, ins := [], res := (RB r4), G' := [] }, dec := some true }], r0] (by kernel_rfl) (P1 (cw_eqIntSS hr4)<|P2 (r4 = true) (h5)<|P0))
  (fun h5 H =>
  eW RB (fun _ => []) H<|gE func37 [rg [{ i := 4, call := some { cl := true, auto := true, ins := [], res := (RB r4), G' := [] }, dec := some false }], r0] (by kernel_rfl) (P1 (cw_eqIntSS hr4)<|P2 (r4 = false) (eqF h5)<|P0)))
  (fun h3 H =>
  eW RB (fun _ => []) H<|gE func37 [rg [hT 4], r0] (by kernel_rfl) (P2 (((a0.Dice : Int) != a1.Dice) = true) (bneT h3)<|P0)))
  (fun h2 H =>
  eW RB (fun _ => []) H<|gE func37 [rg [{ i := 4, call := some { cl := true, auto := true, ins := [], res := (RB r1), G' := [] }, dec := some false }], r0] (by kernel_rfl) (P1 (cw_eqOddsS hr1)<|P2 (r1 = false) (eqF h2)<|P0))
theorem cw_eqUnit {a0 : Gi_Unit} {a1 : Gi_Unit} {r : Bool} (H : Dw_eqUnit a0 a1 = some r) : Ct X.P X.gl 132 [gi_Unit a0, gi_Unit a1] [] (RB r) [] :=
  Ct.of func132 (c := bdy f132) (by kernel_rfl) (by kernel_rfl) <|
  gS [r0] (by kernel_rfl) P0 <|
  eIf H (fun h1 H =>
  gS [rg [hF 4]] (by kernel_rfl) (P2 (((a0.Side : Int) != a1.Side) = false) (bneF h1)<|P0) <|
  eIf H (fun h2 H =>
  gS [rg [hF 4]] (by kernel_rfl) (P2 (((a0.Kind : Int) != a1.Kind) = false) (bneF h2)<|P0) <|
  eIf H (fun h3 H =>
  gS [rg [hF 4]] (by kernel_rfl) (P2 (((a0.At : Int) != a1.At) = false) (bneF h3)<|P0) <|
  eIf H (fun h4 H =>
  eW RB (fun _ => []) H<|gE func132 [rg [hF 4], r0] (by kernel_rfl) (P2 (((a0.Steps : Int) != a1.Steps) = false) (bneF h4)<|P0))
  (fun h4 H =>
  eW RB (fun _ => []) H<|gE func132 [rg [hT 4], r0] (by kernel_rfl) (P2 (((a0.Steps : Int) != a1.Steps) = true) (bneT h4)<|P0)))
  (fun h3 H =>
  eW RB (fun _ => []) H<|gE func132 [rg [hT 4], r0] (by kernel_rfl) (P2 (((a0.At : Int) != a1.At) = true) (bneT h3)<|P0)))
  (fun h2 H =>
  eW RB (fun _ => []) H<|gE func132 [rg [hT 4], r0] (by kernel_rfl) (P2 (((a0.Kind : Int) != a1.Kind) = true) (bneT h2)<|P0)))
  (fun h1 H =>
  eW RB (fun _ => []) H<|gE func132 [rg [hT 4], r0] (by kernel_rfl) (P2 (((a0.Side : Int) != a1.Side) = true) (bneT h1)<|P0))
noncomputable def Kw_eqUnitS : Sw_eqUnitS → List Item
 | .h1 .. => nav 300 3 [false] [.code (bdy f77)]
def Zw_eqUnitS : Sw_eqUnitS → St
 | .h1 va0 b1 i2 => ⟨sts 27 [(0, sl 4 gi_Unit va0), (1, sl 4 gi_Unit b1), (5, I i2)], []⟩
abbrev Qw_eqUnitS := Nx X 77 0 Kw_eqUnitS Zw_eqUnitS RB (fun _ => [])
theorem nw_eqUnitS : ∀ s o, Bw_eqUnitS s = some o → Qw_eqUnitS (Kw_eqUnitS s) (Zw_eqUnitS s) o
 | .h1 va0 b1 i2, o, H =>
  eIf H (fun h1 H =>
  eCk H fun h2 H =>
  eBind H fun x3 hx3 H =>
  eCk H fun h4 H =>
  eBind H fun x5 hx5 H =>
  eBind H fun r6 hr6 H =>
  gN [rg [hT 3]] (by kernel_rfl) (P2 ((decide (i2 < ((va0.length : Nat) : Int))) = true) (decide_eq_true h1)<|P0) <|
  eIf H (fun h7 H =>
  eN H fun r hn => gO [rg [hE 3 (gi_Unit x3), hE 7 (gi_Unit x5), { i := 8, call := some { cl := true, auto := true, ins := [], res := (RB r6), G' := [] }, dec := some true }], r0, .canon [] [0, 1, 5]] (by kernel_rfl) (P1 h2<|P1 (int_lt_of_at h2 hx3)<|P1 (at_map gi_Unit hx3)<|P1 h4<|P1 (int_lt_of_at h4 hx5)<|P1 (at_map gi_Unit hx5)<|P1 (cw_eqUnit hr6)<|P2 (r6 = true) (h7)<|P0) hn)
  (fun h7 H =>
  eN H<|gE func77 [rg [hE 3 (gi_Unit x3), hE 7 (gi_Unit x5), { i := 8, call := some { cl := true, auto := true, ins := [], res := (RB r6), G' := [] }, dec := some false }], r0] (by kernel_rfl) (P1 h2<|P1 (int_lt_of_at h2 hx3)<|P1 (at_map gi_Unit hx3)<|P1 h4<|P1 (int_lt_of_at h4 hx5)<|P1 (at_map gi_Unit hx5)<|P1 (cw_eqUnit hr6)<|P2 (r6 = false) (eqF h7)<|P0)))
  (fun h1 H =>
  eN H<|gE func77 [rg [hF 3], r0] (by kernel_rfl) (P2 ((decide (i2 < ((va0.length : Nat) : Int))) = false) (decide_eq_false h1)<|P0))
theorem ww_eqUnitS : ∀ s r, loop Bw_eqUnitS s = some r → Wc X 77 0 (Kw_eqUnitS s) (Zw_eqUnitS s) (RB r) ((fun _ => []) r) := Nx.all (nw_eqUnitS)
theorem cw_eqUnitS {a0 : (List Gi_Unit)} {a1 : (List Gi_Unit)} {r : Bool} (H : Dw_eqUnitS a0 a1 = some r) : Ct X.P X.gl 77 [sl 4 gi_Unit a0, sl 4 gi_Unit a1] [] (RB r) [] :=
  Ct.of func77 (c := bdy f77) (by kernel_rfl) (by kernel_rfl) <|
  gS [r0] (by kernel_rfl) P0 <|
  eIf H (fun h1 H =>
  gO [rg [hF 4], r0, .canon [] [0, 1, 5]] (by kernel_rfl) (P2 (((((a0.length : Nat) : Int) : Int) != ((a1.length : Nat) : Int)) = false) (bneF h1)<|P0) (ww_eqUnitS _ _ H))
  (fun h1 H =>
  eW RB (fun _ => []) H<|gE func77 [rg [hT 4], r0] (by kernel_rfl) (P2 (((((a0.length : Nat) : Int) : Int) != ((a1.length : Nat) : Int)) = true) (bneT h1)<|P0))
theorem cw_eqState {a0 : Gi_State} {a1 : Gi_State} {r : Bool} (H : Dw_eqState a0 a1 = some r) : Ct X.P X.gl 38 [gi_State a0, gi_State a1] [] (RB r) [] :=
  Ct.of func38 (c := bdy f38) (by kernel_rfl) (by kernel_rfl) <|
  gS [r0] (by kernel_rfl) P0 <|
  eIf H (fun h1 H =>
  gS [rg [hF 4]] (by kernel_rfl) (P2 (((a0.Turn : Int) != a1.Turn) = false) (bneF h1)<|P0) <|
  eIf H (fun h2 H =>
  eBind H fun r3 hr3 H =>
  gS [rg [hF 4]] (by kernel_rfl) (P2 (((a0.Weather : Int) != a1.Weather) = false) (bneF h2)<|P0) <|
  eIf H (fun h4 H =>
  eW RB (fun _ => []) H<|gE func38 [rg [{ i := 4, call := some { cl := true, auto := true, ins := [], res := (RB r3), G' := [] }, dec := some true }], r0] (by kernel_rfl) (P1 (cw_eqUnitS hr3)<|P2 (r3 = true) (h4)<|P0))
  (fun h4 H =>
  eW RB (fun _ => []) H<|gE func38 [rg [{ i := 4, call := some { cl := true, auto := true, ins := [], res := (RB r3), G' := [] }, dec := some false }], r0] (by kernel_rfl) (P1 (cw_eqUnitS hr3)<|P2 (r3 = false) (eqF h4)<|P0)))
  (fun h2 H =>
  eW RB (fun _ => []) H<|gE func38 [rg [hT 4], r0] (by kernel_rfl) (P2 (((a0.Weather : Int) != a1.Weather) = true) (bneT h2)<|P0)))
  (fun h1 H =>
  eW RB (fun _ => []) H<|gE func38 [rg [hT 4], r0] (by kernel_rfl) (P2 (((a0.Turn : Int) != a1.Turn) = true) (bneT h1)<|P0))
theorem cw_eqGoal {a0 : Gi_Goal} {a1 : Gi_Goal} {r : Bool} (H : Dw_eqGoal a0 a1 = some r) : Ct X.P X.gl 133 [gi_Goal a0, gi_Goal a1] [] (RB r) [] :=
  Ct.of func133 (c := bdy f133) (by kernel_rfl) (by kernel_rfl) <|
  gS [r0] (by kernel_rfl) P0 <|
  eIf H (fun h1 H =>
  gS [rg [hF 4]] (by kernel_rfl) (P2 (((a0.At : Int) != a1.At) = false) (bneF h1)<|P0) <|
  eIf H (fun h2 H =>
  eW RB (fun _ => []) H<|gE func133 [rg [hF 4], r0] (by kernel_rfl) (P2 (((a0.Points : Int) != a1.Points) = false) (bneF h2)<|P0))
  (fun h2 H =>
  eW RB (fun _ => []) H<|gE func133 [rg [hT 4], r0] (by kernel_rfl) (P2 (((a0.Points : Int) != a1.Points) = true) (bneT h2)<|P0)))
  (fun h1 H =>
  eW RB (fun _ => []) H<|gE func133 [rg [hT 4], r0] (by kernel_rfl) (P2 (((a0.At : Int) != a1.At) = true) (bneT h1)<|P0))
noncomputable def Kw_eqGoalS : Sw_eqGoalS → List Item
 | .h1 .. => nav 300 3 [false] [.code (bdy f78)]
def Zw_eqGoalS : Sw_eqGoalS → St
 | .h1 va0 b1 i2 => ⟨sts 27 [(0, sl 2 gi_Goal va0), (1, sl 2 gi_Goal b1), (5, I i2)], []⟩
abbrev Qw_eqGoalS := Nx X 78 0 Kw_eqGoalS Zw_eqGoalS RB (fun _ => [])
theorem nw_eqGoalS : ∀ s o, Bw_eqGoalS s = some o → Qw_eqGoalS (Kw_eqGoalS s) (Zw_eqGoalS s) o
 | .h1 va0 b1 i2, o, H =>
  eIf H (fun h1 H =>
  eCk H fun h2 H =>
  eBind H fun x3 hx3 H =>
  eCk H fun h4 H =>
  eBind H fun x5 hx5 H =>
  eBind H fun r6 hr6 H =>
  gN [rg [hT 3]] (by kernel_rfl) (P2 ((decide (i2 < ((va0.length : Nat) : Int))) = true) (decide_eq_true h1)<|P0) <|
  eIf H (fun h7 H =>
  eN H fun r hn => gO [rg [hE 3 (gi_Goal x3), hE 7 (gi_Goal x5), { i := 8, call := some { cl := true, auto := true, ins := [], res := (RB r6), G' := [] }, dec := some true }], r0, .canon [] [0, 1, 5]] (by kernel_rfl) (P1 h2<|P1 (int_lt_of_at h2 hx3)<|P1 (at_map gi_Goal hx3)<|P1 h4<|P1 (int_lt_of_at h4 hx5)<|P1 (at_map gi_Goal hx5)<|P1 (cw_eqGoal hr6)<|P2 (r6 = true) (h7)<|P0) hn)
  (fun h7 H =>
  eN H<|gE func78 [rg [hE 3 (gi_Goal x3), hE 7 (gi_Goal x5), { i := 8, call := some { cl := true, auto := true, ins := [], res := (RB r6), G' := [] }, dec := some false }], r0] (by kernel_rfl) (P1 h2<|P1 (int_lt_of_at h2 hx3)<|P1 (at_map gi_Goal hx3)<|P1 h4<|P1 (int_lt_of_at h4 hx5)<|P1 (at_map gi_Goal hx5)<|P1 (cw_eqGoal hr6)<|P2 (r6 = false) (eqF h7)<|P0)))
  (fun h1 H =>
  eN H<|gE func78 [rg [hF 3], r0] (by kernel_rfl) (P2 ((decide (i2 < ((va0.length : Nat) : Int))) = false) (decide_eq_false h1)<|P0))
theorem ww_eqGoalS : ∀ s r, loop Bw_eqGoalS s = some r → Wc X 78 0 (Kw_eqGoalS s) (Zw_eqGoalS s) (RB r) ((fun _ => []) r) := Nx.all (nw_eqGoalS)
theorem cw_eqGoalS {a0 : (List Gi_Goal)} {a1 : (List Gi_Goal)} {r : Bool} (H : Dw_eqGoalS a0 a1 = some r) : Ct X.P X.gl 78 [sl 2 gi_Goal a0, sl 2 gi_Goal a1] [] (RB r) [] :=
  Ct.of func78 (c := bdy f78) (by kernel_rfl) (by kernel_rfl) <|
  gS [r0] (by kernel_rfl) P0 <|
  eIf H (fun h1 H =>
  gO [rg [hF 4], r0, .canon [] [0, 1, 5]] (by kernel_rfl) (P2 (((((a0.length : Nat) : Int) : Int) != ((a1.length : Nat) : Int)) = false) (bneF h1)<|P0) (ww_eqGoalS _ _ H))
  (fun h1 H =>
  eW RB (fun _ => []) H<|gE func78 [rg [hT 4], r0] (by kernel_rfl) (P2 (((((a0.length : Nat) : Int) : Int) != ((a1.length : Nat) : Int)) = true) (bneT h1)<|P0))
theorem cw_eqConditions {a0 : Gi_Conditions} {a1 : Gi_Conditions} {r : Bool} (H : Dw_eqConditions a0 a1 = some r) : Ct X.P X.gl 39 [gi_Conditions a0, gi_Conditions a1] [] (RB r) [] :=
  Ct.of func39 (c := bdy f39) (by kernel_rfl) (by kernel_rfl) <|
  eBind H fun r1 hr1 H =>
  gS [r0] (by kernel_rfl) P0 <|
  eIf H (fun h2 H =>
  gS [rg [{ i := 4, call := some { cl := true, auto := true, ins := [], res := (RB r1), G' := [] }, dec := some true }]] (by kernel_rfl) (P1 (cw_eqGoalS hr1)<|P2 (r1 = true) (h2)<|P0) <|
  eIf H (fun h3 H =>
  gS [rg [hF 4]] (by kernel_rfl) (P2 (((a0.Step : Int) != a1.Step) = false) (bneF h3)<|P0) <|
  eIf H (fun h4 H =>
  eW RB (fun _ => []) H<|gE func39 [rg [hF 4], r0] (by kernel_rfl) (P2 (((a0.Margin : Int) != a1.Margin) = false) (bneF h4)<|P0))
  (fun h4 H =>
  eW RB (fun _ => []) H<|gE func39 [rg [hT 4], r0] (by kernel_rfl) (P2 (((a0.Margin : Int) != a1.Margin) = true) (bneT h4)<|P0)))
  (fun h3 H =>
  eW RB (fun _ => []) H<|gE func39 [rg [hT 4], r0] (by kernel_rfl) (P2 (((a0.Step : Int) != a1.Step) = true) (bneT h3)<|P0)))
  (fun h2 H =>
  eW RB (fun _ => []) H<|gE func39 [rg [{ i := 4, call := some { cl := true, auto := true, ins := [], res := (RB r1), G' := [] }, dec := some false }], r0] (by kernel_rfl) (P1 (cw_eqGoalS hr1)<|P2 (r1 = false) (eqF h2)<|P0))
theorem cw_eqScenario {a0 : Gi_Scenario} {a1 : Gi_Scenario} {r : Bool} (H : Dw_eqScenario a0 a1 = some r) : Ct X.P X.gl 10 [gi_Scenario a0, gi_Scenario a1] [] (RB r) [] :=
  Ct.of func10 (c := bdy f10) (by kernel_rfl) (by kernel_rfl) <|
  gS [r0] (by kernel_rfl) P0 <|
  eIf H (fun h1 H =>
  eBind H fun r2 hr2 H =>
  gS [rg [hF 4]] (by kernel_rfl) (P2 ((!(a0.Name == a1.Name)) = false) (nbeqF h1)<|P0) <|
  eIf H (fun h3 H =>
  eBind H fun r4 hr4 H =>
  gS [rg [{ i := 4, call := some { cl := true, auto := true, ins := [], res := (RB r2), G' := [] }, dec := some true }]] (by kernel_rfl) (P1 (cw_eqBoard hr2)<|P2 (r2 = true) (h3)<|P0) <|
  eIf H (fun h5 H =>
  eBind H fun r6 hr6 H =>
  gS [rg [{ i := 4, call := some { cl := true, auto := true, ins := [], res := (RB r4), G' := [] }, dec := some true }]] (by kernel_rfl) (P1 (cw_eqCombatTable hr4)<|P2 (r4 = true) (h5)<|P0) <|
  eIf H (fun h7 H =>
  eBind H fun r8 hr8 H =>
  gS [rg [{ i := 4, call := some { cl := true, auto := true, ins := [], res := (RB r6), G' := [] }, dec := some true }]] (by kernel_rfl) (P1 (cw_eqState hr6)<|P2 (r6 = true) (h7)<|P0) <|
  eIf H (fun h9 H =>
  eBind H fun r10 hr10 H =>
  gS [rg [{ i := 4, call := some { cl := true, auto := true, ins := [], res := (RB r8), G' := [] }, dec := some true }]] (by kernel_rfl) (P1 (cw_eqConditions hr8)<|P2 (r8 = true) (h9)<|P0) <|
  eIf H (fun h11 H =>
  eBind H fun r12 hr12 H =>
  gS [rg [{ i := 4, call := some { cl := true, auto := true, ins := [], res := (RB r10), G' := [] }, dec := some true }]] (by kernel_rfl) (P1 (cw_eqIntS hr10)<|P2 (r10 = true) (h11)<|P0) <|
  eIf H (fun h13 H =>
  eW RB (fun _ => []) H<|gE func10 [rg [{ i := 4, call := some { cl := true, auto := true, ins := [], res := (RB r12), G' := [] }, dec := some true }], r0] (by kernel_rfl) (P1 (cw_eqIntS hr12)<|P2 (r12 = true) (h13)<|P0))
  (fun h13 H =>
  eW RB (fun _ => []) H<|gE func10 [rg [{ i := 4, call := some { cl := true, auto := true, ins := [], res := (RB r12), G' := [] }, dec := some false }], r0] (by kernel_rfl) (P1 (cw_eqIntS hr12)<|P2 (r12 = false) (eqF h13)<|P0)))
  (fun h11 H =>
  eW RB (fun _ => []) H<|gE func10 [rg [{ i := 4, call := some { cl := true, auto := true, ins := [], res := (RB r10), G' := [] }, dec := some false }], r0] (by kernel_rfl) (P1 (cw_eqIntS hr10)<|P2 (r10 = false) (eqF h11)<|P0)))
  (fun h9 H =>
  eW RB (fun _ => []) H<|gE func10 [rg [{ i := 4, call := some { cl := true, auto := true, ins := [], res := (RB r8), G' := [] }, dec := some false }], r0] (by kernel_rfl) (P1 (cw_eqConditions hr8)<|P2 (r8 = false) (eqF h9)<|P0)))
  (fun h7 H =>
  eW RB (fun _ => []) H<|gE func10 [rg [{ i := 4, call := some { cl := true, auto := true, ins := [], res := (RB r6), G' := [] }, dec := some false }], r0] (by kernel_rfl) (P1 (cw_eqState hr6)<|P2 (r6 = false) (eqF h7)<|P0)))
  (fun h5 H =>
  eW RB (fun _ => []) H<|gE func10 [rg [{ i := 4, call := some { cl := true, auto := true, ins := [], res := (RB r4), G' := [] }, dec := some false }], r0] (by kernel_rfl) (P1 (cw_eqCombatTable hr4)<|P2 (r4 = false) (eqF h5)<|P0)))
  (fun h3 H =>
  eW RB (fun _ => []) H<|gE func10 [rg [{ i := 4, call := some { cl := true, auto := true, ins := [], res := (RB r2), G' := [] }, dec := some false }], r0] (by kernel_rfl) (P1 (cw_eqBoard hr2)<|P2 (r2 = false) (eqF h3)<|P0)))
  (fun h1 H =>
  eW RB (fun _ => []) H<|gE func10 [rg [hT 4], r0] (by kernel_rfl) (P2 ((!(a0.Name == a1.Name)) = true) (nbeqT h1)<|P0))
def Rw_markText (r : ByteArray) : List D := [.str r]
noncomputable def Kw_markText : Sw_markText → List Item
 | .h1 .. => nav 300 3 [false] [.code (bdy f179)]
def Zw_markText : Sw_markText → St
 | .h1 k0 out1 => ⟨sts 20 [(0, I k0), (3, .str out1)], []⟩
abbrev Qw_markText := Nx X 179 0 Kw_markText Zw_markText Rw_markText (fun _ => [])
theorem nw_markText : ∀ s o, Bw_markText s = some o → Qw_markText (Kw_markText s) (Zw_markText s) o
 | .h1 k0 out1, o, H =>
  eIf H (fun h1 H =>
  eCk H fun h2 H =>
  eCk H fun h3 H =>
  eN H fun r hn => gO [rg [hT 1], rg [{ i := 5, s := (bytesOf [(IntKind.wrap .u8 (IntKind.wrap .i64 (48 + (Int.tmod k0 10))))]) }], r0, .canon [] [0, 3]] (by kernel_rfl) (P2 ((decide (k0 > 0)) = true) (decide_eq_true h1)<|P2 (¬ (10 : Int) = 0) (by decide)<|P1 (bytesD_of h2)<|P1 h3<|P2 (¬ (10 : Int) = 0) (by decide)<|P0) hn)
  (fun h1 H =>
  eCk H fun h2 H =>
  eN H<|gE func179 [rg [hF 1], r0] (by kernel_rfl) (P2 ((decide (k0 > 0)) = false) (decide_eq_false h1)<|P1 h2<|P0))
theorem ww_markText : ∀ s r, loop Bw_markText s = some r → Wc X 179 0 (Kw_markText s) (Zw_markText s) (Rw_markText r) ((fun _ => []) r) := Nx.all (nw_markText)
theorem cw_markText {a0 : Int} {r : ByteArray} (H : Dw_markText a0 = some r) : Ct X.P X.gl 179 [I a0] [] (Rw_markText r) [] :=
  Ct.of func179 (c := bdy f179) (by kernel_rfl) (by kernel_rfl) <|
  gS [r0] (by kernel_rfl) P0 <|
  eIf H (fun h1 H =>
  eW Rw_markText (fun _ => []) H<|gE func179 [rg [hT 1], r0] (by kernel_rfl) (P2 ((decide (a0 ≤ 0)) = true) (decide_eq_true h1)<|P0))
  (fun h1 H =>
  gO [rg [hF 1], r0, .canon [] [0, 3]] (by kernel_rfl) (P2 ((decide (a0 ≤ 0)) = false) (decide_eq_false h1)<|P0) (ww_markText _ _ H))
def Rw_markIntS (r : Int × (List Int)) : List D := [I r.1]
def Nw_markIntS (r : Int × (List Int)) : List Root := [⟨false, false, 1, r.2.length, List.map I r.2⟩]
noncomputable def Kw_markIntS : Sw_markIntS → List Item
 | .h1 .. => nav 300 2 [] [.code (bdy f12)]
def Zw_markIntS : Sw_markIntS → St
 | .h1 k0 i1 l2 => ⟨sts 19 [(0, .ref 0 1 none), (1, I k0), (5, I i1)], [some ⟨false, false, 1, l2.length, List.map I l2⟩]⟩
abbrev Qw_markIntS := Nx X 12 1 Kw_markIntS Zw_markIntS Rw_markIntS Nw_markIntS
theorem nw_markIntS : ∀ s o, Bw_markIntS s = some o → Qw_markIntS (Kw_markIntS s) (Zw_markIntS s) o
 | .h1 k0 i1 l2, o, H =>
  eIf H (fun h1 H =>
  eCk H fun h2 H =>
  eBind H fun x3 hx3 H =>
  eN H fun r hn => gO [rg [hT 3], rg [hA 4 ((List.set l2 (Int.toNat i1) k0).length) (List.map I (List.set l2 (Int.toNat i1) k0))], r0, r0, .canon [0] [0, 1, 5]] (by kernel_rfl) (P2 ((decide (i1 < ((l2.length : Nat) : Int))) = true) (decide_eq_true h1)<|P1 h2<|P1 (int_lt_of_at h2 hx3)<|P1 (lt_of_at hx3)<|P2 (setCells (List.map I l2) (Int.toNat i1) 0 [I k0] = List.map I (List.set l2 (Int.toNat i1) k0)) (setCells_map hx3 rfl)<|P1 (setLen l2 (Int.toNat i1) k0)<|P0) hn)
  (fun h1 H =>
  eN H<|gE func12 [rg [hF 3], r0] (by kernel_rfl) (P2 ((decide (i1 < ((l2.length : Nat) : Int))) = false) (decide_eq_false h1)<|P0))
theorem ww_markIntS : ∀ s r, loop Bw_markIntS s = some r → Wc X 12 1 (Kw_markIntS s) (Zw_markIntS s) (Rw_markIntS r) (Nw_markIntS r) := Nx.all (nw_markIntS)
theorem cw_markIntS {a0 : (List Int)} {a1 : Int} {r : Int × (List Int)} (H : Dw_markIntS a0 a1 = some r) : Ct X.P X.gl 12 [.ref 0 1 none, I a1] [⟨false, false, 1, a0.length, List.map I a0⟩] (Rw_markIntS r) (Nw_markIntS r) :=
  Ct.of func12 (c := bdy f12) (by kernel_rfl) (by kernel_rfl) <|
  gO [r0, r0, .canon [0] [0, 1, 5]] (by kernel_rfl) P0 (ww_markIntS _ _ H)
def Rw_markTerrainS (r : Int × (List Gi_Terrain)) : List D := [I r.1]
def Nw_markTerrainS (r : Int × (List Gi_Terrain)) : List Root := [⟨false, false, 5, r.2.length, List.map goi_Terrain r.2⟩]
noncomputable def Kw_markTerrainS : Sw_markTerrainS → List Item
 | .h1 .. => nav 300 2 [] [.code (bdy f134)]
def Zw_markTerrainS : Sw_markTerrainS → St
 | .h1 k0 i1 l2 => ⟨sts 51 [(0, .ref 0 5 none), (1, I k0), (5, I i1)], [some ⟨false, false, 5, l2.length, List.map goi_Terrain l2⟩]⟩
abbrev Qw_markTerrainS := Nx X 134 1 Kw_markTerrainS Zw_markTerrainS Rw_markTerrainS Nw_markTerrainS
theorem nw_markTerrainS : ∀ s o, Bw_markTerrainS s = some o → Qw_markTerrainS (Kw_markTerrainS s) (Zw_markTerrainS s) o
 | .h1 k0 i1 l2, o, H =>
  eIf H (fun h1 H =>
  eBind H fun r2 hr2 H =>
  eCk H fun h3 H =>
  eBind H fun x4 hx4 H =>
  eCk H fun h5 H =>
  eBind H fun x6 hx6 H =>
  eBind H fun r7 hr7 H =>
  eCk H fun h8 H =>
  eCk H fun h9 H =>
  eBind H fun x10 hx10 H =>
  eCk H fun h11 H =>
  eBind H fun x12 hx12 H =>
  eCk H fun h13 H =>
  eBind H fun x14 hx14 H =>
  eN H fun r hn => gO [rg [hT 3], rg [hC 3 true [] (Rw_markText r2) [], hA 6 ((List.set l2 (Int.toNat i1) (Gi_Terrain.mk r2 x4.Cost x4.Shift x4.Height x4.Blocks)).length) (List.map goi_Terrain (List.set l2 (Int.toNat i1) (Gi_Terrain.mk r2 x4.Cost x4.Shift x4.Height x4.Blocks)))], r0, rg [{ i := 4, pre := [.take 0 (Int.toNat i1) 1 1 x6.Cost.length (List.map I x6.Cost) (List.set (List.map goi_Terrain (List.set l2 (Int.toNat i1) (Gi_Terrain.mk r2 x4.Cost x4.Shift x4.Height x4.Blocks))) (Int.toNat i1) (.agg [.str x6.Name, .ref 1 1 none, I x6.Shift, I x6.Height, .bool x6.Blocks]))], el := some (.agg [.str x6.Name, .ref 1 1 none, I x6.Shift, I x6.Height, .bool x6.Blocks]) }, { i := 6, call := some { cl := true, auto := true, ins := [1], res := (Rw_markIntS r7), G' := (Nw_markIntS r7) }, post := [.put 0 (Int.toNat i1) 1 1 (List.map goi_Terrain (List.set (List.set l2 (Int.toNat i1) (Gi_Terrain.mk r2 x4.Cost x4.Shift x4.Height x4.Blocks)) (Int.toNat i1) (Gi_Terrain.mk x6.Name r7.2 x6.Shift x6.Height x6.Blocks))), .own 0 (List.set (List.set l2 (Int.toNat i1) (Gi_Terrain.mk r2 x4.Cost x4.Shift x4.Height x4.Blocks)) (Int.toNat i1) (Gi_Terrain.mk x6.Name r7.2 x6.Shift x6.Height x6.Blocks)).length], xtra := [0] }], rg [hA 5 ((List.set (List.set (List.set l2 (Int.toNat i1) (Gi_Terrain.mk r2 x4.Cost x4.Shift x4.Height x4.Blocks)) (Int.toNat i1) (Gi_Terrain.mk x6.Name r7.2 x6.Shift x6.Height x6.Blocks)) (Int.toNat i1) (Gi_Terrain.mk x10.Name x10.Cost r7.1 x10.Height x10.Blocks)).length) (List.map goi_Terrain (List.set (List.set (List.set l2 (Int.toNat i1) (Gi_Terrain.mk r2 x4.Cost x4.Shift x4.Height x4.Blocks)) (Int.toNat i1) (Gi_Terrain.mk x6.Name r7.2 x6.Shift x6.Height x6.Blocks)) (Int.toNat i1) (Gi_Terrain.mk x10.Name x10.Cost r7.1 x10.Height x10.Blocks)))], r0, rg [hA 5 ((List.set (List.set (List.set (List.set l2 (Int.toNat i1) (Gi_Terrain.mk r2 x4.Cost x4.Shift x4.Height x4.Blocks)) (Int.toNat i1) (Gi_Terrain.mk x6.Name r7.2 x6.Shift x6.Height x6.Blocks)) (Int.toNat i1) (Gi_Terrain.mk x10.Name x10.Cost r7.1 x10.Height x10.Blocks)) (Int.toNat i1) (Gi_Terrain.mk x12.Name x12.Cost x12.Shift (IntKind.wrap .i64 (r7.1 + 1)) x12.Blocks)).length) (List.map goi_Terrain (List.set (List.set (List.set (List.set l2 (Int.toNat i1) (Gi_Terrain.mk r2 x4.Cost x4.Shift x4.Height x4.Blocks)) (Int.toNat i1) (Gi_Terrain.mk x6.Name r7.2 x6.Shift x6.Height x6.Blocks)) (Int.toNat i1) (Gi_Terrain.mk x10.Name x10.Cost r7.1 x10.Height x10.Blocks)) (Int.toNat i1) (Gi_Terrain.mk x12.Name x12.Cost x12.Shift (IntKind.wrap .i64 (r7.1 + 1)) x12.Blocks)))], r0, rg [hA 7 ((List.set (List.set (List.set (List.set (List.set l2 (Int.toNat i1) (Gi_Terrain.mk r2 x4.Cost x4.Shift x4.Height x4.Blocks)) (Int.toNat i1) (Gi_Terrain.mk x6.Name r7.2 x6.Shift x6.Height x6.Blocks)) (Int.toNat i1) (Gi_Terrain.mk x10.Name x10.Cost r7.1 x10.Height x10.Blocks)) (Int.toNat i1) (Gi_Terrain.mk x12.Name x12.Cost x12.Shift (IntKind.wrap .i64 (r7.1 + 1)) x12.Blocks)) (Int.toNat i1) (Gi_Terrain.mk x14.Name x14.Cost x14.Shift x14.Height (((Int.tmod (IntKind.wrap .i64 ((IntKind.wrap .i64 (r7.1 + 1)) + 1)) 3) : Int) == 0))).length) (List.map goi_Terrain (List.set (List.set (List.set (List.set (List.set l2 (Int.toNat i1) (Gi_Terrain.mk r2 x4.Cost x4.Shift x4.Height x4.Blocks)) (Int.toNat i1) (Gi_Terrain.mk x6.Name r7.2 x6.Shift x6.Height x6.Blocks)) (Int.toNat i1) (Gi_Terrain.mk x10.Name x10.Cost r7.1 x10.Height x10.Blocks)) (Int.toNat i1) (Gi_Terrain.mk x12.Name x12.Cost x12.Shift (IntKind.wrap .i64 (r7.1 + 1)) x12.Blocks)) (Int.toNat i1) (Gi_Terrain.mk x14.Name x14.Cost x14.Shift x14.Height (((Int.tmod (IntKind.wrap .i64 ((IntKind.wrap .i64 (r7.1 + 1)) + 1)) 3) : Int) == 0))))], r0, r0, .canon [0] [0, 1, 5]] (by kernel_rfl) (P2 ((decide (i1 < ((l2.length : Nat) : Int))) = true) (decide_eq_true h1)<|P1 (cw_markText hr2)<|P1 h3<|P1 (int_lt_of_at h3 hx4)<|P1 (lt_of_at hx4)<|P2 (setCells (List.map goi_Terrain l2) (Int.toNat i1) 0 [.str r2] = List.map goi_Terrain (List.set l2 (Int.toNat i1) (Gi_Terrain.mk r2 x4.Cost x4.Shift x4.Height x4.Blocks))) (setCells_map hx4 rfl)<|P1 (setLen l2 (Int.toNat i1) (Gi_Terrain.mk r2 x4.Cost x4.Shift x4.Height x4.Blocks))<|P1 h5<|P1 (int_lt_of_at h5 hx6)<|P2 (getCells (List.map goi_Terrain (List.set l2 (Int.toNat i1) (Gi_Terrain.mk r2 x4.Cost x4.Shift x4.Height x4.Blocks))) (Int.toNat i1) 1 1 = some [ow 1 I x6.Cost]) (getCells_at hx6 rfl)<|P2 (setCells (List.map goi_Terrain (List.set l2 (Int.toNat i1) (Gi_Terrain.mk r2 x4.Cost x4.Shift x4.Height x4.Blocks))) (Int.toNat i1) 1 [.ref 1 1 none] = List.set (List.map goi_Terrain (List.set l2 (Int.toNat i1) (Gi_Terrain.mk r2 x4.Cost x4.Shift x4.Height x4.Blocks))) (Int.toNat i1) (.agg [.str x6.Name, .ref 1 1 none, I x6.Shift, I x6.Height, .bool x6.Blocks])) (setCells_mapD hx6 rfl)<|P1 (at_set (f := goi_Terrain) (.agg [.str x6.Name, .ref 1 1 none, I x6.Shift, I x6.Height, .bool x6.Blocks]) hx6)<|P1 h8<|P1 (cw_markIntS hr7)<|P2 (getCells (List.set (List.map goi_Terrain (List.set l2 (Int.toNat i1) (Gi_Terrain.mk r2 x4.Cost x4.Shift x4.Height x4.Blocks))) (Int.toNat i1) (.agg [.str x6.Name, .ref 1 1 none, I x6.Shift, I x6.Height, .bool x6.Blocks])) (Int.toNat i1) 1 1 = some [.ref 1 1 none]) (getCells_set hx6 rfl)<|P2 (setCells (List.set (List.map goi_Terrain (List.set l2 (Int.toNat i1) (Gi_Terrain.mk r2 x4.Cost x4.Shift x4.Height x4.Blocks))) (Int.toNat i1) (.agg [.str x6.Name, .ref 1 1 none, I x6.Shift, I x6.Height, .bool x6.Blocks])) (Int.toNat i1) 1 [ow 1 I r7.2] = List.map goi_Terrain (List.set (List.set l2 (Int.toNat i1) (Gi_Terrain.mk r2 x4.Cost x4.Shift x4.Height x4.Blocks)) (Int.toNat i1) (Gi_Terrain.mk x6.Name r7.2 x6.Shift x6.Height x6.Blocks))) (setCells_set hx6 rfl)<|P1 (allOw_152 (List.set (List.set l2 (Int.toNat i1) (Gi_Terrain.mk r2 x4.Cost x4.Shift x4.Height x4.Blocks)) (Int.toNat i1) (Gi_Terrain.mk x6.Name r7.2 x6.Shift x6.Height x6.Blocks)))<|P1 (setLen (List.set l2 (Int.toNat i1) (Gi_Terrain.mk r2 x4.Cost x4.Shift x4.Height x4.Blocks)) (Int.toNat i1) (Gi_Terrain.mk x6.Name r7.2 x6.Shift x6.Height x6.Blocks))<|P1 h9<|P1 (int_lt_of_at h9 hx10)<|P1 (lt_of_at hx10)<|P2 (setCells (List.map goi_Terrain (List.set (List.set l2 (Int.toNat i1) (Gi_Terrain.mk r2 x4.Cost x4.Shift x4.Height x4.Blocks)) (Int.toNat i1) (Gi_Terrain.mk x6.Name r7.2 x6.Shift x6.Height x6.Blocks))) (Int.toNat i1) 2 [I r7.1] = List.map goi_Terrain (List.set (List.set (List.set l2 (Int.toNat i1) (Gi_Terrain.mk r2 x4.Cost x4.Shift x4.Height x4.Blocks)) (Int.toNat i1) (Gi_Terrain.mk x6.Name r7.2 x6.Shift x6.Height x6.Blocks)) (Int.toNat i1) (Gi_Terrain.mk x10.Name x10.Cost r7.1 x10.Height x10.Blocks))) (setCells_map hx10 rfl)<|P1 (setLen (List.set (List.set l2 (Int.toNat i1) (Gi_Terrain.mk r2 x4.Cost x4.Shift x4.Height x4.Blocks)) (Int.toNat i1) (Gi_Terrain.mk x6.Name r7.2 x6.Shift x6.Height x6.Blocks)) (Int.toNat i1) (Gi_Terrain.mk x10.Name x10.Cost r7.1 x10.Height x10.Blocks))<|P1 h11<|P1 (int_lt_of_at h11 hx12)<|P1 (lt_of_at hx12)<|P2 (setCells (List.map goi_Terrain (List.set (List.set (List.set l2 (Int.toNat i1) (Gi_Terrain.mk r2 x4.Cost x4.Shift x4.Height x4.Blocks)) (Int.toNat i1) (Gi_Terrain.mk x6.Name r7.2 x6.Shift x6.Height x6.Blocks)) (Int.toNat i1) (Gi_Terrain.mk x10.Name x10.Cost r7.1 x10.Height x10.Blocks))) (Int.toNat i1) 3 [I (IntKind.wrap .i64 (r7.1 + 1))] = List.map goi_Terrain (List.set (List.set (List.set (List.set l2 (Int.toNat i1) (Gi_Terrain.mk r2 x4.Cost x4.Shift x4.Height x4.Blocks)) (Int.toNat i1) (Gi_Terrain.mk x6.Name r7.2 x6.Shift x6.Height x6.Blocks)) (Int.toNat i1) (Gi_Terrain.mk x10.Name x10.Cost r7.1 x10.Height x10.Blocks)) (Int.toNat i1) (Gi_Terrain.mk x12.Name x12.Cost x12.Shift (IntKind.wrap .i64 (r7.1 + 1)) x12.Blocks))) (setCells_map hx12 rfl)<|P1 (setLen (List.set (List.set (List.set l2 (Int.toNat i1) (Gi_Terrain.mk r2 x4.Cost x4.Shift x4.Height x4.Blocks)) (Int.toNat i1) (Gi_Terrain.mk x6.Name r7.2 x6.Shift x6.Height x6.Blocks)) (Int.toNat i1) (Gi_Terrain.mk x10.Name x10.Cost r7.1 x10.Height x10.Blocks)) (Int.toNat i1) (Gi_Terrain.mk x12.Name x12.Cost x12.Shift (IntKind.wrap .i64 (r7.1 + 1)) x12.Blocks))<|P2 (¬ (3 : Int) = 0) (by decide)<|P1 h13<|P1 (int_lt_of_at h13 hx14)<|P1 (lt_of_at hx14)<|P2 (setCells (List.map goi_Terrain (List.set (List.set (List.set (List.set l2 (Int.toNat i1) (Gi_Terrain.mk r2 x4.Cost x4.Shift x4.Height x4.Blocks)) (Int.toNat i1) (Gi_Terrain.mk x6.Name r7.2 x6.Shift x6.Height x6.Blocks)) (Int.toNat i1) (Gi_Terrain.mk x10.Name x10.Cost r7.1 x10.Height x10.Blocks)) (Int.toNat i1) (Gi_Terrain.mk x12.Name x12.Cost x12.Shift (IntKind.wrap .i64 (r7.1 + 1)) x12.Blocks))) (Int.toNat i1) 4 [.bool (((Int.tmod (IntKind.wrap .i64 ((IntKind.wrap .i64 (r7.1 + 1)) + 1)) 3) : Int) == 0)] = List.map goi_Terrain (List.set (List.set (List.set (List.set (List.set l2 (Int.toNat i1) (Gi_Terrain.mk r2 x4.Cost x4.Shift x4.Height x4.Blocks)) (Int.toNat i1) (Gi_Terrain.mk x6.Name r7.2 x6.Shift x6.Height x6.Blocks)) (Int.toNat i1) (Gi_Terrain.mk x10.Name x10.Cost r7.1 x10.Height x10.Blocks)) (Int.toNat i1) (Gi_Terrain.mk x12.Name x12.Cost x12.Shift (IntKind.wrap .i64 (r7.1 + 1)) x12.Blocks)) (Int.toNat i1) (Gi_Terrain.mk x14.Name x14.Cost x14.Shift x14.Height (((Int.tmod (IntKind.wrap .i64 ((IntKind.wrap .i64 (r7.1 + 1)) + 1)) 3) : Int) == 0)))) (setCells_map hx14 rfl)<|P1 (setLen (List.set (List.set (List.set (List.set l2 (Int.toNat i1) (Gi_Terrain.mk r2 x4.Cost x4.Shift x4.Height x4.Blocks)) (Int.toNat i1) (Gi_Terrain.mk x6.Name r7.2 x6.Shift x6.Height x6.Blocks)) (Int.toNat i1) (Gi_Terrain.mk x10.Name x10.Cost r7.1 x10.Height x10.Blocks)) (Int.toNat i1) (Gi_Terrain.mk x12.Name x12.Cost x12.Shift (IntKind.wrap .i64 (r7.1 + 1)) x12.Blocks)) (Int.toNat i1) (Gi_Terrain.mk x14.Name x14.Cost x14.Shift x14.Height (((Int.tmod (IntKind.wrap .i64 ((IntKind.wrap .i64 (r7.1 + 1)) + 1)) 3) : Int) == 0)))<|P0) hn)
  (fun h1 H =>
  eN H<|gE func134 [rg [hF 3], r0] (by kernel_rfl) (P2 ((decide (i1 < ((l2.length : Nat) : Int))) = false) (decide_eq_false h1)<|P0))
theorem ww_markTerrainS : ∀ s r, loop Bw_markTerrainS s = some r → Wc X 134 1 (Kw_markTerrainS s) (Zw_markTerrainS s) (Rw_markTerrainS r) (Nw_markTerrainS r) := Nx.all (nw_markTerrainS)
theorem cw_markTerrainS {a0 : (List Gi_Terrain)} {a1 : Int} {r : Int × (List Gi_Terrain)} (H : Dw_markTerrainS a0 a1 = some r) : Ct X.P X.gl 134 [.ref 0 5 none, I a1] [⟨false, false, 5, a0.length, List.map goi_Terrain a0⟩] (Rw_markTerrainS r) (Nw_markTerrainS r) :=
  Ct.of func134 (c := bdy f134) (by kernel_rfl) (by kernel_rfl) <|
  gO [r0, r0, .canon [0] [0, 1, 5]] (by kernel_rfl) P0 (ww_markTerrainS _ _ H)
def Rw_markKindS (r : Int × (List Gi_Kind)) : List D := [I r.1]
def Nw_markKindS (r : Int × (List Gi_Kind)) : List Root := [⟨false, false, 6, r.2.length, List.map gi_Kind r.2⟩]
noncomputable def Kw_markKindS : Sw_markKindS → List Item
 | .h1 .. => nav 300 2 [] [.code (bdy f135)]
def Zw_markKindS : Sw_markKindS → St
 | .h1 k0 i1 l2 => ⟨sts 58 [(0, .ref 0 6 none), (1, I k0), (5, I i1)], [some ⟨false, false, 6, l2.length, List.map gi_Kind l2⟩]⟩
abbrev Qw_markKindS := Nx X 135 1 Kw_markKindS Zw_markKindS Rw_markKindS Nw_markKindS
theorem nw_markKindS : ∀ s o, Bw_markKindS s = some o → Qw_markKindS (Kw_markKindS s) (Zw_markKindS s) o
 | .h1 k0 i1 l2, o, H =>
  eIf H (fun h1 H =>
  eBind H fun r2 hr2 H =>
  eCk H fun h3 H =>
  eBind H fun x4 hx4 H =>
  eCk H fun h5 H =>
  eBind H fun x6 hx6 H =>
  eCk H fun h7 H =>
  eBind H fun x8 hx8 H =>
  eCk H fun h9 H =>
  eBind H fun x10 hx10 H =>
  eCk H fun h11 H =>
  eBind H fun x12 hx12 H =>
  eCk H fun h13 H =>
  eBind H fun x14 hx14 H =>
  eN H fun r hn => gO [rg [hT 3], rg [hC 3 true [] (Rw_markText r2) [], hA 6 ((List.set l2 (Int.toNat i1) (Gi_Kind.mk r2 x4.Strength x4.Moves x4.Steps x4.Zone x4.View)).length) (List.map gi_Kind (List.set l2 (Int.toNat i1) (Gi_Kind.mk r2 x4.Strength x4.Moves x4.Steps x4.Zone x4.View)))], r0, rg [hA 5 ((List.set (List.set l2 (Int.toNat i1) (Gi_Kind.mk r2 x4.Strength x4.Moves x4.Steps x4.Zone x4.View)) (Int.toNat i1) (Gi_Kind.mk x6.Name (IntKind.wrap .i64 (k0 + 1)) x6.Moves x6.Steps x6.Zone x6.View)).length) (List.map gi_Kind (List.set (List.set l2 (Int.toNat i1) (Gi_Kind.mk r2 x4.Strength x4.Moves x4.Steps x4.Zone x4.View)) (Int.toNat i1) (Gi_Kind.mk x6.Name (IntKind.wrap .i64 (k0 + 1)) x6.Moves x6.Steps x6.Zone x6.View)))], r0, rg [hA 5 ((List.set (List.set (List.set l2 (Int.toNat i1) (Gi_Kind.mk r2 x4.Strength x4.Moves x4.Steps x4.Zone x4.View)) (Int.toNat i1) (Gi_Kind.mk x6.Name (IntKind.wrap .i64 (k0 + 1)) x6.Moves x6.Steps x6.Zone x6.View)) (Int.toNat i1) (Gi_Kind.mk x8.Name x8.Strength (IntKind.wrap .i64 ((IntKind.wrap .i64 (k0 + 1)) + 1)) x8.Steps x8.Zone x8.View)).length) (List.map gi_Kind (List.set (List.set (List.set l2 (Int.toNat i1) (Gi_Kind.mk r2 x4.Strength x4.Moves x4.Steps x4.Zone x4.View)) (Int.toNat i1) (Gi_Kind.mk x6.Name (IntKind.wrap .i64 (k0 + 1)) x6.Moves x6.Steps x6.Zone x6.View)) (Int.toNat i1) (Gi_Kind.mk x8.Name x8.Strength (IntKind.wrap .i64 ((IntKind.wrap .i64 (k0 + 1)) + 1)) x8.Steps x8.Zone x8.View)))], r0, rg [hA 5 ((List.set (List.set (List.set (List.set l2 (Int.toNat i1) (Gi_Kind.mk r2 x4.Strength x4.Moves x4.Steps x4.Zone x4.View)) (Int.toNat i1) (Gi_Kind.mk x6.Name (IntKind.wrap .i64 (k0 + 1)) x6.Moves x6.Steps x6.Zone x6.View)) (Int.toNat i1) (Gi_Kind.mk x8.Name x8.Strength (IntKind.wrap .i64 ((IntKind.wrap .i64 (k0 + 1)) + 1)) x8.Steps x8.Zone x8.View)) (Int.toNat i1) (Gi_Kind.mk x10.Name x10.Strength x10.Moves (IntKind.wrap .i64 ((IntKind.wrap .i64 ((IntKind.wrap .i64 (k0 + 1)) + 1)) + 1)) x10.Zone x10.View)).length) (List.map gi_Kind (List.set (List.set (List.set (List.set l2 (Int.toNat i1) (Gi_Kind.mk r2 x4.Strength x4.Moves x4.Steps x4.Zone x4.View)) (Int.toNat i1) (Gi_Kind.mk x6.Name (IntKind.wrap .i64 (k0 + 1)) x6.Moves x6.Steps x6.Zone x6.View)) (Int.toNat i1) (Gi_Kind.mk x8.Name x8.Strength (IntKind.wrap .i64 ((IntKind.wrap .i64 (k0 + 1)) + 1)) x8.Steps x8.Zone x8.View)) (Int.toNat i1) (Gi_Kind.mk x10.Name x10.Strength x10.Moves (IntKind.wrap .i64 ((IntKind.wrap .i64 ((IntKind.wrap .i64 (k0 + 1)) + 1)) + 1)) x10.Zone x10.View)))], r0, rg [hA 7 ((List.set (List.set (List.set (List.set (List.set l2 (Int.toNat i1) (Gi_Kind.mk r2 x4.Strength x4.Moves x4.Steps x4.Zone x4.View)) (Int.toNat i1) (Gi_Kind.mk x6.Name (IntKind.wrap .i64 (k0 + 1)) x6.Moves x6.Steps x6.Zone x6.View)) (Int.toNat i1) (Gi_Kind.mk x8.Name x8.Strength (IntKind.wrap .i64 ((IntKind.wrap .i64 (k0 + 1)) + 1)) x8.Steps x8.Zone x8.View)) (Int.toNat i1) (Gi_Kind.mk x10.Name x10.Strength x10.Moves (IntKind.wrap .i64 ((IntKind.wrap .i64 ((IntKind.wrap .i64 (k0 + 1)) + 1)) + 1)) x10.Zone x10.View)) (Int.toNat i1) (Gi_Kind.mk x12.Name x12.Strength x12.Moves x12.Steps (((Int.tmod (IntKind.wrap .i64 ((IntKind.wrap .i64 ((IntKind.wrap .i64 ((IntKind.wrap .i64 (k0 + 1)) + 1)) + 1)) + 1)) 3) : Int) == 0) x12.View)).length) (List.map gi_Kind (List.set (List.set (List.set (List.set (List.set l2 (Int.toNat i1) (Gi_Kind.mk r2 x4.Strength x4.Moves x4.Steps x4.Zone x4.View)) (Int.toNat i1) (Gi_Kind.mk x6.Name (IntKind.wrap .i64 (k0 + 1)) x6.Moves x6.Steps x6.Zone x6.View)) (Int.toNat i1) (Gi_Kind.mk x8.Name x8.Strength (IntKind.wrap .i64 ((IntKind.wrap .i64 (k0 + 1)) + 1)) x8.Steps x8.Zone x8.View)) (Int.toNat i1) (Gi_Kind.mk x10.Name x10.Strength x10.Moves (IntKind.wrap .i64 ((IntKind.wrap .i64 ((IntKind.wrap .i64 (k0 + 1)) + 1)) + 1)) x10.Zone x10.View)) (Int.toNat i1) (Gi_Kind.mk x12.Name x12.Strength x12.Moves x12.Steps (((Int.tmod (IntKind.wrap .i64 ((IntKind.wrap .i64 ((IntKind.wrap .i64 ((IntKind.wrap .i64 (k0 + 1)) + 1)) + 1)) + 1)) 3) : Int) == 0) x12.View)))], r0, rg [hA 5 ((List.set (List.set (List.set (List.set (List.set (List.set l2 (Int.toNat i1) (Gi_Kind.mk r2 x4.Strength x4.Moves x4.Steps x4.Zone x4.View)) (Int.toNat i1) (Gi_Kind.mk x6.Name (IntKind.wrap .i64 (k0 + 1)) x6.Moves x6.Steps x6.Zone x6.View)) (Int.toNat i1) (Gi_Kind.mk x8.Name x8.Strength (IntKind.wrap .i64 ((IntKind.wrap .i64 (k0 + 1)) + 1)) x8.Steps x8.Zone x8.View)) (Int.toNat i1) (Gi_Kind.mk x10.Name x10.Strength x10.Moves (IntKind.wrap .i64 ((IntKind.wrap .i64 ((IntKind.wrap .i64 (k0 + 1)) + 1)) + 1)) x10.Zone x10.View)) (Int.toNat i1) (Gi_Kind.mk x12.Name x12.Strength x12.Moves x12.Steps (((Int.tmod (IntKind.wrap .i64 ((IntKind.wrap .i64 ((IntKind.wrap .i64 ((IntKind.wrap .i64 (k0 + 1)) + 1)) + 1)) + 1)) 3) : Int) == 0) x12.View)) (Int.toNat i1) (Gi_Kind.mk x14.Name x14.Strength x14.Moves x14.Steps x14.Zone (IntKind.wrap .i64 ((IntKind.wrap .i64 ((IntKind.wrap .i64 ((IntKind.wrap .i64 ((IntKind.wrap .i64 (k0 + 1)) + 1)) + 1)) + 1)) + 1)))).length) (List.map gi_Kind (List.set (List.set (List.set (List.set (List.set (List.set l2 (Int.toNat i1) (Gi_Kind.mk r2 x4.Strength x4.Moves x4.Steps x4.Zone x4.View)) (Int.toNat i1) (Gi_Kind.mk x6.Name (IntKind.wrap .i64 (k0 + 1)) x6.Moves x6.Steps x6.Zone x6.View)) (Int.toNat i1) (Gi_Kind.mk x8.Name x8.Strength (IntKind.wrap .i64 ((IntKind.wrap .i64 (k0 + 1)) + 1)) x8.Steps x8.Zone x8.View)) (Int.toNat i1) (Gi_Kind.mk x10.Name x10.Strength x10.Moves (IntKind.wrap .i64 ((IntKind.wrap .i64 ((IntKind.wrap .i64 (k0 + 1)) + 1)) + 1)) x10.Zone x10.View)) (Int.toNat i1) (Gi_Kind.mk x12.Name x12.Strength x12.Moves x12.Steps (((Int.tmod (IntKind.wrap .i64 ((IntKind.wrap .i64 ((IntKind.wrap .i64 ((IntKind.wrap .i64 (k0 + 1)) + 1)) + 1)) + 1)) 3) : Int) == 0) x12.View)) (Int.toNat i1) (Gi_Kind.mk x14.Name x14.Strength x14.Moves x14.Steps x14.Zone (IntKind.wrap .i64 ((IntKind.wrap .i64 ((IntKind.wrap .i64 ((IntKind.wrap .i64 ((IntKind.wrap .i64 (k0 + 1)) + 1)) + 1)) + 1)) + 1)))))], r0, r0, .canon [0] [0, 1, 5]] (by kernel_rfl) (P2 ((decide (i1 < ((l2.length : Nat) : Int))) = true) (decide_eq_true h1)<|P1 (cw_markText hr2)<|P1 h3<|P1 (int_lt_of_at h3 hx4)<|P1 (lt_of_at hx4)<|P2 (setCells (List.map gi_Kind l2) (Int.toNat i1) 0 [.str r2] = List.map gi_Kind (List.set l2 (Int.toNat i1) (Gi_Kind.mk r2 x4.Strength x4.Moves x4.Steps x4.Zone x4.View))) (setCells_map hx4 rfl)<|P1 (setLen l2 (Int.toNat i1) (Gi_Kind.mk r2 x4.Strength x4.Moves x4.Steps x4.Zone x4.View))<|P1 h5<|P1 (int_lt_of_at h5 hx6)<|P1 (lt_of_at hx6)<|P2 (setCells (List.map gi_Kind (List.set l2 (Int.toNat i1) (Gi_Kind.mk r2 x4.Strength x4.Moves x4.Steps x4.Zone x4.View))) (Int.toNat i1) 1 [I (IntKind.wrap .i64 (k0 + 1))] = List.map gi_Kind (List.set (List.set l2 (Int.toNat i1) (Gi_Kind.mk r2 x4.Strength x4.Moves x4.Steps x4.Zone x4.View)) (Int.toNat i1) (Gi_Kind.mk x6.Name (IntKind.wrap .i64 (k0 + 1)) x6.Moves x6.Steps x6.Zone x6.View))) (setCells_map hx6 rfl)<|P1 (setLen (List.set l2 (Int.toNat i1) (Gi_Kind.mk r2 x4.Strength x4.Moves x4.Steps x4.Zone x4.View)) (Int.toNat i1) (Gi_Kind.mk x6.Name (IntKind.wrap .i64 (k0 + 1)) x6.Moves x6.Steps x6.Zone x6.View))<|P1 h7<|P1 (int_lt_of_at h7 hx8)<|P1 (lt_of_at hx8)<|P2 (setCells (List.map gi_Kind (List.set (List.set l2 (Int.toNat i1) (Gi_Kind.mk r2 x4.Strength x4.Moves x4.Steps x4.Zone x4.View)) (Int.toNat i1) (Gi_Kind.mk x6.Name (IntKind.wrap .i64 (k0 + 1)) x6.Moves x6.Steps x6.Zone x6.View))) (Int.toNat i1) 2 [I (IntKind.wrap .i64 ((IntKind.wrap .i64 (k0 + 1)) + 1))] = List.map gi_Kind (List.set (List.set (List.set l2 (Int.toNat i1) (Gi_Kind.mk r2 x4.Strength x4.Moves x4.Steps x4.Zone x4.View)) (Int.toNat i1) (Gi_Kind.mk x6.Name (IntKind.wrap .i64 (k0 + 1)) x6.Moves x6.Steps x6.Zone x6.View)) (Int.toNat i1) (Gi_Kind.mk x8.Name x8.Strength (IntKind.wrap .i64 ((IntKind.wrap .i64 (k0 + 1)) + 1)) x8.Steps x8.Zone x8.View))) (setCells_map hx8 rfl)<|P1 (setLen (List.set (List.set l2 (Int.toNat i1) (Gi_Kind.mk r2 x4.Strength x4.Moves x4.Steps x4.Zone x4.View)) (Int.toNat i1) (Gi_Kind.mk x6.Name (IntKind.wrap .i64 (k0 + 1)) x6.Moves x6.Steps x6.Zone x6.View)) (Int.toNat i1) (Gi_Kind.mk x8.Name x8.Strength (IntKind.wrap .i64 ((IntKind.wrap .i64 (k0 + 1)) + 1)) x8.Steps x8.Zone x8.View))<|P1 h9<|P1 (int_lt_of_at h9 hx10)<|P1 (lt_of_at hx10)<|P2 (setCells (List.map gi_Kind (List.set (List.set (List.set l2 (Int.toNat i1) (Gi_Kind.mk r2 x4.Strength x4.Moves x4.Steps x4.Zone x4.View)) (Int.toNat i1) (Gi_Kind.mk x6.Name (IntKind.wrap .i64 (k0 + 1)) x6.Moves x6.Steps x6.Zone x6.View)) (Int.toNat i1) (Gi_Kind.mk x8.Name x8.Strength (IntKind.wrap .i64 ((IntKind.wrap .i64 (k0 + 1)) + 1)) x8.Steps x8.Zone x8.View))) (Int.toNat i1) 3 [I (IntKind.wrap .i64 ((IntKind.wrap .i64 ((IntKind.wrap .i64 (k0 + 1)) + 1)) + 1))] = List.map gi_Kind (List.set (List.set (List.set (List.set l2 (Int.toNat i1) (Gi_Kind.mk r2 x4.Strength x4.Moves x4.Steps x4.Zone x4.View)) (Int.toNat i1) (Gi_Kind.mk x6.Name (IntKind.wrap .i64 (k0 + 1)) x6.Moves x6.Steps x6.Zone x6.View)) (Int.toNat i1) (Gi_Kind.mk x8.Name x8.Strength (IntKind.wrap .i64 ((IntKind.wrap .i64 (k0 + 1)) + 1)) x8.Steps x8.Zone x8.View)) (Int.toNat i1) (Gi_Kind.mk x10.Name x10.Strength x10.Moves (IntKind.wrap .i64 ((IntKind.wrap .i64 ((IntKind.wrap .i64 (k0 + 1)) + 1)) + 1)) x10.Zone x10.View))) (setCells_map hx10 rfl)<|P1 (setLen (List.set (List.set (List.set l2 (Int.toNat i1) (Gi_Kind.mk r2 x4.Strength x4.Moves x4.Steps x4.Zone x4.View)) (Int.toNat i1) (Gi_Kind.mk x6.Name (IntKind.wrap .i64 (k0 + 1)) x6.Moves x6.Steps x6.Zone x6.View)) (Int.toNat i1) (Gi_Kind.mk x8.Name x8.Strength (IntKind.wrap .i64 ((IntKind.wrap .i64 (k0 + 1)) + 1)) x8.Steps x8.Zone x8.View)) (Int.toNat i1) (Gi_Kind.mk x10.Name x10.Strength x10.Moves (IntKind.wrap .i64 ((IntKind.wrap .i64 ((IntKind.wrap .i64 (k0 + 1)) + 1)) + 1)) x10.Zone x10.View))<|P2 (¬ (3 : Int) = 0) (by decide)<|P1 h11<|P1 (int_lt_of_at h11 hx12)<|P1 (lt_of_at hx12)<|P2 (setCells (List.map gi_Kind (List.set (List.set (List.set (List.set l2 (Int.toNat i1) (Gi_Kind.mk r2 x4.Strength x4.Moves x4.Steps x4.Zone x4.View)) (Int.toNat i1) (Gi_Kind.mk x6.Name (IntKind.wrap .i64 (k0 + 1)) x6.Moves x6.Steps x6.Zone x6.View)) (Int.toNat i1) (Gi_Kind.mk x8.Name x8.Strength (IntKind.wrap .i64 ((IntKind.wrap .i64 (k0 + 1)) + 1)) x8.Steps x8.Zone x8.View)) (Int.toNat i1) (Gi_Kind.mk x10.Name x10.Strength x10.Moves (IntKind.wrap .i64 ((IntKind.wrap .i64 ((IntKind.wrap .i64 (k0 + 1)) + 1)) + 1)) x10.Zone x10.View))) (Int.toNat i1) 4 [.bool (((Int.tmod (IntKind.wrap .i64 ((IntKind.wrap .i64 ((IntKind.wrap .i64 ((IntKind.wrap .i64 (k0 + 1)) + 1)) + 1)) + 1)) 3) : Int) == 0)] = List.map gi_Kind (List.set (List.set (List.set (List.set (List.set l2 (Int.toNat i1) (Gi_Kind.mk r2 x4.Strength x4.Moves x4.Steps x4.Zone x4.View)) (Int.toNat i1) (Gi_Kind.mk x6.Name (IntKind.wrap .i64 (k0 + 1)) x6.Moves x6.Steps x6.Zone x6.View)) (Int.toNat i1) (Gi_Kind.mk x8.Name x8.Strength (IntKind.wrap .i64 ((IntKind.wrap .i64 (k0 + 1)) + 1)) x8.Steps x8.Zone x8.View)) (Int.toNat i1) (Gi_Kind.mk x10.Name x10.Strength x10.Moves (IntKind.wrap .i64 ((IntKind.wrap .i64 ((IntKind.wrap .i64 (k0 + 1)) + 1)) + 1)) x10.Zone x10.View)) (Int.toNat i1) (Gi_Kind.mk x12.Name x12.Strength x12.Moves x12.Steps (((Int.tmod (IntKind.wrap .i64 ((IntKind.wrap .i64 ((IntKind.wrap .i64 ((IntKind.wrap .i64 (k0 + 1)) + 1)) + 1)) + 1)) 3) : Int) == 0) x12.View))) (setCells_map hx12 rfl)<|P1 (setLen (List.set (List.set (List.set (List.set l2 (Int.toNat i1) (Gi_Kind.mk r2 x4.Strength x4.Moves x4.Steps x4.Zone x4.View)) (Int.toNat i1) (Gi_Kind.mk x6.Name (IntKind.wrap .i64 (k0 + 1)) x6.Moves x6.Steps x6.Zone x6.View)) (Int.toNat i1) (Gi_Kind.mk x8.Name x8.Strength (IntKind.wrap .i64 ((IntKind.wrap .i64 (k0 + 1)) + 1)) x8.Steps x8.Zone x8.View)) (Int.toNat i1) (Gi_Kind.mk x10.Name x10.Strength x10.Moves (IntKind.wrap .i64 ((IntKind.wrap .i64 ((IntKind.wrap .i64 (k0 + 1)) + 1)) + 1)) x10.Zone x10.View)) (Int.toNat i1) (Gi_Kind.mk x12.Name x12.Strength x12.Moves x12.Steps (((Int.tmod (IntKind.wrap .i64 ((IntKind.wrap .i64 ((IntKind.wrap .i64 ((IntKind.wrap .i64 (k0 + 1)) + 1)) + 1)) + 1)) 3) : Int) == 0) x12.View))<|P1 h13<|P1 (int_lt_of_at h13 hx14)<|P1 (lt_of_at hx14)<|P2 (setCells (List.map gi_Kind (List.set (List.set (List.set (List.set (List.set l2 (Int.toNat i1) (Gi_Kind.mk r2 x4.Strength x4.Moves x4.Steps x4.Zone x4.View)) (Int.toNat i1) (Gi_Kind.mk x6.Name (IntKind.wrap .i64 (k0 + 1)) x6.Moves x6.Steps x6.Zone x6.View)) (Int.toNat i1) (Gi_Kind.mk x8.Name x8.Strength (IntKind.wrap .i64 ((IntKind.wrap .i64 (k0 + 1)) + 1)) x8.Steps x8.Zone x8.View)) (Int.toNat i1) (Gi_Kind.mk x10.Name x10.Strength x10.Moves (IntKind.wrap .i64 ((IntKind.wrap .i64 ((IntKind.wrap .i64 (k0 + 1)) + 1)) + 1)) x10.Zone x10.View)) (Int.toNat i1) (Gi_Kind.mk x12.Name x12.Strength x12.Moves x12.Steps (((Int.tmod (IntKind.wrap .i64 ((IntKind.wrap .i64 ((IntKind.wrap .i64 ((IntKind.wrap .i64 (k0 + 1)) + 1)) + 1)) + 1)) 3) : Int) == 0) x12.View))) (Int.toNat i1) 5 [I (IntKind.wrap .i64 ((IntKind.wrap .i64 ((IntKind.wrap .i64 ((IntKind.wrap .i64 ((IntKind.wrap .i64 (k0 + 1)) + 1)) + 1)) + 1)) + 1))] = List.map gi_Kind (List.set (List.set (List.set (List.set (List.set (List.set l2 (Int.toNat i1) (Gi_Kind.mk r2 x4.Strength x4.Moves x4.Steps x4.Zone x4.View)) (Int.toNat i1) (Gi_Kind.mk x6.Name (IntKind.wrap .i64 (k0 + 1)) x6.Moves x6.Steps x6.Zone x6.View)) (Int.toNat i1) (Gi_Kind.mk x8.Name x8.Strength (IntKind.wrap .i64 ((IntKind.wrap .i64 (k0 + 1)) + 1)) x8.Steps x8.Zone x8.View)) (Int.toNat i1) (Gi_Kind.mk x10.Name x10.Strength x10.Moves (IntKind.wrap .i64 ((IntKind.wrap .i64 ((IntKind.wrap .i64 (k0 + 1)) + 1)) + 1)) x10.Zone x10.View)) (Int.toNat i1) (Gi_Kind.mk x12.Name x12.Strength x12.Moves x12.Steps (((Int.tmod (IntKind.wrap .i64 ((IntKind.wrap .i64 ((IntKind.wrap .i64 ((IntKind.wrap .i64 (k0 + 1)) + 1)) + 1)) + 1)) 3) : Int) == 0) x12.View)) (Int.toNat i1) (Gi_Kind.mk x14.Name x14.Strength x14.Moves x14.Steps x14.Zone (IntKind.wrap .i64 ((IntKind.wrap .i64 ((IntKind.wrap .i64 ((IntKind.wrap .i64 ((IntKind.wrap .i64 (k0 + 1)) + 1)) + 1)) + 1)) + 1))))) (setCells_map hx14 rfl)<|P1 (setLen (List.set (List.set (List.set (List.set (List.set l2 (Int.toNat i1) (Gi_Kind.mk r2 x4.Strength x4.Moves x4.Steps x4.Zone x4.View)) (Int.toNat i1) (Gi_Kind.mk x6.Name (IntKind.wrap .i64 (k0 + 1)) x6.Moves x6.Steps x6.Zone x6.View)) (Int.toNat i1) (Gi_Kind.mk x8.Name x8.Strength (IntKind.wrap .i64 ((IntKind.wrap .i64 (k0 + 1)) + 1)) x8.Steps x8.Zone x8.View)) (Int.toNat i1) (Gi_Kind.mk x10.Name x10.Strength x10.Moves (IntKind.wrap .i64 ((IntKind.wrap .i64 ((IntKind.wrap .i64 (k0 + 1)) + 1)) + 1)) x10.Zone x10.View)) (Int.toNat i1) (Gi_Kind.mk x12.Name x12.Strength x12.Moves x12.Steps (((Int.tmod (IntKind.wrap .i64 ((IntKind.wrap .i64 ((IntKind.wrap .i64 ((IntKind.wrap .i64 (k0 + 1)) + 1)) + 1)) + 1)) 3) : Int) == 0) x12.View)) (Int.toNat i1) (Gi_Kind.mk x14.Name x14.Strength x14.Moves x14.Steps x14.Zone (IntKind.wrap .i64 ((IntKind.wrap .i64 ((IntKind.wrap .i64 ((IntKind.wrap .i64 ((IntKind.wrap .i64 (k0 + 1)) + 1)) + 1)) + 1)) + 1))))<|P0) hn)
  (fun h1 H =>
  eN H<|gE func135 [rg [hF 3], r0] (by kernel_rfl) (P2 ((decide (i1 < ((l2.length : Nat) : Int))) = false) (decide_eq_false h1)<|P0))
theorem ww_markKindS : ∀ s r, loop Bw_markKindS s = some r → Wc X 135 1 (Kw_markKindS s) (Zw_markKindS s) (Rw_markKindS r) (Nw_markKindS r) := Nx.all (nw_markKindS)
theorem cw_markKindS {a0 : (List Gi_Kind)} {a1 : Int} {r : Int × (List Gi_Kind)} (H : Dw_markKindS a0 a1 = some r) : Ct X.P X.gl 135 [.ref 0 6 none, I a1] [⟨false, false, 6, a0.length, List.map gi_Kind a0⟩] (Rw_markKindS r) (Nw_markKindS r) :=
  Ct.of func135 (c := bdy f135) (by kernel_rfl) (by kernel_rfl) <|
  gO [r0, r0, .canon [0] [0, 1, 5]] (by kernel_rfl) P0 (ww_markKindS _ _ H)
def Rw_markRules (r : Int × (List Gi_Terrain) × (List Gi_Kind)) : List D := [I r.1]
def Nw_markRules (r : Int × (List Gi_Terrain) × (List Gi_Kind)) : List Root := [⟨false, false, 5, r.2.1.length, List.map goi_Terrain r.2.1⟩, ⟨false, false, 6, r.2.2.length, List.map gi_Kind r.2.2⟩]
theorem cw_markRules {a0 : Gi_Rules} {a1 : Int} {r : Int × (List Gi_Terrain) × (List Gi_Kind)} (H : Dw_markRules a0 a1 = some r) : Ct X.P X.gl 79 [.agg [.ref 0 5 none, .ref 1 6 none, I a0.Stack, I a0.River, I a0.Road, I a0.Supply, I a0.Turns], I a1] [⟨false, false, 5, a0.Terrains.length, List.map goi_Terrain a0.Terrains⟩, ⟨false, false, 6, a0.Kinds.length, List.map gi_Kind a0.Kinds⟩] (Rw_markRules r) (Nw_markRules r) :=
  Ct.of func79 (c := bdy f79) (by kernel_rfl) (by kernel_rfl) <|
  eBind H fun r1 hr1 H =>
  eCk H fun h2 H =>
  eBind H fun r3 hr3 H =>
  eCk H fun h4 H =>
  eW Rw_markRules Nw_markRules H<|gE func79 [r0, rg [{ i := 3, call := some { cl := true, ins := [0], args := [.ref 0 5 none, I a1], res := Rw_markTerrainS r1, G' := Nw_markTerrainS r1 } }], rg [hC 3 true [1] (Rw_markKindS r3) (Nw_markKindS r3)], r0] (by kernel_rfl) (PN<|PI a1<|P1 h2<|P1 (cw_markTerrainS hr1)<|P1 h4<|P1 (cw_markKindS hr3)<|P0)
def Rw_markMap (r : Int × (List Int) × (List Int) × (List Int)) : List D := [I r.1]
def Nw_markMap (r : Int × (List Int) × (List Int) × (List Int)) : List Root := [⟨false, false, 1, r.2.1.length, List.map I r.2.1⟩, ⟨false, false, 1, r.2.2.1.length, List.map I r.2.2.1⟩, ⟨false, false, 1, r.2.2.2.length, List.map I r.2.2.2⟩]
theorem cw_markMap {a0 : Gi_Map} {a1 : Int} {r : Int × (List Int) × (List Int) × (List Int)} (H : Dw_markMap a0 a1 = some r) : Ct X.P X.gl 80 [.agg [I a0.Width, I a0.Height, .ref 0 1 none, .ref 1 1 none, .ref 2 1 none], I a1] [⟨false, false, 1, a0.Terrain.length, List.map I a0.Terrain⟩, ⟨false, false, 1, a0.Rivers.length, List.map I a0.Rivers⟩, ⟨false, false, 1, a0.Roads.length, List.map I a0.Roads⟩] (Rw_markMap r) (Nw_markMap r) :=
  Ct.of func80 (c := bdy f80) (by kernel_rfl) (by kernel_rfl) <|
  eBind H fun r1 hr1 H =>
  eCk H fun h2 H =>
  eBind H fun r3 hr3 H =>
  eCk H fun h4 H =>
  eBind H fun r5 hr5 H =>
  eCk H fun h6 H =>
  eW Rw_markMap Nw_markMap H<|gE func80 [r0, rg [hC 3 true [0] (Rw_markIntS r1) (Nw_markIntS r1)], rg [hC 3 true [1] (Rw_markIntS r3) (Nw_markIntS r3)], rg [hC 3 true [2] (Rw_markIntS r5) (Nw_markIntS r5)], r0] (by kernel_rfl) (P1 h2<|P1 (cw_markIntS hr1)<|P1 h4<|P1 (cw_markIntS hr3)<|P1 h6<|P1 (cw_markIntS hr5)<|P0)
def Rw_markBoard (r : Int × (List Gi_Terrain) × (List Gi_Kind) × (List Int) × (List Int) × (List Int)) : List D := [I r.1]
def Nw_markBoard (r : Int × (List Gi_Terrain) × (List Gi_Kind) × (List Int) × (List Int) × (List Int)) : List Root := [⟨false, false, 5, r.2.1.length, List.map goi_Terrain r.2.1⟩, ⟨false, false, 6, r.2.2.1.length, List.map gi_Kind r.2.2.1⟩, ⟨false, false, 1, r.2.2.2.1.length, List.map I r.2.2.2.1⟩, ⟨false, false, 1, r.2.2.2.2.1.length, List.map I r.2.2.2.2.1⟩, ⟨false, false, 1, r.2.2.2.2.2.length, List.map I r.2.2.2.2.2⟩]
theorem cw_markBoard {a0 : Gi_Board} {a1 : Int} {r : Int × (List Gi_Terrain) × (List Gi_Kind) × (List Int) × (List Int) × (List Int)} (H : Dw_markBoard a0 a1 = some r) : Ct X.P X.gl 40 [.agg [.ref 0 5 none, .ref 1 6 none, I a0.Rules.Stack, I a0.Rules.River, I a0.Rules.Road, I a0.Rules.Supply, I a0.Rules.Turns, I a0.Map.Width, I a0.Map.Height, .ref 2 1 none, .ref 3 1 none, .ref 4 1 none], I a1] [⟨false, false, 5, a0.Rules.Terrains.length, List.map goi_Terrain a0.Rules.Terrains⟩, ⟨false, false, 6, a0.Rules.Kinds.length, List.map gi_Kind a0.Rules.Kinds⟩, ⟨false, false, 1, a0.Map.Terrain.length, List.map I a0.Map.Terrain⟩, ⟨false, false, 1, a0.Map.Rivers.length, List.map I a0.Map.Rivers⟩, ⟨false, false, 1, a0.Map.Roads.length, List.map I a0.Map.Roads⟩] (Rw_markBoard r) (Nw_markBoard r) :=
  Ct.of func40 (c := bdy f40) (by kernel_rfl) (by kernel_rfl) <|
  eBind H fun r1 hr1 H =>
  eCk H fun h2 H =>
  eCk H fun h3 H =>
  eBind H fun r4 hr4 H =>
  eCk H fun h5 H =>
  eCk H fun h6 H =>
  eCk H fun h7 H =>
  eW Rw_markBoard Nw_markBoard H<|gE func40 [r0, rg [{ i := 3, call := some { cl := true, ins := [0, 1], args := [.agg [.ref 0 5 none, .ref 1 6 none, I a0.Rules.Stack, I a0.Rules.River, I a0.Rules.Road, I a0.Rules.Supply, I a0.Rules.Turns], I a1], res := Rw_markRules r1, G' := Nw_markRules r1 } }], rg [hC 3 true [2, 3, 4] (Rw_markMap r4) (Nw_markMap r4)], r0] (by kernel_rfl) (PN<|PN<|PI a0.Rules.Stack<|PI a0.Rules.River<|PI a0.Rules.Road<|PI a0.Rules.Supply<|PI a0.Rules.Turns<|PI a1<|P1 h2<|P1 h3<|P1 (cw_markRules hr1)<|P1 h5<|P1 h6<|P1 h7<|P1 (cw_markMap hr4)<|P0)
def Rw_markOddsS (r : Int × (List Gi_Odds)) : List D := [I r.1]
def Nw_markOddsS (r : Int × (List Gi_Odds)) : List Root := [⟨false, false, 2, r.2.length, List.map gi_Odds r.2⟩]
noncomputable def Kw_markOddsS : Sw_markOddsS → List Item
 | .h1 .. => nav 300 2 [] [.code (bdy f81)]
def Zw_markOddsS : Sw_markOddsS → St
 | .h1 k0 i1 l2 => ⟨sts 27 [(0, .ref 0 2 none), (1, I k0), (5, I i1)], [some ⟨false, false, 2, l2.length, List.map gi_Odds l2⟩]⟩
abbrev Qw_markOddsS := Nx X 81 1 Kw_markOddsS Zw_markOddsS Rw_markOddsS Nw_markOddsS
theorem nw_markOddsS : ∀ s o, Bw_markOddsS s = some o → Qw_markOddsS (Kw_markOddsS s) (Zw_markOddsS s) o
 | .h1 k0 i1 l2, o, H =>
  eIf H (fun h1 H =>
  eCk H fun h2 H =>
  eBind H fun x3 hx3 H =>
  eCk H fun h4 H =>
  eBind H fun x5 hx5 H =>
  eN H fun r hn => gO [rg [hT 3], rg [hA 5 ((List.set l2 (Int.toNat i1) (Gi_Odds.mk k0 x3.Den)).length) (List.map gi_Odds (List.set l2 (Int.toNat i1) (Gi_Odds.mk k0 x3.Den)))], r0, rg [hA 5 ((List.set (List.set l2 (Int.toNat i1) (Gi_Odds.mk k0 x3.Den)) (Int.toNat i1) (Gi_Odds.mk x5.Num (IntKind.wrap .i64 (k0 + 1)))).length) (List.map gi_Odds (List.set (List.set l2 (Int.toNat i1) (Gi_Odds.mk k0 x3.Den)) (Int.toNat i1) (Gi_Odds.mk x5.Num (IntKind.wrap .i64 (k0 + 1)))))], r0, r0, .canon [0] [0, 1, 5]] (by kernel_rfl) (P2 ((decide (i1 < ((l2.length : Nat) : Int))) = true) (decide_eq_true h1)<|P1 h2<|P1 (int_lt_of_at h2 hx3)<|P1 (lt_of_at hx3)<|P2 (setCells (List.map gi_Odds l2) (Int.toNat i1) 0 [I k0] = List.map gi_Odds (List.set l2 (Int.toNat i1) (Gi_Odds.mk k0 x3.Den))) (setCells_map hx3 rfl)<|P1 (setLen l2 (Int.toNat i1) (Gi_Odds.mk k0 x3.Den))<|P1 h4<|P1 (int_lt_of_at h4 hx5)<|P1 (lt_of_at hx5)<|P2 (setCells (List.map gi_Odds (List.set l2 (Int.toNat i1) (Gi_Odds.mk k0 x3.Den))) (Int.toNat i1) 1 [I (IntKind.wrap .i64 (k0 + 1))] = List.map gi_Odds (List.set (List.set l2 (Int.toNat i1) (Gi_Odds.mk k0 x3.Den)) (Int.toNat i1) (Gi_Odds.mk x5.Num (IntKind.wrap .i64 (k0 + 1))))) (setCells_map hx5 rfl)<|P1 (setLen (List.set l2 (Int.toNat i1) (Gi_Odds.mk k0 x3.Den)) (Int.toNat i1) (Gi_Odds.mk x5.Num (IntKind.wrap .i64 (k0 + 1))))<|P0) hn)
  (fun h1 H =>
  eN H<|gE func81 [rg [hF 3], r0] (by kernel_rfl) (P2 ((decide (i1 < ((l2.length : Nat) : Int))) = false) (decide_eq_false h1)<|P0))
theorem ww_markOddsS : ∀ s r, loop Bw_markOddsS s = some r → Wc X 81 1 (Kw_markOddsS s) (Zw_markOddsS s) (Rw_markOddsS r) (Nw_markOddsS r) := Nx.all (nw_markOddsS)
theorem cw_markOddsS {a0 : (List Gi_Odds)} {a1 : Int} {r : Int × (List Gi_Odds)} (H : Dw_markOddsS a0 a1 = some r) : Ct X.P X.gl 81 [.ref 0 2 none, I a1] [⟨false, false, 2, a0.length, List.map gi_Odds a0⟩] (Rw_markOddsS r) (Nw_markOddsS r) :=
  Ct.of func81 (c := bdy f81) (by kernel_rfl) (by kernel_rfl) <|
  gO [r0, r0, .canon [0] [0, 1, 5]] (by kernel_rfl) P0 (ww_markOddsS _ _ H)
def Rw_markIntSS (r : Int × (List (List Int))) : List D := [I r.1]
def Nw_markIntSS (r : Int × (List (List Int))) : List Root := [⟨false, false, 1, r.2.length, List.map (ow 1 I) r.2⟩]
noncomputable def Kw_markIntSS : Sw_markIntSS → List Item
 | .h1 .. => nav 300 2 [] [.code (bdy f82)]
def Zw_markIntSS : Sw_markIntSS → St
 | .h1 k0 i1 l2 => ⟨sts 19 [(0, .ref 0 1 none), (1, I k0), (5, I i1)], [some ⟨false, false, 1, l2.length, List.map (ow 1 I) l2⟩]⟩
abbrev Qw_markIntSS := Nx X 82 1 Kw_markIntSS Zw_markIntSS Rw_markIntSS Nw_markIntSS
theorem nw_markIntSS : ∀ s o, Bw_markIntSS s = some o → Qw_markIntSS (Kw_markIntSS s) (Zw_markIntSS s) o
 | .h1 k0 i1 l2, o, H =>
  eIf H (fun h1 H =>
  eCk H fun h2 H =>
  eBind H fun x3 hx3 H =>
  eBind H fun r4 hr4 H =>
  eCk H fun h5 H =>
  eN H fun r hn => gO [rg [hT 3], rg [{ i := 3, pre := [.take 0 (Int.toNat i1) 0 1 x3.length (List.map I x3) (List.set (List.map (ow 1 I) l2) (Int.toNat i1) (.ref 1 1 none))], el := some (.ref 1 1 none) }, { i := 5, call := some { cl := true, auto := true, ins := [1], res := (Rw_markIntS r4), G' := (Nw_markIntS r4) }, post := [.put 0 (Int.toNat i1) 0 1 (List.map (ow 1 I) (List.set l2 (Int.toNat i1) r4.2)), .own 0 (List.set l2 (Int.toNat i1) r4.2).length], xtra := [0] }], r0, .canon [0] [0, 1, 5]] (by kernel_rfl) (P2 ((decide (i1 < ((l2.length : Nat) : Int))) = true) (decide_eq_true h1)<|P1 h2<|P1 (int_lt_of_at h2 hx3)<|P2 (getCells (List.map (ow 1 I) l2) (Int.toNat i1) 0 1 = some [ow 1 I x3]) (getCells_at hx3 rfl)<|P2 (setCells (List.map (ow 1 I) l2) (Int.toNat i1) 0 [.ref 1 1 none] = List.set (List.map (ow 1 I) l2) (Int.toNat i1) (.ref 1 1 none)) (setCells_mapD hx3 rfl)<|P1 (at_set (f := (ow 1 I)) (.ref 1 1 none) hx3)<|P1 h5<|P1 (cw_markIntS hr4)<|P2 (getCells (List.set (List.map (ow 1 I) l2) (Int.toNat i1) (.ref 1 1 none)) (Int.toNat i1) 0 1 = some [.ref 1 1 none]) (getCells_set hx3 rfl)<|P2 (setCells (List.set (List.map (ow 1 I) l2) (Int.toNat i1) (.ref 1 1 none)) (Int.toNat i1) 0 [ow 1 I r4.2] = List.map (ow 1 I) (List.set l2 (Int.toNat i1) r4.2)) (setCells_set hx3 rfl)<|P1 (allOw_26 (List.set l2 (Int.toNat i1) r4.2))<|P1 (setLen l2 (Int.toNat i1) r4.2)<|P0) hn)
  (fun h1 H =>
  eN H<|gE func82 [rg [hF 3], r0] (by kernel_rfl) (P2 ((decide (i1 < ((l2.length : Nat) : Int))) = false) (decide_eq_false h1)<|P0))
theorem ww_markIntSS : ∀ s r, loop Bw_markIntSS s = some r → Wc X 82 1 (Kw_markIntSS s) (Zw_markIntSS s) (Rw_markIntSS r) (Nw_markIntSS r) := Nx.all (nw_markIntSS)
theorem cw_markIntSS {a0 : (List (List Int))} {a1 : Int} {r : Int × (List (List Int))} (H : Dw_markIntSS a0 a1 = some r) : Ct X.P X.gl 82 [.ref 0 1 none, I a1] [⟨false, false, 1, a0.length, List.map (ow 1 I) a0⟩] (Rw_markIntSS r) (Nw_markIntSS r) :=
  Ct.of func82 (c := bdy f82) (by kernel_rfl) (by kernel_rfl) <|
  gO [r0, r0, .canon [0] [0, 1, 5]] (by kernel_rfl) P0 (ww_markIntSS _ _ H)
def Rw_markCombatTable (r : Int × (List Gi_Odds) × (List (List Int))) : List D := [I r.1]
def Nw_markCombatTable (r : Int × (List Gi_Odds) × (List (List Int))) : List Root := [⟨false, false, 2, r.2.1.length, List.map gi_Odds r.2.1⟩, ⟨false, false, 1, r.2.2.length, List.map (ow 1 I) r.2.2⟩]
theorem cw_markCombatTable {a0 : Gi_CombatTable} {a1 : Int} {r : Int × (List Gi_Odds) × (List (List Int))} (H : Dw_markCombatTable a0 a1 = some r) : Ct X.P X.gl 41 [.agg [.ref 0 2 none, I a0.Dice, .ref 1 1 none], I a1] [⟨false, false, 2, a0.Columns.length, List.map gi_Odds a0.Columns⟩, ⟨false, false, 1, a0.Results.length, List.map (ow 1 I) a0.Results⟩] (Rw_markCombatTable r) (Nw_markCombatTable r) :=
  Ct.of func41 (c := bdy f41) (by kernel_rfl) (by kernel_rfl) <|
  eBind H fun r1 hr1 H =>
  eCk H fun h2 H =>
  eBind H fun r3 hr3 H =>
  eCk H fun h4 H =>
  eW Rw_markCombatTable Nw_markCombatTable H<|gE func41 [r0, rg [hC 3 true [0] (Rw_markOddsS r1) (Nw_markOddsS r1)], rg [{ i := 3, call := some { cl := true, ins := [1], args := [.ref 0 1 none, I r1.1], res := Rw_markIntSS r3, G' := Nw_markIntSS r3 } }], r0] (by kernel_rfl) (P1 h2<|P1 (cw_markOddsS hr1)<|PN<|PI r1.1<|P1 h4<|P1 (cw_markIntSS hr3)<|P0)
def Rw_markUnitS (r : Int × (List Gi_Unit)) : List D := [I r.1]
def Nw_markUnitS (r : Int × (List Gi_Unit)) : List Root := [⟨false, false, 4, r.2.length, List.map gi_Unit r.2⟩]
noncomputable def Kw_markUnitS : Sw_markUnitS → List Item
 | .h1 .. => nav 300 2 [] [.code (bdy f83)]
def Zw_markUnitS : Sw_markUnitS → St
 | .h1 k0 i1 l2 => ⟨sts 41 [(0, .ref 0 4 none), (1, I k0), (5, I i1)], [some ⟨false, false, 4, l2.length, List.map gi_Unit l2⟩]⟩
abbrev Qw_markUnitS := Nx X 83 1 Kw_markUnitS Zw_markUnitS Rw_markUnitS Nw_markUnitS
theorem nw_markUnitS : ∀ s o, Bw_markUnitS s = some o → Qw_markUnitS (Kw_markUnitS s) (Zw_markUnitS s) o
 | .h1 k0 i1 l2, o, H =>
  eIf H (fun h1 H =>
  eCk H fun h2 H =>
  eBind H fun x3 hx3 H =>
  eCk H fun h4 H =>
  eBind H fun x5 hx5 H =>
  eCk H fun h6 H =>
  eBind H fun x7 hx7 H =>
  eCk H fun h8 H =>
  eBind H fun x9 hx9 H =>
  eN H fun r hn => gO [rg [hT 3], rg [hA 5 ((List.set l2 (Int.toNat i1) (Gi_Unit.mk k0 x3.Kind x3.At x3.Steps)).length) (List.map gi_Unit (List.set l2 (Int.toNat i1) (Gi_Unit.mk k0 x3.Kind x3.At x3.Steps)))], r0, rg [hA 5 ((List.set (List.set l2 (Int.toNat i1) (Gi_Unit.mk k0 x3.Kind x3.At x3.Steps)) (Int.toNat i1) (Gi_Unit.mk x5.Side (IntKind.wrap .i64 (k0 + 1)) x5.At x5.Steps)).length) (List.map gi_Unit (List.set (List.set l2 (Int.toNat i1) (Gi_Unit.mk k0 x3.Kind x3.At x3.Steps)) (Int.toNat i1) (Gi_Unit.mk x5.Side (IntKind.wrap .i64 (k0 + 1)) x5.At x5.Steps)))], r0, rg [hA 5 ((List.set (List.set (List.set l2 (Int.toNat i1) (Gi_Unit.mk k0 x3.Kind x3.At x3.Steps)) (Int.toNat i1) (Gi_Unit.mk x5.Side (IntKind.wrap .i64 (k0 + 1)) x5.At x5.Steps)) (Int.toNat i1) (Gi_Unit.mk x7.Side x7.Kind (IntKind.wrap .i64 ((IntKind.wrap .i64 (k0 + 1)) + 1)) x7.Steps)).length) (List.map gi_Unit (List.set (List.set (List.set l2 (Int.toNat i1) (Gi_Unit.mk k0 x3.Kind x3.At x3.Steps)) (Int.toNat i1) (Gi_Unit.mk x5.Side (IntKind.wrap .i64 (k0 + 1)) x5.At x5.Steps)) (Int.toNat i1) (Gi_Unit.mk x7.Side x7.Kind (IntKind.wrap .i64 ((IntKind.wrap .i64 (k0 + 1)) + 1)) x7.Steps)))], r0, rg [hA 5 ((List.set (List.set (List.set (List.set l2 (Int.toNat i1) (Gi_Unit.mk k0 x3.Kind x3.At x3.Steps)) (Int.toNat i1) (Gi_Unit.mk x5.Side (IntKind.wrap .i64 (k0 + 1)) x5.At x5.Steps)) (Int.toNat i1) (Gi_Unit.mk x7.Side x7.Kind (IntKind.wrap .i64 ((IntKind.wrap .i64 (k0 + 1)) + 1)) x7.Steps)) (Int.toNat i1) (Gi_Unit.mk x9.Side x9.Kind x9.At (IntKind.wrap .i64 ((IntKind.wrap .i64 ((IntKind.wrap .i64 (k0 + 1)) + 1)) + 1)))).length) (List.map gi_Unit (List.set (List.set (List.set (List.set l2 (Int.toNat i1) (Gi_Unit.mk k0 x3.Kind x3.At x3.Steps)) (Int.toNat i1) (Gi_Unit.mk x5.Side (IntKind.wrap .i64 (k0 + 1)) x5.At x5.Steps)) (Int.toNat i1) (Gi_Unit.mk x7.Side x7.Kind (IntKind.wrap .i64 ((IntKind.wrap .i64 (k0 + 1)) + 1)) x7.Steps)) (Int.toNat i1) (Gi_Unit.mk x9.Side x9.Kind x9.At (IntKind.wrap .i64 ((IntKind.wrap .i64 ((IntKind.wrap .i64 (k0 + 1)) + 1)) + 1)))))], r0, r0, .canon [0] [0, 1, 5]] (by kernel_rfl) (P2 ((decide (i1 < ((l2.length : Nat) : Int))) = true) (decide_eq_true h1)<|P1 h2<|P1 (int_lt_of_at h2 hx3)<|P1 (lt_of_at hx3)<|P2 (setCells (List.map gi_Unit l2) (Int.toNat i1) 0 [I k0] = List.map gi_Unit (List.set l2 (Int.toNat i1) (Gi_Unit.mk k0 x3.Kind x3.At x3.Steps))) (setCells_map hx3 rfl)<|P1 (setLen l2 (Int.toNat i1) (Gi_Unit.mk k0 x3.Kind x3.At x3.Steps))<|P1 h4<|P1 (int_lt_of_at h4 hx5)<|P1 (lt_of_at hx5)<|P2 (setCells (List.map gi_Unit (List.set l2 (Int.toNat i1) (Gi_Unit.mk k0 x3.Kind x3.At x3.Steps))) (Int.toNat i1) 1 [I (IntKind.wrap .i64 (k0 + 1))] = List.map gi_Unit (List.set (List.set l2 (Int.toNat i1) (Gi_Unit.mk k0 x3.Kind x3.At x3.Steps)) (Int.toNat i1) (Gi_Unit.mk x5.Side (IntKind.wrap .i64 (k0 + 1)) x5.At x5.Steps))) (setCells_map hx5 rfl)<|P1 (setLen (List.set l2 (Int.toNat i1) (Gi_Unit.mk k0 x3.Kind x3.At x3.Steps)) (Int.toNat i1) (Gi_Unit.mk x5.Side (IntKind.wrap .i64 (k0 + 1)) x5.At x5.Steps))<|P1 h6<|P1 (int_lt_of_at h6 hx7)<|P1 (lt_of_at hx7)<|P2 (setCells (List.map gi_Unit (List.set (List.set l2 (Int.toNat i1) (Gi_Unit.mk k0 x3.Kind x3.At x3.Steps)) (Int.toNat i1) (Gi_Unit.mk x5.Side (IntKind.wrap .i64 (k0 + 1)) x5.At x5.Steps))) (Int.toNat i1) 2 [I (IntKind.wrap .i64 ((IntKind.wrap .i64 (k0 + 1)) + 1))] = List.map gi_Unit (List.set (List.set (List.set l2 (Int.toNat i1) (Gi_Unit.mk k0 x3.Kind x3.At x3.Steps)) (Int.toNat i1) (Gi_Unit.mk x5.Side (IntKind.wrap .i64 (k0 + 1)) x5.At x5.Steps)) (Int.toNat i1) (Gi_Unit.mk x7.Side x7.Kind (IntKind.wrap .i64 ((IntKind.wrap .i64 (k0 + 1)) + 1)) x7.Steps))) (setCells_map hx7 rfl)<|P1 (setLen (List.set (List.set l2 (Int.toNat i1) (Gi_Unit.mk k0 x3.Kind x3.At x3.Steps)) (Int.toNat i1) (Gi_Unit.mk x5.Side (IntKind.wrap .i64 (k0 + 1)) x5.At x5.Steps)) (Int.toNat i1) (Gi_Unit.mk x7.Side x7.Kind (IntKind.wrap .i64 ((IntKind.wrap .i64 (k0 + 1)) + 1)) x7.Steps))<|P1 h8<|P1 (int_lt_of_at h8 hx9)<|P1 (lt_of_at hx9)<|P2 (setCells (List.map gi_Unit (List.set (List.set (List.set l2 (Int.toNat i1) (Gi_Unit.mk k0 x3.Kind x3.At x3.Steps)) (Int.toNat i1) (Gi_Unit.mk x5.Side (IntKind.wrap .i64 (k0 + 1)) x5.At x5.Steps)) (Int.toNat i1) (Gi_Unit.mk x7.Side x7.Kind (IntKind.wrap .i64 ((IntKind.wrap .i64 (k0 + 1)) + 1)) x7.Steps))) (Int.toNat i1) 3 [I (IntKind.wrap .i64 ((IntKind.wrap .i64 ((IntKind.wrap .i64 (k0 + 1)) + 1)) + 1))] = List.map gi_Unit (List.set (List.set (List.set (List.set l2 (Int.toNat i1) (Gi_Unit.mk k0 x3.Kind x3.At x3.Steps)) (Int.toNat i1) (Gi_Unit.mk x5.Side (IntKind.wrap .i64 (k0 + 1)) x5.At x5.Steps)) (Int.toNat i1) (Gi_Unit.mk x7.Side x7.Kind (IntKind.wrap .i64 ((IntKind.wrap .i64 (k0 + 1)) + 1)) x7.Steps)) (Int.toNat i1) (Gi_Unit.mk x9.Side x9.Kind x9.At (IntKind.wrap .i64 ((IntKind.wrap .i64 ((IntKind.wrap .i64 (k0 + 1)) + 1)) + 1))))) (setCells_map hx9 rfl)<|P1 (setLen (List.set (List.set (List.set l2 (Int.toNat i1) (Gi_Unit.mk k0 x3.Kind x3.At x3.Steps)) (Int.toNat i1) (Gi_Unit.mk x5.Side (IntKind.wrap .i64 (k0 + 1)) x5.At x5.Steps)) (Int.toNat i1) (Gi_Unit.mk x7.Side x7.Kind (IntKind.wrap .i64 ((IntKind.wrap .i64 (k0 + 1)) + 1)) x7.Steps)) (Int.toNat i1) (Gi_Unit.mk x9.Side x9.Kind x9.At (IntKind.wrap .i64 ((IntKind.wrap .i64 ((IntKind.wrap .i64 (k0 + 1)) + 1)) + 1))))<|P0) hn)
  (fun h1 H =>
  eN H<|gE func83 [rg [hF 3], r0] (by kernel_rfl) (P2 ((decide (i1 < ((l2.length : Nat) : Int))) = false) (decide_eq_false h1)<|P0))
theorem ww_markUnitS : ∀ s r, loop Bw_markUnitS s = some r → Wc X 83 1 (Kw_markUnitS s) (Zw_markUnitS s) (Rw_markUnitS r) (Nw_markUnitS r) := Nx.all (nw_markUnitS)
theorem cw_markUnitS {a0 : (List Gi_Unit)} {a1 : Int} {r : Int × (List Gi_Unit)} (H : Dw_markUnitS a0 a1 = some r) : Ct X.P X.gl 83 [.ref 0 4 none, I a1] [⟨false, false, 4, a0.length, List.map gi_Unit a0⟩] (Rw_markUnitS r) (Nw_markUnitS r) :=
  Ct.of func83 (c := bdy f83) (by kernel_rfl) (by kernel_rfl) <|
  gO [r0, r0, .canon [0] [0, 1, 5]] (by kernel_rfl) P0 (ww_markUnitS _ _ H)
def Rw_markState (r : Int × (List Gi_Unit)) : List D := [I r.1]
def Nw_markState (r : Int × (List Gi_Unit)) : List Root := [⟨false, false, 4, r.2.length, List.map gi_Unit r.2⟩]
theorem cw_markState {a0 : Gi_State} {a1 : Int} {r : Int × (List Gi_Unit)} (H : Dw_markState a0 a1 = some r) : Ct X.P X.gl 42 [.agg [I a0.Turn, I a0.Weather, .ref 0 4 none], I a1] [⟨false, false, 4, a0.Units.length, List.map gi_Unit a0.Units⟩] (Rw_markState r) (Nw_markState r) :=
  Ct.of func42 (c := bdy f42) (by kernel_rfl) (by kernel_rfl) <|
  eBind H fun r1 hr1 H =>
  eCk H fun h2 H =>
  eW Rw_markState Nw_markState H<|gE func42 [r0, rg [hC 3 true [0] (Rw_markUnitS r1) (Nw_markUnitS r1)], r0] (by kernel_rfl) (P1 h2<|P1 (cw_markUnitS hr1)<|P0)
def Rw_markGoalS (r : Int × (List Gi_Goal)) : List D := [I r.1]
def Nw_markGoalS (r : Int × (List Gi_Goal)) : List Root := [⟨false, false, 2, r.2.length, List.map gi_Goal r.2⟩]
noncomputable def Kw_markGoalS : Sw_markGoalS → List Item
 | .h1 .. => nav 300 2 [] [.code (bdy f84)]
def Zw_markGoalS : Sw_markGoalS → St
 | .h1 k0 i1 l2 => ⟨sts 27 [(0, .ref 0 2 none), (1, I k0), (5, I i1)], [some ⟨false, false, 2, l2.length, List.map gi_Goal l2⟩]⟩
abbrev Qw_markGoalS := Nx X 84 1 Kw_markGoalS Zw_markGoalS Rw_markGoalS Nw_markGoalS
theorem nw_markGoalS : ∀ s o, Bw_markGoalS s = some o → Qw_markGoalS (Kw_markGoalS s) (Zw_markGoalS s) o
 | .h1 k0 i1 l2, o, H =>
  eIf H (fun h1 H =>
  eCk H fun h2 H =>
  eBind H fun x3 hx3 H =>
  eCk H fun h4 H =>
  eBind H fun x5 hx5 H =>
  eN H fun r hn => gO [rg [hT 3], rg [hA 5 ((List.set l2 (Int.toNat i1) (Gi_Goal.mk k0 x3.Points)).length) (List.map gi_Goal (List.set l2 (Int.toNat i1) (Gi_Goal.mk k0 x3.Points)))], r0, rg [hA 5 ((List.set (List.set l2 (Int.toNat i1) (Gi_Goal.mk k0 x3.Points)) (Int.toNat i1) (Gi_Goal.mk x5.At (IntKind.wrap .i64 (k0 + 1)))).length) (List.map gi_Goal (List.set (List.set l2 (Int.toNat i1) (Gi_Goal.mk k0 x3.Points)) (Int.toNat i1) (Gi_Goal.mk x5.At (IntKind.wrap .i64 (k0 + 1)))))], r0, r0, .canon [0] [0, 1, 5]] (by kernel_rfl) (P2 ((decide (i1 < ((l2.length : Nat) : Int))) = true) (decide_eq_true h1)<|P1 h2<|P1 (int_lt_of_at h2 hx3)<|P1 (lt_of_at hx3)<|P2 (setCells (List.map gi_Goal l2) (Int.toNat i1) 0 [I k0] = List.map gi_Goal (List.set l2 (Int.toNat i1) (Gi_Goal.mk k0 x3.Points))) (setCells_map hx3 rfl)<|P1 (setLen l2 (Int.toNat i1) (Gi_Goal.mk k0 x3.Points))<|P1 h4<|P1 (int_lt_of_at h4 hx5)<|P1 (lt_of_at hx5)<|P2 (setCells (List.map gi_Goal (List.set l2 (Int.toNat i1) (Gi_Goal.mk k0 x3.Points))) (Int.toNat i1) 1 [I (IntKind.wrap .i64 (k0 + 1))] = List.map gi_Goal (List.set (List.set l2 (Int.toNat i1) (Gi_Goal.mk k0 x3.Points)) (Int.toNat i1) (Gi_Goal.mk x5.At (IntKind.wrap .i64 (k0 + 1))))) (setCells_map hx5 rfl)<|P1 (setLen (List.set l2 (Int.toNat i1) (Gi_Goal.mk k0 x3.Points)) (Int.toNat i1) (Gi_Goal.mk x5.At (IntKind.wrap .i64 (k0 + 1))))<|P0) hn)
  (fun h1 H =>
  eN H<|gE func84 [rg [hF 3], r0] (by kernel_rfl) (P2 ((decide (i1 < ((l2.length : Nat) : Int))) = false) (decide_eq_false h1)<|P0))
theorem ww_markGoalS : ∀ s r, loop Bw_markGoalS s = some r → Wc X 84 1 (Kw_markGoalS s) (Zw_markGoalS s) (Rw_markGoalS r) (Nw_markGoalS r) := Nx.all (nw_markGoalS)
theorem cw_markGoalS {a0 : (List Gi_Goal)} {a1 : Int} {r : Int × (List Gi_Goal)} (H : Dw_markGoalS a0 a1 = some r) : Ct X.P X.gl 84 [.ref 0 2 none, I a1] [⟨false, false, 2, a0.length, List.map gi_Goal a0⟩] (Rw_markGoalS r) (Nw_markGoalS r) :=
  Ct.of func84 (c := bdy f84) (by kernel_rfl) (by kernel_rfl) <|
  gO [r0, r0, .canon [0] [0, 1, 5]] (by kernel_rfl) P0 (ww_markGoalS _ _ H)
def Rw_markConditions (r : Int × (List Gi_Goal)) : List D := [I r.1]
def Nw_markConditions (r : Int × (List Gi_Goal)) : List Root := [⟨false, false, 2, r.2.length, List.map gi_Goal r.2⟩]
theorem cw_markConditions {a0 : Gi_Conditions} {a1 : Int} {r : Int × (List Gi_Goal)} (H : Dw_markConditions a0 a1 = some r) : Ct X.P X.gl 43 [.agg [.ref 0 2 none, I a0.Step, I a0.Margin], I a1] [⟨false, false, 2, a0.Goals.length, List.map gi_Goal a0.Goals⟩] (Rw_markConditions r) (Nw_markConditions r) :=
  Ct.of func43 (c := bdy f43) (by kernel_rfl) (by kernel_rfl) <|
  eBind H fun r1 hr1 H =>
  eCk H fun h2 H =>
  eW Rw_markConditions Nw_markConditions H<|gE func43 [r0, rg [hC 3 true [0] (Rw_markGoalS r1) (Nw_markGoalS r1)], r0] (by kernel_rfl) (P1 h2<|P1 (cw_markGoalS hr1)<|P0)
def Rw_markScenario (r : Int × (List Gi_Terrain) × (List Gi_Kind) × (List Int) × (List Int) × (List Int) × (List Gi_Odds) × (List (List Int)) × (List Gi_Unit) × (List Gi_Goal) × (List Int) × (List Int)) : List D := [I r.1]
def Nw_markScenario (r : Int × (List Gi_Terrain) × (List Gi_Kind) × (List Int) × (List Int) × (List Int) × (List Gi_Odds) × (List (List Int)) × (List Gi_Unit) × (List Gi_Goal) × (List Int) × (List Int)) : List Root := [⟨false, false, 5, r.2.1.length, List.map goi_Terrain r.2.1⟩, ⟨false, false, 6, r.2.2.1.length, List.map gi_Kind r.2.2.1⟩, ⟨false, false, 1, r.2.2.2.1.length, List.map I r.2.2.2.1⟩, ⟨false, false, 1, r.2.2.2.2.1.length, List.map I r.2.2.2.2.1⟩, ⟨false, false, 1, r.2.2.2.2.2.1.length, List.map I r.2.2.2.2.2.1⟩, ⟨false, false, 2, r.2.2.2.2.2.2.1.length, List.map gi_Odds r.2.2.2.2.2.2.1⟩, ⟨false, false, 1, r.2.2.2.2.2.2.2.1.length, List.map (ow 1 I) r.2.2.2.2.2.2.2.1⟩, ⟨false, false, 4, r.2.2.2.2.2.2.2.2.1.length, List.map gi_Unit r.2.2.2.2.2.2.2.2.1⟩, ⟨false, false, 2, r.2.2.2.2.2.2.2.2.2.1.length, List.map gi_Goal r.2.2.2.2.2.2.2.2.2.1⟩, ⟨false, false, 1, r.2.2.2.2.2.2.2.2.2.2.1.length, List.map I r.2.2.2.2.2.2.2.2.2.2.1⟩, ⟨false, false, 1, r.2.2.2.2.2.2.2.2.2.2.2.length, List.map I r.2.2.2.2.2.2.2.2.2.2.2⟩]
theorem cw_markScenario {a0 : Gi_Scenario} {a1 : Int} {r : Int × (List Gi_Terrain) × (List Gi_Kind) × (List Int) × (List Int) × (List Int) × (List Gi_Odds) × (List (List Int)) × (List Gi_Unit) × (List Gi_Goal) × (List Int) × (List Int)} (H : Dw_markScenario a0 a1 = some r) : Ct X.P X.gl 11 [.agg [.str a0.Name, .ref 0 5 none, .ref 1 6 none, I a0.Board.Rules.Stack, I a0.Board.Rules.River, I a0.Board.Rules.Road, I a0.Board.Rules.Supply, I a0.Board.Rules.Turns, I a0.Board.Map.Width, I a0.Board.Map.Height, .ref 2 1 none, .ref 3 1 none, .ref 4 1 none, .ref 5 2 none, I a0.Table.Dice, .ref 6 1 none, I a0.Start.Turn, I a0.Start.Weather, .ref 7 4 none, .ref 8 2 none, I a0.Conditions.Step, I a0.Conditions.Margin, .ref 9 1 none, .ref 10 1 none], I a1] [⟨false, false, 5, a0.Board.Rules.Terrains.length, List.map goi_Terrain a0.Board.Rules.Terrains⟩, ⟨false, false, 6, a0.Board.Rules.Kinds.length, List.map gi_Kind a0.Board.Rules.Kinds⟩, ⟨false, false, 1, a0.Board.Map.Terrain.length, List.map I a0.Board.Map.Terrain⟩, ⟨false, false, 1, a0.Board.Map.Rivers.length, List.map I a0.Board.Map.Rivers⟩, ⟨false, false, 1, a0.Board.Map.Roads.length, List.map I a0.Board.Map.Roads⟩, ⟨false, false, 2, a0.Table.Columns.length, List.map gi_Odds a0.Table.Columns⟩, ⟨false, false, 1, a0.Table.Results.length, List.map (ow 1 I) a0.Table.Results⟩, ⟨false, false, 4, a0.Start.Units.length, List.map gi_Unit a0.Start.Units⟩, ⟨false, false, 2, a0.Conditions.Goals.length, List.map gi_Goal a0.Conditions.Goals⟩, ⟨false, false, 1, a0.First.length, List.map I a0.First⟩, ⟨false, false, 1, a0.Other.length, List.map I a0.Other⟩] (Rw_markScenario r) (Nw_markScenario r) :=
  Ct.of func11 (c := bdy f11) (by kernel_rfl) (by kernel_rfl) <|
  eBind H fun r1 hr1 H =>
  eCk H fun h2 H =>
  eCk H fun h3 H =>
  eCk H fun h4 H =>
  eCk H fun h5 H =>
  eCk H fun h6 H =>
  eBind H fun r7 hr7 H =>
  eCk H fun h8 H =>
  eCk H fun h9 H =>
  eBind H fun r10 hr10 H =>
  eCk H fun h11 H =>
  eBind H fun r12 hr12 H =>
  eCk H fun h13 H =>
  eBind H fun r14 hr14 H =>
  eCk H fun h15 H =>
  eBind H fun r16 hr16 H =>
  eCk H fun h17 H =>
  eW Rw_markScenario Nw_markScenario H<|gE func11 [r0, rg [{ i := 3, call := some { cl := true, ins := [0, 1, 2, 3, 4], args := [.agg [.ref 0 5 none, .ref 1 6 none, I a0.Board.Rules.Stack, I a0.Board.Rules.River, I a0.Board.Rules.Road, I a0.Board.Rules.Supply, I a0.Board.Rules.Turns, I a0.Board.Map.Width, I a0.Board.Map.Height, .ref 2 1 none, .ref 3 1 none, .ref 4 1 none], I a1], res := Rw_markBoard r1, G' := Nw_markBoard r1 } }], rg [{ i := 3, call := some { cl := true, ins := [5, 6], args := [.agg [.ref 0 2 none, I a0.Table.Dice, .ref 1 1 none], I r1.1], res := Rw_markCombatTable r7, G' := Nw_markCombatTable r7 } }], rg [hC 3 true [7] (Rw_markState r10) (Nw_markState r10)], rg [hC 3 true [8] (Rw_markConditions r12) (Nw_markConditions r12)], rg [hC 3 true [9] (Rw_markIntS r14) (Nw_markIntS r14)], rg [hC 3 true [10] (Rw_markIntS r16) (Nw_markIntS r16)], r0] (by kernel_rfl) (PN<|PN<|PI a0.Board.Rules.Stack<|PI a0.Board.Rules.River<|PI a0.Board.Rules.Road<|PI a0.Board.Rules.Supply<|PI a0.Board.Rules.Turns<|PI a0.Board.Map.Width<|PI a0.Board.Map.Height<|PN<|PN<|PN<|PI a1<|P1 h2<|P1 h3<|P1 h4<|P1 h5<|P1 h6<|P1 (cw_markBoard hr1)<|PN<|PI a0.Table.Dice<|PN<|PI r1.1<|P1 h8<|P1 h9<|P1 (cw_markCombatTable hr7)<|P1 h11<|P1 (cw_markState hr10)<|P1 h13<|P1 (cw_markConditions hr12)<|P1 h15<|P1 (cw_markIntS hr14)<|P1 h17<|P1 (cw_markIntS hr16)<|P0)
noncomputable def Kw_heldIntS : Sw_heldIntS → List Item
 | .h1 .. => nav 300 2 [] [.code (bdy f13)]
def Zw_heldIntS : Sw_heldIntS → St
 | .h1 va0 k1 i2 => ⟨sts 21 [(0, sl 1 I va0), (1, I k1), (5, I i2)], []⟩
abbrev Qw_heldIntS := Nx X 13 0 Kw_heldIntS Zw_heldIntS RI (fun _ => [])
theorem nw_heldIntS : ∀ s o, Bw_heldIntS s = some o → Qw_heldIntS (Kw_heldIntS s) (Zw_heldIntS s) o
 | .h1 va0 k1 i2, o, H =>
  eIf H (fun h1 H =>
  eCk H fun h2 H =>
  eBind H fun x3 hx3 H =>
  gN [rg [hT 3]] (by kernel_rfl) (P2 ((decide (i2 < ((va0.length : Nat) : Int))) = true) (decide_eq_true h1)<|P0) <|
  eIf H (fun h4 H =>
  eN H fun r hn => gO [rg [hE 3 (I x3), hF 5], r0, r0, .canon [] [0, 1, 5]] (by kernel_rfl) (P1 h2<|P1 (int_lt_of_at h2 hx3)<|P1 (at_map I hx3)<|P2 (((x3 : Int) != k1) = false) (bneF h4)<|P0) hn)
  (fun h4 H =>
  eN H<|gE func13 [rg [hE 3 (I x3), hT 5], r0] (by kernel_rfl) (P1 h2<|P1 (int_lt_of_at h2 hx3)<|P1 (at_map I hx3)<|P2 (((x3 : Int) != k1) = true) (bneT h4)<|P0)))
  (fun h1 H =>
  eN H<|gE func13 [rg [hF 3], r0] (by kernel_rfl) (P2 ((decide (i2 < ((va0.length : Nat) : Int))) = false) (decide_eq_false h1)<|P0))
theorem ww_heldIntS : ∀ s r, loop Bw_heldIntS s = some r → Wc X 13 0 (Kw_heldIntS s) (Zw_heldIntS s) (RI r) ((fun _ => []) r) := Nx.all (nw_heldIntS)
theorem cw_heldIntS {a0 : (List Int)} {a1 : Int} {r : Int} (H : Dw_heldIntS a0 a1 = some r) : Ct X.P X.gl 13 [sl 1 I a0, I a1] [] (RI r) [] :=
  Ct.of func13 (c := bdy f13) (by kernel_rfl) (by kernel_rfl) <|
  gO [r0, r0, .canon [] [0, 1, 5]] (by kernel_rfl) P0 (ww_heldIntS _ _ H)
theorem cw_FnExactLostGoals {a0 : Gw_Scenario} {a1 : Int} {r : Bool} (H : Dw_FnExactLostGoals a0 a1 = some r) : Ct X.P X.gl 3 [gw_Scenario a0, I a1] [] (RB r) [] :=
  Ct.of func3 (c := bdy f3) (by kernel_rfl) (by kernel_rfl) <|
  eBind H fun r1 hr1 H =>
  gS [r0, r0, rg [hC 2 true [] (RI r1) []]] (by kernel_rfl) (P1 (cw_szScenario hr1)<|P0) <|
  eIf H (fun h2 H =>
  eW RB (fun _ => []) H<|gE func3 [rg [hT 1], r0] (by kernel_rfl) (P2 ((decide (r1 < 0)) = true) (decide_eq_true h2)<|P0))
  (fun h2 H =>
  eBind H fun r3 hr3 H =>
  eBind H fun r4 hr4 H =>
  eBind H fun r5 hr5 H =>
  eBind H fun r6 hr6 H =>
  eBind H fun r7 hr7 H =>
  gS [rg [hF 1], rg [hC 1 true [] (Rw_toScenario r3) [], { i := 3, call := some { cl := false, ins := [], args := [gi_Scenario r3, I a1], res := Rs_LostGoals r4, G' := [] } }], rg [hC 1 true [] (Rw_toScenario r5) []], rg [{ i := 2, call := some { cl := false, ins := [], args := [gi_Scenario r5, I a1], res := Ri_LostGoals r6, G' := [] } }]] (by kernel_rfl) (P2 ((decide (r1 < 0)) = false) (decide_eq_false h2)<|P1 (cw_toScenario hr3)<|PI r3.Name<|PE ero_152 r3.Board.Rules.Terrains<|PL gi_Kind r3.Board.Rules.Kinds<|PI r3.Board.Rules.Stack<|PI r3.Board.Rules.River<|PI r3.Board.Rules.Road<|PI r3.Board.Rules.Supply<|PI r3.Board.Rules.Turns<|PI r3.Board.Map.Width<|PI r3.Board.Map.Height<|PL I r3.Board.Map.Terrain<|PL I r3.Board.Map.Rivers<|PL I r3.Board.Map.Roads<|PL gi_Odds r3.Table.Columns<|PI r3.Table.Dice<|PE ero_26 r3.Table.Results<|PI r3.Start.Turn<|PI r3.Start.Weather<|PL gi_Unit r3.Start.Units<|PL gi_Goal r3.Conditions.Goals<|PI r3.Conditions.Step<|PI r3.Conditions.Margin<|PL I r3.First<|PL I r3.Other<|PI a1<|P2 (nfL (List.flatMap D.cells (Rs_LostGoals r4))) ⟨nfL_map nf_3 _, trivial, trivial⟩<|P2 (nfG []) trivial<|P1 (cs_LostGoals hr4)<|P1 (cw_toScenario hr5)<|PI r5.Name<|PE ero_152 r5.Board.Rules.Terrains<|PL gi_Kind r5.Board.Rules.Kinds<|PI r5.Board.Rules.Stack<|PI r5.Board.Rules.River<|PI r5.Board.Rules.Road<|PI r5.Board.Rules.Supply<|PI r5.Board.Rules.Turns<|PI r5.Board.Map.Width<|PI r5.Board.Map.Height<|PL I r5.Board.Map.Terrain<|PL I r5.Board.Map.Rivers<|PL I r5.Board.Map.Roads<|PL gi_Odds r5.Table.Columns<|PI r5.Table.Dice<|PE ero_26 r5.Table.Results<|PI r5.Start.Turn<|PI r5.Start.Weather<|PL gi_Unit r5.Start.Units<|PL gi_Goal r5.Conditions.Goals<|PI r5.Conditions.Step<|PI r5.Conditions.Margin<|PL I r5.First<|PL I r5.Other<|PI a1<|P2 (nfL (List.flatMap D.cells (Ri_LostGoals r6))) ⟨nfL_map nf_3 _, trivial, trivial⟩<|P2 (nfG []) trivial<|P1 (ci_LostGoals hr6)<|P0) <|
  eIf H (fun h8 H =>
  eIf H (fun h9 H =>
  eW RB (fun _ => []) H<|gE func3 [rg [{ i := 2, call := some { cl := false, auto := true, ins := [], res := (RB r7), G' := [] }, dec := some true }, hT 7], r0] (by kernel_rfl) (P1 (cw_eqIntS hr7)<|P2 (r7 = true) (h8)<|P2 ((!(r6.2 == r4.2)) = true) (h9)<|P0))
  (fun h9 H =>
  eBind H fun r10 hr10 H =>
  eBind H fun r11 hr11 H =>
  gS [rg [{ i := 2, call := some { cl := false, auto := true, ins := [], res := (RB r7), G' := [] }, dec := some true }, hF 7]] (by kernel_rfl) (P1 (cw_eqIntS hr7)<|P2 (r7 = true) (h8)<|P2 ((!(r6.2 == r4.2)) = false) (eqF h9)<|P0) <|
  eIf H (fun h12 H =>
  eBind H fun r13 hr13 H =>
  eCk H fun h14 H =>
  eCk H fun h15 H =>
  eCk H fun h16 H =>
  eCk H fun h17 H =>
  eCk H fun h18 H =>
  eCk H fun h19 H =>
  eCk H fun h20 H =>
  eCk H fun h21 H =>
  eCk H fun h22 H =>
  eCk H fun h23 H =>
  eCk H fun h24 H =>
  gS [rg [hC 2 true [] (Rw_toScenario r10) [], { i := 3, call := some { cl := false, ins := [], args := [gi_Scenario r5, gi_Scenario r10], res := RB r11, G' := [] }, dec := some true }], r0, rg [{ i := 2, call := some { cl := true, ins := [27, 28, 36, 37, 38, 39, 41, 44, 45, 48, 49], args := [.agg [.str r5.Name, .ref 0 5 none, .ref 1 6 none, I r5.Board.Rules.Stack, I r5.Board.Rules.River, I r5.Board.Rules.Road, I r5.Board.Rules.Supply, I r5.Board.Rules.Turns, I r5.Board.Map.Width, I r5.Board.Map.Height, .ref 2 1 none, .ref 3 1 none, .ref 4 1 none, .ref 5 2 none, I r5.Table.Dice, .ref 6 1 none, I r5.Start.Turn, I r5.Start.Weather, .ref 7 4 none, .ref 8 2 none, I r5.Conditions.Step, I r5.Conditions.Margin, .ref 9 1 none, .ref 10 1 none], I 1], res := Rw_markScenario r13, G' := Nw_markScenario r13 } }]] (by kernel_rfl) (P1 (cw_toScenario hr10)<|PI r5.Name<|PE ero_152 r5.Board.Rules.Terrains<|PL gi_Kind r5.Board.Rules.Kinds<|PI r5.Board.Rules.Stack<|PI r5.Board.Rules.River<|PI r5.Board.Rules.Road<|PI r5.Board.Rules.Supply<|PI r5.Board.Rules.Turns<|PI r5.Board.Map.Width<|PI r5.Board.Map.Height<|PL I r5.Board.Map.Terrain<|PL I r5.Board.Map.Rivers<|PL I r5.Board.Map.Roads<|PL gi_Odds r5.Table.Columns<|PI r5.Table.Dice<|PE ero_26 r5.Table.Results<|PI r5.Start.Turn<|PI r5.Start.Weather<|PL gi_Unit r5.Start.Units<|PL gi_Goal r5.Conditions.Goals<|PI r5.Conditions.Step<|PI r5.Conditions.Margin<|PL I r5.First<|PL I r5.Other<|PI r10.Name<|PE ero_152 r10.Board.Rules.Terrains<|PL gi_Kind r10.Board.Rules.Kinds<|PI r10.Board.Rules.Stack<|PI r10.Board.Rules.River<|PI r10.Board.Rules.Road<|PI r10.Board.Rules.Supply<|PI r10.Board.Rules.Turns<|PI r10.Board.Map.Width<|PI r10.Board.Map.Height<|PL I r10.Board.Map.Terrain<|PL I r10.Board.Map.Rivers<|PL I r10.Board.Map.Roads<|PL gi_Odds r10.Table.Columns<|PI r10.Table.Dice<|PE ero_26 r10.Table.Results<|PI r10.Start.Turn<|PI r10.Start.Weather<|PL gi_Unit r10.Start.Units<|PL gi_Goal r10.Conditions.Goals<|PI r10.Conditions.Step<|PI r10.Conditions.Margin<|PL I r10.First<|PL I r10.Other<|P1 (cw_eqScenario hr11)<|P2 (r11 = true) (h12)<|PI r5.Name<|PN<|PN<|PI r5.Board.Rules.Stack<|PI r5.Board.Rules.River<|PI r5.Board.Rules.Road<|PI r5.Board.Rules.Supply<|PI r5.Board.Rules.Turns<|PI r5.Board.Map.Width<|PI r5.Board.Map.Height<|PN<|PN<|PN<|PN<|PI r5.Table.Dice<|PN<|PI r5.Start.Turn<|PI r5.Start.Weather<|PN<|PN<|PI r5.Conditions.Step<|PI r5.Conditions.Margin<|PN<|PN<|PI (1 : Int)<|P1 h14<|P1 h15<|P1 h16<|P1 h17<|P1 h18<|P1 h19<|P1 h20<|P1 h21<|P1 h22<|P1 h23<|P1 h24<|P1 (cw_markScenario hr13)<|P0) <|
  eIf H (fun h25 H =>
  eW RB (fun _ => []) H<|gE func3 [rg [hT 1], r0] (by kernel_rfl) (P2 ((decide (r13.1 < 0)) = true) (decide_eq_true h25)<|P0))
  (fun h25 H =>
  eBind H fun r26 hr26 H =>
  eIf H (fun h27 H =>
  eIf H (fun h28 H =>
  eW RB (fun _ => []) H<|gE func3 [rg [hF 1, { i := 5, call := some { cl := false, auto := true, ins := [], res := (RB r26), G' := [] }, dec := some true }, hT 11], r0] (by kernel_rfl) (P2 ((decide (r13.1 < 0)) = false) (decide_eq_false h25)<|P1 (cw_eqIntS hr26)<|P2 (r26 = true) (h27)<|P2 ((!(r6.2 == r4.2)) = true) (h28)<|P0))
  (fun h28 H =>
  eBind H fun r29 hr29 H =>
  eCk H fun h30 H =>
  eBind H fun r31 hr31 H =>
  gS [rg [hF 1, { i := 5, call := some { cl := false, auto := true, ins := [], res := (RB r26), G' := [] }, dec := some true }, hF 11], r0, rg [hC 2 true [51] (Rw_markIntS r29) (Nw_markIntS r29)], r0, rg [hC 2 false [] (RI r31) []]] (by kernel_rfl) (P2 ((decide (r13.1 < 0)) = false) (decide_eq_false h25)<|P1 (cw_eqIntS hr26)<|P2 (r26 = true) (h27)<|P2 ((!(r6.2 == r4.2)) = false) (eqF h28)<|P1 h30<|P1 (cw_markIntS hr29)<|P1 (cw_heldIntS hr31)<|P0) <|
  eIf H (fun h32 H =>
  eW RB (fun _ => []) H<|gE func3 [rg [hT 1], r0] (by kernel_rfl) (P2 ((decide (r31 < 0)) = true) (decide_eq_true h32)<|P0))
  (fun h32 H =>
  gS [rg [hF 1]] (by kernel_rfl) (P2 ((decide (r31 < 0)) = false) (decide_eq_false h32)<|P0) <|
  eIf H (fun h33 H =>
  eBind H fun r34 hr34 H =>
  eBind H fun r35 hr35 H =>
  eBind H fun r36 hr36 H =>
  gS [rg [hF 2], rg [hC 1 true [] (Rw_toScenario r34) [], { i := 3, call := some { cl := false, ins := [], args := [gi_Scenario r34, I a1], res := Ri_LostGoals r35, G' := [] } }]] (by kernel_rfl) (P2 (((r31 : Int) != r29.1) = false) (bneF h33)<|P1 (cw_toScenario hr34)<|PI r34.Name<|PE ero_152 r34.Board.Rules.Terrains<|PL gi_Kind r34.Board.Rules.Kinds<|PI r34.Board.Rules.Stack<|PI r34.Board.Rules.River<|PI r34.Board.Rules.Road<|PI r34.Board.Rules.Supply<|PI r34.Board.Rules.Turns<|PI r34.Board.Map.Width<|PI r34.Board.Map.Height<|PL I r34.Board.Map.Terrain<|PL I r34.Board.Map.Rivers<|PL I r34.Board.Map.Roads<|PL gi_Odds r34.Table.Columns<|PI r34.Table.Dice<|PE ero_26 r34.Table.Results<|PI r34.Start.Turn<|PI r34.Start.Weather<|PL gi_Unit r34.Start.Units<|PL gi_Goal r34.Conditions.Goals<|PI r34.Conditions.Step<|PI r34.Conditions.Margin<|PL I r34.First<|PL I r34.Other<|PI a1<|P2 (nfL (List.flatMap D.cells (Ri_LostGoals r35))) ⟨nfL_map nf_3 _, trivial, trivial⟩<|P2 (nfG []) trivial<|P1 (ci_LostGoals hr35)<|P0) <|
  eIf H (fun h37 H =>
  eIf H (fun h38 H =>
  eW RB (fun _ => []) H<|gE func3 [rg [{ i := 2, call := some { cl := false, auto := true, ins := [], res := (RB r36), G' := [] }, dec := some true }, hT 7], r0] (by kernel_rfl) (P1 (cw_eqIntS hr36)<|P2 (r36 = true) (h37)<|P2 ((!(r35.2 == r4.2)) = true) (h38)<|P0))
  (fun h38 H =>
  eBind H fun r39 hr39 H =>
  gS [rg [{ i := 2, call := some { cl := false, auto := true, ins := [], res := (RB r36), G' := [] }, dec := some true }, hF 7], r0, rg [hC 2 false [] (RI r39) []]] (by kernel_rfl) (P1 (cw_eqIntS hr36)<|P2 (r36 = true) (h37)<|P2 ((!(r35.2 == r4.2)) = false) (eqF h38)<|P1 (cw_heldIntS hr39)<|P0) <|
  eIf H (fun h40 H =>
  eW RB (fun _ => []) H<|gE func3 [rg [hT 1], r0] (by kernel_rfl) (P2 ((decide (r39 < 0)) = true) (decide_eq_true h40)<|P0))
  (fun h40 H =>
  gS [rg [hF 1]] (by kernel_rfl) (P2 ((decide (r39 < 0)) = false) (decide_eq_false h40)<|P0) <|
  eIf H (fun h41 H =>
  eW RB (fun _ => []) H<|gE func3 [rg [hF 2], r0] (by kernel_rfl) (P2 (((r39 : Int) != r29.1) = false) (bneF h41)<|P0))
  (fun h41 H =>
  eW RB (fun _ => []) H<|gE func3 [rg [hT 2], r0] (by kernel_rfl) (P2 (((r39 : Int) != r29.1) = true) (bneT h41)<|P0)))))
  (fun h37 H =>
  eW RB (fun _ => []) H<|gE func3 [rg [{ i := 2, call := some { cl := false, auto := true, ins := [], res := (RB r36), G' := [] }, dec := some false }], r0] (by kernel_rfl) (P1 (cw_eqIntS hr36)<|P2 (r36 = false) (eqF h37)<|P0)))
  (fun h33 H =>
  eW RB (fun _ => []) H<|gE func3 [rg [hT 2], r0] (by kernel_rfl) (P2 (((r31 : Int) != r29.1) = true) (bneT h33)<|P0)))))
  (fun h27 H =>
  eW RB (fun _ => []) H<|gE func3 [rg [hF 1, { i := 5, call := some { cl := false, auto := true, ins := [], res := (RB r26), G' := [] }, dec := some false }], r0] (by kernel_rfl) (P2 ((decide (r13.1 < 0)) = false) (decide_eq_false h25)<|P1 (cw_eqIntS hr26)<|P2 (r26 = false) (eqF h27)<|P0))))
  (fun h12 H =>
  eW RB (fun _ => []) H<|gE func3 [rg [hC 2 true [] (Rw_toScenario r10) [], { i := 3, call := some { cl := false, ins := [], args := [gi_Scenario r5, gi_Scenario r10], res := RB r11, G' := [] }, dec := some false }], r0] (by kernel_rfl) (P1 (cw_toScenario hr10)<|PI r5.Name<|PE ero_152 r5.Board.Rules.Terrains<|PL gi_Kind r5.Board.Rules.Kinds<|PI r5.Board.Rules.Stack<|PI r5.Board.Rules.River<|PI r5.Board.Rules.Road<|PI r5.Board.Rules.Supply<|PI r5.Board.Rules.Turns<|PI r5.Board.Map.Width<|PI r5.Board.Map.Height<|PL I r5.Board.Map.Terrain<|PL I r5.Board.Map.Rivers<|PL I r5.Board.Map.Roads<|PL gi_Odds r5.Table.Columns<|PI r5.Table.Dice<|PE ero_26 r5.Table.Results<|PI r5.Start.Turn<|PI r5.Start.Weather<|PL gi_Unit r5.Start.Units<|PL gi_Goal r5.Conditions.Goals<|PI r5.Conditions.Step<|PI r5.Conditions.Margin<|PL I r5.First<|PL I r5.Other<|PI r10.Name<|PE ero_152 r10.Board.Rules.Terrains<|PL gi_Kind r10.Board.Rules.Kinds<|PI r10.Board.Rules.Stack<|PI r10.Board.Rules.River<|PI r10.Board.Rules.Road<|PI r10.Board.Rules.Supply<|PI r10.Board.Rules.Turns<|PI r10.Board.Map.Width<|PI r10.Board.Map.Height<|PL I r10.Board.Map.Terrain<|PL I r10.Board.Map.Rivers<|PL I r10.Board.Map.Roads<|PL gi_Odds r10.Table.Columns<|PI r10.Table.Dice<|PE ero_26 r10.Table.Results<|PI r10.Start.Turn<|PI r10.Start.Weather<|PL gi_Unit r10.Start.Units<|PL gi_Goal r10.Conditions.Goals<|PI r10.Conditions.Step<|PI r10.Conditions.Margin<|PL I r10.First<|PL I r10.Other<|P1 (cw_eqScenario hr11)<|P2 (r11 = false) (eqF h12)<|P0))))
  (fun h8 H =>
  eW RB (fun _ => []) H<|gE func3 [rg [{ i := 2, call := some { cl := false, auto := true, ins := [], res := (RB r7), G' := [] }, dec := some false }], r0] (by kernel_rfl) (P1 (cw_eqIntS hr7)<|P2 (r7 = false) (eqF h8)<|P0)))
end Go.Proofs.YtdafkeddonfjkaaGreatDoor.Ab
