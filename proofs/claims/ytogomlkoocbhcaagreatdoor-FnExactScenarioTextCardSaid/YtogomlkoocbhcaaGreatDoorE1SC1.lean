/- Part of the proof of FnExactScenarioTextCard: no condition of its own. -/
import Derived.Test.YtogomlkoocbhcaaGreatDoorE1SC
set_option linter.unusedVariables false
set_option linter.unusedSimpArgs false
open Go Go.Proofs Go.Proofs.Tryz
namespace Go.Proofs.YtogomlkoocbhcaaGreatDoor.Ab
noncomputable def Ki_goodState : Si_goodState → List Item
 | .h1 .. => nav 300 4 [false] [.code (bdy f107)]
def Zi_goodState : Si_goodState → St
 | .h1 t0 t1 t2 b3 l4 => ⟨sts 80 [(2, .ptr 0 12 0 0), (5, .ref 1 2 none), (31, sl 4 gi_Unit t0), (32, I t1), (33, I t2)], [some ⟨false, true, 12, 1, [gi_Board b3]⟩, some ⟨false, false, 2, l4.length, List.map gA2I l4⟩]⟩
abbrev Qi_goodState := Nx X 107 0 Ki_goodState Zi_goodState RB (fun _ => [])
theorem ni_goodState : ∀ s o, Bi_goodState s = some o → Qi_goodState (Ki_goodState s) (Zi_goodState s) o
 | .h1 t0 t1 t2 b3 l4, o, H =>
  eIf H (fun h1 H =>
  eCk H fun h2 H =>
  eBind H fun x3 hx3 H =>
  eBind H fun r4 hr4 H =>
  gN [rg [hT 0], rg [hE 1 (gi_Unit x3)]] (by kernel_rfl) (P2 ((decide (t2 < t1)) = true) (decide_eq_true h1)<|P1 h2<|P1 (int_lt_of_at h2 hx3)<|P1 (at_map gi_Unit hx3)<|P0) <|
  eIf H (fun h5 H =>
  gN [rg [{ i := 2, call := some { cl := true, auto := true, ins := [], res := (RB r4), G' := [] }, dec := some true }]] (by kernel_rfl) (P1 (ci_goodUnit hr4)<|P2 (r4 = true) (h5)<|P0) <|
  eIf H (fun h6 H =>
  eN H fun r hn => gO [rg [hT 2], r0, .canon [0, 1] [2, 5, 31, 32, 33]] (by kernel_rfl) (P2 ((decide (x3.At < 0)) = true) (decide_eq_true h6)<|P0) hn)
  (fun h6 H =>
  eCk H fun h7 H =>
  eBind H fun x8 hx8 H =>
  gN [rg [hF 2]] (by kernel_rfl) (P2 ((decide (x3.At < 0)) = false) (decide_eq_false h6)<|P0) <|
  eIf H (fun h9 H =>
  eCk H fun h10 H =>
  eBind H fun x11 hx11 H =>
  eCk H fun h12 H =>
  eBind H fun x13 hx13 H =>
  gN [rg [{ i := 6, n := 0 }, hE 7 (gA2I x8), { i := 10, n := 0 }, hA 11 ((List.set l4 (Int.toNat x3.At) (GA2I.mk (IntKind.wrap .i64 (x8.c0 + 1)) x11.c1)).length) (List.map gA2I (List.set l4 (Int.toNat x3.At) (GA2I.mk (IntKind.wrap .i64 (x8.c0 + 1)) x11.c1)))]] (by kernel_rfl) (P1 h7<|P1 (int_lt_of_at h7 hx8)<|P1 h9<|P1 (at_map gA2I hx8)<|P1 h10<|P1 (int_lt_of_at h10 hx11)<|P1 h9<|P1 (lt_of_at hx11)<|P2 (setCells (List.map gA2I l4) (Int.toNat x3.At) 0 [I (IntKind.wrap .i64 (x8.c0 + 1))] = List.map gA2I (List.set l4 (Int.toNat x3.At) (GA2I.mk (IntKind.wrap .i64 (x8.c0 + 1)) x11.c1))) (setCells_map hx11 rfl)<|P1 (setLen l4 (Int.toNat x3.At) (GA2I.mk (IntKind.wrap .i64 (x8.c0 + 1)) x11.c1))<|P0) <|
  eIf H (fun h14 H =>
  eIf H (fun h15 H =>
  eN H<|gE func107 [rg [{ i := 7, n := 0 }, hE 8 (gA2I x13), hT 9], r0] (by kernel_rfl) (P1 h12<|P1 (int_lt_of_at h12 hx13)<|P1 h14<|P1 (at_map gA2I hx13)<|P2 ((decide (x13.c0 > 0)) = true) (decide_eq_true h15)<|P0))
  (fun h15 H =>
  eCk H fun h16 H =>
  eBind H fun x17 hx17 H =>
  eIf H (fun h18 H =>
  eN H<|gE func107 [rg [{ i := 7, n := 0 }, hE 8 (gA2I x13), hF 9, { i := 17, n := 0 }, hE 18 (gA2I x17), hT 22], r0] (by kernel_rfl) (P1 h12<|P1 (int_lt_of_at h12 hx13)<|P1 h14<|P1 (at_map gA2I hx13)<|P2 ((decide (x13.c0 > 0)) = false) (decide_eq_false h15)<|P1 h16<|P1 (int_lt_of_at h16 hx17)<|P1 h9<|P1 (at_map gA2I hx17)<|P2 ((decide (x17.c0 > b3.Rules.Stack)) = true) (decide_eq_true h18)<|P0))
  (fun h18 H =>
  eN H fun r hn => gO [rg [{ i := 7, n := 0 }, hE 8 (gA2I x13), hF 9, { i := 17, n := 0 }, hE 18 (gA2I x17), hF 22], r0, .canon [0, 1] [2, 5, 31, 32, 33]] (by kernel_rfl) (P1 h12<|P1 (int_lt_of_at h12 hx13)<|P1 h14<|P1 (at_map gA2I hx13)<|P2 ((decide (x13.c0 > 0)) = false) (decide_eq_false h15)<|P1 h16<|P1 (int_lt_of_at h16 hx17)<|P1 h9<|P1 (at_map gA2I hx17)<|P2 ((decide (x17.c0 > b3.Rules.Stack)) = false) (decide_eq_false h18)<|P0) hn)))
  (fun h14 H =>
  eCk H fun h15 H =>
  eIf H (fun h16 H =>
  eN H<|gE func107 [rg [{ i := 7, n := 1 }, hE 8 (gA2I x13), hT 9], r0] (by kernel_rfl) (P1 h12<|P1 (int_lt_of_at h12 hx13)<|P1 h15<|P1 (at_map gA2I hx13)<|P2 ((decide (x13.c1 > 0)) = true) (decide_eq_true h16)<|P0))
  (fun h16 H =>
  eCk H fun h17 H =>
  eBind H fun x18 hx18 H =>
  eIf H (fun h19 H =>
  eN H<|gE func107 [rg [{ i := 7, n := 1 }, hE 8 (gA2I x13), hF 9, { i := 17, n := 0 }, hE 18 (gA2I x18), hT 22], r0] (by kernel_rfl) (P1 h12<|P1 (int_lt_of_at h12 hx13)<|P1 h15<|P1 (at_map gA2I hx13)<|P2 ((decide (x13.c1 > 0)) = false) (decide_eq_false h16)<|P1 h17<|P1 (int_lt_of_at h17 hx18)<|P1 h9<|P1 (at_map gA2I hx18)<|P2 ((decide (x18.c0 > b3.Rules.Stack)) = true) (decide_eq_true h19)<|P0))
  (fun h19 H =>
  eN H fun r hn => gO [rg [{ i := 7, n := 1 }, hE 8 (gA2I x13), hF 9, { i := 17, n := 0 }, hE 18 (gA2I x18), hF 22], r0, .canon [0, 1] [2, 5, 31, 32, 33]] (by kernel_rfl) (P1 h12<|P1 (int_lt_of_at h12 hx13)<|P1 h15<|P1 (at_map gA2I hx13)<|P2 ((decide (x13.c1 > 0)) = false) (decide_eq_false h16)<|P1 h17<|P1 (int_lt_of_at h17 hx18)<|P1 h9<|P1 (at_map gA2I hx18)<|P2 ((decide (x18.c0 > b3.Rules.Stack)) = false) (decide_eq_false h19)<|P0) hn))))
  (fun h9 H =>
  eCk H fun h10 H =>
  eCk H fun h11 H =>
  eBind H fun x12 hx12 H =>
  eCk H fun h13 H =>
  eBind H fun x14 hx14 H =>
  gN [rg [{ i := 6, n := 1 }, hE 7 (gA2I x8), { i := 10, n := 1 }, hA 11 ((List.set l4 (Int.toNat x3.At) (GA2I.mk x12.c0 (IntKind.wrap .i64 (x8.c1 + 1)))).length) (List.map gA2I (List.set l4 (Int.toNat x3.At) (GA2I.mk x12.c0 (IntKind.wrap .i64 (x8.c1 + 1)))))]] (by kernel_rfl) (P1 h7<|P1 (int_lt_of_at h7 hx8)<|P1 h10<|P1 (at_map gA2I hx8)<|P1 h11<|P1 (int_lt_of_at h11 hx12)<|P1 h10<|P1 (lt_of_at hx12)<|P2 (setCells (List.map gA2I l4) (Int.toNat x3.At) 1 [I (IntKind.wrap .i64 (x8.c1 + 1))] = List.map gA2I (List.set l4 (Int.toNat x3.At) (GA2I.mk x12.c0 (IntKind.wrap .i64 (x8.c1 + 1))))) (setCells_map hx12 rfl)<|P1 (setLen l4 (Int.toNat x3.At) (GA2I.mk x12.c0 (IntKind.wrap .i64 (x8.c1 + 1))))<|P0) <|
  eIf H (fun h15 H =>
  eIf H (fun h16 H =>
  eN H<|gE func107 [rg [{ i := 7, n := 0 }, hE 8 (gA2I x14), hT 9], r0] (by kernel_rfl) (P1 h13<|P1 (int_lt_of_at h13 hx14)<|P1 h15<|P1 (at_map gA2I hx14)<|P2 ((decide (x14.c0 > 0)) = true) (decide_eq_true h16)<|P0))
  (fun h16 H =>
  eCk H fun h17 H =>
  eBind H fun x18 hx18 H =>
  eIf H (fun h19 H =>
  eN H<|gE func107 [rg [{ i := 7, n := 0 }, hE 8 (gA2I x14), hF 9, { i := 17, n := 1 }, hE 18 (gA2I x18), hT 22], r0] (by kernel_rfl) (P1 h13<|P1 (int_lt_of_at h13 hx14)<|P1 h15<|P1 (at_map gA2I hx14)<|P2 ((decide (x14.c0 > 0)) = false) (decide_eq_false h16)<|P1 h17<|P1 (int_lt_of_at h17 hx18)<|P1 h10<|P1 (at_map gA2I hx18)<|P2 ((decide (x18.c1 > b3.Rules.Stack)) = true) (decide_eq_true h19)<|P0))
  (fun h19 H =>
  eN H fun r hn => gO [rg [{ i := 7, n := 0 }, hE 8 (gA2I x14), hF 9, { i := 17, n := 1 }, hE 18 (gA2I x18), hF 22], r0, .canon [0, 1] [2, 5, 31, 32, 33]] (by kernel_rfl) (P1 h13<|P1 (int_lt_of_at h13 hx14)<|P1 h15<|P1 (at_map gA2I hx14)<|P2 ((decide (x14.c0 > 0)) = false) (decide_eq_false h16)<|P1 h17<|P1 (int_lt_of_at h17 hx18)<|P1 h10<|P1 (at_map gA2I hx18)<|P2 ((decide (x18.c1 > b3.Rules.Stack)) = false) (decide_eq_false h19)<|P0) hn)))
  (fun h15 H =>
  eCk H fun h16 H =>
  eIf H (fun h17 H =>
  eN H<|gE func107 [rg [{ i := 7, n := 1 }, hE 8 (gA2I x14), hT 9], r0] (by kernel_rfl) (P1 h13<|P1 (int_lt_of_at h13 hx14)<|P1 h16<|P1 (at_map gA2I hx14)<|P2 ((decide (x14.c1 > 0)) = true) (decide_eq_true h17)<|P0))
  (fun h17 H =>
  eCk H fun h18 H =>
  eBind H fun x19 hx19 H =>
  eIf H (fun h20 H =>
  eN H<|gE func107 [rg [{ i := 7, n := 1 }, hE 8 (gA2I x14), hF 9, { i := 17, n := 1 }, hE 18 (gA2I x19), hT 22], r0] (by kernel_rfl) (P1 h13<|P1 (int_lt_of_at h13 hx14)<|P1 h16<|P1 (at_map gA2I hx14)<|P2 ((decide (x14.c1 > 0)) = false) (decide_eq_false h17)<|P1 h18<|P1 (int_lt_of_at h18 hx19)<|P1 h10<|P1 (at_map gA2I hx19)<|P2 ((decide (x19.c1 > b3.Rules.Stack)) = true) (decide_eq_true h20)<|P0))
  (fun h20 H =>
  eN H fun r hn => gO [rg [{ i := 7, n := 1 }, hE 8 (gA2I x14), hF 9, { i := 17, n := 1 }, hE 18 (gA2I x19), hF 22], r0, .canon [0, 1] [2, 5, 31, 32, 33]] (by kernel_rfl) (P1 h13<|P1 (int_lt_of_at h13 hx14)<|P1 h16<|P1 (at_map gA2I hx14)<|P2 ((decide (x14.c1 > 0)) = false) (decide_eq_false h17)<|P1 h18<|P1 (int_lt_of_at h18 hx19)<|P1 h10<|P1 (at_map gA2I hx19)<|P2 ((decide (x19.c1 > b3.Rules.Stack)) = false) (decide_eq_false h20)<|P0) hn))))))
  (fun h5 H =>
  eN H<|gE func107 [rg [{ i := 2, call := some { cl := true, auto := true, ins := [], res := (RB r4), G' := [] }, dec := some false }], r0] (by kernel_rfl) (P1 (ci_goodUnit hr4)<|P2 (r4 = false) (eqF h5)<|P0)))
  (fun h1 H =>
  eN H<|gE func107 [rg [hF 0], r0] (by kernel_rfl) (P2 ((decide (t2 < t1)) = false) (decide_eq_false h1)<|P0))
theorem wi_goodState : ∀ s r, loop Bi_goodState s = some r → Wc X 107 0 (Ki_goodState s) (Zi_goodState s) (RB r) ((fun _ => []) r) := Nx.all (ni_goodState)
theorem ci_goodState {a0 : Gi_Board} {a1 : Gi_State} {r : Bool} (H : Di_goodState a0 a1 = some r) : Ct X.P X.gl 107 [gi_Board a0, gi_State a1] [] (RB r) [] :=
 Ct.of func107 (c := bdy f107) (by kernel_rfl) (by kernel_rfl) <|
 eBind H fun r1 hr1 H =>
 gS [r0] (by kernel_rfl) P0 <|
 eIf H (fun h2 H =>
 eBind H fun r3 hr3 H =>
 eIf H (fun h4 H =>
 eIf H (fun h5 H =>
 eW RB (fun _ => []) H<|gE func107 [rg [{ i := 5, call := some { cl := true, auto := true, ins := [], res := (RB r1), G' := [] }, dec := some true }, { i := 10, call := some { cl := true, auto := true, ins := [], res := (RB r3), G' := [] }, dec := some true }, hT 17], r0] (by kernel_rfl) (P1 (ci_inRange hr1)<|P2 (r1 = true) (h2)<|P1 (ci_inRange hr3)<|P2 (r3 = true) (h4)<|P2 ((decide (((a1.Units.length : Nat) : Int) > 12)) = true) (decide_eq_true h5)<|P0))
 (fun h5 H =>
 eBind H fun r6 hr6 H =>
 eCk H fun h7 H =>
 eCk H fun h8 H =>
 gO [rg [{ i := 5, call := some { cl := true, auto := true, ins := [], res := (RB r1), G' := [] }, dec := some true }, { i := 10, call := some { cl := true, auto := true, ins := [], res := (RB r3), G' := [] }, dec := some true }, hF 17], rg [hC 1 true [] (RI r6) [], hA 2 ((List.replicate (Int.toNat r6) (GA2I.mk 0 0)).length) (List.map gA2I (List.replicate (Int.toNat r6) (GA2I.mk 0 0)))], r0, .canon [0, 2] [2, 5, 31, 32, 33]] (by kernel_rfl) (P1 (ci_inRange hr1)<|P2 (r1 = true) (h2)<|P1 (ci_inRange hr3)<|P2 (r3 = true) (h4)<|P2 ((decide (((a1.Units.length : Nat) : Int) > 12)) = false) (decide_eq_false h5)<|P1 (ci_sizeOf hr6)<|PI r6<|P2 ((0 : Int) ≤ r6) h7<|P2 (Int.toNat r6 * 16 ≤ 140737488355328) h8<|P1 (repLen (Int.toNat r6) (GA2I.mk 0 0))<|P1 (repMap gA2I (Int.toNat r6) (GA2I.mk 0 0))<|P0) (wi_goodState _ _ H)))
 (fun h4 H =>
 eW RB (fun _ => []) H<|gE func107 [rg [{ i := 5, call := some { cl := true, auto := true, ins := [], res := (RB r1), G' := [] }, dec := some true }, { i := 10, call := some { cl := true, auto := true, ins := [], res := (RB r3), G' := [] }, dec := some false }], r0] (by kernel_rfl) (P1 (ci_inRange hr1)<|P2 (r1 = true) (h2)<|P1 (ci_inRange hr3)<|P2 (r3 = false) (eqF h4)<|P0)))
 (fun h2 H =>
 eW RB (fun _ => []) H<|gE func107 [rg [{ i := 5, call := some { cl := true, auto := true, ins := [], res := (RB r1), G' := [] }, dec := some false }], r0] (by kernel_rfl) (P1 (ci_inRange hr1)<|P2 (r1 = false) (eqF h2)<|P0))
noncomputable def Ki_goodConditions : Si_goodConditions → List Item
 | .h1 .. => nav 300 3 [false] [.code (bdy f108)]
def Zi_goodConditions : Si_goodConditions → St
 | .h1 t0 t1 t2 b3 b4 => ⟨sts 60 [(2, .ptr 0 12 0 0), (3, .ptr 1 3 0 0), (24, sl 2 gi_Goal t0), (25, I t1), (26, I t2)], [some ⟨false, true, 12, 1, [gi_Board b3]⟩, some ⟨false, true, 3, 1, [gi_Conditions b4]⟩]⟩
abbrev Qi_goodConditions := Nx X 108 0 Ki_goodConditions Zi_goodConditions RB (fun _ => [])
theorem ni_goodConditions : ∀ s o, Bi_goodConditions s = some o → Qi_goodConditions (Ki_goodConditions s) (Zi_goodConditions s) o
 | .h1 t0 t1 t2 b3 b4, o, H =>
  eIf H (fun h1 H =>
  eCk H fun h2 H =>
  eBind H fun x3 hx3 H =>
  eBind H fun r4 hr4 H =>
  eBind H fun r5 hr5 H =>
  gN [rg [hT 0], rg [hE 2 (gi_Goal x3)]] (by kernel_rfl) (P2 ((decide (t2 < t1)) = true) (decide_eq_true h1)<|P1 h2<|P1 (int_lt_of_at h2 hx3)<|P1 (at_map gi_Goal hx3)<|P0) <|
  eIf H (fun h6 H =>
  eBind H fun r7 hr7 H =>
  eIf H (fun h8 H =>
  eIf H (fun h9 H =>
  eCk H fun h10 H =>
  eBind H fun x11 hx11 H =>
  eIf H (fun h12 H =>
  eN H<|gE func108 [rg [hC 3 true [] (RI r4) [], { i := 4, call := some { cl := true, auto := true, ins := [], res := (RB r5), G' := [] }, dec := some true }, { i := 9, call := some { cl := true, auto := true, ins := [], res := (RB r7), G' := [] }, dec := some true }, hT 14, hE 22 (gi_Goal x11), hT 25], r0] (by kernel_rfl) (P1 (ci_sizeOf hr4)<|P1 (ci_isIndex hr5)<|P2 (r5 = true) (h6)<|P1 (ci_inRange hr7)<|P2 (r7 = true) (h8)<|P2 ((decide (t2 > 0)) = true) (decide_eq_true h9)<|P1 h10<|P1 (int_lt_of_at h10 hx11)<|P1 (at_map gi_Goal hx11)<|P2 ((decide (x11.At ≥ x3.At)) = true) (decide_eq_true h12)<|P0))
  (fun h12 H =>
  eN H fun r hn => gO [rg [hC 3 true [] (RI r4) [], { i := 4, call := some { cl := true, auto := true, ins := [], res := (RB r5), G' := [] }, dec := some true }, { i := 9, call := some { cl := true, auto := true, ins := [], res := (RB r7), G' := [] }, dec := some true }, hT 14, hE 22 (gi_Goal x11), hF 25], r0, .canon [0, 1] [2, 3, 24, 25, 26]] (by kernel_rfl) (P1 (ci_sizeOf hr4)<|P1 (ci_isIndex hr5)<|P2 (r5 = true) (h6)<|P1 (ci_inRange hr7)<|P2 (r7 = true) (h8)<|P2 ((decide (t2 > 0)) = true) (decide_eq_true h9)<|P1 h10<|P1 (int_lt_of_at h10 hx11)<|P1 (at_map gi_Goal hx11)<|P2 ((decide (x11.At ≥ x3.At)) = false) (decide_eq_false h12)<|P0) hn))
  (fun h9 H =>
  eN H fun r hn => gO [rg [hC 3 true [] (RI r4) [], { i := 4, call := some { cl := true, auto := true, ins := [], res := (RB r5), G' := [] }, dec := some true }, { i := 9, call := some { cl := true, auto := true, ins := [], res := (RB r7), G' := [] }, dec := some true }, hF 14], r0, .canon [0, 1] [2, 3, 24, 25, 26]] (by kernel_rfl) (P1 (ci_sizeOf hr4)<|P1 (ci_isIndex hr5)<|P2 (r5 = true) (h6)<|P1 (ci_inRange hr7)<|P2 (r7 = true) (h8)<|P2 ((decide (t2 > 0)) = false) (decide_eq_false h9)<|P0) hn))
  (fun h8 H =>
  eN H<|gE func108 [rg [hC 3 true [] (RI r4) [], { i := 4, call := some { cl := true, auto := true, ins := [], res := (RB r5), G' := [] }, dec := some true }, { i := 9, call := some { cl := true, auto := true, ins := [], res := (RB r7), G' := [] }, dec := some false }], r0] (by kernel_rfl) (P1 (ci_sizeOf hr4)<|P1 (ci_isIndex hr5)<|P2 (r5 = true) (h6)<|P1 (ci_inRange hr7)<|P2 (r7 = false) (eqF h8)<|P0)))
  (fun h6 H =>
  eN H<|gE func108 [rg [hC 3 true [] (RI r4) [], { i := 4, call := some { cl := true, auto := true, ins := [], res := (RB r5), G' := [] }, dec := some false }], r0] (by kernel_rfl) (P1 (ci_sizeOf hr4)<|P1 (ci_isIndex hr5)<|P2 (r5 = false) (eqF h6)<|P0)))
  (fun h1 H =>
  eN H<|gE func108 [rg [hF 0], r0] (by kernel_rfl) (P2 ((decide (t2 < t1)) = false) (decide_eq_false h1)<|P0))
theorem wi_goodConditions : ∀ s r, loop Bi_goodConditions s = some r → Wc X 108 0 (Ki_goodConditions s) (Zi_goodConditions s) (RB r) ((fun _ => []) r) := Nx.all (ni_goodConditions)
theorem ci_goodConditions {a0 : Gi_Board} {a1 : Gi_Conditions} {r : Bool} (H : Di_goodConditions a0 a1 = some r) : Ct X.P X.gl 108 [gi_Board a0, gi_Conditions a1] [] (RB r) [] :=
 Ct.of func108 (c := bdy f108) (by kernel_rfl) (by kernel_rfl) <|
 gS [r0] (by kernel_rfl) P0 <|
 eIf H (fun h1 H =>
 eW RB (fun _ => []) H<|gE func108 [rg [hT 3], r0] (by kernel_rfl) (P2 ((decide (((a1.Goals.length : Nat) : Int) > 12)) = true) (decide_eq_true h1)<|P0))
 (fun h1 H =>
 eBind H fun r2 hr2 H =>
 eIf H (fun h3 H =>
 eBind H fun r4 hr4 H =>
 eIf H (fun h5 H =>
 gO [rg [hF 3, { i := 7, call := some { cl := true, auto := true, ins := [], res := (RB r2), G' := [] }, dec := some true }, { i := 13, call := some { cl := true, auto := true, ins := [], res := (RB r4), G' := [] }, dec := some true }], r0, .canon [0, 1] [2, 3, 24, 25, 26]] (by kernel_rfl) (P2 ((decide (((a1.Goals.length : Nat) : Int) > 12)) = false) (decide_eq_false h1)<|P1 (ci_inRange hr2)<|P2 (r2 = true) (h3)<|P1 (ci_inRange hr4)<|P2 (r4 = true) (h5)<|P0) (wi_goodConditions _ _ H))
 (fun h5 H =>
 eW RB (fun _ => []) H<|gE func108 [rg [hF 3, { i := 7, call := some { cl := true, auto := true, ins := [], res := (RB r2), G' := [] }, dec := some true }, { i := 13, call := some { cl := true, auto := true, ins := [], res := (RB r4), G' := [] }, dec := some false }], r0] (by kernel_rfl) (P2 ((decide (((a1.Goals.length : Nat) : Int) > 12)) = false) (decide_eq_false h1)<|P1 (ci_inRange hr2)<|P2 (r2 = true) (h3)<|P1 (ci_inRange hr4)<|P2 (r4 = false) (eqF h5)<|P0)))
 (fun h3 H =>
 eW RB (fun _ => []) H<|gE func108 [rg [hF 3, { i := 7, call := some { cl := true, auto := true, ins := [], res := (RB r2), G' := [] }, dec := some false }], r0] (by kernel_rfl) (P2 ((decide (((a1.Goals.length : Nat) : Int) > 12)) = false) (decide_eq_false h1)<|P1 (ci_inRange hr2)<|P2 (r2 = false) (eqF h3)<|P0)))
theorem ci_areSources_1 {a0 : Int} {a1 : Gi_Board} {r : Bool} (H : Di_areSources_1 a0 a1 = some r) : Ct X.P X.gl 163 [I a0, .fptr 12 [.agg [sl 5 gi_Terrain a1.Rules.Terrains, sl 6 gi_Kind a1.Rules.Kinds, I a1.Rules.Stack, I a1.Rules.River, I a1.Rules.Road, I a1.Rules.Supply, I a1.Rules.Turns, I a1.Map.Width, I a1.Map.Height, sl 1 I a1.Map.Terrain, sl 1 I a1.Map.Rivers, sl 1 I a1.Map.Roads]] 0 0] [] (RB r) [] :=
 have H := (Di_areSources_1.eq_1 ..).symm.trans H
 Ct.of func163 (c := bdy f163) (by kernel_rfl) (by kernel_rfl) <|
 eBind H fun r1 hr1 H =>
 eBind H fun r2 hr2 H =>
 eW RB (fun _ => []) H<|gE func163 [r0, rg [hC 2 true [] (RI r1) [], hC 3 true [] (RB r2) []]] (by kernel_rfl) (P1 (ci_sizeOf hr1)<|P1 (ci_isIndex hr2)<|P0)
noncomputable def Kslices_IndexFunc_int_i_areSources_1 : Sslices_IndexFunc_int_i_areSources_1 → List Item
 | .h1 .. => nav 300 2 [] [.code (bdy f210)]
def Zslices_IndexFunc_int_i_areSources_1 : Sslices_IndexFunc_int_i_areSources_1 → St
 | .h1 s0 f1 t2 t3 => ⟨sts 19 [(0, sl 1 I s0), (1, .fn 163 [.fptr 12 [.agg [sl 5 gi_Terrain f1.Rules.Terrains, sl 6 gi_Kind f1.Rules.Kinds, I f1.Rules.Stack, I f1.Rules.River, I f1.Rules.Road, I f1.Rules.Supply, I f1.Rules.Turns, I f1.Map.Width, I f1.Map.Height, sl 1 I f1.Map.Terrain, sl 1 I f1.Map.Rivers, sl 1 I f1.Map.Roads]] 0 0]), (7, I t2), (8, I t3)], []⟩
abbrev Qslices_IndexFunc_int_i_areSources_1 := Nx X 210 0 Kslices_IndexFunc_int_i_areSources_1 Zslices_IndexFunc_int_i_areSources_1 RI (fun _ => [])
theorem nslices_IndexFunc_int_i_areSources_1 : ∀ s o, Bslices_IndexFunc_int_i_areSources_1 s = some o → Qslices_IndexFunc_int_i_areSources_1 (Kslices_IndexFunc_int_i_areSources_1 s) (Zslices_IndexFunc_int_i_areSources_1 s) o
 | .h1 s0 f1 t2 t3, o, H =>
  eIf H (fun h1 H =>
  eCk H fun h2 H =>
  eBind H fun x3 hx3 H =>
  eBind H fun r4 hr4 H =>
  gN [rg [hT 0], r0] (by kernel_rfl) (P2 ((decide (t3 < t2)) = true) (decide_eq_true h1)<|P0) <|
  eIf H (fun h5 H =>
  eN H<|gE func210 [rg [hE 4 (I x3), { i := 5, call := some { cl := true, auto := true, ins := [], res := (RB r4), G' := [] }, dec := some true }], r0] (by kernel_rfl) (P1 h2<|P1 (int_lt_of_at h2 hx3)<|P1 (at_map I hx3)<|P1 (ci_areSources_1 hr4)<|P2 (r4 = true) (h5)<|P0))
  (fun h5 H =>
  eN H fun r hn => gO [rg [hE 4 (I x3), { i := 5, call := some { cl := true, auto := true, ins := [], res := (RB r4), G' := [] }, dec := some false }], r0, .canon [] [0, 1, 7, 8]] (by kernel_rfl) (P1 h2<|P1 (int_lt_of_at h2 hx3)<|P1 (at_map I hx3)<|P1 (ci_areSources_1 hr4)<|P2 (r4 = false) (eqF h5)<|P0) hn))
  (fun h1 H =>
  eN H<|gE func210 [rg [hF 0], r0] (by kernel_rfl) (P2 ((decide (t3 < t2)) = false) (decide_eq_false h1)<|P0))
theorem wslices_IndexFunc_int_i_areSources_1 : ∀ s r, loop Bslices_IndexFunc_int_i_areSources_1 s = some r → Wc X 210 0 (Kslices_IndexFunc_int_i_areSources_1 s) (Zslices_IndexFunc_int_i_areSources_1 s) (RI r) ((fun _ => []) r) := Nx.all (nslices_IndexFunc_int_i_areSources_1)
theorem cslices_IndexFunc_int_i_areSources_1 {a0 : (List Int)} {a100 : Gi_Board} {r : Int} (H : Dslices_IndexFunc_int_i_areSources_1 a0 a100 = some r) : Ct X.P X.gl 210 [sl 1 I a0, .fn 163 [.fptr 12 [.agg [sl 5 gi_Terrain a100.Rules.Terrains, sl 6 gi_Kind a100.Rules.Kinds, I a100.Rules.Stack, I a100.Rules.River, I a100.Rules.Road, I a100.Rules.Supply, I a100.Rules.Turns, I a100.Map.Width, I a100.Map.Height, sl 1 I a100.Map.Terrain, sl 1 I a100.Map.Rivers, sl 1 I a100.Map.Roads]] 0 0]] [] (RI r) [] :=
 Ct.of func210 (c := bdy f210) (by kernel_rfl) (by kernel_rfl) <|
 gO [r0, r0, .canon [] [0, 1, 7, 8]] (by kernel_rfl) P0 (wslices_IndexFunc_int_i_areSources_1 _ _ H)
theorem cslices_ContainsFunc_int_i_areSources_1 {a0 : (List Int)} {a100 : Gi_Board} {r : Bool} (H : Dslices_ContainsFunc_int_i_areSources_1 a0 a100 = some r) : Ct X.P X.gl 155 [sl 1 I a0, .fn 163 [.fptr 12 [.agg [sl 5 gi_Terrain a100.Rules.Terrains, sl 6 gi_Kind a100.Rules.Kinds, I a100.Rules.Stack, I a100.Rules.River, I a100.Rules.Road, I a100.Rules.Supply, I a100.Rules.Turns, I a100.Map.Width, I a100.Map.Height, sl 1 I a100.Map.Terrain, sl 1 I a100.Map.Rivers, sl 1 I a100.Map.Roads]] 0 0]] [] (RB r) [] :=
 Ct.of func155 (c := bdy f155) (by kernel_rfl) (by kernel_rfl) <|
 eBind H fun r1 hr1 H =>
 eW RB (fun _ => []) H<|gE func155 [r0, rg [hC 2 true [] (RI r1) []]] (by kernel_rfl) (P1 (cslices_IndexFunc_int_i_areSources_1 hr1)<|P0)
theorem ci_areSources {a0 : Gi_Board} {a1 : (List Int)} {r : Bool} (H : Di_areSources a0 a1 = some r) : Ct X.P X.gl 109 [gi_Board a0, sl 1 I a1] [] (RB r) [] :=
 Ct.of func109 (c := bdy f109) (by kernel_rfl) (by kernel_rfl) <|
 gS [r0] (by kernel_rfl) P0 <|
 eIf H (fun h1 H =>
 eBind H fun r2 hr2 H =>
 eIf H (fun h3 H =>
 eBind H fun r4 hr4 H =>
 eW RB (fun _ => []) H<|gE func109 [rg [hT 2, { i := 5, call := some { cl := true, auto := true, ins := [], res := (RB r2), G' := [] }, dec := some true }, hC 10 false [] (RB r4) []]] (by kernel_rfl) (P2 ((decide (((a1.length : Nat) : Int) ≤ 6)) = true) (decide_eq_true h1)<|P1 (ci_increasing hr2)<|P2 (r2 = true) (h3)<|P1 (cslices_ContainsFunc_int_i_areSources_1 hr4)<|P0))
 (fun h3 H =>
 eW RB (fun _ => []) H<|gE func109 [rg [hT 2, { i := 5, call := some { cl := true, auto := true, ins := [], res := (RB r2), G' := [] }, dec := some false }]] (by kernel_rfl) (P2 ((decide (((a1.length : Nat) : Int) ≤ 6)) = true) (decide_eq_true h1)<|P1 (ci_increasing hr2)<|P2 (r2 = false) (eqF h3)<|P0)))
 (fun h1 H =>
 eW RB (fun _ => []) H<|gE func109 [rg [hF 2]] (by kernel_rfl) (P2 ((decide (((a1.length : Nat) : Int) ≤ 6)) = false) (decide_eq_false h1)<|P0))
theorem ci_ScenarioFault {a0 : Gi_Scenario} {r : Int} (H : Di_ScenarioFault a0 = some r) : Ct X.P X.gl 62 [gi_Scenario a0] [] (RI r) [] :=
 Ct.of func62 (c := bdy f62) (by kernel_rfl) (by kernel_rfl) <|
 eBind H fun r1 hr1 H =>
 gS [r0] (by kernel_rfl) P0 <|
 eIf H (fun h2 H =>
 eBind H fun r3 hr3 H =>
 gS [rg [{ i := 2, call := some { cl := true, auto := true, ins := [], res := (RB r1), G' := [] }, dec := some true }]] (by kernel_rfl) (P1 (ci_isName hr1)<|P2 (r1 = true) (h2)<|P0) <|
 eIf H (fun h4 H =>
 eBind H fun r5 hr5 H =>
 gS [rg [{ i := 2, call := some { cl := true, auto := true, ins := [], res := (RB r3), G' := [] }, dec := some true }]] (by kernel_rfl) (P1 (ci_IsBoard hr3)<|P2 (r3 = true) (h4)<|P0) <|
 eIf H (fun h6 H =>
 eBind H fun r7 hr7 H =>
 gS [rg [{ i := 2, call := some { cl := true, auto := true, ins := [], res := (RB r5), G' := [] }, dec := some true }]] (by kernel_rfl) (P1 (ci_IsCombatTable hr5)<|P2 (r5 = true) (h6)<|P0) <|
 eIf H (fun h8 H =>
 eBind H fun r9 hr9 H =>
 gS [rg [{ i := 4, call := some { cl := true, auto := true, ins := [], res := (RB r7), G' := [] }, dec := some true }]] (by kernel_rfl) (P1 (ci_goodState hr7)<|P2 (r7 = true) (h8)<|P0) <|
 eIf H (fun h10 H =>
 eBind H fun r11 hr11 H =>
 gS [rg [{ i := 4, call := some { cl := true, auto := true, ins := [], res := (RB r9), G' := [] }, dec := some true }]] (by kernel_rfl) (P1 (ci_goodConditions hr9)<|P2 (r9 = true) (h10)<|P0) <|
 eIf H (fun h12 H =>
 eBind H fun r13 hr13 H =>
 eIf H (fun h14 H =>
 eW RI (fun _ => []) H<|gE func62 [rg [{ i := 4, call := some { cl := true, auto := true, ins := [], res := (RB r11), G' := [] }, dec := some true }, { i := 11, call := some { cl := true, auto := true, ins := [], res := (RB r13), G' := [] }, dec := some true }], r0] (by kernel_rfl) (P1 (ci_areSources hr11)<|P2 (r11 = true) (h12)<|P1 (ci_areSources hr13)<|P2 (r13 = true) (h14)<|P0))
 (fun h14 H =>
 eW RI (fun _ => []) H<|gE func62 [rg [{ i := 4, call := some { cl := true, auto := true, ins := [], res := (RB r11), G' := [] }, dec := some true }, { i := 11, call := some { cl := true, auto := true, ins := [], res := (RB r13), G' := [] }, dec := some false }], r0] (by kernel_rfl) (P1 (ci_areSources hr11)<|P2 (r11 = true) (h12)<|P1 (ci_areSources hr13)<|P2 (r13 = false) (eqF h14)<|P0)))
 (fun h12 H =>
 eW RI (fun _ => []) H<|gE func62 [rg [{ i := 4, call := some { cl := true, auto := true, ins := [], res := (RB r11), G' := [] }, dec := some false }], r0] (by kernel_rfl) (P1 (ci_areSources hr11)<|P2 (r11 = false) (eqF h12)<|P0)))
 (fun h10 H =>
 eW RI (fun _ => []) H<|gE func62 [rg [{ i := 4, call := some { cl := true, auto := true, ins := [], res := (RB r9), G' := [] }, dec := some false }], r0] (by kernel_rfl) (P1 (ci_goodConditions hr9)<|P2 (r9 = false) (eqF h10)<|P0)))
 (fun h8 H =>
 eW RI (fun _ => []) H<|gE func62 [rg [{ i := 4, call := some { cl := true, auto := true, ins := [], res := (RB r7), G' := [] }, dec := some false }], r0] (by kernel_rfl) (P1 (ci_goodState hr7)<|P2 (r7 = false) (eqF h8)<|P0)))
 (fun h6 H =>
 eW RI (fun _ => []) H<|gE func62 [rg [{ i := 2, call := some { cl := true, auto := true, ins := [], res := (RB r5), G' := [] }, dec := some false }], r0] (by kernel_rfl) (P1 (ci_IsCombatTable hr5)<|P2 (r5 = false) (eqF h6)<|P0)))
 (fun h4 H =>
 eW RI (fun _ => []) H<|gE func62 [rg [{ i := 2, call := some { cl := true, auto := true, ins := [], res := (RB r3), G' := [] }, dec := some false }], r0] (by kernel_rfl) (P1 (ci_IsBoard hr3)<|P2 (r3 = false) (eqF h4)<|P0)))
 (fun h2 H =>
 eW RI (fun _ => []) H<|gE func62 [rg [{ i := 2, call := some { cl := true, auto := true, ins := [], res := (RB r1), G' := [] }, dec := some false }], r0] (by kernel_rfl) (P1 (ci_isName hr1)<|P2 (r1 = false) (eqF h2)<|P0))
theorem ci_IsScenario {a0 : Gi_Scenario} {r : Bool} (H : Di_IsScenario a0 = some r) : Ct X.P X.gl 24 [gi_Scenario a0] [] (RB r) [] :=
 Ct.of func24 (c := bdy f24) (by kernel_rfl) (by kernel_rfl) <|
 eBind H fun r1 hr1 H =>
 eW RB (fun _ => []) H<|gE func24 [r0, rg [hC 1 true [] (RI r1) []]] (by kernel_rfl) (P1 (ci_ScenarioFault hr1)<|P0)
def Rstrconv_Itoa (r : ByteArray) : List D := [.str r]
theorem cstrconv_Itoa {a0 : Int} {r : ByteArray} (H : Dstrconv_Itoa a0 = some r) : Ct X.P X.gl 85 [I a0] [] (Rstrconv_Itoa r) [] :=
 eCk H fun h H => eRet (P := fun r => Ct X.P X.gl 85 [I a0] [] (Rstrconv_Itoa r) []) H<|ct_itoa (P := X.P) (ρ := lays_n171_ren) lays_n171 ⟨f85, func85, by kernel_rfl, by kernel_rfl⟩ (g := 2) (W := 20) (by kernel_rfl) (by kernel_rfl) h
def Rstrings_Join (r : ByteArray) : List D := [.str r]
theorem cstrings_Join {a0 : (List ByteArray)} {a1 : ByteArray} {r : ByteArray} (H : Dstrings_Join a0 a1 = some r) : Ct X.P X.gl 112 [sl 1 D.str a0, .str a1] [] (Rstrings_Join r) [] :=
 eCk H fun h H => eRet (P := fun r => Ct X.P X.gl 112 [sl 1 D.str a0, .str a1] [] (Rstrings_Join r) []) H<|ct_join (P := X.P) (ρ := lays_n156_ren) lays_n156 lays_Extra ⟨f112, func112, by kernel_rfl, by kernel_rfl⟩ h
def Ri_wordsText (r : ByteArray) : List D := [.str r]
noncomputable def Ki_wordsText : Si_wordsText → List Item
 | .h1 .. => nav 300 3 [] [.code (bdy f66)]
def Zi_wordsText : Si_wordsText → St
 | .h1 t0 t1 t2 l3 => ⟨sts 24 [(5, .ref 0 1 none), (10, sl 1 I t0), (11, I t1), (12, I t2)], [some ⟨false, false, 1, l3.length, List.map D.str l3⟩]⟩
abbrev Qi_wordsText := Nx X 66 0 Ki_wordsText Zi_wordsText Ri_wordsText (fun _ => [])
theorem ni_wordsText : ∀ s o, Bi_wordsText s = some o → Qi_wordsText (Ki_wordsText s) (Zi_wordsText s) o
 | .h1 t0 t1 t2 l3, o, H =>
  eIf H (fun h1 H =>
  eCk H fun h2 H =>
  eBind H fun x3 hx3 H =>
  eBind H fun r4 hr4 H =>
  eCk H fun h5 H =>
  eN H fun r hn => gO [rg [hT 0], rg [hE 1 (I x3)], rg [hC 2 true [] (Rstrconv_Itoa r4) [], hA 4 ((l3 ++ [r4]).length) (List.map D.str (l3 ++ [r4]))], r0, .canon [2] [5, 10, 11, 12]] (by kernel_rfl) (P2 ((decide (t2 < t1)) = true) (decide_eq_true h1)<|P1 h2<|P1 (int_lt_of_at h2 hx3)<|P1 (at_map I hx3)<|P1 (cstrconv_Itoa hr4)<|P1 (apL l3 [r4])<|P1 (apB h5)<|P1 (apM D.str l3 [r4])<|P0) hn)
  (fun h1 H =>
  eBind H fun r2 hr2 H =>
  eN H<|gE func66 [rg [hF 0], rg [hC 1 false [] (Rstrings_Join r2) []]] (by kernel_rfl) (P2 ((decide (t2 < t1)) = false) (decide_eq_false h1)<|P1 (cstrings_Join hr2)<|P0))
theorem wi_wordsText : ∀ s r, loop Bi_wordsText s = some r → Wc X 66 0 (Ki_wordsText s) (Zi_wordsText s) (Ri_wordsText r) ((fun _ => []) r) := Nx.all (ni_wordsText)
theorem ci_wordsText {a0 : ByteArray} {a1 : (List Int)} {r : ByteArray} (H : Di_wordsText a0 a1 = some r) : Ct X.P X.gl 66 [.str a0, sl 1 I a1] [] (Ri_wordsText r) [] :=
 Ct.of func66 (c := bdy f66) (by kernel_rfl) (by kernel_rfl) <|
 gO [r0, r0, r0, .canon [0] [5, 10, 11, 12]] (by kernel_rfl) P0 (wi_wordsText _ _ H)
def Ri_kindLine (r : ByteArray) : List D := [.str r]
theorem ci_kindLine {a0 : Gi_Kind} {r : ByteArray} (H : Di_kindLine a0 = some r) : Ct X.P X.gl 164 [gi_Kind a0] [] (Ri_kindLine r) [] :=
 Ct.of func164 (c := bdy f164) (by kernel_rfl) (by kernel_rfl) <|
 eCk H fun h1 H =>
 eCk H fun h2 H =>
 eBind H fun r3 hr3 H =>
 eCk H fun h4 H =>
 eCk H fun h5 H =>
 eBind H fun r6 hr6 H =>
 eCk H fun h7 H =>
 eCk H fun h8 H =>
 eBind H fun r9 hr9 H =>
 eCk H fun h10 H =>
 eCk H fun h11 H =>
 eBind H fun r12 hr12 H =>
 eCk H fun h13 H =>
 gS [r0, rg [hC 7 false [] (Ri_wordsText r3) [], hC 13 false [] (Ri_wordsText r6) [], hC 19 false [] (Ri_wordsText r9) [], hC 25 false [] (Ri_wordsText r12) []]] (by kernel_rfl) (P1 h1<|P1 h2<|P1 (ci_wordsText hr3)<|P1 h4<|P1 h5<|P1 (ci_wordsText hr6)<|P1 h7<|P1 h8<|P1 (ci_wordsText hr9)<|P1 h10<|P1 h11<|P1 (ci_wordsText hr12)<|P1 h13<|P0) <|
 eIf H (fun h14 H =>
 eCk H fun h15 H =>
 eW Ri_kindLine (fun _ => []) H<|gE func164 [rg [hT 1], r0, r0] (by kernel_rfl) (P2 (a0.Zone = true) (h14)<|P1 h15<|P0))
 (fun h14 H =>
 eW Ri_kindLine (fun _ => []) H<|gE func164 [rg [hF 1], r0] (by kernel_rfl) (P2 (a0.Zone = false) (eqF h14)<|P0))
def Ri_terrainLine (r : ByteArray) : List D := [.str r]
theorem ci_terrainLine {a0 : Gi_Terrain} {r : ByteArray} (H : Di_terrainLine a0 = some r) : Ct X.P X.gl 165 [gi_Terrain a0] [] (Ri_terrainLine r) [] :=
 Ct.of func165 (c := bdy f165) (by kernel_rfl) (by kernel_rfl) <|
 eCk H fun h1 H =>
 eCk H fun h2 H =>
 eBind H fun r3 hr3 H =>
 eCk H fun h4 H =>
 eCk H fun h5 H =>
 eBind H fun r6 hr6 H =>
 eCk H fun h7 H =>
 eCk H fun h8 H =>
 eBind H fun r9 hr9 H =>
 eCk H fun h10 H =>
 gS [r0, rg [hC 7 false [] (Ri_wordsText r3) [], hC 13 false [] (Ri_wordsText r6) [], hC 18 true [] (Ri_wordsText r9) []]] (by kernel_rfl) (P1 h1<|P1 h2<|P1 (ci_wordsText hr3)<|P1 h4<|P1 h5<|P1 (ci_wordsText hr6)<|P1 h7<|P1 h8<|P1 (ci_wordsText hr9)<|P1 h10<|P0) <|
 eIf H (fun h11 H =>
 eCk H fun h12 H =>
 eW Ri_terrainLine (fun _ => []) H<|gE func165 [rg [hT 1], r0, r0] (by kernel_rfl) (P2 (a0.Blocks = true) (h11)<|P1 h12<|P0))
 (fun h11 H =>
 eW Ri_terrainLine (fun _ => []) H<|gE func165 [rg [hF 1], r0] (by kernel_rfl) (P2 (a0.Blocks = false) (eqF h11)<|P0))
def Ri_rulesText (r : ByteArray) : List D := [.str r]
noncomputable def Ki_rulesText : Si_rulesText → List Item
 | .h1 .. => nav 300 3 [] [.code (bdy f110)]
 | .h2 .. => nav 300 5 [false] [.code (bdy f110)]
 | .h3 .. => nav 300 7 [false, false] [.code (bdy f110)]
def Zi_rulesText : Si_rulesText → St
 | .h1 t0 t1 b2 l3 => ⟨sts 65 [(1, .ptr 0 7 0 0), (3, .ref 1 1 none), (21, gA5I t0), (22, I t1)], [some ⟨false, true, 7, 1, [gi_Rules b2]⟩, some ⟨false, false, 1, l3.length, List.map D.str l3⟩]⟩
 | .h2 t0 t1 t2 b3 l4 => ⟨sts 65 [(1, .ptr 0 7 0 0), (3, .ref 1 1 none), (37, sl 6 gi_Kind t0), (38, I t1), (39, I t2)], [some ⟨false, true, 7, 1, [gi_Rules b3]⟩, some ⟨false, false, 1, l4.length, List.map D.str l4⟩]⟩
 | .h3 t0 t1 t2 l3 => ⟨sts 65 [(3, .ref 0 1 none), (50, sl 5 gi_Terrain t0), (51, I t1), (52, I t2)], [some ⟨false, false, 1, l3.length, List.map D.str l3⟩]⟩
abbrev Qi_rulesText := Nx X 110 0 Ki_rulesText Zi_rulesText Ri_rulesText (fun _ => [])
theorem ni_rulesText : ∀ s o, Bi_rulesText s = some o → Qi_rulesText (Ki_rulesText s) (Zi_rulesText s) o
 | .h1 t0 t1 b2 l3, o, H =>
  eIf H (fun h1 H =>
  gN [rg [hT 0]] (by kernel_rfl) (P2 ((decide (t1 < 5)) = true) (decide_eq_true h1)<|P0) <|
  eIf H (fun h2 H =>
  eCk H fun h3 H =>
  eBind H fun x4 hx4 H =>
  eBind H fun r5 hr5 H =>
  eCk H fun h6 H =>
  eN H fun r hn => gO [rg [{ i := 1, n := 0 }], rg [{ i := 3, xs := [.str x4] }, hC 6 false [] (Ri_wordsText r5) [], hA 8 ((l3 ++ [r5]).length) (List.map D.str (l3 ++ [r5]))], r0, .canon [0, 4] [1, 3, 21, 22]] (by kernel_rfl) (P1 h2<|P1 h3<|P2 (t1 < ((5 : Nat) : Int)) (int_lt_of_at h3 hx4)<|P2 (getCells gc100 0 (0 + Int.toNat t1 * 1) 1 = some [.str x4]) (flat_at (enc := D.str) (w := 1) (off := 0) (fun _ => rfl) hx4 (by omega) (by decide))<|P1 (ci_wordsText hr5)<|P1 (apL l3 [r5])<|P1 (apB h6)<|P1 (apM D.str l3 [r5])<|P0) hn)
  (fun h2 H =>
  eIf H (fun h3 H =>
  eCk H fun h4 H =>
  eBind H fun x5 hx5 H =>
  eBind H fun r6 hr6 H =>
  eCk H fun h7 H =>
  eN H fun r hn => gO [rg [{ i := 1, n := 1 }], rg [{ i := 3, xs := [.str x5] }, hC 6 false [] (Ri_wordsText r6) [], hA 8 ((l3 ++ [r6]).length) (List.map D.str (l3 ++ [r6]))], r0, .canon [0, 4] [1, 3, 21, 22]] (by kernel_rfl) (P1 h3<|P1 h4<|P2 (t1 < ((5 : Nat) : Int)) (int_lt_of_at h4 hx5)<|P2 (getCells gc100 0 (0 + Int.toNat t1 * 1) 1 = some [.str x5]) (flat_at (enc := D.str) (w := 1) (off := 0) (fun _ => rfl) hx5 (by omega) (by decide))<|P1 (ci_wordsText hr6)<|P1 (apL l3 [r6])<|P1 (apB h7)<|P1 (apM D.str l3 [r6])<|P0) hn)
  (fun h3 H =>
  eIf H (fun h4 H =>
  eCk H fun h5 H =>
  eBind H fun x6 hx6 H =>
  eBind H fun r7 hr7 H =>
  eCk H fun h8 H =>
  eN H fun r hn => gO [rg [{ i := 1, n := 2 }], rg [{ i := 3, xs := [.str x6] }, hC 6 false [] (Ri_wordsText r7) [], hA 8 ((l3 ++ [r7]).length) (List.map D.str (l3 ++ [r7]))], r0, .canon [0, 4] [1, 3, 21, 22]] (by kernel_rfl) (P1 h4<|P1 h5<|P2 (t1 < ((5 : Nat) : Int)) (int_lt_of_at h5 hx6)<|P2 (getCells gc100 0 (0 + Int.toNat t1 * 1) 1 = some [.str x6]) (flat_at (enc := D.str) (w := 1) (off := 0) (fun _ => rfl) hx6 (by omega) (by decide))<|P1 (ci_wordsText hr7)<|P1 (apL l3 [r7])<|P1 (apB h8)<|P1 (apM D.str l3 [r7])<|P0) hn)
  (fun h4 H =>
  eIf H (fun h5 H =>
  eCk H fun h6 H =>
  eBind H fun x7 hx7 H =>
  eBind H fun r8 hr8 H =>
  eCk H fun h9 H =>
  eN H fun r hn => gO [rg [{ i := 1, n := 3 }], rg [{ i := 3, xs := [.str x7] }, hC 6 false [] (Ri_wordsText r8) [], hA 8 ((l3 ++ [r8]).length) (List.map D.str (l3 ++ [r8]))], r0, .canon [0, 4] [1, 3, 21, 22]] (by kernel_rfl) (P1 h5<|P1 h6<|P2 (t1 < ((5 : Nat) : Int)) (int_lt_of_at h6 hx7)<|P2 (getCells gc100 0 (0 + Int.toNat t1 * 1) 1 = some [.str x7]) (flat_at (enc := D.str) (w := 1) (off := 0) (fun _ => rfl) hx7 (by omega) (by decide))<|P1 (ci_wordsText hr8)<|P1 (apL l3 [r8])<|P1 (apB h9)<|P1 (apM D.str l3 [r8])<|P0) hn)
  (fun h5 H =>
  eCk H fun h6 H =>
  eCk H fun h7 H =>
  eBind H fun x8 hx8 H =>
  eBind H fun r9 hr9 H =>
  eCk H fun h10 H =>
  eN H fun r hn => gO [rg [{ i := 1, n := 4 }], rg [{ i := 3, xs := [.str x8] }, hC 6 false [] (Ri_wordsText r9) [], hA 8 ((l3 ++ [r9]).length) (List.map D.str (l3 ++ [r9]))], r0, .canon [0, 4] [1, 3, 21, 22]] (by kernel_rfl) (P1 h6<|P1 h7<|P2 (t1 < ((5 : Nat) : Int)) (int_lt_of_at h7 hx8)<|P2 (getCells gc100 0 (0 + Int.toNat t1 * 1) 1 = some [.str x8]) (flat_at (enc := D.str) (w := 1) (off := 0) (fun _ => rfl) hx8 (by omega) (by decide))<|P1 (ci_wordsText hr9)<|P1 (apL l3 [r9])<|P1 (apB h10)<|P1 (apM D.str l3 [r9])<|P0) hn)))))
  (fun h1 H =>
  eN H fun r hn => gO [rg [hF 0], r0, .canon [0, 1] [1, 3, 37, 38, 39]] (by kernel_rfl) (P2 ((decide (t1 < 5)) = false) (decide_eq_false h1)<|P0) hn)
 | .h2 t0 t1 t2 b3 l4, o, H =>
  eIf H (fun h1 H =>
  eCk H fun h2 H =>
  eBind H fun x3 hx3 H =>
  eBind H fun r4 hr4 H =>
  eCk H fun h5 H =>
  eN H fun r hn => gO [rg [hT 0], rg [hE 1 (gi_Kind x3)], rg [hC 2 true [] (Ri_kindLine r4) [], hA 4 ((l4 ++ [r4]).length) (List.map D.str (l4 ++ [r4]))], r0, .canon [0, 4] [1, 3, 37, 38, 39]] (by kernel_rfl) (P2 ((decide (t2 < t1)) = true) (decide_eq_true h1)<|P1 h2<|P1 (int_lt_of_at h2 hx3)<|P1 (at_map gi_Kind hx3)<|P1 (ci_kindLine hr4)<|P1 (apL l4 [r4])<|P1 (apB h5)<|P1 (apM D.str l4 [r4])<|P0) hn)
  (fun h1 H =>
  eN H fun r hn => gO [rg [hF 0], r0, .canon [1] [3, 50, 51, 52]] (by kernel_rfl) (P2 ((decide (t2 < t1)) = false) (decide_eq_false h1)<|P0) hn)
 | .h3 t0 t1 t2 l3, o, H =>
  eIf H (fun h1 H =>
  eCk H fun h2 H =>
  eBind H fun x3 hx3 H =>
  eBind H fun r4 hr4 H =>
  eCk H fun h5 H =>
  eN H fun r hn => gO [rg [hT 0], rg [hE 1 (gi_Terrain x3)], rg [hC 2 true [] (Ri_terrainLine r4) [], hA 4 ((l3 ++ [r4]).length) (List.map D.str (l3 ++ [r4]))], r0, .canon [3] [3, 50, 51, 52]] (by kernel_rfl) (P2 ((decide (t2 < t1)) = true) (decide_eq_true h1)<|P1 h2<|P1 (int_lt_of_at h2 hx3)<|P1 (at_map gi_Terrain hx3)<|P1 (ci_terrainLine hr4)<|P1 (apL l3 [r4])<|P1 (apB h5)<|P1 (apM D.str l3 [r4])<|P0) hn)
  (fun h1 H =>
  eBind H fun r2 hr2 H =>
  eCk H fun h3 H =>
  eN H<|gE func110 [rg [hF 0], rg [hC 1 false [] (Rstrings_Join r2) []]] (by kernel_rfl) (P2 ((decide (t2 < t1)) = false) (decide_eq_false h1)<|P1 (cstrings_Join hr2)<|P1 h3<|P0))
theorem wi_rulesText : ∀ s r, loop Bi_rulesText s = some r → Wc X 110 0 (Ki_rulesText s) (Zi_rulesText s) (Ri_rulesText r) ((fun _ => []) r) := Nx.all (ni_rulesText)
theorem ci_rulesText {a0 : Gi_Rules} {r : ByteArray} (H : Di_rulesText a0 = some r) : Ct X.P X.gl 110 [gi_Rules a0] [] (Ri_rulesText r) [] :=
 Ct.of func110 (c := bdy f110) (by kernel_rfl) (by kernel_rfl) <|
 gO [r0, r0, r0, .canon [0, 1] [1, 3, 21, 22]] (by kernel_rfl) P0 (wi_rulesText _ _ H)
def Ri_mapText (r : ByteArray) : List D := [.str r]
noncomputable def Ki_mapText : Si_mapText → List Item
 | .h1 .. => nav 300 3 [] [.code (bdy f39)]
def Zi_mapText : Si_mapText → St
 | .h1 out0 t1 t2 t3 b4 => ⟨sts 47 [(1, .ptr 0 5 0 0), (3, .str out0), (14, sl 1 I t1), (15, I t2), (16, I t3)], [some ⟨false, true, 5, 1, [gi_Map b4]⟩]⟩
abbrev Qi_mapText := Nx X 39 0 Ki_mapText Zi_mapText Ri_mapText (fun _ => [])
theorem ni_mapText : ∀ s o, Bi_mapText s = some o → Qi_mapText (Ki_mapText s) (Zi_mapText s) o
 | .h1 out0 t1 t2 t3 b4, o, H =>
  eIf H (fun h1 H =>
  eCk H fun h2 H =>
  eBind H fun x3 hx3 H =>
  eBind H fun r4 hr4 H =>
  eCk H fun h5 H =>
  eCk H fun h6 H =>
  gN [rg [hT 0], rg [hE 2 (I x3)], rg [hC 2 true [] (Rstrconv_Itoa r4) []]] (by kernel_rfl) (P2 ((decide (t3 < t2)) = true) (decide_eq_true h1)<|P1 h2<|P1 (int_lt_of_at h2 hx3)<|P1 (at_map I hx3)<|P1 (cstrconv_Itoa hr4)<|P1 h5<|P0) <|
  eIf H (fun h7 H =>
  eCk H fun h8 H =>
  eN H fun r hn => gO [rg [hT 7], r0, r0, .canon [0] [1, 3, 14, 15, 16]] (by kernel_rfl) (P2 (¬ (b4.Width : Int) = 0) h6<|P2 ((((Int.tmod t3 b4.Width) : Int) == (IntKind.wrap .i64 (b4.Width - 1))) = true) (beqT h7)<|P1 h8<|P0) hn)
  (fun h7 H =>
  eN H fun r hn => gO [rg [hF 7], r0, .canon [0] [1, 3, 14, 15, 16]] (by kernel_rfl) (P2 (¬ (b4.Width : Int) = 0) h6<|P2 ((((Int.tmod t3 b4.Width) : Int) == (IntKind.wrap .i64 (b4.Width - 1))) = false) (beqF h7)<|P0) hn))
  (fun h1 H =>
  eBind H fun r2 hr2 H =>
  eCk H fun h3 H =>
  eCk H fun h4 H =>
  eBind H fun r5 hr5 H =>
  eCk H fun h6 H =>
  eCk H fun h7 H =>
  eN H<|gE func39 [rg [hF 0], rg [hC 3 true [] (Ri_wordsText r2) [], hC 8 true [] (Ri_wordsText r5) []]] (by kernel_rfl) (P2 ((decide (t3 < t2)) = false) (decide_eq_false h1)<|P1 (ci_wordsText hr2)<|P1 h3<|P1 h4<|P1 (ci_wordsText hr5)<|P1 h6<|P1 h7<|P0))
theorem wi_mapText : ∀ s r, loop Bi_mapText s = some r → Wc X 39 0 (Ki_mapText s) (Zi_mapText s) (Ri_mapText r) ((fun _ => []) r) := Nx.all (ni_mapText)
theorem ci_mapText {a0 : Gi_Map} {r : ByteArray} (H : Di_mapText a0 = some r) : Ct X.P X.gl 39 [gi_Map a0] [] (Ri_mapText r) [] :=
 Ct.of func39 (c := bdy f39) (by kernel_rfl) (by kernel_rfl) <|
 eBind H fun r1 hr1 H =>
 eCk H fun h2 H =>
 gO [r0, rg [hC 5 false [] (Ri_wordsText r1) []], r0, .canon [0] [1, 3, 14, 15, 16]] (by kernel_rfl) (P1 (ci_wordsText hr1)<|P1 h2<|P0) (wi_mapText _ _ H)
def Ri_boardText (r : ByteArray) : List D := [.str r]
theorem ci_boardText {a0 : Gi_Board} {r : ByteArray} (H : Di_boardText a0 = some r) : Ct X.P X.gl 63 [gi_Board a0] [] (Ri_boardText r) [] :=
 Ct.of func63 (c := bdy f63) (by kernel_rfl) (by kernel_rfl) <|
 eBind H fun r1 hr1 H =>
 eBind H fun r2 hr2 H =>
 eCk H fun h3 H =>
 eW Ri_boardText (fun _ => []) H<|gE func63 [r0, rg [hC 2 true [] (Ri_rulesText r1) [], hC 5 true [] (Ri_mapText r2) []]] (by kernel_rfl) (P1 (ci_rulesText hr1)<|P1 (ci_mapText hr2)<|P1 h3<|P0)
def Ri_tableText (r : ByteArray) : List D := [.str r]
noncomputable def Ki_tableText : Si_tableText → List Item
 | .h1 .. => nav 300 3 [] [.code (bdy f64)]
 | .h2 .. => nav 300 6 [false] [.code (bdy f64)]
 | .h3 .. => nav 300 9 [false, true] [.code (bdy f64)]
def Zi_tableText : Si_tableText → St
 | .h1 out0 t1 t2 t3 b4 => ⟨sts 58 [(1, .ptr 0 3 0 0), (3, .str out0), (11, sl 2 gi_Odds t1), (12, I t2), (13, I t3)], [some ⟨false, true, 3, 1, [gi_CombatTable b4]⟩]⟩
 | .h2 out0 t1 t2 t3 => ⟨sts 58 [(3, .str out0), (37, sl 1 (sl 1 I) t1), (38, I t2), (39, I t3)], []⟩
 | .h3 out0 t1 t2 t3 t4 t5 t6 => ⟨sts 58 [(3, .str out0), (37, sl 1 (sl 1 I) t1), (38, I t2), (39, I t3), (43, sl 1 I t4), (44, I t5), (45, I t6)], []⟩
abbrev Qi_tableText := Nx X 64 0 Ki_tableText Zi_tableText Ri_tableText (fun _ => [])
theorem ni_tableText : ∀ s o, Bi_tableText s = some o → Qi_tableText (Ki_tableText s) (Zi_tableText s) o
 | .h1 out0 t1 t2 t3 b4, o, H =>
  eIf H (fun h1 H =>
  eCk H fun h2 H =>
  eBind H fun x3 hx3 H =>
  eBind H fun r4 hr4 H =>
  eCk H fun h5 H =>
  eCk H fun h6 H =>
  eBind H fun r7 hr7 H =>
  eCk H fun h8 H =>
  eCk H fun h9 H =>
  eN H fun r hn => gO [rg [hT 0], rg [hE 1 (gi_Odds x3)], rg [hC 3 true [] (Rstrconv_Itoa r4) [], hC 8 true [] (Rstrconv_Itoa r7) []], r0, .canon [0] [1, 3, 11, 12, 13]] (by kernel_rfl) (P2 ((decide (t3 < t2)) = true) (decide_eq_true h1)<|P1 h2<|P1 (int_lt_of_at h2 hx3)<|P1 (at_map gi_Odds hx3)<|P1 (cstrconv_Itoa hr4)<|P1 h5<|P1 h6<|P1 (cstrconv_Itoa hr7)<|P1 h8<|P1 h9<|P0) hn)
  (fun h1 H =>
  eBind H fun r2 hr2 H =>
  eCk H fun h3 H =>
  eCk H fun h4 H =>
  eN H fun r hn => gO [rg [hF 0], rg [hC 4 false [] (Ri_wordsText r2) []], r0, .canon [] [3, 37, 38, 39]] (by kernel_rfl) (P2 ((decide (t3 < t2)) = false) (decide_eq_false h1)<|P1 (ci_wordsText hr2)<|P1 h3<|P1 h4<|P0) hn)
 | .h2 out0 t1 t2 t3, o, H =>
  eIf H (fun h1 H =>
  eCk H fun h2 H =>
  eBind H fun x3 hx3 H =>
  eN H fun r hn => gO [rg [hT 0], rg [hE 1 ((sl 1 I) x3)], r0, .canon [] [3, 37, 38, 39, 43, 44, 45]] (by kernel_rfl) (P2 ((decide (t3 < t2)) = true) (decide_eq_true h1)<|P1 h2<|P1 (int_lt_of_at h2 hx3)<|P1 (at_map (sl 1 I) hx3)<|P0) hn)
  (fun h1 H =>
  eN H<|gE func64 [rg [hF 0], r0] (by kernel_rfl) (P2 ((decide (t3 < t2)) = false) (decide_eq_false h1)<|P0))
 | .h3 out0 t1 t2 t3 t4 t5 t6, o, H =>
  eIf H (fun h1 H =>
  eCk H fun h2 H =>
  eBind H fun x3 hx3 H =>
  eBind H fun r4 hr4 H =>
  eCk H fun h5 H =>
  eN H fun r hn => gO [rg [hT 0], rg [hE 1 (I x3)], rg [hC 2 true [] (Rstrconv_Itoa r4) []], r0, .canon [] [3, 37, 38, 39, 43, 44, 45]] (by kernel_rfl) (P2 ((decide (t6 < t5)) = true) (decide_eq_true h1)<|P1 h2<|P1 (int_lt_of_at h2 hx3)<|P1 (at_map I hx3)<|P1 (cstrconv_Itoa hr4)<|P1 h5<|P0) hn)
  (fun h1 H =>
  eCk H fun h2 H =>
  eN H fun r hn => gO [rg [hF 0], r0, r0, .canon [] [3, 37, 38, 39]] (by kernel_rfl) (P2 ((decide (t6 < t5)) = false) (decide_eq_false h1)<|P1 h2<|P0) hn)
theorem wi_tableText : ∀ s r, loop Bi_tableText s = some r → Wc X 64 0 (Ki_tableText s) (Zi_tableText s) (Ri_tableText r) ((fun _ => []) r) := Nx.all (ni_tableText)
theorem ci_tableText {a0 : Gi_CombatTable} {r : ByteArray} (H : Di_tableText a0 = some r) : Ct X.P X.gl 64 [gi_CombatTable a0] [] (Ri_tableText r) [] :=
 Ct.of func64 (c := bdy f64) (by kernel_rfl) (by kernel_rfl) <|
 gO [r0, r0, r0, .canon [0] [1, 3, 11, 12, 13]] (by kernel_rfl) P0 (wi_tableText _ _ H)
def Ri_placeText (r : ByteArray) : List D := [.str r]
theorem ci_placeText {a0 : Int} {r : ByteArray} (H : Di_placeText a0 = some r) : Ct X.P X.gl 111 [I a0] [] (Ri_placeText r) [] :=
 Ct.of func111 (c := bdy f111) (by kernel_rfl) (by kernel_rfl) <|
 gS [r0] (by kernel_rfl) P0 <|
 eIf H (fun h1 H =>
 eW Ri_placeText (fun _ => []) H<|gE func111 [rg [hT 1], r0] (by kernel_rfl) (P2 ((decide (a0 < 0)) = true) (decide_eq_true h1)<|P0))
 (fun h1 H =>
 eBind H fun r2 hr2 H =>
 eW Ri_placeText (fun _ => []) H<|gE func111 [rg [hF 1], rg [hC 1 true [] (Rstrconv_Itoa r2) []]] (by kernel_rfl) (P2 ((decide (a0 < 0)) = false) (decide_eq_false h1)<|P1 (cstrconv_Itoa hr2)<|P0))
def Ri_stateText (r : ByteArray) : List D := [.str r]
noncomputable def Ki_stateText : Si_stateText → List Item
 | .h1 .. => nav 300 3 [] [.code (bdy f65)]
def Zi_stateText : Si_stateText → St
 | .h1 out0 t1 t2 t3 b4 => ⟨sts 54 [(2, .ptr 0 12 0 0), (5, .str out0), (20, sl 4 gi_Unit t1), (21, I t2), (22, I t3)], [some ⟨false, true, 12, 1, [gi_Board b4]⟩]⟩
abbrev Qi_stateText := Nx X 65 0 Ki_stateText Zi_stateText Ri_stateText (fun _ => [])
theorem ni_stateText : ∀ s o, Bi_stateText s = some o → Qi_stateText (Ki_stateText s) (Zi_stateText s) o
 | .h1 out0 t1 t2 t3 b4, o, H =>
  eIf H (fun h1 H =>
  eCk H fun h2 H =>
  eBind H fun x3 hx3 H =>
  eBind H fun r4 hr4 H =>
  eCk H fun h5 H =>
  eCk H fun h6 H =>
  eBind H fun x7 hx7 H =>
  eCk H fun h8 H =>
  eCk H fun h9 H =>
  eBind H fun r10 hr10 H =>
  eCk H fun h11 H =>
  eCk H fun h12 H =>
  eBind H fun r13 hr13 H =>
  eCk H fun h14 H =>
  eCk H fun h15 H =>
  eCk H fun h16 H =>
  eN H fun r hn => gO [rg [hT 0], rg [hE 1 (gi_Unit x3)], rg [hC 3 true [] (Rstrconv_Itoa r4) [], hE 12 (gi_Kind x7), hC 17 true [] (Ri_placeText r10) [], hC 22 true [] (Rstrconv_Itoa r13) []], r0, .canon [0] [2, 5, 20, 21, 22]] (by kernel_rfl) (P2 ((decide (t3 < t2)) = true) (decide_eq_true h1)<|P1 h2<|P1 (int_lt_of_at h2 hx3)<|P1 (at_map gi_Unit hx3)<|P1 (cstrconv_Itoa hr4)<|P1 h5<|P1 h6<|P1 (int_lt_of_at h6 hx7)<|P1 (at_map gi_Kind hx7)<|P1 h8<|P1 h9<|P1 (ci_placeText hr10)<|P1 h11<|P1 h12<|P1 (cstrconv_Itoa hr13)<|P1 h14<|P1 h15<|P1 h16<|P0) hn)
  (fun h1 H =>
  eN H<|gE func65 [rg [hF 0], r0] (by kernel_rfl) (P2 ((decide (t3 < t2)) = false) (decide_eq_false h1)<|P0))
theorem wi_stateText : ∀ s r, loop Bi_stateText s = some r → Wc X 65 0 (Ki_stateText s) (Zi_stateText s) (Ri_stateText r) ((fun _ => []) r) := Nx.all (ni_stateText)
theorem ci_stateText {a0 : Gi_Board} {a1 : Gi_State} {r : ByteArray} (H : Di_stateText a0 a1 = some r) : Ct X.P X.gl 65 [gi_Board a0, gi_State a1] [] (Ri_stateText r) [] :=
 Ct.of func65 (c := bdy f65) (by kernel_rfl) (by kernel_rfl) <|
 eBind H fun r1 hr1 H =>
 eCk H fun h2 H =>
 eBind H fun r3 hr3 H =>
 eCk H fun h4 H =>
 eCk H fun h5 H =>
 gO [r0, rg [hC 3 false [] (Ri_wordsText r1) [], hC 8 false [] (Ri_wordsText r3) []], r0, .canon [0] [2, 5, 20, 21, 22]] (by kernel_rfl) (P1 (ci_wordsText hr1)<|P1 h2<|P1 (ci_wordsText hr3)<|P1 h4<|P1 h5<|P0) (wi_stateText _ _ H)
theorem cinternal_stringslite_HasPrefix {a0 : ByteArray} {a1 : ByteArray} {r : Bool} (H : Dinternal_stringslite_HasPrefix a0 a1 = some r) : Ct X.P X.gl 169 [.str a0, .str a1] [] (RB r) [] :=
 Ct.of func169 (c := bdy f169) (by kernel_rfl) (by kernel_rfl) <|
 gS [r0] (by kernel_rfl) P0 <|
 eIf H (fun h1 H =>
 eCk H fun h2 H =>
 eCk H fun h3 H =>
 eW RB (fun _ => []) H<|gE func169 [rg [hT 4]] (by kernel_rfl) (P2 ((decide (((ByteArray.size a0 : Nat) : Int) ≥ ((ByteArray.size a1 : Nat) : Int))) = true) (decide_eq_true h1)<|P2 ((0 : Int) ≤ ((ByteArray.size a1 : Nat) : Int)) h2<|P2 ((((ByteArray.size a1 : Nat) : Int) : Int) ≤ ((ByteArray.size a0 : Nat) : Int)) h3<|P0))
 (fun h1 H =>
 eW RB (fun _ => []) H<|gE func169 [rg [hF 4]] (by kernel_rfl) (P2 ((decide (((ByteArray.size a0 : Nat) : Int) ≥ ((ByteArray.size a1 : Nat) : Int))) = false) (decide_eq_false h1)<|P0))
def Rinternal_stringslite_TrimPrefix (r : ByteArray) : List D := [.str r]
theorem cinternal_stringslite_TrimPrefix {a0 : ByteArray} {a1 : ByteArray} {r : ByteArray} (H : Dinternal_stringslite_TrimPrefix a0 a1 = some r) : Ct X.P X.gl 113 [.str a0, .str a1] [] (Rinternal_stringslite_TrimPrefix r) [] :=
 Ct.of func113 (c := bdy f113) (by kernel_rfl) (by kernel_rfl) <|
 eBind H fun r1 hr1 H =>
 gS [r0] (by kernel_rfl) P0 <|
 eIf H (fun h2 H =>
 eCk H fun h3 H =>
 eCk H fun h4 H =>
 eW Rinternal_stringslite_TrimPrefix (fun _ => []) H<|gE func113 [rg [{ i := 2, call := some { cl := true, auto := true, ins := [], res := (RB r1), G' := [] }, dec := some true }], r0] (by kernel_rfl) (P1 (cinternal_stringslite_HasPrefix hr1)<|P2 (r1 = true) (h2)<|P2 ((0 : Int) ≤ ((ByteArray.size a1 : Nat) : Int)) h3<|P2 ((((ByteArray.size a1 : Nat) : Int) : Int) ≤ ((ByteArray.size a0 : Nat) : Int)) h4<|P0))
 (fun h2 H =>
 eW Rinternal_stringslite_TrimPrefix (fun _ => []) H<|gE func113 [rg [{ i := 2, call := some { cl := true, auto := true, ins := [], res := (RB r1), G' := [] }, dec := some false }], r0] (by kernel_rfl) (P1 (cinternal_stringslite_HasPrefix hr1)<|P2 (r1 = false) (eqF h2)<|P0))
def Rstrings_TrimPrefix (r : ByteArray) : List D := [.str r]
theorem cstrings_TrimPrefix {a0 : ByteArray} {a1 : ByteArray} {r : ByteArray} (H : Dstrings_TrimPrefix a0 a1 = some r) : Ct X.P X.gl 67 [.str a0, .str a1] [] (Rstrings_TrimPrefix r) [] :=
 Ct.of func67 (c := bdy f67) (by kernel_rfl) (by kernel_rfl) <|
 eBind H fun r1 hr1 H =>
 eW Rstrings_TrimPrefix (fun _ => []) H<|gE func67 [r0, rg [hC 2 true [] (Rinternal_stringslite_TrimPrefix r1) []]] (by kernel_rfl) (P1 (cinternal_stringslite_TrimPrefix hr1)<|P0)
def Ri_scenarioText (r : ByteArray) : List D := [.str r]
noncomputable def Ki_scenarioText : Si_scenarioText → List Item
 | .h1 .. => nav 300 4 [] [.code (bdy f25)]
def Zi_scenarioText : Si_scenarioText → St
 | .h1 out0 t1 t2 t3 b4 => ⟨sts 65 [(1, .ptr 0 24 0 0), (3, .str out0), (37, sl 2 gi_Goal t1), (38, I t2), (39, I t3)], [some ⟨false, true, 24, 1, [gi_Scenario b4]⟩]⟩
abbrev Qi_scenarioText := Nx X 25 0 Ki_scenarioText Zi_scenarioText Ri_scenarioText (fun _ => [])
theorem ni_scenarioText : ∀ s o, Bi_scenarioText s = some o → Qi_scenarioText (Ki_scenarioText s) (Zi_scenarioText s) o
 | .h1 out0 t1 t2 t3 b4, o, H =>
  eIf H (fun h1 H =>
  eCk H fun h2 H =>
  eBind H fun x3 hx3 H =>
  eBind H fun r4 hr4 H =>
  eBind H fun r5 hr5 H =>
  eCk H fun h6 H =>
  eCk H fun h7 H =>
  eN H fun r hn => gO [rg [hT 0], rg [hE 1 (gi_Goal x3)], rg [hC 6 false [] (Ri_wordsText r4) [], hC 7 true [] (Rstrings_TrimPrefix r5) []], r0, .canon [0] [1, 3, 37, 38, 39]] (by kernel_rfl) (P2 ((decide (t3 < t2)) = true) (decide_eq_true h1)<|P1 h2<|P1 (int_lt_of_at h2 hx3)<|P1 (at_map gi_Goal hx3)<|P1 (ci_wordsText hr4)<|P1 (cstrings_TrimPrefix hr5)<|P1 h6<|P1 h7<|P0) hn)
  (fun h1 H =>
  eBind H fun r2 hr2 H =>
  eCk H fun h3 H =>
  eCk H fun h4 H =>
  eBind H fun r5 hr5 H =>
  eCk H fun h6 H =>
  eCk H fun h7 H =>
  eN H<|gE func25 [rg [hF 0], rg [hC 3 true [] (Ri_wordsText r2) [], hC 8 true [] (Ri_wordsText r5) []]] (by kernel_rfl) (P2 ((decide (t3 < t2)) = false) (decide_eq_false h1)<|P1 (ci_wordsText hr2)<|P1 h3<|P1 h4<|P1 (ci_wordsText hr5)<|P1 h6<|P1 h7<|P0))
theorem wi_scenarioText : ∀ s r, loop Bi_scenarioText s = some r → Wc X 25 0 (Ki_scenarioText s) (Zi_scenarioText s) (Ri_scenarioText r) ((fun _ => []) r) := Nx.all (ni_scenarioText)
theorem ci_scenarioText {a0 : Gi_Scenario} {r : ByteArray} (H : Di_scenarioText a0 = some r) : Ct X.P X.gl 25 [gi_Scenario a0] [] (Ri_scenarioText r) [] :=
 Ct.of func25 (c := bdy f25) (by kernel_rfl) (by kernel_rfl) <|
 eCk H fun h1 H =>
 eCk H fun h2 H =>
 eBind H fun r3 hr3 H =>
 eCk H fun h4 H =>
 eBind H fun r5 hr5 H =>
 eCk H fun h6 H =>
 eBind H fun r7 hr7 H =>
 eCk H fun h8 H =>
 eBind H fun r9 hr9 H =>
 eCk H fun h10 H =>
 eCk H fun h11 H =>
 gO [r0, rg [hC 6 true [] (Ri_boardText r3) [], hC 10 true [] (Ri_tableText r5) [], hC 16 true [] (Ri_stateText r7) []], rg [hC 8 false [] (Ri_wordsText r9) []], r0, .canon [0] [1, 3, 37, 38, 39]] (by kernel_rfl) (P1 h1<|P1 h2<|P1 (ci_boardText hr3)<|P1 h4<|P1 (ci_tableText hr5)<|P1 h6<|P1 (ci_stateText hr7)<|P1 h8<|P1 (ci_wordsText hr9)<|P1 h10<|P1 h11<|P0) (wi_scenarioText _ _ H)
def Ri_ScenarioText (r : ByteArray × Bool) : List D := [.str r.1, .bool r.2]
theorem ci_ScenarioText {a0 : Gi_Scenario} {r : ByteArray × Bool} (H : Di_ScenarioText a0 = some r) : Ct X.P X.gl 8 [gi_Scenario a0] [] (Ri_ScenarioText r) [] :=
 Ct.of func8 (c := bdy f8) (by kernel_rfl) (by kernel_rfl) <|
 eBind H fun r1 hr1 H =>
 gS [r0] (by kernel_rfl) P0 <|
 eIf H (fun h2 H =>
 eBind H fun r3 hr3 H =>
 eW Ri_ScenarioText (fun _ => []) H<|gE func8 [rg [{ i := 1, call := some { cl := true, auto := true, ins := [], res := (RB r1), G' := [] }, dec := some true }], rg [hC 1 true [] (Ri_scenarioText r3) []]] (by kernel_rfl) (P1 (ci_IsScenario hr1)<|P2 (r1 = true) (h2)<|P1 (ci_scenarioText hr3)<|P0))
 (fun h2 H =>
 eW Ri_ScenarioText (fun _ => []) H<|gE func8 [rg [{ i := 1, call := some { cl := true, auto := true, ins := [], res := (RB r1), G' := [] }, dec := some false }], r0] (by kernel_rfl) (P1 (ci_IsScenario hr1)<|P2 (r1 = false) (eqF h2)<|P0))
noncomputable def Kw_eqIntS : Sw_eqIntS → List Item
 | .h1 .. => nav 300 3 [false] [.code (bdy f30)]
def Zw_eqIntS : Sw_eqIntS → St
 | .h1 va0 b1 i2 => ⟨sts 26 [(0, sl 1 I va0), (1, sl 1 I b1), (5, I i2)], []⟩
abbrev Qw_eqIntS := Nx X 30 0 Kw_eqIntS Zw_eqIntS RB (fun _ => [])
theorem nw_eqIntS : ∀ s o, Bw_eqIntS s = some o → Qw_eqIntS (Kw_eqIntS s) (Zw_eqIntS s) o
 | .h1 va0 b1 i2, o, H =>
  eIf H (fun h1 H =>
  eCk H fun h2 H =>
  eBind H fun x3 hx3 H =>
  eCk H fun h4 H =>
  eBind H fun x5 hx5 H =>
  gN [rg [hT 3]] (by kernel_rfl) (P2 ((decide (i2 < ((va0.length : Nat) : Int))) = true) (decide_eq_true h1)<|P0) <|
  eIf H (fun h6 H =>
  eN H fun r hn => gO [rg [hE 3 (I x3), hE 7 (I x5), hF 8], r0, .canon [] [0, 1, 5]] (by kernel_rfl) (P1 h2<|P1 (int_lt_of_at h2 hx3)<|P1 (at_map I hx3)<|P1 h4<|P1 (int_lt_of_at h4 hx5)<|P1 (at_map I hx5)<|P2 (((x3 : Int) != x5) = false) (bneF h6)<|P0) hn)
  (fun h6 H =>
  eN H<|gE func30 [rg [hE 3 (I x3), hE 7 (I x5), hT 8], r0] (by kernel_rfl) (P1 h2<|P1 (int_lt_of_at h2 hx3)<|P1 (at_map I hx3)<|P1 h4<|P1 (int_lt_of_at h4 hx5)<|P1 (at_map I hx5)<|P2 (((x3 : Int) != x5) = true) (bneT h6)<|P0)))
  (fun h1 H =>
  eN H<|gE func30 [rg [hF 3], r0] (by kernel_rfl) (P2 ((decide (i2 < ((va0.length : Nat) : Int))) = false) (decide_eq_false h1)<|P0))
theorem ww_eqIntS : ∀ s r, loop Bw_eqIntS s = some r → Wc X 30 0 (Kw_eqIntS s) (Zw_eqIntS s) (RB r) ((fun _ => []) r) := Nx.all (nw_eqIntS)
theorem cw_eqIntS {a0 : (List Int)} {a1 : (List Int)} {r : Bool} (H : Dw_eqIntS a0 a1 = some r) : Ct X.P X.gl 30 [sl 1 I a0, sl 1 I a1] [] (RB r) [] :=
 Ct.of func30 (c := bdy f30) (by kernel_rfl) (by kernel_rfl) <|
 gS [r0] (by kernel_rfl) P0 <|
 eIf H (fun h1 H =>
 gO [rg [hF 4], r0, .canon [] [0, 1, 5]] (by kernel_rfl) (P2 (((((a0.length : Nat) : Int) : Int) != ((a1.length : Nat) : Int)) = false) (bneF h1)<|P0) (ww_eqIntS _ _ H))
 (fun h1 H =>
 eW RB (fun _ => []) H<|gE func30 [rg [hT 4], r0] (by kernel_rfl) (P2 (((((a0.length : Nat) : Int) : Int) != ((a1.length : Nat) : Int)) = true) (bneT h1)<|P0))
theorem cw_eqTerrain {a0 : Gi_Terrain} {a1 : Gi_Terrain} {r : Bool} (H : Dw_eqTerrain a0 a1 = some r) : Ct X.P X.gl 170 [gi_Terrain a0, gi_Terrain a1] [] (RB r) [] :=
 Ct.of func170 (c := bdy f170) (by kernel_rfl) (by kernel_rfl) <|
 gS [r0] (by kernel_rfl) P0 <|
 eIf H (fun h1 H =>
 eBind H fun r2 hr2 H =>
 gS [rg [hF 4]] (by kernel_rfl) (P2 ((!(a0.Name == a1.Name)) = false) (nbeqF h1)<|P0) <|
 eIf H (fun h3 H =>
 gS [rg [{ i := 4, call := some { cl := true, auto := true, ins := [], res := (RB r2), G' := [] }, dec := some true }]] (by kernel_rfl) (P1 (cw_eqIntS hr2)<|P2 (r2 = true) (h3)<|P0) <|
 eIf H (fun h4 H =>
 gS [rg [hF 4]] (by kernel_rfl) (P2 (((a0.Shift : Int) != a1.Shift) = false) (bneF h4)<|P0) <|
 eIf H (fun h5 H =>
 gS [rg [hF 4]] (by kernel_rfl) (P2 (((a0.Height : Int) != a1.Height) = false) (bneF h5)<|P0) <|
 eIf H (fun h6 H =>
 eW RB (fun _ => []) H<|gE func170 [rg [hT 4], r0] (by kernel_rfl) (P2 ((!(a0.Blocks == a1.Blocks)) = true) (h6)<|P0))
 (fun h6 H =>
 eW RB (fun _ => []) H<|gE func170 [rg [hF 4], r0] (by kernel_rfl) (P2 ((!(a0.Blocks == a1.Blocks)) = false) (eqF h6)<|P0)))
 (fun h5 H =>
 eW RB (fun _ => []) H<|gE func170 [rg [hT 4], r0] (by kernel_rfl) (P2 (((a0.Height : Int) != a1.Height) = true) (bneT h5)<|P0)))
 (fun h4 H =>
 eW RB (fun _ => []) H<|gE func170 [rg [hT 4], r0] (by kernel_rfl) (P2 (((a0.Shift : Int) != a1.Shift) = true) (bneT h4)<|P0)))
 (fun h3 H =>
 eW RB (fun _ => []) H<|gE func170 [rg [{ i := 4, call := some { cl := true, auto := true, ins := [], res := (RB r2), G' := [] }, dec := some false }], r0] (by kernel_rfl) (P1 (cw_eqIntS hr2)<|P2 (r2 = false) (eqF h3)<|P0)))
 (fun h1 H =>
 eW RB (fun _ => []) H<|gE func170 [rg [hT 4], r0] (by kernel_rfl) (P2 ((!(a0.Name == a1.Name)) = true) (nbeqT h1)<|P0))
noncomputable def Kw_eqTerrainS : Sw_eqTerrainS → List Item
 | .h1 .. => nav 300 3 [false] [.code (bdy f114)]
def Zw_eqTerrainS : Sw_eqTerrainS → St
 | .h1 va0 b1 i2 => ⟨sts 27 [(0, sl 5 gi_Terrain va0), (1, sl 5 gi_Terrain b1), (5, I i2)], []⟩
abbrev Qw_eqTerrainS := Nx X 114 0 Kw_eqTerrainS Zw_eqTerrainS RB (fun _ => [])
theorem nw_eqTerrainS : ∀ s o, Bw_eqTerrainS s = some o → Qw_eqTerrainS (Kw_eqTerrainS s) (Zw_eqTerrainS s) o
 | .h1 va0 b1 i2, o, H =>
  eIf H (fun h1 H =>
  eCk H fun h2 H =>
  eBind H fun x3 hx3 H =>
  eCk H fun h4 H =>
  eBind H fun x5 hx5 H =>
  eBind H fun r6 hr6 H =>
  gN [rg [hT 3]] (by kernel_rfl) (P2 ((decide (i2 < ((va0.length : Nat) : Int))) = true) (decide_eq_true h1)<|P0) <|
  eIf H (fun h7 H =>
  eN H fun r hn => gO [rg [hE 3 (gi_Terrain x3), hE 7 (gi_Terrain x5), { i := 8, call := some { cl := true, auto := true, ins := [], res := (RB r6), G' := [] }, dec := some true }], r0, .canon [] [0, 1, 5]] (by kernel_rfl) (P1 h2<|P1 (int_lt_of_at h2 hx3)<|P1 (at_map gi_Terrain hx3)<|P1 h4<|P1 (int_lt_of_at h4 hx5)<|P1 (at_map gi_Terrain hx5)<|P1 (cw_eqTerrain hr6)<|P2 (r6 = true) (h7)<|P0) hn)
  (fun h7 H =>
  eN H<|gE func114 [rg [hE 3 (gi_Terrain x3), hE 7 (gi_Terrain x5), { i := 8, call := some { cl := true, auto := true, ins := [], res := (RB r6), G' := [] }, dec := some false }], r0] (by kernel_rfl) (P1 h2<|P1 (int_lt_of_at h2 hx3)<|P1 (at_map gi_Terrain hx3)<|P1 h4<|P1 (int_lt_of_at h4 hx5)<|P1 (at_map gi_Terrain hx5)<|P1 (cw_eqTerrain hr6)<|P2 (r6 = false) (eqF h7)<|P0)))
  (fun h1 H =>
  eN H<|gE func114 [rg [hF 3], r0] (by kernel_rfl) (P2 ((decide (i2 < ((va0.length : Nat) : Int))) = false) (decide_eq_false h1)<|P0))
theorem ww_eqTerrainS : ∀ s r, loop Bw_eqTerrainS s = some r → Wc X 114 0 (Kw_eqTerrainS s) (Zw_eqTerrainS s) (RB r) ((fun _ => []) r) := Nx.all (nw_eqTerrainS)
theorem cw_eqTerrainS {a0 : (List Gi_Terrain)} {a1 : (List Gi_Terrain)} {r : Bool} (H : Dw_eqTerrainS a0 a1 = some r) : Ct X.P X.gl 114 [sl 5 gi_Terrain a0, sl 5 gi_Terrain a1] [] (RB r) [] :=
 Ct.of func114 (c := bdy f114) (by kernel_rfl) (by kernel_rfl) <|
 gS [r0] (by kernel_rfl) P0 <|
 eIf H (fun h1 H =>
 gO [rg [hF 4], r0, .canon [] [0, 1, 5]] (by kernel_rfl) (P2 (((((a0.length : Nat) : Int) : Int) != ((a1.length : Nat) : Int)) = false) (bneF h1)<|P0) (ww_eqTerrainS _ _ H))
 (fun h1 H =>
 eW RB (fun _ => []) H<|gE func114 [rg [hT 4], r0] (by kernel_rfl) (P2 (((((a0.length : Nat) : Int) : Int) != ((a1.length : Nat) : Int)) = true) (bneT h1)<|P0))
theorem cw_eqKind {a0 : Gi_Kind} {a1 : Gi_Kind} {r : Bool} (H : Dw_eqKind a0 a1 = some r) : Ct X.P X.gl 171 [gi_Kind a0, gi_Kind a1] [] (RB r) [] :=
 Ct.of func171 (c := bdy f171) (by kernel_rfl) (by kernel_rfl) <|
 gS [r0] (by kernel_rfl) P0 <|
 eIf H (fun h1 H =>
 gS [rg [hF 4]] (by kernel_rfl) (P2 ((!(a0.Name == a1.Name)) = false) (nbeqF h1)<|P0) <|
 eIf H (fun h2 H =>
 gS [rg [hF 4]] (by kernel_rfl) (P2 (((a0.Strength : Int) != a1.Strength) = false) (bneF h2)<|P0) <|
 eIf H (fun h3 H =>
 gS [rg [hF 4]] (by kernel_rfl) (P2 (((a0.Moves : Int) != a1.Moves) = false) (bneF h3)<|P0) <|
 eIf H (fun h4 H =>
 gS [rg [hF 4]] (by kernel_rfl) (P2 (((a0.Steps : Int) != a1.Steps) = false) (bneF h4)<|P0) <|
 eIf H (fun h5 H =>
 eW RB (fun _ => []) H<|gE func171 [rg [hT 4], r0] (by kernel_rfl) (P2 ((!(a0.Zone == a1.Zone)) = true) (h5)<|P0))
 (fun h5 H =>
 gS [rg [hF 4]] (by kernel_rfl) (P2 ((!(a0.Zone == a1.Zone)) = false) (eqF h5)<|P0) <|
 eIf H (fun h6 H =>
 eW RB (fun _ => []) H<|gE func171 [rg [hF 4], r0] (by kernel_rfl) (P2 (((a0.View : Int) != a1.View) = false) (bneF h6)<|P0))
 (fun h6 H =>
 eW RB (fun _ => []) H<|gE func171 [rg [hT 4], r0] (by kernel_rfl) (P2 (((a0.View : Int) != a1.View) = true) (bneT h6)<|P0))))
 (fun h4 H =>
 eW RB (fun _ => []) H<|gE func171 [rg [hT 4], r0] (by kernel_rfl) (P2 (((a0.Steps : Int) != a1.Steps) = true) (bneT h4)<|P0)))
 (fun h3 H =>
 eW RB (fun _ => []) H<|gE func171 [rg [hT 4], r0] (by kernel_rfl) (P2 (((a0.Moves : Int) != a1.Moves) = true) (bneT h3)<|P0)))
 (fun h2 H =>
 eW RB (fun _ => []) H<|gE func171 [rg [hT 4], r0] (by kernel_rfl) (P2 (((a0.Strength : Int) != a1.Strength) = true) (bneT h2)<|P0)))
 (fun h1 H =>
 eW RB (fun _ => []) H<|gE func171 [rg [hT 4], r0] (by kernel_rfl) (P2 ((!(a0.Name == a1.Name)) = true) (nbeqT h1)<|P0))
noncomputable def Kw_eqKindS : Sw_eqKindS → List Item
 | .h1 .. => nav 300 3 [false] [.code (bdy f115)]
def Zw_eqKindS : Sw_eqKindS → St
 | .h1 va0 b1 i2 => ⟨sts 27 [(0, sl 6 gi_Kind va0), (1, sl 6 gi_Kind b1), (5, I i2)], []⟩
abbrev Qw_eqKindS := Nx X 115 0 Kw_eqKindS Zw_eqKindS RB (fun _ => [])
theorem nw_eqKindS : ∀ s o, Bw_eqKindS s = some o → Qw_eqKindS (Kw_eqKindS s) (Zw_eqKindS s) o
 | .h1 va0 b1 i2, o, H =>
  eIf H (fun h1 H =>
  eCk H fun h2 H =>
  eBind H fun x3 hx3 H =>
  eCk H fun h4 H =>
  eBind H fun x5 hx5 H =>
  eBind H fun r6 hr6 H =>
  gN [rg [hT 3]] (by kernel_rfl) (P2 ((decide (i2 < ((va0.length : Nat) : Int))) = true) (decide_eq_true h1)<|P0) <|
  eIf H (fun h7 H =>
  eN H fun r hn => gO [rg [hE 3 (gi_Kind x3), hE 7 (gi_Kind x5), { i := 8, call := some { cl := true, auto := true, ins := [], res := (RB r6), G' := [] }, dec := some true }], r0, .canon [] [0, 1, 5]] (by kernel_rfl) (P1 h2<|P1 (int_lt_of_at h2 hx3)<|P1 (at_map gi_Kind hx3)<|P1 h4<|P1 (int_lt_of_at h4 hx5)<|P1 (at_map gi_Kind hx5)<|P1 (cw_eqKind hr6)<|P2 (r6 = true) (h7)<|P0) hn)
  (fun h7 H =>
  eN H<|gE func115 [rg [hE 3 (gi_Kind x3), hE 7 (gi_Kind x5), { i := 8, call := some { cl := true, auto := true, ins := [], res := (RB r6), G' := [] }, dec := some false }], r0] (by kernel_rfl) (P1 h2<|P1 (int_lt_of_at h2 hx3)<|P1 (at_map gi_Kind hx3)<|P1 h4<|P1 (int_lt_of_at h4 hx5)<|P1 (at_map gi_Kind hx5)<|P1 (cw_eqKind hr6)<|P2 (r6 = false) (eqF h7)<|P0)))
  (fun h1 H =>
  eN H<|gE func115 [rg [hF 3], r0] (by kernel_rfl) (P2 ((decide (i2 < ((va0.length : Nat) : Int))) = false) (decide_eq_false h1)<|P0))
theorem ww_eqKindS : ∀ s r, loop Bw_eqKindS s = some r → Wc X 115 0 (Kw_eqKindS s) (Zw_eqKindS s) (RB r) ((fun _ => []) r) := Nx.all (nw_eqKindS)
theorem cw_eqKindS {a0 : (List Gi_Kind)} {a1 : (List Gi_Kind)} {r : Bool} (H : Dw_eqKindS a0 a1 = some r) : Ct X.P X.gl 115 [sl 6 gi_Kind a0, sl 6 gi_Kind a1] [] (RB r) [] :=
 Ct.of func115 (c := bdy f115) (by kernel_rfl) (by kernel_rfl) <|
 gS [r0] (by kernel_rfl) P0 <|
 eIf H (fun h1 H =>
 gO [rg [hF 4], r0, .canon [] [0, 1, 5]] (by kernel_rfl) (P2 (((((a0.length : Nat) : Int) : Int) != ((a1.length : Nat) : Int)) = false) (bneF h1)<|P0) (ww_eqKindS _ _ H))
 (fun h1 H =>
 eW RB (fun _ => []) H<|gE func115 [rg [hT 4], r0] (by kernel_rfl) (P2 (((((a0.length : Nat) : Int) : Int) != ((a1.length : Nat) : Int)) = true) (bneT h1)<|P0))
theorem cw_eqRules {a0 : Gi_Rules} {a1 : Gi_Rules} {r : Bool} (H : Dw_eqRules a0 a1 = some r) : Ct X.P X.gl 68 [gi_Rules a0, gi_Rules a1] [] (RB r) [] :=
 Ct.of func68 (c := bdy f68) (by kernel_rfl) (by kernel_rfl) <|
 eBind H fun r1 hr1 H =>
 gS [r0] (by kernel_rfl) P0 <|
 eIf H (fun h2 H =>
 eBind H fun r3 hr3 H =>
 gS [rg [{ i := 4, call := some { cl := true, auto := true, ins := [], res := (RB r1), G' := [] }, dec := some true }]] (by kernel_rfl) (P1 (cw_eqTerrainS hr1)<|P2 (r1 = true) (h2)<|P0) <|
 eIf H (fun h4 H =>
 gS [rg [{ i := 4, call := some { cl := true, auto := true, ins := [], res := (RB r3), G' := [] }, dec := some true }]] (by kernel_rfl) (P1 (cw_eqKindS hr3)<|P2 (r3 = true) (h4)<|P0) <|
 eIf H (fun h5 H =>
 gS [rg [hF 4]] (by kernel_rfl) (P2 (((a0.Stack : Int) != a1.Stack) = false) (bneF h5)<|P0) <|
 eIf H (fun h6 H =>
 gS [rg [hF 4]] (by kernel_rfl) (P2 (((a0.River : Int) != a1.River) = false) (bneF h6)<|P0) <|
 eIf H (fun h7 H =>
 gS [rg [hF 4]] (by kernel_rfl) (P2 (((a0.Road : Int) != a1.Road) = false) (bneF h7)<|P0) <|
 eIf H (fun h8 H =>
 gS [rg [hF 4]] (by kernel_rfl) (P2 (((a0.Supply : Int) != a1.Supply) = false) (bneF h8)<|P0) <|
 eIf H (fun h9 H =>
 eW RB (fun _ => []) H<|gE func68 [rg [hF 4], r0] (by kernel_rfl) (P2 (((a0.Turns : Int) != a1.Turns) = false) (bneF h9)<|P0))
 (fun h9 H =>
 eW RB (fun _ => []) H<|gE func68 [rg [hT 4], r0] (by kernel_rfl) (P2 (((a0.Turns : Int) != a1.Turns) = true) (bneT h9)<|P0)))
 (fun h8 H =>
 eW RB (fun _ => []) H<|gE func68 [rg [hT 4], r0] (by kernel_rfl) (P2 (((a0.Supply : Int) != a1.Supply) = true) (bneT h8)<|P0)))
 (fun h7 H =>
 eW RB (fun _ => []) H<|gE func68 [rg [hT 4], r0] (by kernel_rfl) (P2 (((a0.Road : Int) != a1.Road) = true) (bneT h7)<|P0)))
 (fun h6 H =>
 eW RB (fun _ => []) H<|gE func68 [rg [hT 4], r0] (by kernel_rfl) (P2 (((a0.River : Int) != a1.River) = true) (bneT h6)<|P0)))
 (fun h5 H =>
 eW RB (fun _ => []) H<|gE func68 [rg [hT 4], r0] (by kernel_rfl) (P2 (((a0.Stack : Int) != a1.Stack) = true) (bneT h5)<|P0)))
 (fun h4 H =>
 eW RB (fun _ => []) H<|gE func68 [rg [{ i := 4, call := some { cl := true, auto := true, ins := [], res := (RB r3), G' := [] }, dec := some false }], r0] (by kernel_rfl) (P1 (cw_eqKindS hr3)<|P2 (r3 = false) (eqF h4)<|P0)))
 (fun h2 H =>
 eW RB (fun _ => []) H<|gE func68 [rg [{ i := 4, call := some { cl := true, auto := true, ins := [], res := (RB r1), G' := [] }, dec := some false }], r0] (by kernel_rfl) (P1 (cw_eqTerrainS hr1)<|P2 (r1 = false) (eqF h2)<|P0))
theorem cw_eqMap {a0 : Gi_Map} {a1 : Gi_Map} {r : Bool} (H : Dw_eqMap a0 a1 = some r) : Ct X.P X.gl 69 [gi_Map a0, gi_Map a1] [] (RB r) [] :=
 Ct.of func69 (c := bdy f69) (by kernel_rfl) (by kernel_rfl) <|
 gS [r0] (by kernel_rfl) P0 <|
 eIf H (fun h1 H =>
 gS [rg [hF 4]] (by kernel_rfl) (P2 (((a0.Width : Int) != a1.Width) = false) (bneF h1)<|P0) <|
 eIf H (fun h2 H =>
 eBind H fun r3 hr3 H =>
 gS [rg [hF 4]] (by kernel_rfl) (P2 (((a0.Height : Int) != a1.Height) = false) (bneF h2)<|P0) <|
 eIf H (fun h4 H =>
 eBind H fun r5 hr5 H =>
 gS [rg [{ i := 4, call := some { cl := true, auto := true, ins := [], res := (RB r3), G' := [] }, dec := some true }]] (by kernel_rfl) (P1 (cw_eqIntS hr3)<|P2 (r3 = true) (h4)<|P0) <|
 eIf H (fun h6 H =>
 eBind H fun r7 hr7 H =>
 gS [rg [{ i := 4, call := some { cl := true, auto := true, ins := [], res := (RB r5), G' := [] }, dec := some true }]] (by kernel_rfl) (P1 (cw_eqIntS hr5)<|P2 (r5 = true) (h6)<|P0) <|
 eIf H (fun h8 H =>
 eW RB (fun _ => []) H<|gE func69 [rg [{ i := 4, call := some { cl := true, auto := true, ins := [], res := (RB r7), G' := [] }, dec := some true }], r0] (by kernel_rfl) (P1 (cw_eqIntS hr7)<|P2 (r7 = true) (h8)<|P0))
 (fun h8 H =>
 eW RB (fun _ => []) H<|gE func69 [rg [{ i := 4, call := some { cl := true, auto := true, ins := [], res := (RB r7), G' := [] }, dec := some false }], r0] (by kernel_rfl) (P1 (cw_eqIntS hr7)<|P2 (r7 = false) (eqF h8)<|P0)))
 (fun h6 H =>
 eW RB (fun _ => []) H<|gE func69 [rg [{ i := 4, call := some { cl := true, auto := true, ins := [], res := (RB r5), G' := [] }, dec := some false }], r0] (by kernel_rfl) (P1 (cw_eqIntS hr5)<|P2 (r5 = false) (eqF h6)<|P0)))
 (fun h4 H =>
 eW RB (fun _ => []) H<|gE func69 [rg [{ i := 4, call := some { cl := true, auto := true, ins := [], res := (RB r3), G' := [] }, dec := some false }], r0] (by kernel_rfl) (P1 (cw_eqIntS hr3)<|P2 (r3 = false) (eqF h4)<|P0)))
 (fun h2 H =>
 eW RB (fun _ => []) H<|gE func69 [rg [hT 4], r0] (by kernel_rfl) (P2 (((a0.Height : Int) != a1.Height) = true) (bneT h2)<|P0)))
 (fun h1 H =>
 eW RB (fun _ => []) H<|gE func69 [rg [hT 4], r0] (by kernel_rfl) (P2 (((a0.Width : Int) != a1.Width) = true) (bneT h1)<|P0))
theorem cw_eqBoard {a0 : Gi_Board} {a1 : Gi_Board} {r : Bool} (H : Dw_eqBoard a0 a1 = some r) : Ct X.P X.gl 26 [gi_Board a0, gi_Board a1] [] (RB r) [] :=
 Ct.of func26 (c := bdy f26) (by kernel_rfl) (by kernel_rfl) <|
 eBind H fun r1 hr1 H =>
 gS [r0] (by kernel_rfl) P0 <|
 eIf H (fun h2 H =>
 eBind H fun r3 hr3 H =>
 gS [rg [{ i := 4, call := some { cl := true, auto := true, ins := [], res := (RB r1), G' := [] }, dec := some true }]] (by kernel_rfl) (P1 (cw_eqRules hr1)<|P2 (r1 = true) (h2)<|P0) <|
 eIf H (fun h4 H =>
 eW RB (fun _ => []) H<|gE func26 [rg [{ i := 4, call := some { cl := true, auto := true, ins := [], res := (RB r3), G' := [] }, dec := some true }], r0] (by kernel_rfl) (P1 (cw_eqMap hr3)<|P2 (r3 = true) (h4)<|P0))
 (fun h4 H =>
 eW RB (fun _ => []) H<|gE func26 [rg [{ i := 4, call := some { cl := true, auto := true, ins := [], res := (RB r3), G' := [] }, dec := some false }], r0] (by kernel_rfl) (P1 (cw_eqMap hr3)<|P2 (r3 = false) (eqF h4)<|P0)))
 (fun h2 H =>
 eW RB (fun _ => []) H<|gE func26 [rg [{ i := 4, call := some { cl := true, auto := true, ins := [], res := (RB r1), G' := [] }, dec := some false }], r0] (by kernel_rfl) (P1 (cw_eqRules hr1)<|P2 (r1 = false) (eqF h2)<|P0))
theorem cw_eqOdds {a0 : Gi_Odds} {a1 : Gi_Odds} {r : Bool} (H : Dw_eqOdds a0 a1 = some r) : Ct X.P X.gl 116 [gi_Odds a0, gi_Odds a1] [] (RB r) [] :=
 Ct.of func116 (c := bdy f116) (by kernel_rfl) (by kernel_rfl) <|
 gS [r0] (by kernel_rfl) P0 <|
 eIf H (fun h1 H =>
 gS [rg [hF 4]] (by kernel_rfl) (P2 (((a0.Num : Int) != a1.Num) = false) (bneF h1)<|P0) <|
 eIf H (fun h2 H =>
 eW RB (fun _ => []) H<|gE func116 [rg [hF 4], r0] (by kernel_rfl) (P2 (((a0.Den : Int) != a1.Den) = false) (bneF h2)<|P0))
 (fun h2 H =>
 eW RB (fun _ => []) H<|gE func116 [rg [hT 4], r0] (by kernel_rfl) (P2 (((a0.Den : Int) != a1.Den) = true) (bneT h2)<|P0)))
 (fun h1 H =>
 eW RB (fun _ => []) H<|gE func116 [rg [hT 4], r0] (by kernel_rfl) (P2 (((a0.Num : Int) != a1.Num) = true) (bneT h1)<|P0))
noncomputable def Kw_eqOddsS : Sw_eqOddsS → List Item
 | .h1 .. => nav 300 3 [false] [.code (bdy f70)]
def Zw_eqOddsS : Sw_eqOddsS → St
 | .h1 va0 b1 i2 => ⟨sts 27 [(0, sl 2 gi_Odds va0), (1, sl 2 gi_Odds b1), (5, I i2)], []⟩
abbrev Qw_eqOddsS := Nx X 70 0 Kw_eqOddsS Zw_eqOddsS RB (fun _ => [])
theorem nw_eqOddsS : ∀ s o, Bw_eqOddsS s = some o → Qw_eqOddsS (Kw_eqOddsS s) (Zw_eqOddsS s) o
 | .h1 va0 b1 i2, o, H =>
  eIf H (fun h1 H =>
  eCk H fun h2 H =>
  eBind H fun x3 hx3 H =>
  eCk H fun h4 H =>
  eBind H fun x5 hx5 H =>
  eBind H fun r6 hr6 H =>
  gN [rg [hT 3]] (by kernel_rfl) (P2 ((decide (i2 < ((va0.length : Nat) : Int))) = true) (decide_eq_true h1)<|P0) <|
  eIf H (fun h7 H =>
  eN H fun r hn => gO [rg [hE 3 (gi_Odds x3), hE 7 (gi_Odds x5), { i := 8, call := some { cl := true, auto := true, ins := [], res := (RB r6), G' := [] }, dec := some true }], r0, .canon [] [0, 1, 5]] (by kernel_rfl) (P1 h2<|P1 (int_lt_of_at h2 hx3)<|P1 (at_map gi_Odds hx3)<|P1 h4<|P1 (int_lt_of_at h4 hx5)<|P1 (at_map gi_Odds hx5)<|P1 (cw_eqOdds hr6)<|P2 (r6 = true) (h7)<|P0) hn)
  (fun h7 H =>
  eN H<|gE func70 [rg [hE 3 (gi_Odds x3), hE 7 (gi_Odds x5), { i := 8, call := some { cl := true, auto := true, ins := [], res := (RB r6), G' := [] }, dec := some false }], r0] (by kernel_rfl) (P1 h2<|P1 (int_lt_of_at h2 hx3)<|P1 (at_map gi_Odds hx3)<|P1 h4<|P1 (int_lt_of_at h4 hx5)<|P1 (at_map gi_Odds hx5)<|P1 (cw_eqOdds hr6)<|P2 (r6 = false) (eqF h7)<|P0)))
  (fun h1 H =>
  eN H<|gE func70 [rg [hF 3], r0] (by kernel_rfl) (P2 ((decide (i2 < ((va0.length : Nat) : Int))) = false) (decide_eq_false h1)<|P0))
theorem ww_eqOddsS : ∀ s r, loop Bw_eqOddsS s = some r → Wc X 70 0 (Kw_eqOddsS s) (Zw_eqOddsS s) (RB r) ((fun _ => []) r) := Nx.all (nw_eqOddsS)
theorem cw_eqOddsS {a0 : (List Gi_Odds)} {a1 : (List Gi_Odds)} {r : Bool} (H : Dw_eqOddsS a0 a1 = some r) : Ct X.P X.gl 70 [sl 2 gi_Odds a0, sl 2 gi_Odds a1] [] (RB r) [] :=
 Ct.of func70 (c := bdy f70) (by kernel_rfl) (by kernel_rfl) <|
 gS [r0] (by kernel_rfl) P0 <|
 eIf H (fun h1 H =>
 gO [rg [hF 4], r0, .canon [] [0, 1, 5]] (by kernel_rfl) (P2 (((((a0.length : Nat) : Int) : Int) != ((a1.length : Nat) : Int)) = false) (bneF h1)<|P0) (ww_eqOddsS _ _ H))
 (fun h1 H =>
 eW RB (fun _ => []) H<|gE func70 [rg [hT 4], r0] (by kernel_rfl) (P2 (((((a0.length : Nat) : Int) : Int) != ((a1.length : Nat) : Int)) = true) (bneT h1)<|P0))
noncomputable def Kw_eqIntSS : Sw_eqIntSS → List Item
 | .h1 .. => nav 300 3 [false] [.code (bdy f71)]
def Zw_eqIntSS : Sw_eqIntSS → St
 | .h1 va0 b1 i2 => ⟨sts 27 [(0, sl 1 (sl 1 I) va0), (1, sl 1 (sl 1 I) b1), (5, I i2)], []⟩
abbrev Qw_eqIntSS := Nx X 71 0 Kw_eqIntSS Zw_eqIntSS RB (fun _ => [])
theorem nw_eqIntSS : ∀ s o, Bw_eqIntSS s = some o → Qw_eqIntSS (Kw_eqIntSS s) (Zw_eqIntSS s) o
 | .h1 va0 b1 i2, o, H =>
  eIf H (fun h1 H =>
  eCk H fun h2 H =>
  eBind H fun x3 hx3 H =>
  eCk H fun h4 H =>
  eBind H fun x5 hx5 H =>
  eBind H fun r6 hr6 H =>
  gN [rg [hT 3]] (by kernel_rfl) (P2 ((decide (i2 < ((va0.length : Nat) : Int))) = true) (decide_eq_true h1)<|P0) <|
  eIf H (fun h7 H =>
  eN H fun r hn => gO [rg [hE 3 ((sl 1 I) x3), hE 7 ((sl 1 I) x5), { i := 8, call := some { cl := true, auto := true, ins := [], res := (RB r6), G' := [] }, dec := some true }], r0, .canon [] [0, 1, 5]] (by kernel_rfl) (P1 h2<|P1 (int_lt_of_at h2 hx3)<|P1 (at_map (sl 1 I) hx3)<|P1 h4<|P1 (int_lt_of_at h4 hx5)<|P1 (at_map (sl 1 I) hx5)<|P1 (cw_eqIntS hr6)<|P2 (r6 = true) (h7)<|P0) hn)
  (fun h7 H =>
  eN H<|gE func71 [rg [hE 3 ((sl 1 I) x3), hE 7 ((sl 1 I) x5), { i := 8, call := some { cl := true, auto := true, ins := [], res := (RB r6), G' := [] }, dec := some false }], r0] (by kernel_rfl) (P1 h2<|P1 (int_lt_of_at h2 hx3)<|P1 (at_map (sl 1 I) hx3)<|P1 h4<|P1 (int_lt_of_at h4 hx5)<|P1 (at_map (sl 1 I) hx5)<|P1 (cw_eqIntS hr6)<|P2 (r6 = false) (eqF h7)<|P0)))
  (fun h1 H =>
  eN H<|gE func71 [rg [hF 3], r0] (by kernel_rfl) (P2 ((decide (i2 < ((va0.length : Nat) : Int))) = false) (decide_eq_false h1)<|P0))
theorem ww_eqIntSS : ∀ s r, loop Bw_eqIntSS s = some r → Wc X 71 0 (Kw_eqIntSS s) (Zw_eqIntSS s) (RB r) ((fun _ => []) r) := Nx.all (nw_eqIntSS)
theorem cw_eqIntSS {a0 : (List (List Int))} {a1 : (List (List Int))} {r : Bool} (H : Dw_eqIntSS a0 a1 = some r) : Ct X.P X.gl 71 [sl 1 (sl 1 I) a0, sl 1 (sl 1 I) a1] [] (RB r) [] :=
 Ct.of func71 (c := bdy f71) (by kernel_rfl) (by kernel_rfl) <|
 gS [r0] (by kernel_rfl) P0 <|
 eIf H (fun h1 H =>
 gO [rg [hF 4], r0, .canon [] [0, 1, 5]] (by kernel_rfl) (P2 (((((a0.length : Nat) : Int) : Int) != ((a1.length : Nat) : Int)) = false) (bneF h1)<|P0) (ww_eqIntSS _ _ H))
 (fun h1 H =>
 eW RB (fun _ => []) H<|gE func71 [rg [hT 4], r0] (by kernel_rfl) (P2 (((((a0.length : Nat) : Int) : Int) != ((a1.length : Nat) : Int)) = true) (bneT h1)<|P0))
theorem cw_eqCombatTable {a0 : Gi_CombatTable} {a1 : Gi_CombatTable} {r : Bool} (H : Dw_eqCombatTable a0 a1 = some r) : Ct X.P X.gl 27 [gi_CombatTable a0, gi_CombatTable a1] [] (RB r) [] :=
 Ct.of func27 (c := bdy f27) (by kernel_rfl) (by kernel_rfl) <|
 eBind H fun r1 hr1 H =>
 gS [r0] (by kernel_rfl) P0 <|
 eIf H (fun h2 H =>
 gS [rg [{ i := 4, call := some { cl := true, auto := true, ins := [], res := (RB r1), G' := [] }, dec := some true }]] (by kernel_rfl) (P1 (cw_eqOddsS hr1)<|P2 (r1 = true) (h2)<|P0) <|
 eIf H (fun h3 H =>
 eBind H fun r4 hr4 H =>
 gS [rg [hF 4]] (by kernel_rfl) (P2 (((a0.Dice : Int) != a1.Dice) = false) (bneF h3)<|P0) <|
 eIf H (fun h5 H =>
 eW RB (fun _ => []) H<|gE func27 [rg [{ i := 4, call := some { cl := true, auto := true, ins := [], res := (RB r4), G' := [] }, dec := some true }], r0] (by kernel_rfl) (P1 (cw_eqIntSS hr4)<|P2 (r4 = true) (h5)<|P0))
 (fun h5 H =>
 eW RB (fun _ => []) H<|gE func27 [rg [{ i := 4, call := some { cl := true, auto := true, ins := [], res := (RB r4), G' := [] }, dec := some false }], r0] (by kernel_rfl) (P1 (cw_eqIntSS hr4)<|P2 (r4 = false) (eqF h5)<|P0)))
 (fun h3 H =>
 eW RB (fun _ => []) H<|gE func27 [rg [hT 4], r0] (by kernel_rfl) (P2 (((a0.Dice : Int) != a1.Dice) = true) (bneT h3)<|P0)))
 (fun h2 H =>
 eW RB (fun _ => []) H<|gE func27 [rg [{ i := 4, call := some { cl := true, auto := true, ins := [], res := (RB r1), G' := [] }, dec := some false }], r0] (by kernel_rfl) (P1 (cw_eqOddsS hr1)<|P2 (r1 = false) (eqF h2)<|P0))
theorem cw_eqUnit {a0 : Gi_Unit} {a1 : Gi_Unit} {r : Bool} (H : Dw_eqUnit a0 a1 = some r) : Ct X.P X.gl 117 [gi_Unit a0, gi_Unit a1] [] (RB r) [] :=
 Ct.of func117 (c := bdy f117) (by kernel_rfl) (by kernel_rfl) <|
 gS [r0] (by kernel_rfl) P0 <|
 eIf H (fun h1 H =>
 gS [rg [hF 4]] (by kernel_rfl) (P2 (((a0.Side : Int) != a1.Side) = false) (bneF h1)<|P0) <|
 eIf H (fun h2 H =>
 gS [rg [hF 4]] (by kernel_rfl) (P2 (((a0.Kind : Int) != a1.Kind) = false) (bneF h2)<|P0) <|
 eIf H (fun h3 H =>
 gS [rg [hF 4]] (by kernel_rfl) (P2 (((a0.At : Int) != a1.At) = false) (bneF h3)<|P0) <|
 eIf H (fun h4 H =>
 eW RB (fun _ => []) H<|gE func117 [rg [hF 4], r0] (by kernel_rfl) (P2 (((a0.Steps : Int) != a1.Steps) = false) (bneF h4)<|P0))
 (fun h4 H =>
 eW RB (fun _ => []) H<|gE func117 [rg [hT 4], r0] (by kernel_rfl) (P2 (((a0.Steps : Int) != a1.Steps) = true) (bneT h4)<|P0)))
 (fun h3 H =>
 eW RB (fun _ => []) H<|gE func117 [rg [hT 4], r0] (by kernel_rfl) (P2 (((a0.At : Int) != a1.At) = true) (bneT h3)<|P0)))
 (fun h2 H =>
 eW RB (fun _ => []) H<|gE func117 [rg [hT 4], r0] (by kernel_rfl) (P2 (((a0.Kind : Int) != a1.Kind) = true) (bneT h2)<|P0)))
 (fun h1 H =>
 eW RB (fun _ => []) H<|gE func117 [rg [hT 4], r0] (by kernel_rfl) (P2 (((a0.Side : Int) != a1.Side) = true) (bneT h1)<|P0))
noncomputable def Kw_eqUnitS : Sw_eqUnitS → List Item
 | .h1 .. => nav 300 3 [false] [.code (bdy f72)]
def Zw_eqUnitS : Sw_eqUnitS → St
 | .h1 va0 b1 i2 => ⟨sts 27 [(0, sl 4 gi_Unit va0), (1, sl 4 gi_Unit b1), (5, I i2)], []⟩
abbrev Qw_eqUnitS := Nx X 72 0 Kw_eqUnitS Zw_eqUnitS RB (fun _ => [])
theorem nw_eqUnitS : ∀ s o, Bw_eqUnitS s = some o → Qw_eqUnitS (Kw_eqUnitS s) (Zw_eqUnitS s) o
 | .h1 va0 b1 i2, o, H =>
  eIf H (fun h1 H =>
  eCk H fun h2 H =>
  eBind H fun x3 hx3 H =>
  eCk H fun h4 H =>
  eBind H fun x5 hx5 H =>
  eBind H fun r6 hr6 H =>
  gN [rg [hT 3]] (by kernel_rfl) (P2 ((decide (i2 < ((va0.length : Nat) : Int))) = true) (decide_eq_true h1)<|P0) <|
  eIf H (fun h7 H =>
  eN H fun r hn => gO [rg [hE 3 (gi_Unit x3), hE 7 (gi_Unit x5), { i := 8, call := some { cl := true, auto := true, ins := [], res := (RB r6), G' := [] }, dec := some true }], r0, .canon [] [0, 1, 5]] (by kernel_rfl) (P1 h2<|P1 (int_lt_of_at h2 hx3)<|P1 (at_map gi_Unit hx3)<|P1 h4<|P1 (int_lt_of_at h4 hx5)<|P1 (at_map gi_Unit hx5)<|P1 (cw_eqUnit hr6)<|P2 (r6 = true) (h7)<|P0) hn)
  (fun h7 H =>
  eN H<|gE func72 [rg [hE 3 (gi_Unit x3), hE 7 (gi_Unit x5), { i := 8, call := some { cl := true, auto := true, ins := [], res := (RB r6), G' := [] }, dec := some false }], r0] (by kernel_rfl) (P1 h2<|P1 (int_lt_of_at h2 hx3)<|P1 (at_map gi_Unit hx3)<|P1 h4<|P1 (int_lt_of_at h4 hx5)<|P1 (at_map gi_Unit hx5)<|P1 (cw_eqUnit hr6)<|P2 (r6 = false) (eqF h7)<|P0)))
  (fun h1 H =>
  eN H<|gE func72 [rg [hF 3], r0] (by kernel_rfl) (P2 ((decide (i2 < ((va0.length : Nat) : Int))) = false) (decide_eq_false h1)<|P0))
theorem ww_eqUnitS : ∀ s r, loop Bw_eqUnitS s = some r → Wc X 72 0 (Kw_eqUnitS s) (Zw_eqUnitS s) (RB r) ((fun _ => []) r) := Nx.all (nw_eqUnitS)
theorem cw_eqUnitS {a0 : (List Gi_Unit)} {a1 : (List Gi_Unit)} {r : Bool} (H : Dw_eqUnitS a0 a1 = some r) : Ct X.P X.gl 72 [sl 4 gi_Unit a0, sl 4 gi_Unit a1] [] (RB r) [] :=
 Ct.of func72 (c := bdy f72) (by kernel_rfl) (by kernel_rfl) <|
 gS [r0] (by kernel_rfl) P0 <|
 eIf H (fun h1 H =>
 gO [rg [hF 4], r0, .canon [] [0, 1, 5]] (by kernel_rfl) (P2 (((((a0.length : Nat) : Int) : Int) != ((a1.length : Nat) : Int)) = false) (bneF h1)<|P0) (ww_eqUnitS _ _ H))
 (fun h1 H =>
 eW RB (fun _ => []) H<|gE func72 [rg [hT 4], r0] (by kernel_rfl) (P2 (((((a0.length : Nat) : Int) : Int) != ((a1.length : Nat) : Int)) = true) (bneT h1)<|P0))
theorem cw_eqState {a0 : Gi_State} {a1 : Gi_State} {r : Bool} (H : Dw_eqState a0 a1 = some r) : Ct X.P X.gl 28 [gi_State a0, gi_State a1] [] (RB r) [] :=
 Ct.of func28 (c := bdy f28) (by kernel_rfl) (by kernel_rfl) <|
 gS [r0] (by kernel_rfl) P0 <|
 eIf H (fun h1 H =>
 gS [rg [hF 4]] (by kernel_rfl) (P2 (((a0.Turn : Int) != a1.Turn) = false) (bneF h1)<|P0) <|
 eIf H (fun h2 H =>
 eBind H fun r3 hr3 H =>
 gS [rg [hF 4]] (by kernel_rfl) (P2 (((a0.Weather : Int) != a1.Weather) = false) (bneF h2)<|P0) <|
 eIf H (fun h4 H =>
 eW RB (fun _ => []) H<|gE func28 [rg [{ i := 4, call := some { cl := true, auto := true, ins := [], res := (RB r3), G' := [] }, dec := some true }], r0] (by kernel_rfl) (P1 (cw_eqUnitS hr3)<|P2 (r3 = true) (h4)<|P0))
 (fun h4 H =>
 eW RB (fun _ => []) H<|gE func28 [rg [{ i := 4, call := some { cl := true, auto := true, ins := [], res := (RB r3), G' := [] }, dec := some false }], r0] (by kernel_rfl) (P1 (cw_eqUnitS hr3)<|P2 (r3 = false) (eqF h4)<|P0)))
 (fun h2 H =>
 eW RB (fun _ => []) H<|gE func28 [rg [hT 4], r0] (by kernel_rfl) (P2 (((a0.Weather : Int) != a1.Weather) = true) (bneT h2)<|P0)))
 (fun h1 H =>
 eW RB (fun _ => []) H<|gE func28 [rg [hT 4], r0] (by kernel_rfl) (P2 (((a0.Turn : Int) != a1.Turn) = true) (bneT h1)<|P0))
theorem cw_eqGoal {a0 : Gi_Goal} {a1 : Gi_Goal} {r : Bool} (H : Dw_eqGoal a0 a1 = some r) : Ct X.P X.gl 118 [gi_Goal a0, gi_Goal a1] [] (RB r) [] :=
 Ct.of func118 (c := bdy f118) (by kernel_rfl) (by kernel_rfl) <|
 gS [r0] (by kernel_rfl) P0 <|
 eIf H (fun h1 H =>
 gS [rg [hF 4]] (by kernel_rfl) (P2 (((a0.At : Int) != a1.At) = false) (bneF h1)<|P0) <|
 eIf H (fun h2 H =>
 eW RB (fun _ => []) H<|gE func118 [rg [hF 4], r0] (by kernel_rfl) (P2 (((a0.Points : Int) != a1.Points) = false) (bneF h2)<|P0))
 (fun h2 H =>
 eW RB (fun _ => []) H<|gE func118 [rg [hT 4], r0] (by kernel_rfl) (P2 (((a0.Points : Int) != a1.Points) = true) (bneT h2)<|P0)))
 (fun h1 H =>
 eW RB (fun _ => []) H<|gE func118 [rg [hT 4], r0] (by kernel_rfl) (P2 (((a0.At : Int) != a1.At) = true) (bneT h1)<|P0))
noncomputable def Kw_eqGoalS : Sw_eqGoalS → List Item
 | .h1 .. => nav 300 3 [false] [.code (bdy f73)]
def Zw_eqGoalS : Sw_eqGoalS → St
 | .h1 va0 b1 i2 => ⟨sts 27 [(0, sl 2 gi_Goal va0), (1, sl 2 gi_Goal b1), (5, I i2)], []⟩
abbrev Qw_eqGoalS := Nx X 73 0 Kw_eqGoalS Zw_eqGoalS RB (fun _ => [])
theorem nw_eqGoalS : ∀ s o, Bw_eqGoalS s = some o → Qw_eqGoalS (Kw_eqGoalS s) (Zw_eqGoalS s) o
 | .h1 va0 b1 i2, o, H =>
  eIf H (fun h1 H =>
  eCk H fun h2 H =>
  eBind H fun x3 hx3 H =>
  eCk H fun h4 H =>
  eBind H fun x5 hx5 H =>
  eBind H fun r6 hr6 H =>
  gN [rg [hT 3]] (by kernel_rfl) (P2 ((decide (i2 < ((va0.length : Nat) : Int))) = true) (decide_eq_true h1)<|P0) <|
  eIf H (fun h7 H =>
  eN H fun r hn => gO [rg [hE 3 (gi_Goal x3), hE 7 (gi_Goal x5), { i := 8, call := some { cl := true, auto := true, ins := [], res := (RB r6), G' := [] }, dec := some true }], r0, .canon [] [0, 1, 5]] (by kernel_rfl) (P1 h2<|P1 (int_lt_of_at h2 hx3)<|P1 (at_map gi_Goal hx3)<|P1 h4<|P1 (int_lt_of_at h4 hx5)<|P1 (at_map gi_Goal hx5)<|P1 (cw_eqGoal hr6)<|P2 (r6 = true) (h7)<|P0) hn)
  (fun h7 H =>
  eN H<|gE func73 [rg [hE 3 (gi_Goal x3), hE 7 (gi_Goal x5), { i := 8, call := some { cl := true, auto := true, ins := [], res := (RB r6), G' := [] }, dec := some false }], r0] (by kernel_rfl) (P1 h2<|P1 (int_lt_of_at h2 hx3)<|P1 (at_map gi_Goal hx3)<|P1 h4<|P1 (int_lt_of_at h4 hx5)<|P1 (at_map gi_Goal hx5)<|P1 (cw_eqGoal hr6)<|P2 (r6 = false) (eqF h7)<|P0)))
  (fun h1 H =>
  eN H<|gE func73 [rg [hF 3], r0] (by kernel_rfl) (P2 ((decide (i2 < ((va0.length : Nat) : Int))) = false) (decide_eq_false h1)<|P0))
theorem ww_eqGoalS : ∀ s r, loop Bw_eqGoalS s = some r → Wc X 73 0 (Kw_eqGoalS s) (Zw_eqGoalS s) (RB r) ((fun _ => []) r) := Nx.all (nw_eqGoalS)
theorem cw_eqGoalS {a0 : (List Gi_Goal)} {a1 : (List Gi_Goal)} {r : Bool} (H : Dw_eqGoalS a0 a1 = some r) : Ct X.P X.gl 73 [sl 2 gi_Goal a0, sl 2 gi_Goal a1] [] (RB r) [] :=
 Ct.of func73 (c := bdy f73) (by kernel_rfl) (by kernel_rfl) <|
 gS [r0] (by kernel_rfl) P0 <|
 eIf H (fun h1 H =>
 gO [rg [hF 4], r0, .canon [] [0, 1, 5]] (by kernel_rfl) (P2 (((((a0.length : Nat) : Int) : Int) != ((a1.length : Nat) : Int)) = false) (bneF h1)<|P0) (ww_eqGoalS _ _ H))
 (fun h1 H =>
 eW RB (fun _ => []) H<|gE func73 [rg [hT 4], r0] (by kernel_rfl) (P2 (((((a0.length : Nat) : Int) : Int) != ((a1.length : Nat) : Int)) = true) (bneT h1)<|P0))
theorem cw_eqConditions {a0 : Gi_Conditions} {a1 : Gi_Conditions} {r : Bool} (H : Dw_eqConditions a0 a1 = some r) : Ct X.P X.gl 29 [gi_Conditions a0, gi_Conditions a1] [] (RB r) [] :=
 Ct.of func29 (c := bdy f29) (by kernel_rfl) (by kernel_rfl) <|
 eBind H fun r1 hr1 H =>
 gS [r0] (by kernel_rfl) P0 <|
 eIf H (fun h2 H =>
 gS [rg [{ i := 4, call := some { cl := true, auto := true, ins := [], res := (RB r1), G' := [] }, dec := some true }]] (by kernel_rfl) (P1 (cw_eqGoalS hr1)<|P2 (r1 = true) (h2)<|P0) <|
 eIf H (fun h3 H =>
 gS [rg [hF 4]] (by kernel_rfl) (P2 (((a0.Step : Int) != a1.Step) = false) (bneF h3)<|P0) <|
 eIf H (fun h4 H =>
 eW RB (fun _ => []) H<|gE func29 [rg [hF 4], r0] (by kernel_rfl) (P2 (((a0.Margin : Int) != a1.Margin) = false) (bneF h4)<|P0))
 (fun h4 H =>
 eW RB (fun _ => []) H<|gE func29 [rg [hT 4], r0] (by kernel_rfl) (P2 (((a0.Margin : Int) != a1.Margin) = true) (bneT h4)<|P0)))
 (fun h3 H =>
 eW RB (fun _ => []) H<|gE func29 [rg [hT 4], r0] (by kernel_rfl) (P2 (((a0.Step : Int) != a1.Step) = true) (bneT h3)<|P0)))
 (fun h2 H =>
 eW RB (fun _ => []) H<|gE func29 [rg [{ i := 4, call := some { cl := true, auto := true, ins := [], res := (RB r1), G' := [] }, dec := some false }], r0] (by kernel_rfl) (P1 (cw_eqGoalS hr1)<|P2 (r1 = false) (eqF h2)<|P0))
theorem cw_eqScenario {a0 : Gi_Scenario} {a1 : Gi_Scenario} {r : Bool} (H : Dw_eqScenario a0 a1 = some r) : Ct X.P X.gl 9 [gi_Scenario a0, gi_Scenario a1] [] (RB r) [] :=
 Ct.of func9 (c := bdy f9) (by kernel_rfl) (by kernel_rfl) <|
 gS [r0] (by kernel_rfl) P0 <|
 eIf H (fun h1 H =>
 eBind H fun r2 hr2 H =>
 gS [rg [hF 4]] (by kernel_rfl) (P2 ((!(a0.Name == a1.Name)) = false) (nbeqF h1)<|P0) <|
 eIf H (fun h3 H =>
 eBind H fun r4 hr4 H =>
 gS [rg [{ i := 4, call := some { cl := true, auto := true, ins := [], res := (RB r2), G' := [] }, dec := some true }]] (by kernel_rfl) (P1 (cw_eqBoard hr2)<|P2 (r2 = true) (h3)<|P0) <|
 eIf H (fun h5 H =>
 eBind H fun r6 hr6 H =>
 gS [rg [{ i := 4, call := some { cl := true, auto := true, ins := [], res := (RB r4), G' := [] }, dec := some true }]] (by kernel_rfl) (P1 (cw_eqCombatTable hr4)<|P2 (r4 = true) (h5)<|P0) <|
 eIf H (fun h7 H =>
 eBind H fun r8 hr8 H =>
 gS [rg [{ i := 4, call := some { cl := true, auto := true, ins := [], res := (RB r6), G' := [] }, dec := some true }]] (by kernel_rfl) (P1 (cw_eqState hr6)<|P2 (r6 = true) (h7)<|P0) <|
 eIf H (fun h9 H =>
 eBind H fun r10 hr10 H =>
 gS [rg [{ i := 4, call := some { cl := true, auto := true, ins := [], res := (RB r8), G' := [] }, dec := some true }]] (by kernel_rfl) (P1 (cw_eqConditions hr8)<|P2 (r8 = true) (h9)<|P0) <|
 eIf H (fun h11 H =>
 eBind H fun r12 hr12 H =>
 gS [rg [{ i := 4, call := some { cl := true, auto := true, ins := [], res := (RB r10), G' := [] }, dec := some true }]] (by kernel_rfl) (P1 (cw_eqIntS hr10)<|P2 (r10 = true) (h11)<|P0) <|
 eIf H (fun h13 H =>
 eW RB (fun _ => []) H<|gE func9 [rg [{ i := 4, call := some { cl := true, auto := true, ins := [], res := (RB r12), G' := [] }, dec := some true }], r0] (by kernel_rfl) (P1 (cw_eqIntS hr12)<|P2 (r12 = true) (h13)<|P0))
 (fun h13 H =>
 eW RB (fun _ => []) H<|gE func9 [rg [{ i := 4, call := some { cl := true, auto := true, ins := [], res := (RB r12), G' := [] }, dec := some false }], r0] (by kernel_rfl) (P1 (cw_eqIntS hr12)<|P2 (r12 = false) (eqF h13)<|P0)))
 (fun h11 H =>
 eW RB (fun _ => []) H<|gE func9 [rg [{ i := 4, call := some { cl := true, auto := true, ins := [], res := (RB r10), G' := [] }, dec := some false }], r0] (by kernel_rfl) (P1 (cw_eqIntS hr10)<|P2 (r10 = false) (eqF h11)<|P0)))
 (fun h9 H =>
 eW RB (fun _ => []) H<|gE func9 [rg [{ i := 4, call := some { cl := true, auto := true, ins := [], res := (RB r8), G' := [] }, dec := some false }], r0] (by kernel_rfl) (P1 (cw_eqConditions hr8)<|P2 (r8 = false) (eqF h9)<|P0)))
 (fun h7 H =>
 eW RB (fun _ => []) H<|gE func9 [rg [{ i := 4, call := some { cl := true, auto := true, ins := [], res := (RB r6), G' := [] }, dec := some false }], r0] (by kernel_rfl) (P1 (cw_eqState hr6)<|P2 (r6 = false) (eqF h7)<|P0)))
 (fun h5 H =>
 eW RB (fun _ => []) H<|gE func9 [rg [{ i := 4, call := some { cl := true, auto := true, ins := [], res := (RB r4), G' := [] }, dec := some false }], r0] (by kernel_rfl) (P1 (cw_eqCombatTable hr4)<|P2 (r4 = false) (eqF h5)<|P0)))
 (fun h3 H =>
 eW RB (fun _ => []) H<|gE func9 [rg [{ i := 4, call := some { cl := true, auto := true, ins := [], res := (RB r2), G' := [] }, dec := some false }], r0] (by kernel_rfl) (P1 (cw_eqBoard hr2)<|P2 (r2 = false) (eqF h3)<|P0)))
 (fun h1 H =>
 eW RB (fun _ => []) H<|gE func9 [rg [hT 4], r0] (by kernel_rfl) (P2 ((!(a0.Name == a1.Name)) = true) (nbeqT h1)<|P0))
theorem cw_FnExactScenarioText {a0 : Gw_Scenario} {r : Bool} (H : Dw_FnExactScenarioText a0 = some r) : Ct X.P X.gl 3 [gw_Scenario a0] [] (RB r) [] :=
 Ct.of func3 (c := bdy f3) (by kernel_rfl) (by kernel_rfl) <|
 eBind H fun r1 hr1 H =>
 gS [r0, r0, rg [hC 2 true [] (RI r1) []]] (by kernel_rfl) (P1 (cw_szScenario hr1)<|P0) <|
 eIf H (fun h2 H =>
 eW RB (fun _ => []) H<|gE func3 [rg [hT 1], r0] (by kernel_rfl) (P2 ((decide (r1 < 0)) = true) (decide_eq_true h2)<|P0))
 (fun h2 H =>
 eBind H fun r3 hr3 H =>
 eBind H fun r4 hr4 H =>
 eBind H fun r5 hr5 H =>
 eBind H fun r6 hr6 H =>
 gS [rg [hF 1], rg [hC 1 true [] (Rw_toScenario r3) [], { i := 2, call := some { cl := false, ins := [], args := [gi_Scenario r3], res := Rs_ScenarioText r4, G' := [] } }], rg [hC 1 true [] (Rw_toScenario r5) []], rg [{ i := 1, call := some { cl := false, ins := [], args := [gi_Scenario r5], res := Ri_ScenarioText r6, G' := [] } }]] (by kernel_rfl) (P2 ((decide (r1 < 0)) = false) (decide_eq_false h2)<|P1 (cw_toScenario hr3)<|PI r3.Name<|PE ero_186 r3.Board.Rules.Terrains<|PL gi_Kind r3.Board.Rules.Kinds<|PI r3.Board.Rules.Stack<|PI r3.Board.Rules.River<|PI r3.Board.Rules.Road<|PI r3.Board.Rules.Supply<|PI r3.Board.Rules.Turns<|PI r3.Board.Map.Width<|PI r3.Board.Map.Height<|PL I r3.Board.Map.Terrain<|PL I r3.Board.Map.Rivers<|PL I r3.Board.Map.Roads<|PL gi_Odds r3.Table.Columns<|PI r3.Table.Dice<|PE ero_26 r3.Table.Results<|PI r3.Start.Turn<|PI r3.Start.Weather<|PL gi_Unit r3.Start.Units<|PL gi_Goal r3.Conditions.Goals<|PI r3.Conditions.Step<|PI r3.Conditions.Margin<|PL I r3.First<|PL I r3.Other<|P1 (cs_ScenarioText hr4)<|P1 (cw_toScenario hr5)<|PI r5.Name<|PE ero_186 r5.Board.Rules.Terrains<|PL gi_Kind r5.Board.Rules.Kinds<|PI r5.Board.Rules.Stack<|PI r5.Board.Rules.River<|PI r5.Board.Rules.Road<|PI r5.Board.Rules.Supply<|PI r5.Board.Rules.Turns<|PI r5.Board.Map.Width<|PI r5.Board.Map.Height<|PL I r5.Board.Map.Terrain<|PL I r5.Board.Map.Rivers<|PL I r5.Board.Map.Roads<|PL gi_Odds r5.Table.Columns<|PI r5.Table.Dice<|PE ero_26 r5.Table.Results<|PI r5.Start.Turn<|PI r5.Start.Weather<|PL gi_Unit r5.Start.Units<|PL gi_Goal r5.Conditions.Goals<|PI r5.Conditions.Step<|PI r5.Conditions.Margin<|PL I r5.First<|PL I r5.Other<|P1 (ci_ScenarioText hr6)<|P0) <|
 eIf H (fun h7 H =>
 eIf H (fun h8 H =>
 eW RB (fun _ => []) H<|gE func3 [rg [hF 2, hT 6], r0] (by kernel_rfl) (P2 ((!(r6.1 == r4.1)) = false) (nbeqF h7)<|P2 ((!(r6.2 == r4.2)) = true) (h8)<|P0))
 (fun h8 H =>
 eBind H fun r9 hr9 H =>
 eBind H fun r10 hr10 H =>
 gS [rg [hF 2, hF 6]] (by kernel_rfl) (P2 ((!(r6.1 == r4.1)) = false) (nbeqF h7)<|P2 ((!(r6.2 == r4.2)) = false) (eqF h8)<|P0) <|
 eIf H (fun h11 H =>
 eW RB (fun _ => []) H<|gE func3 [rg [hC 2 true [] (Rw_toScenario r9) [], { i := 3, call := some { cl := false, ins := [], args := [gi_Scenario r5, gi_Scenario r9], res := RB r10, G' := [] }, dec := some true }], r0] (by kernel_rfl) (P1 (cw_toScenario hr9)<|PI r5.Name<|PE ero_186 r5.Board.Rules.Terrains<|PL gi_Kind r5.Board.Rules.Kinds<|PI r5.Board.Rules.Stack<|PI r5.Board.Rules.River<|PI r5.Board.Rules.Road<|PI r5.Board.Rules.Supply<|PI r5.Board.Rules.Turns<|PI r5.Board.Map.Width<|PI r5.Board.Map.Height<|PL I r5.Board.Map.Terrain<|PL I r5.Board.Map.Rivers<|PL I r5.Board.Map.Roads<|PL gi_Odds r5.Table.Columns<|PI r5.Table.Dice<|PE ero_26 r5.Table.Results<|PI r5.Start.Turn<|PI r5.Start.Weather<|PL gi_Unit r5.Start.Units<|PL gi_Goal r5.Conditions.Goals<|PI r5.Conditions.Step<|PI r5.Conditions.Margin<|PL I r5.First<|PL I r5.Other<|PI r9.Name<|PE ero_186 r9.Board.Rules.Terrains<|PL gi_Kind r9.Board.Rules.Kinds<|PI r9.Board.Rules.Stack<|PI r9.Board.Rules.River<|PI r9.Board.Rules.Road<|PI r9.Board.Rules.Supply<|PI r9.Board.Rules.Turns<|PI r9.Board.Map.Width<|PI r9.Board.Map.Height<|PL I r9.Board.Map.Terrain<|PL I r9.Board.Map.Rivers<|PL I r9.Board.Map.Roads<|PL gi_Odds r9.Table.Columns<|PI r9.Table.Dice<|PE ero_26 r9.Table.Results<|PI r9.Start.Turn<|PI r9.Start.Weather<|PL gi_Unit r9.Start.Units<|PL gi_Goal r9.Conditions.Goals<|PI r9.Conditions.Step<|PI r9.Conditions.Margin<|PL I r9.First<|PL I r9.Other<|P1 (cw_eqScenario hr10)<|P2 (r10 = true) (h11)<|P0))
 (fun h11 H =>
 eW RB (fun _ => []) H<|gE func3 [rg [hC 2 true [] (Rw_toScenario r9) [], { i := 3, call := some { cl := false, ins := [], args := [gi_Scenario r5, gi_Scenario r9], res := RB r10, G' := [] }, dec := some false }], r0] (by kernel_rfl) (P1 (cw_toScenario hr9)<|PI r5.Name<|PE ero_186 r5.Board.Rules.Terrains<|PL gi_Kind r5.Board.Rules.Kinds<|PI r5.Board.Rules.Stack<|PI r5.Board.Rules.River<|PI r5.Board.Rules.Road<|PI r5.Board.Rules.Supply<|PI r5.Board.Rules.Turns<|PI r5.Board.Map.Width<|PI r5.Board.Map.Height<|PL I r5.Board.Map.Terrain<|PL I r5.Board.Map.Rivers<|PL I r5.Board.Map.Roads<|PL gi_Odds r5.Table.Columns<|PI r5.Table.Dice<|PE ero_26 r5.Table.Results<|PI r5.Start.Turn<|PI r5.Start.Weather<|PL gi_Unit r5.Start.Units<|PL gi_Goal r5.Conditions.Goals<|PI r5.Conditions.Step<|PI r5.Conditions.Margin<|PL I r5.First<|PL I r5.Other<|PI r9.Name<|PE ero_186 r9.Board.Rules.Terrains<|PL gi_Kind r9.Board.Rules.Kinds<|PI r9.Board.Rules.Stack<|PI r9.Board.Rules.River<|PI r9.Board.Rules.Road<|PI r9.Board.Rules.Supply<|PI r9.Board.Rules.Turns<|PI r9.Board.Map.Width<|PI r9.Board.Map.Height<|PL I r9.Board.Map.Terrain<|PL I r9.Board.Map.Rivers<|PL I r9.Board.Map.Roads<|PL gi_Odds r9.Table.Columns<|PI r9.Table.Dice<|PE ero_26 r9.Table.Results<|PI r9.Start.Turn<|PI r9.Start.Weather<|PL gi_Unit r9.Start.Units<|PL gi_Goal r9.Conditions.Goals<|PI r9.Conditions.Step<|PI r9.Conditions.Margin<|PL I r9.First<|PL I r9.Other<|P1 (cw_eqScenario hr10)<|P2 (r10 = false) (eqF h11)<|P0))))
 (fun h7 H =>
 eW RB (fun _ => []) H<|gE func3 [rg [hT 2], r0] (by kernel_rfl) (P2 ((!(r6.1 == r4.1)) = true) (nbeqT h7)<|P0)))
end Go.Proofs.YtogomlkoocbhcaaGreatDoor.Ab
