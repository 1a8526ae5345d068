/- Part of the proof of FnExactIsFairCard: no condition of its own. -/
import Derived.Test.YtogomlkoocbhcaaGreatDoorE1FC
set_option linter.unusedVariables false
set_option linter.unusedSimpArgs false
open Go Go.Proofs Go.Proofs.Tryz
namespace Go.Proofs.YtogomlkoocbhcaaGreatDoor.Ab
theorem ci_goodKind {a0 : Gi_Kind} {r : Bool} (H : Di_goodKind a0 = some r) : Ct X.P X.gl 207 [gi_Kind a0] [] (RB r) [] :=
 Ct.of func207 (c := bdy f207) (by kernel_rfl) (by kernel_rfl) <|
 eBind H fun r1 hr1 H =>
 gS [r0] (by kernel_rfl) P0 <|
 eIf H (fun h2 H =>
 eBind H fun r3 hr3 H =>
 eIf H (fun h4 H =>
 eBind H fun r5 hr5 H =>
 eIf H (fun h6 H =>
 eBind H fun r7 hr7 H =>
 eIf H (fun h8 H =>
 eBind H fun r9 hr9 H =>
 eW RB (fun _ => []) H<|gE func207 [rg [{ i := 2, call := some { cl := true, auto := true, ins := [], res := (RB r1), G' := [] }, dec := some true }, { i := 6, call := some { cl := true, auto := true, ins := [], res := (RB r3), G' := [] }, dec := some true }, { i := 11, call := some { cl := true, auto := true, ins := [], res := (RB r5), G' := [] }, dec := some true }, { i := 16, call := some { cl := true, auto := true, ins := [], res := (RB r7), G' := [] }, dec := some true }, hC 21 true [] (RB r9) []]] (by kernel_rfl) (P1 (ci_isName hr1)<|P2 (r1 = true) (h2)<|P1 (ci_inRange hr3)<|P2 (r3 = true) (h4)<|P1 (ci_inRange hr5)<|P2 (r5 = true) (h6)<|P1 (ci_inRange hr7)<|P2 (r7 = true) (h8)<|P1 (ci_inRange hr9)<|P0))
 (fun h8 H =>
 eW RB (fun _ => []) H<|gE func207 [rg [{ i := 2, call := some { cl := true, auto := true, ins := [], res := (RB r1), G' := [] }, dec := some true }, { i := 6, call := some { cl := true, auto := true, ins := [], res := (RB r3), G' := [] }, dec := some true }, { i := 11, call := some { cl := true, auto := true, ins := [], res := (RB r5), G' := [] }, dec := some true }, { i := 16, call := some { cl := true, auto := true, ins := [], res := (RB r7), G' := [] }, dec := some false }]] (by kernel_rfl) (P1 (ci_isName hr1)<|P2 (r1 = true) (h2)<|P1 (ci_inRange hr3)<|P2 (r3 = true) (h4)<|P1 (ci_inRange hr5)<|P2 (r5 = true) (h6)<|P1 (ci_inRange hr7)<|P2 (r7 = false) (eqF h8)<|P0)))
 (fun h6 H =>
 eW RB (fun _ => []) H<|gE func207 [rg [{ i := 2, call := some { cl := true, auto := true, ins := [], res := (RB r1), G' := [] }, dec := some true }, { i := 6, call := some { cl := true, auto := true, ins := [], res := (RB r3), G' := [] }, dec := some true }, { i := 11, call := some { cl := true, auto := true, ins := [], res := (RB r5), G' := [] }, dec := some false }]] (by kernel_rfl) (P1 (ci_isName hr1)<|P2 (r1 = true) (h2)<|P1 (ci_inRange hr3)<|P2 (r3 = true) (h4)<|P1 (ci_inRange hr5)<|P2 (r5 = false) (eqF h6)<|P0)))
 (fun h4 H =>
 eW RB (fun _ => []) H<|gE func207 [rg [{ i := 2, call := some { cl := true, auto := true, ins := [], res := (RB r1), G' := [] }, dec := some true }, { i := 6, call := some { cl := true, auto := true, ins := [], res := (RB r3), G' := [] }, dec := some false }]] (by kernel_rfl) (P1 (ci_isName hr1)<|P2 (r1 = true) (h2)<|P1 (ci_inRange hr3)<|P2 (r3 = false) (eqF h4)<|P0)))
 (fun h2 H =>
 eW RB (fun _ => []) H<|gE func207 [rg [{ i := 2, call := some { cl := true, auto := true, ins := [], res := (RB r1), G' := [] }, dec := some false }]] (by kernel_rfl) (P1 (ci_isName hr1)<|P2 (r1 = false) (eqF h2)<|P0))
theorem ci_kindIndex_1 {a0 : Gi_Kind} {a1 : ByteArray} {r : Bool} (H : Di_kindIndex_1 a0 a1 = some r) : Ct X.P X.gl 247 [gi_Kind a0, .fptr 1 [.agg [.str a1]] 0 0] [] (RB r) [] :=
 Ct.of func247 (c := bdy f247) (by kernel_rfl) (by kernel_rfl) <|
 eW RB (fun _ => []) H<|gE func247 [r0, r0] (by kernel_rfl) P0
noncomputable def Kslices_IndexFunc_i_Kind_i_kindIndex_1 : Sslices_IndexFunc_i_Kind_i_kindIndex_1 → List Item
 | .h1 .. => nav 300 2 [] [.code (bdy f246)]
def Zslices_IndexFunc_i_Kind_i_kindIndex_1 : Sslices_IndexFunc_i_Kind_i_kindIndex_1 → St
 | .h1 s0 f1 t2 t3 => ⟨sts 19 [(0, sl 6 gi_Kind s0), (1, .fn 247 [.fptr 1 [.agg [.str f1]] 0 0]), (7, I t2), (8, I t3)], []⟩
abbrev Qslices_IndexFunc_i_Kind_i_kindIndex_1 := Nx X 246 0 Kslices_IndexFunc_i_Kind_i_kindIndex_1 Zslices_IndexFunc_i_Kind_i_kindIndex_1 RI (fun _ => [])
theorem nslices_IndexFunc_i_Kind_i_kindIndex_1 : ∀ s o, Bslices_IndexFunc_i_Kind_i_kindIndex_1 s = some o → Qslices_IndexFunc_i_Kind_i_kindIndex_1 (Kslices_IndexFunc_i_Kind_i_kindIndex_1 s) (Zslices_IndexFunc_i_Kind_i_kindIndex_1 s) o
 | .h1 s0 f1 t2 t3, o, H =>
  eIf H (fun h1 H =>
  eCk H fun h2 H =>
  eBind H fun x3 hx3 H =>
  eBind H fun r4 hr4 H =>
  gN [rg [hT 0], r0] (by kernel_rfl) (P2 ((decide (t3 < t2)) = true) (decide_eq_true h1)<|P0) <|
  eIf H (fun h5 H =>
  eN H<|gE func246 [rg [hE 4 (gi_Kind x3), { i := 5, call := some { cl := true, auto := true, ins := [], res := (RB r4), G' := [] }, dec := some true }], r0] (by kernel_rfl) (P1 h2<|P1 (int_lt_of_at h2 hx3)<|P1 (at_map gi_Kind hx3)<|P1 (ci_kindIndex_1 hr4)<|P2 (r4 = true) (h5)<|P0))
  (fun h5 H =>
  eN H fun r hn => gO [rg [hE 4 (gi_Kind x3), { i := 5, call := some { cl := true, auto := true, ins := [], res := (RB r4), G' := [] }, dec := some false }], r0, .canon [] [0, 1, 7, 8]] (by kernel_rfl) (P1 h2<|P1 (int_lt_of_at h2 hx3)<|P1 (at_map gi_Kind hx3)<|P1 (ci_kindIndex_1 hr4)<|P2 (r4 = false) (eqF h5)<|P0) hn))
  (fun h1 H =>
  eN H<|gE func246 [rg [hF 0], r0] (by kernel_rfl) (P2 ((decide (t3 < t2)) = false) (decide_eq_false h1)<|P0))
theorem wslices_IndexFunc_i_Kind_i_kindIndex_1 : ∀ s r, loop Bslices_IndexFunc_i_Kind_i_kindIndex_1 s = some r → Wc X 246 0 (Kslices_IndexFunc_i_Kind_i_kindIndex_1 s) (Zslices_IndexFunc_i_Kind_i_kindIndex_1 s) (RI r) ((fun _ => []) r) := Nx.all (nslices_IndexFunc_i_Kind_i_kindIndex_1)
theorem cslices_IndexFunc_i_Kind_i_kindIndex_1 {a0 : (List Gi_Kind)} {a100 : ByteArray} {r : Int} (H : Dslices_IndexFunc_i_Kind_i_kindIndex_1 a0 a100 = some r) : Ct X.P X.gl 246 [sl 6 gi_Kind a0, .fn 247 [.fptr 1 [.agg [.str a100]] 0 0]] [] (RI r) [] :=
 Ct.of func246 (c := bdy f246) (by kernel_rfl) (by kernel_rfl) <|
 gO [r0, r0, .canon [] [0, 1, 7, 8]] (by kernel_rfl) P0 (wslices_IndexFunc_i_Kind_i_kindIndex_1 _ _ H)
theorem ci_kindIndex {a0 : (List Gi_Kind)} {a1 : ByteArray} {r : Int} (H : Di_kindIndex a0 a1 = some r) : Ct X.P X.gl 208 [sl 6 gi_Kind a0, .str a1] [] (RI r) [] :=
 Ct.of func208 (c := bdy f208) (by kernel_rfl) (by kernel_rfl) <|
 eBind H fun r1 hr1 H =>
 eW RI (fun _ => []) H<|gE func208 [r0, rg [hC 2 false [] (RI r1) []]] (by kernel_rfl) (P1 (cslices_IndexFunc_i_Kind_i_kindIndex_1 hr1)<|P0)
noncomputable def Ki_IsRules : Si_IsRules → List Item
 | .h1 .. => nav 300 3 [false] [.code (bdy f153)]
 | .h2 .. => nav 300 5 [false, false] [.code (bdy f153)]
def Zi_IsRules : Si_IsRules → St
 | .h1 t0 t1 t2 b3 => ⟨sts 87 [(1, .ptr 0 7 0 0), (20, sl 5 gi_Terrain t0), (21, I t1), (22, I t2)], [some ⟨false, true, 7, 1, [gi_Rules b3]⟩]⟩
 | .h2 t0 t1 t2 b3 => ⟨sts 87 [(1, .ptr 0 7 0 0), (44, sl 6 gi_Kind t0), (45, I t1), (46, I t2)], [some ⟨false, true, 7, 1, [gi_Rules b3]⟩]⟩
abbrev Qi_IsRules := Nx X 153 0 Ki_IsRules Zi_IsRules RB (fun _ => [])
theorem ni_IsRules : ∀ s o, Bi_IsRules s = some o → Qi_IsRules (Ki_IsRules s) (Zi_IsRules s) o
 | .h1 t0 t1 t2 b3, o, H =>
  eIf H (fun h1 H =>
  eCk H fun h2 H =>
  eBind H fun x3 hx3 H =>
  eBind H fun r4 hr4 H =>
  gN [rg [hT 0], rg [hE 2 (gi_Terrain x3)]] (by kernel_rfl) (P2 ((decide (t2 < t1)) = true) (decide_eq_true h1)<|P1 h2<|P1 (int_lt_of_at h2 hx3)<|P1 (at_map gi_Terrain hx3)<|P0) <|
  eIf H (fun h5 H =>
  eBind H fun r6 hr6 H =>
  eIf H (fun h7 H =>
  eN H fun r hn => gO [rg [{ i := 4, call := some { cl := true, auto := true, ins := [], res := (RB r4), G' := [] }, dec := some true }, hC 11 true [] (RI r6) [], hF 13], r0, .canon [0] [1, 20, 21, 22]] (by kernel_rfl) (P1 (ci_goodTerrain hr4)<|P2 (r4 = true) (h5)<|P1 (ci_terrainIndex hr6)<|P2 (((r6 : Int) != t2) = false) (bneF h7)<|P0) hn)
  (fun h7 H =>
  eN H<|gE func153 [rg [{ i := 4, call := some { cl := true, auto := true, ins := [], res := (RB r4), G' := [] }, dec := some true }, hC 11 true [] (RI r6) [], hT 13], r0] (by kernel_rfl) (P1 (ci_goodTerrain hr4)<|P2 (r4 = true) (h5)<|P1 (ci_terrainIndex hr6)<|P2 (((r6 : Int) != t2) = true) (bneT h7)<|P0)))
  (fun h5 H =>
  eN H<|gE func153 [rg [{ i := 4, call := some { cl := true, auto := true, ins := [], res := (RB r4), G' := [] }, dec := some false }], r0] (by kernel_rfl) (P1 (ci_goodTerrain hr4)<|P2 (r4 = false) (eqF h5)<|P0)))
  (fun h1 H =>
  eN H fun r hn => gO [rg [hF 0], r0, .canon [0] [1, 44, 45, 46]] (by kernel_rfl) (P2 ((decide (t2 < t1)) = false) (decide_eq_false h1)<|P0) hn)
 | .h2 t0 t1 t2 b3, o, H =>
  eIf H (fun h1 H =>
  eCk H fun h2 H =>
  eBind H fun x3 hx3 H =>
  eBind H fun r4 hr4 H =>
  gN [rg [hT 0], rg [hE 2 (gi_Kind x3)]] (by kernel_rfl) (P2 ((decide (t2 < t1)) = true) (decide_eq_true h1)<|P1 h2<|P1 (int_lt_of_at h2 hx3)<|P1 (at_map gi_Kind hx3)<|P0) <|
  eIf H (fun h5 H =>
  eBind H fun r6 hr6 H =>
  eIf H (fun h7 H =>
  eN H fun r hn => gO [rg [{ i := 1, call := some { cl := true, auto := true, ins := [], res := (RB r4), G' := [] }, dec := some true }, hC 8 true [] (RI r6) [], hF 10], r0, .canon [0] [1, 44, 45, 46]] (by kernel_rfl) (P1 (ci_goodKind hr4)<|P2 (r4 = true) (h5)<|P1 (ci_kindIndex hr6)<|P2 (((r6 : Int) != t2) = false) (bneF h7)<|P0) hn)
  (fun h7 H =>
  eN H<|gE func153 [rg [{ i := 1, call := some { cl := true, auto := true, ins := [], res := (RB r4), G' := [] }, dec := some true }, hC 8 true [] (RI r6) [], hT 10], r0] (by kernel_rfl) (P1 (ci_goodKind hr4)<|P2 (r4 = true) (h5)<|P1 (ci_kindIndex hr6)<|P2 (((r6 : Int) != t2) = true) (bneT h7)<|P0)))
  (fun h5 H =>
  eN H<|gE func153 [rg [{ i := 1, call := some { cl := true, auto := true, ins := [], res := (RB r4), G' := [] }, dec := some false }], r0] (by kernel_rfl) (P1 (ci_goodKind hr4)<|P2 (r4 = false) (eqF h5)<|P0)))
  (fun h1 H =>
  eBind H fun r2 hr2 H =>
  gN [rg [hF 0]] (by kernel_rfl) (P2 ((decide (t2 < t1)) = false) (decide_eq_false h1)<|P0) <|
  eIf H (fun h3 H =>
  eBind H fun r4 hr4 H =>
  eIf H (fun h5 H =>
  eBind H fun r6 hr6 H =>
  eIf H (fun h7 H =>
  eBind H fun r8 hr8 H =>
  eIf H (fun h9 H =>
  eBind H fun r10 hr10 H =>
  eN H<|gE func153 [rg [{ i := 2, call := some { cl := true, auto := true, ins := [], res := (RB r2), G' := [] }, dec := some true }, { i := 6, call := some { cl := true, auto := true, ins := [], res := (RB r4), G' := [] }, dec := some true }, { i := 11, call := some { cl := true, auto := true, ins := [], res := (RB r6), G' := [] }, dec := some true }, { i := 16, call := some { cl := true, auto := true, ins := [], res := (RB r8), G' := [] }, dec := some true }, hC 21 true [] (RB r10) []]] (by kernel_rfl) (P1 (ci_inRange hr2)<|P2 (r2 = true) (h3)<|P1 (ci_inRange hr4)<|P2 (r4 = true) (h5)<|P1 (ci_inRange hr6)<|P2 (r6 = true) (h7)<|P1 (ci_inRange hr8)<|P2 (r8 = true) (h9)<|P1 (ci_inRange hr10)<|P0))
  (fun h9 H =>
  eN H<|gE func153 [rg [{ i := 2, call := some { cl := true, auto := true, ins := [], res := (RB r2), G' := [] }, dec := some true }, { i := 6, call := some { cl := true, auto := true, ins := [], res := (RB r4), G' := [] }, dec := some true }, { i := 11, call := some { cl := true, auto := true, ins := [], res := (RB r6), G' := [] }, dec := some true }, { i := 16, call := some { cl := true, auto := true, ins := [], res := (RB r8), G' := [] }, dec := some false }]] (by kernel_rfl) (P1 (ci_inRange hr2)<|P2 (r2 = true) (h3)<|P1 (ci_inRange hr4)<|P2 (r4 = true) (h5)<|P1 (ci_inRange hr6)<|P2 (r6 = true) (h7)<|P1 (ci_inRange hr8)<|P2 (r8 = false) (eqF h9)<|P0)))
  (fun h7 H =>
  eN H<|gE func153 [rg [{ i := 2, call := some { cl := true, auto := true, ins := [], res := (RB r2), G' := [] }, dec := some true }, { i := 6, call := some { cl := true, auto := true, ins := [], res := (RB r4), G' := [] }, dec := some true }, { i := 11, call := some { cl := true, auto := true, ins := [], res := (RB r6), G' := [] }, dec := some false }]] (by kernel_rfl) (P1 (ci_inRange hr2)<|P2 (r2 = true) (h3)<|P1 (ci_inRange hr4)<|P2 (r4 = true) (h5)<|P1 (ci_inRange hr6)<|P2 (r6 = false) (eqF h7)<|P0)))
  (fun h5 H =>
  eN H<|gE func153 [rg [{ i := 2, call := some { cl := true, auto := true, ins := [], res := (RB r2), G' := [] }, dec := some true }, { i := 6, call := some { cl := true, auto := true, ins := [], res := (RB r4), G' := [] }, dec := some false }]] (by kernel_rfl) (P1 (ci_inRange hr2)<|P2 (r2 = true) (h3)<|P1 (ci_inRange hr4)<|P2 (r4 = false) (eqF h5)<|P0)))
  (fun h3 H =>
  eN H<|gE func153 [rg [{ i := 2, call := some { cl := true, auto := true, ins := [], res := (RB r2), G' := [] }, dec := some false }]] (by kernel_rfl) (P1 (ci_inRange hr2)<|P2 (r2 = false) (eqF h3)<|P0)))
theorem wi_IsRules : ∀ s r, loop Bi_IsRules s = some r → Wc X 153 0 (Ki_IsRules s) (Zi_IsRules s) (RB r) ((fun _ => []) r) := Nx.all (ni_IsRules)
theorem ci_IsRules {a0 : Gi_Rules} {r : Bool} (H : Di_IsRules a0 = some r) : Ct X.P X.gl 153 [gi_Rules a0] [] (RB r) [] :=
 Ct.of func153 (c := bdy f153) (by kernel_rfl) (by kernel_rfl) <|
 eBind H fun r1 hr1 H =>
 gS [r0] (by kernel_rfl) P0 <|
 eIf H (fun h2 H =>
 eBind H fun r3 hr3 H =>
 eIf H (fun h4 H =>
 gO [rg [{ i := 3, call := some { cl := true, auto := true, ins := [], res := (RB r1), G' := [] }, dec := some true }, { i := 9, call := some { cl := true, auto := true, ins := [], res := (RB r3), G' := [] }, dec := some true }], r0, .canon [0] [1, 20, 21, 22]] (by kernel_rfl) (P1 (ci_inRange hr1)<|P2 (r1 = true) (h2)<|P1 (ci_inRange hr3)<|P2 (r3 = true) (h4)<|P0) (wi_IsRules _ _ H))
 (fun h4 H =>
 eW RB (fun _ => []) H<|gE func153 [rg [{ i := 3, call := some { cl := true, auto := true, ins := [], res := (RB r1), G' := [] }, dec := some true }, { i := 9, call := some { cl := true, auto := true, ins := [], res := (RB r3), G' := [] }, dec := some false }], r0] (by kernel_rfl) (P1 (ci_inRange hr1)<|P2 (r1 = true) (h2)<|P1 (ci_inRange hr3)<|P2 (r3 = false) (eqF h4)<|P0)))
 (fun h2 H =>
 eW RB (fun _ => []) H<|gE func153 [rg [{ i := 3, call := some { cl := true, auto := true, ins := [], res := (RB r1), G' := [] }, dec := some false }], r0] (by kernel_rfl) (P1 (ci_inRange hr1)<|P2 (r1 = false) (eqF h2)<|P0))
theorem ci_isIndex {a0 : Int} {a1 : Int} {r : Bool} (H : Di_isIndex a0 a1 = some r) : Ct X.P X.gl 161 [I a0, I a1] [] (RB r) [] :=
 Ct.of func161 (c := bdy f161) (by kernel_rfl) (by kernel_rfl) <|
 eBind H fun r1 hr1 H =>
 eW RB (fun _ => []) H<|gE func161 [r0, rg [hC 3 true [] (RB r1) []]] (by kernel_rfl) (P1 (ci_inRange hr1)<|P0)
noncomputable def Ki_increasing : Si_increasing → List Item
 | .h1 .. => nav 300 2 [] [.code (bdy f162)]
def Zi_increasing : Si_increasing → St
 | .h1 list0 i1 => ⟨sts 20 [(0, sl 1 I list0), (3, I i1)], []⟩
abbrev Qi_increasing := Nx X 162 0 Ki_increasing Zi_increasing RB (fun _ => [])
theorem ni_increasing : ∀ s o, Bi_increasing s = some o → Qi_increasing (Ki_increasing s) (Zi_increasing s) o
 | .h1 list0 i1, o, H =>
  eIf H (fun h1 H =>
  eCk H fun h2 H =>
  eBind H fun x3 hx3 H =>
  eCk H fun h4 H =>
  eBind H fun x5 hx5 H =>
  gN [rg [hT 3]] (by kernel_rfl) (P2 ((decide (i1 < ((list0.length : Nat) : Int))) = true) (decide_eq_true h1)<|P0) <|
  eIf H (fun h6 H =>
  eN H<|gE func162 [rg [hE 4 (I x3), hE 8 (I x5), hT 9], r0] (by kernel_rfl) (P1 h2<|P1 (int_lt_of_at h2 hx3)<|P1 (at_map I hx3)<|P1 h4<|P1 (int_lt_of_at h4 hx5)<|P1 (at_map I hx5)<|P2 ((decide (x3 ≥ x5)) = true) (decide_eq_true h6)<|P0))
  (fun h6 H =>
  eN H fun r hn => gO [rg [hE 4 (I x3), hE 8 (I x5), hF 9], r0, .canon [] [0, 3]] (by kernel_rfl) (P1 h2<|P1 (int_lt_of_at h2 hx3)<|P1 (at_map I hx3)<|P1 h4<|P1 (int_lt_of_at h4 hx5)<|P1 (at_map I hx5)<|P2 ((decide (x3 ≥ x5)) = false) (decide_eq_false h6)<|P0) hn))
  (fun h1 H =>
  eN H<|gE func162 [rg [hF 3], r0] (by kernel_rfl) (P2 ((decide (i1 < ((list0.length : Nat) : Int))) = false) (decide_eq_false h1)<|P0))
theorem wi_increasing : ∀ s r, loop Bi_increasing s = some r → Wc X 162 0 (Ki_increasing s) (Zi_increasing s) (RB r) ((fun _ => []) r) := Nx.all (ni_increasing)
theorem ci_increasing {a0 : (List Int)} {r : Bool} (H : Di_increasing a0 = some r) : Ct X.P X.gl 162 [sl 1 I a0] [] (RB r) [] :=
 Ct.of func162 (c := bdy f162) (by kernel_rfl) (by kernel_rfl) <|
 gO [r0, r0, .canon [] [0, 3]] (by kernel_rfl) P0 (wi_increasing _ _ H)
def Ri_hexOf (r : Gi_Hex) : List D := [.agg [I r.Q, I r.R]]
theorem ci_hexOf {a0 : Gi_Map} {a1 : Int} {r : Gi_Hex} (H : Di_hexOf a0 a1 = some r) : Ct X.P X.gl 219 [gi_Map a0, I a1] [] (Ri_hexOf r) [] :=
 Ct.of func219 (c := bdy f219) (by kernel_rfl) (by kernel_rfl) <|
 eCk H fun h1 H =>
 eCk H fun h2 H =>
 eW Ri_hexOf (fun _ => []) H<|gE func219 [r0, r0] (by kernel_rfl) (P2 (¬ (a0.Width : Int) = 0) h1<|P2 (¬ (a0.Width : Int) = 0) h2<|P0)
def Ri_stepBy (r : Gi_Hex) : List D := [.agg [I r.Q, I r.R]]
theorem ci_stepBy {a0 : Gi_Hex} {a1 : Int} {a2 : Int} {r : Gi_Hex} (H : Di_stepBy a0 a1 a2 = some r) : Ct X.P X.gl 218 [gi_Hex a0, I a1, I a2] [] (Ri_stepBy r) [] :=
 Ct.of func218 (c := bdy f218) (by kernel_rfl) (by kernel_rfl) <|
 eCk H fun h1 H =>
 eBind H fun x2 hx2 H =>
 eCk H fun h3 H =>
 eBind H fun x4 hx4 H =>
 eW Ri_stepBy (fun _ => []) H<|gE func218 [r0, rg [{ i := 6, xs := [I x2.Q] }, { i := 15, xs := [I x4.R] }]] (by kernel_rfl) (P1 h1<|P2 (a1 < ((6 : Nat) : Int)) (int_lt_of_at h1 hx2)<|P2 (getCells gc0 0 (0 + Int.toNat a1 * 2 + 0) 1 = some [I x2.Q]) (flat_at (enc := gi_Hex) (w := 2) (off := 0) (fun _ => rfl) hx2 (by omega) (by decide))<|P1 h3<|P2 (a1 < ((6 : Nat) : Int)) (int_lt_of_at h3 hx4)<|P2 (getCells gc0 0 (0 + Int.toNat a1 * 2 + 1) 1 = some [I x4.R]) (flat_at (enc := gi_Hex) (w := 2) (off := 1) (fun _ => rfl) hx4 (by omega) (by decide))<|P0)
theorem ci_indexOf {a0 : Gi_Map} {a1 : Gi_Hex} {r : Int} (H : Di_indexOf a0 a1 = some r) : Ct X.P X.gl 217 [gi_Map a0, gi_Hex a1] [] (RI r) [] :=
 Ct.of func217 (c := bdy f217) (by kernel_rfl) (by kernel_rfl) <|
 eBind H fun r1 hr1 H =>
 gS [r0] (by kernel_rfl) P0 <|
 eIf H (fun h2 H =>
 eBind H fun r3 hr3 H =>
 eIf H (fun h4 H =>
 eW RI (fun _ => []) H<|gE func217 [rg [{ i := 4, call := some { cl := true, auto := true, ins := [], res := (RB r1), G' := [] }, dec := some true }, { i := 11, call := some { cl := true, auto := true, ins := [], res := (RB r3), G' := [] }, dec := some true }], r0] (by kernel_rfl) (P1 (ci_isIndex hr1)<|P2 (r1 = true) (h2)<|P1 (ci_isIndex hr3)<|P2 (r3 = true) (h4)<|P0))
 (fun h4 H =>
 eW RI (fun _ => []) H<|gE func217 [rg [{ i := 4, call := some { cl := true, auto := true, ins := [], res := (RB r1), G' := [] }, dec := some true }, { i := 11, call := some { cl := true, auto := true, ins := [], res := (RB r3), G' := [] }, dec := some false }], r0] (by kernel_rfl) (P1 (ci_isIndex hr1)<|P2 (r1 = true) (h2)<|P1 (ci_isIndex hr3)<|P2 (r3 = false) (eqF h4)<|P0)))
 (fun h2 H =>
 eW RI (fun _ => []) H<|gE func217 [rg [{ i := 4, call := some { cl := true, auto := true, ins := [], res := (RB r1), G' := [] }, dec := some false }], r0] (by kernel_rfl) (P1 (ci_isIndex hr1)<|P2 (r1 = false) (eqF h2)<|P0))
theorem ci_nextTo {a0 : Gi_Map} {a1 : Int} {a2 : Int} {r : Int} (H : Di_nextTo a0 a1 a2 = some r) : Ct X.P X.gl 176 [gi_Map a0, I a1, I a2] [] (RI r) [] :=
 Ct.of func176 (c := bdy f176) (by kernel_rfl) (by kernel_rfl) <|
 eBind H fun r1 hr1 H =>
 eBind H fun r2 hr2 H =>
 eBind H fun r3 hr3 H =>
 eW RI (fun _ => []) H<|gE func176 [r0, rg [hC 3 true [] (Ri_hexOf r1) [], hC 5 true [] (Ri_stepBy r2) [], hC 6 true [] (RI r3) []]] (by kernel_rfl) (P1 (ci_hexOf hr1)<|P1 (ci_stepBy hr2)<|P1 (ci_indexOf hr3)<|P0)
theorem ci_isEdge {a0 : Gi_Map} {a1 : Int} {r : Bool} (H : Di_isEdge a0 a1 = some r) : Ct X.P X.gl 209 [gi_Map a0, I a1] [] (RB r) [] :=
 Ct.of func209 (c := bdy f209) (by kernel_rfl) (by kernel_rfl) <|
 eBind H fun r1 hr1 H =>
 gS [r0] (by kernel_rfl) P0 <|
 eIf H (fun h2 H =>
 eBind H fun r3 hr3 H =>
 eW RB (fun _ => []) H<|gE func209 [rg [{ i := 8, call := some { cl := true, auto := true, ins := [], res := (RB r1), G' := [] }, dec := some true }, hC 15 true [] (RI r3) []]] (by kernel_rfl) (P1 (ci_inRange hr1)<|P2 (r1 = true) (h2)<|P2 (¬ (3 : Int) = 0) (by decide)<|P2 (¬ (3 : Int) = 0) (by decide)<|P1 (ci_nextTo hr3)<|P0))
 (fun h2 H =>
 eW RB (fun _ => []) H<|gE func209 [rg [{ i := 8, call := some { cl := true, auto := true, ins := [], res := (RB r1), G' := [] }, dec := some false }]] (by kernel_rfl) (P1 (ci_inRange hr1)<|P2 (r1 = false) (eqF h2)<|P0))
noncomputable def Ki_IsMap : Si_IsMap → List Item
 | .h1 .. => nav 300 3 [false] [.code (bdy f154)]
 | .h2 .. => nav 300 5 [false, false] [.code (bdy f154)]
 | .h3 .. => nav 300 9 [false, false, true, false] [.code (bdy f154)]
def Zi_IsMap : Si_IsMap → St
 | .h1 t0 t1 t2 b3 => ⟨sts 66 [(1, .ptr 0 5 0 0), (31, sl 1 I t0), (32, I t1), (33, I t2)], [some ⟨false, true, 5, 1, [gi_Map b3]⟩]⟩
 | .h2 t0 t1 b2 l3 => ⟨sts 66 [(1, .ptr 0 5 0 0), (45, .ref 1 1 none), (46, I t0), (47, I t1)], [some ⟨false, true, 5, 1, [gi_Map b2]⟩, some ⟨false, false, 1, l3.length, List.map (sl 1 I) l3⟩]⟩
 | .h3 t0 t1 t2 t3 t4 b5 l6 => ⟨sts 66 [(1, .ptr 0 5 0 0), (45, .ref 1 1 none), (46, I t0), (47, I t1), (54, sl 1 I t2), (55, I t3), (56, I t4)], [some ⟨false, true, 5, 1, [gi_Map b5]⟩, some ⟨false, false, 1, l6.length, List.map (sl 1 I) l6⟩]⟩
abbrev Qi_IsMap := Nx X 154 0 Ki_IsMap Zi_IsMap RB (fun _ => [])
theorem ni_IsMap : ∀ s o, Bi_IsMap s = some o → Qi_IsMap (Ki_IsMap s) (Zi_IsMap s) o
 | .h1 t0 t1 t2 b3, o, H =>
  eIf H (fun h1 H =>
  eCk H fun h2 H =>
  eBind H fun x3 hx3 H =>
  eBind H fun r4 hr4 H =>
  gN [rg [hT 0], rg [hE 1 (I x3)]] (by kernel_rfl) (P2 ((decide (t2 < t1)) = true) (decide_eq_true h1)<|P1 h2<|P1 (int_lt_of_at h2 hx3)<|P1 (at_map I hx3)<|P0) <|
  eIf H (fun h5 H =>
  eN H fun r hn => gO [rg [{ i := 1, call := some { cl := true, auto := true, ins := [], res := (RB r4), G' := [] }, dec := some true }], r0, .canon [0] [1, 31, 32, 33]] (by kernel_rfl) (P1 (ci_isIndex hr4)<|P2 (r4 = true) (h5)<|P0) hn)
  (fun h5 H =>
  eN H<|gE func154 [rg [{ i := 1, call := some { cl := true, auto := true, ins := [], res := (RB r4), G' := [] }, dec := some false }], r0] (by kernel_rfl) (P1 (ci_isIndex hr4)<|P2 (r4 = false) (eqF h5)<|P0)))
  (fun h1 H =>
  eN H fun r hn => gO [rg [hF 0], r0, .canon [0, 1] [1, 45, 46, 47]] (by kernel_rfl) (P2 ((decide (t2 < t1)) = false) (decide_eq_false h1)<|P0) hn)
 | .h2 t0 t1 b2 l3, o, H =>
  eIf H (fun h1 H =>
  eCk H fun h2 H =>
  eBind H fun x3 hx3 H =>
  eBind H fun r4 hr4 H =>
  gN [rg [hT 0], rg [hE 1 ((sl 1 I) x3)]] (by kernel_rfl) (P2 ((decide (t1 < t0)) = true) (decide_eq_true h1)<|P1 h2<|P1 (int_lt_of_at h2 hx3)<|P1 (at_map (sl 1 I) hx3)<|P0) <|
  eIf H (fun h5 H =>
  eN H fun r hn => gO [rg [{ i := 1, call := some { cl := true, auto := true, ins := [], res := (RB r4), G' := [] }, dec := some true }], r0, .canon [0, 1] [1, 45, 46, 47, 54, 55, 56]] (by kernel_rfl) (P1 (ci_increasing hr4)<|P2 (r4 = true) (h5)<|P0) hn)
  (fun h5 H =>
  eN H<|gE func154 [rg [{ i := 1, call := some { cl := true, auto := true, ins := [], res := (RB r4), G' := [] }, dec := some false }], r0] (by kernel_rfl) (P1 (ci_increasing hr4)<|P2 (r4 = false) (eqF h5)<|P0)))
  (fun h1 H =>
  eN H<|gE func154 [rg [hF 0], r0] (by kernel_rfl) (P2 ((decide (t1 < t0)) = false) (decide_eq_false h1)<|P0))
 | .h3 t0 t1 t2 t3 t4 b5 l6, o, H =>
  eIf H (fun h1 H =>
  eCk H fun h2 H =>
  eBind H fun x3 hx3 H =>
  eBind H fun r4 hr4 H =>
  gN [rg [hT 0], rg [hE 1 (I x3)]] (by kernel_rfl) (P2 ((decide (t4 < t3)) = true) (decide_eq_true h1)<|P1 h2<|P1 (int_lt_of_at h2 hx3)<|P1 (at_map I hx3)<|P0) <|
  eIf H (fun h5 H =>
  eN H fun r hn => gO [rg [{ i := 2, call := some { cl := true, auto := true, ins := [], res := (RB r4), G' := [] }, dec := some true }], r0, .canon [0, 1] [1, 45, 46, 47, 54, 55, 56]] (by kernel_rfl) (P1 (ci_isEdge hr4)<|P2 (r4 = true) (h5)<|P0) hn)
  (fun h5 H =>
  eN H<|gE func154 [rg [{ i := 2, call := some { cl := true, auto := true, ins := [], res := (RB r4), G' := [] }, dec := some false }], r0] (by kernel_rfl) (P1 (ci_isEdge hr4)<|P2 (r4 = false) (eqF h5)<|P0)))
  (fun h1 H =>
  eN H fun r hn => gO [rg [hF 0], r0, .canon [0, 1] [1, 45, 46, 47]] (by kernel_rfl) (P2 ((decide (t4 < t3)) = false) (decide_eq_false h1)<|P0) hn)
theorem wi_IsMap : ∀ s r, loop Bi_IsMap s = some r → Wc X 154 0 (Ki_IsMap s) (Zi_IsMap s) (RB r) ((fun _ => []) r) := Nx.all (ni_IsMap)
theorem ci_IsMap {a0 : Gi_Map} {r : Bool} (H : Di_IsMap a0 = some r) : Ct X.P X.gl 154 [gi_Map a0] [] (RB r) [] :=
 Ct.of func154 (c := bdy f154) (by kernel_rfl) (by kernel_rfl) <|
 eBind H fun r1 hr1 H =>
 gS [r0] (by kernel_rfl) P0 <|
 eIf H (fun h2 H =>
 eBind H fun r3 hr3 H =>
 eIf H (fun h4 H =>
 eIf H (fun h5 H =>
 gO [rg [{ i := 2, call := some { cl := true, auto := true, ins := [], res := (RB r1), G' := [] }, dec := some true }, { i := 7, call := some { cl := true, auto := true, ins := [], res := (RB r3), G' := [] }, dec := some true }, hF 19], r0, .canon [0] [1, 31, 32, 33]] (by kernel_rfl) (P1 (ci_inRange hr1)<|P2 (r1 = true) (h2)<|P1 (ci_inRange hr3)<|P2 (r3 = true) (h4)<|P2 (((((a0.Terrain.length : Nat) : Int) : Int) != (IntKind.wrap .i64 (a0.Width * a0.Height))) = false) (bneF h5)<|P0) (wi_IsMap _ _ H))
 (fun h5 H =>
 eW RB (fun _ => []) H<|gE func154 [rg [{ i := 2, call := some { cl := true, auto := true, ins := [], res := (RB r1), G' := [] }, dec := some true }, { i := 7, call := some { cl := true, auto := true, ins := [], res := (RB r3), G' := [] }, dec := some true }, hT 19], r0] (by kernel_rfl) (P1 (ci_inRange hr1)<|P2 (r1 = true) (h2)<|P1 (ci_inRange hr3)<|P2 (r3 = true) (h4)<|P2 (((((a0.Terrain.length : Nat) : Int) : Int) != (IntKind.wrap .i64 (a0.Width * a0.Height))) = true) (bneT h5)<|P0)))
 (fun h4 H =>
 eW RB (fun _ => []) H<|gE func154 [rg [{ i := 2, call := some { cl := true, auto := true, ins := [], res := (RB r1), G' := [] }, dec := some true }, { i := 7, call := some { cl := true, auto := true, ins := [], res := (RB r3), G' := [] }, dec := some false }], r0] (by kernel_rfl) (P1 (ci_inRange hr1)<|P2 (r1 = true) (h2)<|P1 (ci_inRange hr3)<|P2 (r3 = false) (eqF h4)<|P0)))
 (fun h2 H =>
 eW RB (fun _ => []) H<|gE func154 [rg [{ i := 2, call := some { cl := true, auto := true, ins := [], res := (RB r1), G' := [] }, dec := some false }], r0] (by kernel_rfl) (P1 (ci_inRange hr1)<|P2 (r1 = false) (eqF h2)<|P0))
theorem ci_IsBoard_1 {a0 : Int} {a1 : Gi_Board} {r : Bool} (H : Di_IsBoard_1 a0 a1 = some r) : Ct X.P X.gl 156 [I a0, .fptr 12 [.agg [sl 5 gi_Terrain a1.Rules.Terrains, sl 6 gi_Kind a1.Rules.Kinds, I a1.Rules.Stack, I a1.Rules.River, I a1.Rules.Road, I a1.Rules.Supply, I a1.Rules.Turns, I a1.Map.Width, I a1.Map.Height, sl 1 I a1.Map.Terrain, sl 1 I a1.Map.Rivers, sl 1 I a1.Map.Roads]] 0 0] [] (RB r) [] :=
 Ct.of func156 (c := bdy f156) (by kernel_rfl) (by kernel_rfl) <|
 eW RB (fun _ => []) H<|gE func156 [r0, r0] (by kernel_rfl) P0
noncomputable def Kslices_IndexFunc_int_i_IsBoard_1 : Sslices_IndexFunc_int_i_IsBoard_1 → List Item
 | .h1 .. => nav 300 2 [] [.code (bdy f210)]
def Zslices_IndexFunc_int_i_IsBoard_1 : Sslices_IndexFunc_int_i_IsBoard_1 → St
 | .h1 s0 f1 t2 t3 => ⟨sts 19 [(0, sl 1 I s0), (1, .fn 156 [.fptr 12 [.agg [sl 5 gi_Terrain f1.Rules.Terrains, sl 6 gi_Kind f1.Rules.Kinds, I f1.Rules.Stack, I f1.Rules.River, I f1.Rules.Road, I f1.Rules.Supply, I f1.Rules.Turns, I f1.Map.Width, I f1.Map.Height, sl 1 I f1.Map.Terrain, sl 1 I f1.Map.Rivers, sl 1 I f1.Map.Roads]] 0 0]), (7, I t2), (8, I t3)], []⟩
abbrev Qslices_IndexFunc_int_i_IsBoard_1 := Nx X 210 0 Kslices_IndexFunc_int_i_IsBoard_1 Zslices_IndexFunc_int_i_IsBoard_1 RI (fun _ => [])
theorem nslices_IndexFunc_int_i_IsBoard_1 : ∀ s o, Bslices_IndexFunc_int_i_IsBoard_1 s = some o → Qslices_IndexFunc_int_i_IsBoard_1 (Kslices_IndexFunc_int_i_IsBoard_1 s) (Zslices_IndexFunc_int_i_IsBoard_1 s) o
 | .h1 s0 f1 t2 t3, o, H =>
  eIf H (fun h1 H =>
  eCk H fun h2 H =>
  eBind H fun x3 hx3 H =>
  eBind H fun r4 hr4 H =>
  gN [rg [hT 0], r0] (by kernel_rfl) (P2 ((decide (t3 < t2)) = true) (decide_eq_true h1)<|P0) <|
  eIf H (fun h5 H =>
  eN H<|gE func210 [rg [hE 4 (I x3), { i := 5, call := some { cl := true, auto := true, ins := [], res := (RB r4), G' := [] }, dec := some true }], r0] (by kernel_rfl) (P1 h2<|P1 (int_lt_of_at h2 hx3)<|P1 (at_map I hx3)<|P1 (ci_IsBoard_1 hr4)<|P2 (r4 = true) (h5)<|P0))
  (fun h5 H =>
  eN H fun r hn => gO [rg [hE 4 (I x3), { i := 5, call := some { cl := true, auto := true, ins := [], res := (RB r4), G' := [] }, dec := some false }], r0, .canon [] [0, 1, 7, 8]] (by kernel_rfl) (P1 h2<|P1 (int_lt_of_at h2 hx3)<|P1 (at_map I hx3)<|P1 (ci_IsBoard_1 hr4)<|P2 (r4 = false) (eqF h5)<|P0) hn))
  (fun h1 H =>
  eN H<|gE func210 [rg [hF 0], r0] (by kernel_rfl) (P2 ((decide (t3 < t2)) = false) (decide_eq_false h1)<|P0))
theorem wslices_IndexFunc_int_i_IsBoard_1 : ∀ s r, loop Bslices_IndexFunc_int_i_IsBoard_1 s = some r → Wc X 210 0 (Kslices_IndexFunc_int_i_IsBoard_1 s) (Zslices_IndexFunc_int_i_IsBoard_1 s) (RI r) ((fun _ => []) r) := Nx.all (nslices_IndexFunc_int_i_IsBoard_1)
theorem cslices_IndexFunc_int_i_IsBoard_1 {a0 : (List Int)} {a100 : Gi_Board} {r : Int} (H : Dslices_IndexFunc_int_i_IsBoard_1 a0 a100 = some r) : Ct X.P X.gl 210 [sl 1 I a0, .fn 156 [.fptr 12 [.agg [sl 5 gi_Terrain a100.Rules.Terrains, sl 6 gi_Kind a100.Rules.Kinds, I a100.Rules.Stack, I a100.Rules.River, I a100.Rules.Road, I a100.Rules.Supply, I a100.Rules.Turns, I a100.Map.Width, I a100.Map.Height, sl 1 I a100.Map.Terrain, sl 1 I a100.Map.Rivers, sl 1 I a100.Map.Roads]] 0 0]] [] (RI r) [] :=
 Ct.of func210 (c := bdy f210) (by kernel_rfl) (by kernel_rfl) <|
 gO [r0, r0, .canon [] [0, 1, 7, 8]] (by kernel_rfl) P0 (wslices_IndexFunc_int_i_IsBoard_1 _ _ H)
theorem cslices_ContainsFunc_int_i_IsBoard_1 {a0 : (List Int)} {a100 : Gi_Board} {r : Bool} (H : Dslices_ContainsFunc_int_i_IsBoard_1 a0 a100 = some r) : Ct X.P X.gl 155 [sl 1 I a0, .fn 156 [.fptr 12 [.agg [sl 5 gi_Terrain a100.Rules.Terrains, sl 6 gi_Kind a100.Rules.Kinds, I a100.Rules.Stack, I a100.Rules.River, I a100.Rules.Road, I a100.Rules.Supply, I a100.Rules.Turns, I a100.Map.Width, I a100.Map.Height, sl 1 I a100.Map.Terrain, sl 1 I a100.Map.Rivers, sl 1 I a100.Map.Roads]] 0 0]] [] (RB r) [] :=
 Ct.of func155 (c := bdy f155) (by kernel_rfl) (by kernel_rfl) <|
 eBind H fun r1 hr1 H =>
 eW RB (fun _ => []) H<|gE func155 [r0, rg [hC 2 true [] (RI r1) []]] (by kernel_rfl) (P1 (cslices_IndexFunc_int_i_IsBoard_1 hr1)<|P0)
theorem ci_IsBoard {a0 : Gi_Board} {r : Bool} (H : Di_IsBoard a0 = some r) : Ct X.P X.gl 105 [gi_Board a0] [] (RB r) [] :=
 Ct.of func105 (c := bdy f105) (by kernel_rfl) (by kernel_rfl) <|
 eBind H fun r1 hr1 H =>
 gS [r0] (by kernel_rfl) P0 <|
 eIf H (fun h2 H =>
 eBind H fun r3 hr3 H =>
 eIf H (fun h4 H =>
 eBind H fun r5 hr5 H =>
 eW RB (fun _ => []) H<|gE func105 [rg [{ i := 2, call := some { cl := true, auto := true, ins := [], res := (RB r1), G' := [] }, dec := some true }, { i := 7, call := some { cl := true, auto := true, ins := [], res := (RB r3), G' := [] }, dec := some true }], rg [hC 4 false [] (RB r5) []]] (by kernel_rfl) (P1 (ci_IsRules hr1)<|P2 (r1 = true) (h2)<|P1 (ci_IsMap hr3)<|P2 (r3 = true) (h4)<|P1 (cslices_ContainsFunc_int_i_IsBoard_1 hr5)<|P0))
 (fun h4 H =>
 eW RB (fun _ => []) H<|gE func105 [rg [{ i := 2, call := some { cl := true, auto := true, ins := [], res := (RB r1), G' := [] }, dec := some true }, { i := 7, call := some { cl := true, auto := true, ins := [], res := (RB r3), G' := [] }, dec := some false }], r0] (by kernel_rfl) (P1 (ci_IsRules hr1)<|P2 (r1 = true) (h2)<|P1 (ci_IsMap hr3)<|P2 (r3 = false) (eqF h4)<|P0)))
 (fun h2 H =>
 eW RB (fun _ => []) H<|gE func105 [rg [{ i := 2, call := some { cl := true, auto := true, ins := [], res := (RB r1), G' := [] }, dec := some false }], r0] (by kernel_rfl) (P1 (ci_IsRules hr1)<|P2 (r1 = false) (eqF h2)<|P0))
theorem ci_isResult {a0 : Int} {r : Bool} (H : Di_isResult a0 = some r) : Ct X.P X.gl 158 [I a0] [] (RB r) [] :=
 Ct.of func158 (c := bdy f158) (by kernel_rfl) (by kernel_rfl) <|
 eBind H fun r1 hr1 H =>
 eW RB (fun _ => []) H<|gE func158 [r0, rg [hC 1 true [] (RB r1) []]] (by kernel_rfl) (P1 (ci_inRange hr1)<|P0)
theorem ci_IsCombatTable_1 {a0 : Int} {r : Bool} (H : Di_IsCombatTable_1 a0 = some r) : Ct X.P X.gl 157 [I a0] [] (RB r) [] :=
 Ct.of func157 (c := bdy f157) (by kernel_rfl) (by kernel_rfl) <|
 eBind H fun r1 hr1 H =>
 eW RB (fun _ => []) H<|gE func157 [r0, rg [hC 1 true [] (RB r1) []]] (by kernel_rfl) (P1 (ci_isResult hr1)<|P0)
noncomputable def Kslices_IndexFunc_int_i_IsCombatTable_1 : Sslices_IndexFunc_int_i_IsCombatTable_1 → List Item
 | .h1 .. => nav 300 2 [] [.code (bdy f210)]
def Zslices_IndexFunc_int_i_IsCombatTable_1 : Sslices_IndexFunc_int_i_IsCombatTable_1 → St
 | .h1 s0 t1 t2 => ⟨sts 19 [(0, sl 1 I s0), (1, .fn 157 []), (7, I t1), (8, I t2)], []⟩
abbrev Qslices_IndexFunc_int_i_IsCombatTable_1 := Nx X 210 0 Kslices_IndexFunc_int_i_IsCombatTable_1 Zslices_IndexFunc_int_i_IsCombatTable_1 RI (fun _ => [])
theorem nslices_IndexFunc_int_i_IsCombatTable_1 : ∀ s o, Bslices_IndexFunc_int_i_IsCombatTable_1 s = some o → Qslices_IndexFunc_int_i_IsCombatTable_1 (Kslices_IndexFunc_int_i_IsCombatTable_1 s) (Zslices_IndexFunc_int_i_IsCombatTable_1 s) o
 | .h1 s0 t1 t2, o, H =>
  eIf H (fun h1 H =>
  eCk H fun h2 H =>
  eBind H fun x3 hx3 H =>
  eBind H fun r4 hr4 H =>
  gN [rg [hT 0], r0] (by kernel_rfl) (P2 ((decide (t2 < t1)) = true) (decide_eq_true h1)<|P0) <|
  eIf H (fun h5 H =>
  eN H<|gE func210 [rg [hE 4 (I x3), { i := 5, call := some { cl := true, auto := true, ins := [], res := (RB r4), G' := [] }, dec := some true }], r0] (by kernel_rfl) (P1 h2<|P1 (int_lt_of_at h2 hx3)<|P1 (at_map I hx3)<|P1 (ci_IsCombatTable_1 hr4)<|P2 (r4 = true) (h5)<|P0))
  (fun h5 H =>
  eN H fun r hn => gO [rg [hE 4 (I x3), { i := 5, call := some { cl := true, auto := true, ins := [], res := (RB r4), G' := [] }, dec := some false }], r0, .canon [] [0, 1, 7, 8]] (by kernel_rfl) (P1 h2<|P1 (int_lt_of_at h2 hx3)<|P1 (at_map I hx3)<|P1 (ci_IsCombatTable_1 hr4)<|P2 (r4 = false) (eqF h5)<|P0) hn))
  (fun h1 H =>
  eN H<|gE func210 [rg [hF 0], r0] (by kernel_rfl) (P2 ((decide (t2 < t1)) = false) (decide_eq_false h1)<|P0))
theorem wslices_IndexFunc_int_i_IsCombatTable_1 : ∀ s r, loop Bslices_IndexFunc_int_i_IsCombatTable_1 s = some r → Wc X 210 0 (Kslices_IndexFunc_int_i_IsCombatTable_1 s) (Zslices_IndexFunc_int_i_IsCombatTable_1 s) (RI r) ((fun _ => []) r) := Nx.all (nslices_IndexFunc_int_i_IsCombatTable_1)
theorem cslices_IndexFunc_int_i_IsCombatTable_1 {a0 : (List Int)} {r : Int} (H : Dslices_IndexFunc_int_i_IsCombatTable_1 a0 = some r) : Ct X.P X.gl 210 [sl 1 I a0, .fn 157 []] [] (RI r) [] :=
 Ct.of func210 (c := bdy f210) (by kernel_rfl) (by kernel_rfl) <|
 gO [r0, r0, .canon [] [0, 1, 7, 8]] (by kernel_rfl) P0 (wslices_IndexFunc_int_i_IsCombatTable_1 _ _ H)
theorem cslices_ContainsFunc_int_i_IsCombatTable_1 {a0 : (List Int)} {r : Bool} (H : Dslices_ContainsFunc_int_i_IsCombatTable_1 a0 = some r) : Ct X.P X.gl 155 [sl 1 I a0, .fn 157 []] [] (RB r) [] :=
 Ct.of func155 (c := bdy f155) (by kernel_rfl) (by kernel_rfl) <|
 eBind H fun r1 hr1 H =>
 eW RB (fun _ => []) H<|gE func155 [r0, rg [hC 2 true [] (RI r1) []]] (by kernel_rfl) (P1 (cslices_IndexFunc_int_i_IsCombatTable_1 hr1)<|P0)
noncomputable def Ki_IsCombatTable : Si_IsCombatTable → List Item
 | .h1 .. => nav 300 3 [false] [.code (bdy f106)]
 | .h2 .. => nav 300 5 [false, false] [.code (bdy f106)]
def Zi_IsCombatTable : Si_IsCombatTable → St
 | .h1 t0 t1 t2 b3 => ⟨sts 90 [(1, .ptr 0 3 0 0), (29, sl 2 gi_Odds t0), (30, I t1), (31, I t2)], [some ⟨false, true, 3, 1, [gi_CombatTable b3]⟩]⟩
 | .h2 t0 t1 t2 b3 => ⟨sts 90 [(1, .ptr 0 3 0 0), (73, sl 1 (sl 1 I) t0), (74, I t1), (75, I t2)], [some ⟨false, true, 3, 1, [gi_CombatTable b3]⟩]⟩
abbrev Qi_IsCombatTable := Nx X 106 0 Ki_IsCombatTable Zi_IsCombatTable RB (fun _ => [])
theorem ni_IsCombatTable : ∀ s o, Bi_IsCombatTable s = some o → Qi_IsCombatTable (Ki_IsCombatTable s) (Zi_IsCombatTable s) o
 | .h1 t0 t1 t2 b3, o, H =>
  eIf H (fun h1 H =>
  eCk H fun h2 H =>
  eBind H fun x3 hx3 H =>
  eBind H fun r4 hr4 H =>
  gN [rg [hT 0], rg [hE 2 (gi_Odds x3)]] (by kernel_rfl) (P2 ((decide (t2 < t1)) = true) (decide_eq_true h1)<|P1 h2<|P1 (int_lt_of_at h2 hx3)<|P1 (at_map gi_Odds hx3)<|P0) <|
  eIf H (fun h5 H =>
  eBind H fun r6 hr6 H =>
  eIf H (fun h7 H =>
  gN [rg [{ i := 2, call := some { cl := true, auto := true, ins := [], res := (RB r4), G' := [] }, dec := some true }, { i := 7, call := some { cl := true, auto := true, ins := [], res := (RB r6), G' := [] }, dec := some true }]] (by kernel_rfl) (P1 (ci_inRange hr4)<|P2 (r4 = true) (h5)<|P1 (ci_inRange hr6)<|P2 (r6 = true) (h7)<|P0) <|
  eIf H (fun h8 H =>
  eCk H fun h9 H =>
  eBind H fun x10 hx10 H =>
  eCk H fun h11 H =>
  eBind H fun x12 hx12 H =>
  eIf H (fun h13 H =>
  eN H<|gE func106 [rg [hT 1, hE 9 (gi_Odds x10), hE 21 (gi_Odds x12), hT 23], r0] (by kernel_rfl) (P2 ((decide (t2 > 0)) = true) (decide_eq_true h8)<|P1 h9<|P1 (int_lt_of_at h9 hx10)<|P1 (at_map gi_Odds hx10)<|P1 h11<|P1 (int_lt_of_at h11 hx12)<|P1 (at_map gi_Odds hx12)<|P2 ((decide ((IntKind.wrap .i64 (x10.Num * x3.Den)) ≥ (IntKind.wrap .i64 (x3.Num * x12.Den)))) = true) (decide_eq_true h13)<|P0))
  (fun h13 H =>
  eN H fun r hn => gO [rg [hT 1, hE 9 (gi_Odds x10), hE 21 (gi_Odds x12), hF 23], r0, .canon [0] [1, 29, 30, 31]] (by kernel_rfl) (P2 ((decide (t2 > 0)) = true) (decide_eq_true h8)<|P1 h9<|P1 (int_lt_of_at h9 hx10)<|P1 (at_map gi_Odds hx10)<|P1 h11<|P1 (int_lt_of_at h11 hx12)<|P1 (at_map gi_Odds hx12)<|P2 ((decide ((IntKind.wrap .i64 (x10.Num * x3.Den)) ≥ (IntKind.wrap .i64 (x3.Num * x12.Den)))) = false) (decide_eq_false h13)<|P0) hn))
  (fun h8 H =>
  eN H fun r hn => gO [rg [hF 1], r0, .canon [0] [1, 29, 30, 31]] (by kernel_rfl) (P2 ((decide (t2 > 0)) = false) (decide_eq_false h8)<|P0) hn))
  (fun h7 H =>
  eN H<|gE func106 [rg [{ i := 2, call := some { cl := true, auto := true, ins := [], res := (RB r4), G' := [] }, dec := some true }, { i := 7, call := some { cl := true, auto := true, ins := [], res := (RB r6), G' := [] }, dec := some false }], r0] (by kernel_rfl) (P1 (ci_inRange hr4)<|P2 (r4 = true) (h5)<|P1 (ci_inRange hr6)<|P2 (r6 = false) (eqF h7)<|P0)))
  (fun h5 H =>
  eN H<|gE func106 [rg [{ i := 2, call := some { cl := true, auto := true, ins := [], res := (RB r4), G' := [] }, dec := some false }], r0] (by kernel_rfl) (P1 (ci_inRange hr4)<|P2 (r4 = false) (eqF h5)<|P0)))
  (fun h1 H =>
  eN H fun r hn => gO [rg [hF 0], r0, .canon [0] [1, 73, 74, 75]] (by kernel_rfl) (P2 ((decide (t2 < t1)) = false) (decide_eq_false h1)<|P0) hn)
 | .h2 t0 t1 t2 b3, o, H =>
  eIf H (fun h1 H =>
  eCk H fun h2 H =>
  eBind H fun x3 hx3 H =>
  gN [rg [hT 0], rg [hE 1 ((sl 1 I) x3)]] (by kernel_rfl) (P2 ((decide (t2 < t1)) = true) (decide_eq_true h1)<|P1 h2<|P1 (int_lt_of_at h2 hx3)<|P1 (at_map (sl 1 I) hx3)<|P0) <|
  eIf H (fun h4 H =>
  eBind H fun r5 hr5 H =>
  eIf H (fun h6 H =>
  eN H<|gE func106 [rg [hF 5, { i := 8, call := some { cl := true, auto := true, ins := [], res := (RB r5), G' := [] }, dec := some true }], r0] (by kernel_rfl) (P2 (((((x3.length : Nat) : Int) : Int) != ((b3.Columns.length : Nat) : Int)) = false) (bneF h4)<|P1 (cslices_ContainsFunc_int_i_IsCombatTable_1 hr5)<|P2 (r5 = true) (h6)<|P0))
  (fun h6 H =>
  eN H fun r hn => gO [rg [hF 5, { i := 8, call := some { cl := true, auto := true, ins := [], res := (RB r5), G' := [] }, dec := some false }], r0, .canon [0] [1, 73, 74, 75]] (by kernel_rfl) (P2 (((((x3.length : Nat) : Int) : Int) != ((b3.Columns.length : Nat) : Int)) = false) (bneF h4)<|P1 (cslices_ContainsFunc_int_i_IsCombatTable_1 hr5)<|P2 (r5 = false) (eqF h6)<|P0) hn))
  (fun h4 H =>
  eN H<|gE func106 [rg [hT 5], r0] (by kernel_rfl) (P2 (((((x3.length : Nat) : Int) : Int) != ((b3.Columns.length : Nat) : Int)) = true) (bneT h4)<|P0)))
  (fun h1 H =>
  eN H<|gE func106 [rg [hF 0], r0] (by kernel_rfl) (P2 ((decide (t2 < t1)) = false) (decide_eq_false h1)<|P0))
theorem wi_IsCombatTable : ∀ s r, loop Bi_IsCombatTable s = some r → Wc X 106 0 (Ki_IsCombatTable s) (Zi_IsCombatTable s) (RB r) ((fun _ => []) r) := Nx.all (ni_IsCombatTable)
theorem ci_IsCombatTable {a0 : Gi_CombatTable} {r : Bool} (H : Di_IsCombatTable a0 = some r) : Ct X.P X.gl 106 [gi_CombatTable a0] [] (RB r) [] :=
 Ct.of func106 (c := bdy f106) (by kernel_rfl) (by kernel_rfl) <|
 eBind H fun r1 hr1 H =>
 gS [r0] (by kernel_rfl) P0 <|
 eIf H (fun h2 H =>
 eBind H fun r3 hr3 H =>
 eIf H (fun h4 H =>
 eIf H (fun h5 H =>
 gO [rg [{ i := 3, call := some { cl := true, auto := true, ins := [], res := (RB r1), G' := [] }, dec := some true }, { i := 8, call := some { cl := true, auto := true, ins := [], res := (RB r3), G' := [] }, dec := some true }, hF 19], r0, .canon [0] [1, 29, 30, 31]] (by kernel_rfl) (P1 (ci_inRange hr1)<|P2 (r1 = true) (h2)<|P1 (ci_inRange hr3)<|P2 (r3 = true) (h4)<|P2 (((((a0.Results.length : Nat) : Int) : Int) != (IntKind.wrap .i64 ((IntKind.wrap .i64 (5 * a0.Dice)) + 1))) = false) (bneF h5)<|P0) (wi_IsCombatTable _ _ H))
 (fun h5 H =>
 eW RB (fun _ => []) H<|gE func106 [rg [{ i := 3, call := some { cl := true, auto := true, ins := [], res := (RB r1), G' := [] }, dec := some true }, { i := 8, call := some { cl := true, auto := true, ins := [], res := (RB r3), G' := [] }, dec := some true }, hT 19], r0] (by kernel_rfl) (P1 (ci_inRange hr1)<|P2 (r1 = true) (h2)<|P1 (ci_inRange hr3)<|P2 (r3 = true) (h4)<|P2 (((((a0.Results.length : Nat) : Int) : Int) != (IntKind.wrap .i64 ((IntKind.wrap .i64 (5 * a0.Dice)) + 1))) = true) (bneT h5)<|P0)))
 (fun h4 H =>
 eW RB (fun _ => []) H<|gE func106 [rg [{ i := 3, call := some { cl := true, auto := true, ins := [], res := (RB r1), G' := [] }, dec := some true }, { i := 8, call := some { cl := true, auto := true, ins := [], res := (RB r3), G' := [] }, dec := some false }], r0] (by kernel_rfl) (P1 (ci_inRange hr1)<|P2 (r1 = true) (h2)<|P1 (ci_inRange hr3)<|P2 (r3 = false) (eqF h4)<|P0)))
 (fun h2 H =>
 eW RB (fun _ => []) H<|gE func106 [rg [{ i := 3, call := some { cl := true, auto := true, ins := [], res := (RB r1), G' := [] }, dec := some false }], r0] (by kernel_rfl) (P1 (ci_inRange hr1)<|P2 (r1 = false) (eqF h2)<|P0))
theorem ci_sizeOf {a0 : Gi_Board} {r : Int} (H : Di_sizeOf a0 = some r) : Ct X.P X.gl 159 [gi_Board a0] [] (RI r) [] :=
 Ct.of func159 (c := bdy f159) (by kernel_rfl) (by kernel_rfl) <|
 eW RI (fun _ => []) H<|gE func159 [r0, r0] (by kernel_rfl) P0
theorem ci_isSide {a0 : Int} {r : Bool} (H : Di_isSide a0 = some r) : Ct X.P X.gl 211 [I a0] [] (RB r) [] :=
 Ct.of func211 (c := bdy f211) (by kernel_rfl) (by kernel_rfl) <|
 eBind H fun r1 hr1 H =>
 eW RB (fun _ => []) H<|gE func211 [r0, rg [hC 1 true [] (RB r1) []]] (by kernel_rfl) (P1 (ci_inRange hr1)<|P0)
def Ri_terrainAt (r : Gi_Terrain) : List D := [.agg [.str r.Name, sl 1 I r.Cost, I r.Shift, I r.Height, .bool r.Blocks]]
theorem ci_terrainAt {a0 : Gi_Board} {a1 : Int} {r : Gi_Terrain} (H : Di_terrainAt a0 a1 = some r) : Ct X.P X.gl 248 [gi_Board a0, I a1] [] (Ri_terrainAt r) [] :=
 Ct.of func248 (c := bdy f248) (by kernel_rfl) (by kernel_rfl) <|
 eCk H fun h1 H =>
 eBind H fun x2 hx2 H =>
 eCk H fun h3 H =>
 eBind H fun x4 hx4 H =>
 eW Ri_terrainAt (fun _ => []) H<|gE func248 [r0, rg [hE 8 (I x2), hE 10 (gi_Terrain x4)]] (by kernel_rfl) (P1 h1<|P1 (int_lt_of_at h1 hx2)<|P1 (at_map I hx2)<|P1 h3<|P1 (int_lt_of_at h3 hx4)<|P1 (at_map gi_Terrain hx4)<|P0)
theorem ci_enterCost {a0 : Gi_Board} {a1 : Int} {a2 : Int} {r : Int} (H : Di_enterCost a0 a1 a2 = some r) : Ct X.P X.gl 212 [gi_Board a0, I a1, I a2] [] (RI r) [] :=
 Ct.of func212 (c := bdy f212) (by kernel_rfl) (by kernel_rfl) <|
 eBind H fun r1 hr1 H =>
 eCk H fun h2 H =>
 eBind H fun x3 hx3 H =>
 eW RI (fun _ => []) H<|gE func212 [r0, rg [hC 2 true [] (Ri_terrainAt r1) [], hE 6 (I x3)]] (by kernel_rfl) (P1 (ci_terrainAt hr1)<|P1 h2<|P1 (int_lt_of_at h2 hx3)<|P1 (at_map I hx3)<|P0)
theorem ci_goodUnit {a0 : Gi_Board} {a1 : Gi_Unit} {r : Bool} (H : Di_goodUnit a0 a1 = some r) : Ct X.P X.gl 160 [gi_Board a0, gi_Unit a1] [] (RB r) [] :=
 Ct.of func160 (c := bdy f160) (by kernel_rfl) (by kernel_rfl) <|
 eBind H fun r1 hr1 H =>
 gS [r0] (by kernel_rfl) P0 <|
 eIf H (fun h2 H =>
 eBind H fun r3 hr3 H =>
 eIf H (fun h4 H =>
 eCk H fun h5 H =>
 eBind H fun x6 hx6 H =>
 eBind H fun r7 hr7 H =>
 eIf H (fun h8 H =>
 gS [rg [{ i := 2, call := some { cl := true, auto := true, ins := [], res := (RB r1), G' := [] }, dec := some true }, { i := 11, call := some { cl := true, auto := true, ins := [], res := (RB r3), G' := [] }, dec := some true }, hE 24 (gi_Kind x6), { i := 25, call := some { cl := true, auto := true, ins := [], res := (RB r7), G' := [] }, dec := some true }]] (by kernel_rfl) (P1 (ci_isSide hr1)<|P2 (r1 = true) (h2)<|P1 (ci_isIndex hr3)<|P2 (r3 = true) (h4)<|P1 h5<|P1 (int_lt_of_at h5 hx6)<|P1 (at_map gi_Kind hx6)<|P1 (ci_inRange hr7)<|P2 (r7 = true) (h8)<|P0) <|
 eIf H (fun h9 H =>
 eW RB (fun _ => []) H<|gE func160 [rg [hT 2], r0] (by kernel_rfl) (P2 (((a1.At : Int) == (-1)) = true) (beqT h9)<|P0))
 (fun h9 H =>
 gS [rg [hF 2]] (by kernel_rfl) (P2 (((a1.At : Int) == (-1)) = false) (beqF h9)<|P0) <|
 eIf H (fun h10 H =>
 eBind H fun r11 hr11 H =>
 eBind H fun r12 hr12 H =>
 eIf H (fun h13 H =>
 eBind H fun r14 hr14 H =>
 eW RB (fun _ => []) H<|gE func160 [rg [hT 2, hC 7 true [] (RI r11) [], { i := 8, call := some { cl := true, auto := true, ins := [], res := (RB r12), G' := [] }, dec := some true }, hC 16 true [] (RI r14) []]] (by kernel_rfl) (P2 ((decide (a1.Steps > 0)) = true) (decide_eq_true h10)<|P1 (ci_sizeOf hr11)<|P1 (ci_isIndex hr12)<|P2 (r12 = true) (h13)<|P1 (ci_enterCost hr14)<|P0))
 (fun h13 H =>
 eW RB (fun _ => []) H<|gE func160 [rg [hT 2, hC 7 true [] (RI r11) [], { i := 8, call := some { cl := true, auto := true, ins := [], res := (RB r12), G' := [] }, dec := some false }]] (by kernel_rfl) (P2 ((decide (a1.Steps > 0)) = true) (decide_eq_true h10)<|P1 (ci_sizeOf hr11)<|P1 (ci_isIndex hr12)<|P2 (r12 = false) (eqF h13)<|P0)))
 (fun h10 H =>
 eW RB (fun _ => []) H<|gE func160 [rg [hF 2]] (by kernel_rfl) (P2 ((decide (a1.Steps > 0)) = false) (decide_eq_false h10)<|P0))))
 (fun h8 H =>
 eW RB (fun _ => []) H<|gE func160 [rg [{ i := 2, call := some { cl := true, auto := true, ins := [], res := (RB r1), G' := [] }, dec := some true }, { i := 11, call := some { cl := true, auto := true, ins := [], res := (RB r3), G' := [] }, dec := some true }, hE 24 (gi_Kind x6), { i := 25, call := some { cl := true, auto := true, ins := [], res := (RB r7), G' := [] }, dec := some false }], r0] (by kernel_rfl) (P1 (ci_isSide hr1)<|P2 (r1 = true) (h2)<|P1 (ci_isIndex hr3)<|P2 (r3 = true) (h4)<|P1 h5<|P1 (int_lt_of_at h5 hx6)<|P1 (at_map gi_Kind hx6)<|P1 (ci_inRange hr7)<|P2 (r7 = false) (eqF h8)<|P0)))
 (fun h4 H =>
 eW RB (fun _ => []) H<|gE func160 [rg [{ i := 2, call := some { cl := true, auto := true, ins := [], res := (RB r1), G' := [] }, dec := some true }, { i := 11, call := some { cl := true, auto := true, ins := [], res := (RB r3), G' := [] }, dec := some false }], r0] (by kernel_rfl) (P1 (ci_isSide hr1)<|P2 (r1 = true) (h2)<|P1 (ci_isIndex hr3)<|P2 (r3 = false) (eqF h4)<|P0)))
 (fun h2 H =>
 eW RB (fun _ => []) H<|gE func160 [rg [{ i := 2, call := some { cl := true, auto := true, ins := [], res := (RB r1), G' := [] }, dec := some false }], r0] (by kernel_rfl) (P1 (ci_isSide hr1)<|P2 (r1 = false) (eqF h2)<|P0))
noncomputable def Ki_goodState : Si_goodState → List Item
 | .h1 .. => nav 300 4 [false] [.code (bdy f107)]
def Zi_goodState : Si_goodState → St
 | .h1 t0 t1 t2 b3 l4 => ⟨sts 80 [(2, .ptr 0 12 0 0), (5, .ref 1 2 none), (31, sl 4 gi_Unit t0), (32, I t1), (33, I t2)], [some ⟨false, true, 12, 1, [gi_Board b3]⟩, some ⟨false, false, 2, l4.length, List.map gA2I l4⟩]⟩
abbrev Qi_goodState := Nx X 107 0 Ki_goodState Zi_goodState RB (fun _ => [])
theorem ni_goodState : ∀ s o, Bi_goodState s = some o → Qi_goodState (Ki_goodState s) (Zi_goodState s) o
 | .h1 t0 t1 t2 b3 l4, o, H =>
  eIf H (fun h1 H =>
  eCk H fun h2 H =>
  eBind H fun x3 hx3 H =>
  eBind H fun r4 hr4 H =>
  gN [rg [hT 0], rg [hE 1 (gi_Unit x3)]] (by kernel_rfl) (P2 ((decide (t2 < t1)) = true) (decide_eq_true h1)<|P1 h2<|P1 (int_lt_of_at h2 hx3)<|P1 (at_map gi_Unit hx3)<|P0) <|
  eIf H (fun h5 H =>
  gN [rg [{ i := 2, call := some { cl := true, auto := true, ins := [], res := (RB r4), G' := [] }, dec := some true }]] (by kernel_rfl) (P1 (ci_goodUnit hr4)<|P2 (r4 = true) (h5)<|P0) <|
  eIf H (fun h6 H =>
  eN H fun r hn => gO [rg [hT 2], r0, .canon [0, 1] [2, 5, 31, 32, 33]] (by kernel_rfl) (P2 ((decide (x3.At < 0)) = true) (decide_eq_true h6)<|P0) hn)
  (fun h6 H =>
  eCk H fun h7 H =>
  eBind H fun x8 hx8 H =>
  gN [rg [hF 2]] (by kernel_rfl) (P2 ((decide (x3.At < 0)) = false) (decide_eq_false h6)<|P0) <|
  eIf H (fun h9 H =>
  eCk H fun h10 H =>
  eBind H fun x11 hx11 H =>
  eCk H fun h12 H =>
  eBind H fun x13 hx13 H =>
  gN [rg [{ i := 6, n := 0 }, hE 7 (gA2I x8), { i := 10, n := 0 }, hA 11 ((List.set l4 (Int.toNat x3.At) (GA2I.mk (IntKind.wrap .i64 (x8.c0 + 1)) x11.c1)).length) (List.map gA2I (List.set l4 (Int.toNat x3.At) (GA2I.mk (IntKind.wrap .i64 (x8.c0 + 1)) x11.c1)))]] (by kernel_rfl) (P1 h7<|P1 (int_lt_of_at h7 hx8)<|P1 h9<|P1 (at_map gA2I hx8)<|P1 h10<|P1 (int_lt_of_at h10 hx11)<|P1 h9<|P1 (lt_of_at hx11)<|P2 (setCells (List.map gA2I l4) (Int.toNat x3.At) 0 [I (IntKind.wrap .i64 (x8.c0 + 1))] = List.map gA2I (List.set l4 (Int.toNat x3.At) (GA2I.mk (IntKind.wrap .i64 (x8.c0 + 1)) x11.c1))) (setCells_map hx11 rfl)<|P1 (setLen l4 (Int.toNat x3.At) (GA2I.mk (IntKind.wrap .i64 (x8.c0 + 1)) x11.c1))<|P0) <|
  eIf H (fun h14 H =>
  eIf H (fun h15 H =>
  eN H<|gE func107 [rg [{ i := 7, n := 0 }, hE 8 (gA2I x13), hT 9], r0] (by kernel_rfl) (P1 h12<|P1 (int_lt_of_at h12 hx13)<|P1 h14<|P1 (at_map gA2I hx13)<|P2 ((decide (x13.c0 > 0)) = true) (decide_eq_true h15)<|P0))
  (fun h15 H =>
  eCk H fun h16 H =>
  eBind H fun x17 hx17 H =>
  eIf H (fun h18 H =>
  eN H<|gE func107 [rg [{ i := 7, n := 0 }, hE 8 (gA2I x13), hF 9, { i := 17, n := 0 }, hE 18 (gA2I x17), hT 22], r0] (by kernel_rfl) (P1 h12<|P1 (int_lt_of_at h12 hx13)<|P1 h14<|P1 (at_map gA2I hx13)<|P2 ((decide (x13.c0 > 0)) = false) (decide_eq_false h15)<|P1 h16<|P1 (int_lt_of_at h16 hx17)<|P1 h9<|P1 (at_map gA2I hx17)<|P2 ((decide (x17.c0 > b3.Rules.Stack)) = true) (decide_eq_true h18)<|P0))
  (fun h18 H =>
  eN H fun r hn => gO [rg [{ i := 7, n := 0 }, hE 8 (gA2I x13), hF 9, { i := 17, n := 0 }, hE 18 (gA2I x17), hF 22], r0, .canon [0, 1] [2, 5, 31, 32, 33]] (by kernel_rfl) (P1 h12<|P1 (int_lt_of_at h12 hx13)<|P1 h14<|P1 (at_map gA2I hx13)<|P2 ((decide (x13.c0 > 0)) = false) (decide_eq_false h15)<|P1 h16<|P1 (int_lt_of_at h16 hx17)<|P1 h9<|P1 (at_map gA2I hx17)<|P2 ((decide (x17.c0 > b3.Rules.Stack)) = false) (decide_eq_false h18)<|P0) hn)))
  (fun h14 H =>
  eCk H fun h15 H =>
  eIf H (fun h16 H =>
  eN H<|gE func107 [rg [{ i := 7, n := 1 }, hE 8 (gA2I x13), hT 9], r0] (by kernel_rfl) (P1 h12<|P1 (int_lt_of_at h12 hx13)<|P1 h15<|P1 (at_map gA2I hx13)<|P2 ((decide (x13.c1 > 0)) = true) (decide_eq_true h16)<|P0))
  (fun h16 H =>
  eCk H fun h17 H =>
  eBind H fun x18 hx18 H =>
  eIf H (fun h19 H =>
  eN H<|gE func107 [rg [{ i := 7, n := 1 }, hE 8 (gA2I x13), hF 9, { i := 17, n := 0 }, hE 18 (gA2I x18), hT 22], r0] (by kernel_rfl) (P1 h12<|P1 (int_lt_of_at h12 hx13)<|P1 h15<|P1 (at_map gA2I hx13)<|P2 ((decide (x13.c1 > 0)) = false) (decide_eq_false h16)<|P1 h17<|P1 (int_lt_of_at h17 hx18)<|P1 h9<|P1 (at_map gA2I hx18)<|P2 ((decide (x18.c0 > b3.Rules.Stack)) = true) (decide_eq_true h19)<|P0))
  (fun h19 H =>
  eN H fun r hn => gO [rg [{ i := 7, n := 1 }, hE 8 (gA2I x13), hF 9, { i := 17, n := 0 }, hE 18 (gA2I x18), hF 22], r0, .canon [0, 1] [2, 5, 31, 32, 33]] (by kernel_rfl) (P1 h12<|P1 (int_lt_of_at h12 hx13)<|P1 h15<|P1 (at_map gA2I hx13)<|P2 ((decide (x13.c1 > 0)) = false) (decide_eq_false h16)<|P1 h17<|P1 (int_lt_of_at h17 hx18)<|P1 h9<|P1 (at_map gA2I hx18)<|P2 ((decide (x18.c0 > b3.Rules.Stack)) = false) (decide_eq_false h19)<|P0) hn))))
  (fun h9 H =>
  eCk H fun h10 H =>
  eCk H fun h11 H =>
  eBind H fun x12 hx12 H =>
  eCk H fun h13 H =>
  eBind H fun x14 hx14 H =>
  gN [rg [{ i := 6, n := 1 }, hE 7 (gA2I x8), { i := 10, n := 1 }, hA 11 ((List.set l4 (Int.toNat x3.At) (GA2I.mk x12.c0 (IntKind.wrap .i64 (x8.c1 + 1)))).length) (List.map gA2I (List.set l4 (Int.toNat x3.At) (GA2I.mk x12.c0 (IntKind.wrap .i64 (x8.c1 + 1)))))]] (by kernel_rfl) (P1 h7<|P1 (int_lt_of_at h7 hx8)<|P1 h10<|P1 (at_map gA2I hx8)<|P1 h11<|P1 (int_lt_of_at h11 hx12)<|P1 h10<|P1 (lt_of_at hx12)<|P2 (setCells (List.map gA2I l4) (Int.toNat x3.At) 1 [I (IntKind.wrap .i64 (x8.c1 + 1))] = List.map gA2I (List.set l4 (Int.toNat x3.At) (GA2I.mk x12.c0 (IntKind.wrap .i64 (x8.c1 + 1))))) (setCells_map hx12 rfl)<|P1 (setLen l4 (Int.toNat x3.At) (GA2I.mk x12.c0 (IntKind.wrap .i64 (x8.c1 + 1))))<|P0) <|
  eIf H (fun h15 H =>
  eIf H (fun h16 H =>
  eN H<|gE func107 [rg [{ i := 7, n := 0 }, hE 8 (gA2I x14), hT 9], r0] (by kernel_rfl) (P1 h13<|P1 (int_lt_of_at h13 hx14)<|P1 h15<|P1 (at_map gA2I hx14)<|P2 ((decide (x14.c0 > 0)) = true) (decide_eq_true h16)<|P0))
  (fun h16 H =>
  eCk H fun h17 H =>
  eBind H fun x18 hx18 H =>
  eIf H (fun h19 H =>
  eN H<|gE func107 [rg [{ i := 7, n := 0 }, hE 8 (gA2I x14), hF 9, { i := 17, n := 1 }, hE 18 (gA2I x18), hT 22], r0] (by kernel_rfl) (P1 h13<|P1 (int_lt_of_at h13 hx14)<|P1 h15<|P1 (at_map gA2I hx14)<|P2 ((decide (x14.c0 > 0)) = false) (decide_eq_false h16)<|P1 h17<|P1 (int_lt_of_at h17 hx18)<|P1 h10<|P1 (at_map gA2I hx18)<|P2 ((decide (x18.c1 > b3.Rules.Stack)) = true) (decide_eq_true h19)<|P0))
  (fun h19 H =>
  eN H fun r hn => gO [rg [{ i := 7, n := 0 }, hE 8 (gA2I x14), hF 9, { i := 17, n := 1 }, hE 18 (gA2I x18), hF 22], r0, .canon [0, 1] [2, 5, 31, 32, 33]] (by kernel_rfl) (P1 h13<|P1 (int_lt_of_at h13 hx14)<|P1 h15<|P1 (at_map gA2I hx14)<|P2 ((decide (x14.c0 > 0)) = false) (decide_eq_false h16)<|P1 h17<|P1 (int_lt_of_at h17 hx18)<|P1 h10<|P1 (at_map gA2I hx18)<|P2 ((decide (x18.c1 > b3.Rules.Stack)) = false) (decide_eq_false h19)<|P0) hn)))
  (fun h15 H =>
  eCk H fun h16 H =>
  eIf H (fun h17 H =>
  eN H<|gE func107 [rg [{ i := 7, n := 1 }, hE 8 (gA2I x14), hT 9], r0] (by kernel_rfl) (P1 h13<|P1 (int_lt_of_at h13 hx14)<|P1 h16<|P1 (at_map gA2I hx14)<|P2 ((decide (x14.c1 > 0)) = true) (decide_eq_true h17)<|P0))
  (fun h17 H =>
  eCk H fun h18 H =>
  eBind H fun x19 hx19 H =>
  eIf H (fun h20 H =>
  eN H<|gE func107 [rg [{ i := 7, n := 1 }, hE 8 (gA2I x14), hF 9, { i := 17, n := 1 }, hE 18 (gA2I x19), hT 22], r0] (by kernel_rfl) (P1 h13<|P1 (int_lt_of_at h13 hx14)<|P1 h16<|P1 (at_map gA2I hx14)<|P2 ((decide (x14.c1 > 0)) = false) (decide_eq_false h17)<|P1 h18<|P1 (int_lt_of_at h18 hx19)<|P1 h10<|P1 (at_map gA2I hx19)<|P2 ((decide (x19.c1 > b3.Rules.Stack)) = true) (decide_eq_true h20)<|P0))
  (fun h20 H =>
  eN H fun r hn => gO [rg [{ i := 7, n := 1 }, hE 8 (gA2I x14), hF 9, { i := 17, n := 1 }, hE 18 (gA2I x19), hF 22], r0, .canon [0, 1] [2, 5, 31, 32, 33]] (by kernel_rfl) (P1 h13<|P1 (int_lt_of_at h13 hx14)<|P1 h16<|P1 (at_map gA2I hx14)<|P2 ((decide (x14.c1 > 0)) = false) (decide_eq_false h17)<|P1 h18<|P1 (int_lt_of_at h18 hx19)<|P1 h10<|P1 (at_map gA2I hx19)<|P2 ((decide (x19.c1 > b3.Rules.Stack)) = false) (decide_eq_false h20)<|P0) hn))))))
  (fun h5 H =>
  eN H<|gE func107 [rg [{ i := 2, call := some { cl := true, auto := true, ins := [], res := (RB r4), G' := [] }, dec := some false }], r0] (by kernel_rfl) (P1 (ci_goodUnit hr4)<|P2 (r4 = false) (eqF h5)<|P0)))
  (fun h1 H =>
  eN H<|gE func107 [rg [hF 0], r0] (by kernel_rfl) (P2 ((decide (t2 < t1)) = false) (decide_eq_false h1)<|P0))
theorem wi_goodState : ∀ s r, loop Bi_goodState s = some r → Wc X 107 0 (Ki_goodState s) (Zi_goodState s) (RB r) ((fun _ => []) r) := Nx.all (ni_goodState)
theorem ci_goodState {a0 : Gi_Board} {a1 : Gi_State} {r : Bool} (H : Di_goodState a0 a1 = some r) : Ct X.P X.gl 107 [gi_Board a0, gi_State a1] [] (RB r) [] :=
 Ct.of func107 (c := bdy f107) (by kernel_rfl) (by kernel_rfl) <|
 eBind H fun r1 hr1 H =>
 gS [r0] (by kernel_rfl) P0 <|
 eIf H (fun h2 H =>
 eBind H fun r3 hr3 H =>
 eIf H (fun h4 H =>
 eIf H (fun h5 H =>
 eW RB (fun _ => []) H<|gE func107 [rg [{ i := 5, call := some { cl := true, auto := true, ins := [], res := (RB r1), G' := [] }, dec := some true }, { i := 10, call := some { cl := true, auto := true, ins := [], res := (RB r3), G' := [] }, dec := some true }, hT 17], r0] (by kernel_rfl) (P1 (ci_inRange hr1)<|P2 (r1 = true) (h2)<|P1 (ci_inRange hr3)<|P2 (r3 = true) (h4)<|P2 ((decide (((a1.Units.length : Nat) : Int) > 12)) = true) (decide_eq_true h5)<|P0))
 (fun h5 H =>
 eBind H fun r6 hr6 H =>
 eCk H fun h7 H =>
 eCk H fun h8 H =>
 gO [rg [{ i := 5, call := some { cl := true, auto := true, ins := [], res := (RB r1), G' := [] }, dec := some true }, { i := 10, call := some { cl := true, auto := true, ins := [], res := (RB r3), G' := [] }, dec := some true }, hF 17], rg [hC 1 true [] (RI r6) [], hA 2 ((List.replicate (Int.toNat r6) (GA2I.mk 0 0)).length) (List.map gA2I (List.replicate (Int.toNat r6) (GA2I.mk 0 0)))], r0, .canon [0, 2] [2, 5, 31, 32, 33]] (by kernel_rfl) (P1 (ci_inRange hr1)<|P2 (r1 = true) (h2)<|P1 (ci_inRange hr3)<|P2 (r3 = true) (h4)<|P2 ((decide (((a1.Units.length : Nat) : Int) > 12)) = false) (decide_eq_false h5)<|P1 (ci_sizeOf hr6)<|PI r6<|P2 ((0 : Int) ≤ r6) h7<|P2 (Int.toNat r6 * 16 ≤ 140737488355328) h8<|P1 (repLen (Int.toNat r6) (GA2I.mk 0 0))<|P1 (repMap gA2I (Int.toNat r6) (GA2I.mk 0 0))<|P0) (wi_goodState _ _ H)))
 (fun h4 H =>
 eW RB (fun _ => []) H<|gE func107 [rg [{ i := 5, call := some { cl := true, auto := true, ins := [], res := (RB r1), G' := [] }, dec := some true }, { i := 10, call := some { cl := true, auto := true, ins := [], res := (RB r3), G' := [] }, dec := some false }], r0] (by kernel_rfl) (P1 (ci_inRange hr1)<|P2 (r1 = true) (h2)<|P1 (ci_inRange hr3)<|P2 (r3 = false) (eqF h4)<|P0)))
 (fun h2 H =>
 eW RB (fun _ => []) H<|gE func107 [rg [{ i := 5, call := some { cl := true, auto := true, ins := [], res := (RB r1), G' := [] }, dec := some false }], r0] (by kernel_rfl) (P1 (ci_inRange hr1)<|P2 (r1 = false) (eqF h2)<|P0))
noncomputable def Ki_goodConditions : Si_goodConditions → List Item
 | .h1 .. => nav 300 3 [false] [.code (bdy f108)]
def Zi_goodConditions : Si_goodConditions → St
 | .h1 t0 t1 t2 b3 b4 => ⟨sts 60 [(2, .ptr 0 12 0 0), (3, .ptr 1 3 0 0), (24, sl 2 gi_Goal t0), (25, I t1), (26, I t2)], [some ⟨false, true, 12, 1, [gi_Board b3]⟩, some ⟨false, true, 3, 1, [gi_Conditions b4]⟩]⟩
abbrev Qi_goodConditions := Nx X 108 0 Ki_goodConditions Zi_goodConditions RB (fun _ => [])
theorem ni_goodConditions : ∀ s o, Bi_goodConditions s = some o → Qi_goodConditions (Ki_goodConditions s) (Zi_goodConditions s) o
 | .h1 t0 t1 t2 b3 b4, o, H =>
  eIf H (fun h1 H =>
  eCk H fun h2 H =>
  eBind H fun x3 hx3 H =>
  eBind H fun r4 hr4 H =>
  eBind H fun r5 hr5 H =>
  gN [rg [hT 0], rg [hE 2 (gi_Goal x3)]] (by kernel_rfl) (P2 ((decide (t2 < t1)) = true) (decide_eq_true h1)<|P1 h2<|P1 (int_lt_of_at h2 hx3)<|P1 (at_map gi_Goal hx3)<|P0) <|
  eIf H (fun h6 H =>
  eBind H fun r7 hr7 H =>
  eIf H (fun h8 H =>
  eIf H (fun h9 H =>
  eCk H fun h10 H =>
  eBind H fun x11 hx11 H =>
  eIf H (fun h12 H =>
  eN H<|gE func108 [rg [hC 3 true [] (RI r4) [], { i := 4, call := some { cl := true, auto := true, ins := [], res := (RB r5), G' := [] }, dec := some true }, { i := 9, call := some { cl := true, auto := true, ins := [], res := (RB r7), G' := [] }, dec := some true }, hT 14, hE 22 (gi_Goal x11), hT 25], r0] (by kernel_rfl) (P1 (ci_sizeOf hr4)<|P1 (ci_isIndex hr5)<|P2 (r5 = true) (h6)<|P1 (ci_inRange hr7)<|P2 (r7 = true) (h8)<|P2 ((decide (t2 > 0)) = true) (decide_eq_true h9)<|P1 h10<|P1 (int_lt_of_at h10 hx11)<|P1 (at_map gi_Goal hx11)<|P2 ((decide (x11.At ≥ x3.At)) = true) (decide_eq_true h12)<|P0))
  (fun h12 H =>
  eN H fun r hn => gO [rg [hC 3 true [] (RI r4) [], { i := 4, call := some { cl := true, auto := true, ins := [], res := (RB r5), G' := [] }, dec := some true }, { i := 9, call := some { cl := true, auto := true, ins := [], res := (RB r7), G' := [] }, dec := some true }, hT 14, hE 22 (gi_Goal x11), hF 25], r0, .canon [0, 1] [2, 3, 24, 25, 26]] (by kernel_rfl) (P1 (ci_sizeOf hr4)<|P1 (ci_isIndex hr5)<|P2 (r5 = true) (h6)<|P1 (ci_inRange hr7)<|P2 (r7 = true) (h8)<|P2 ((decide (t2 > 0)) = true) (decide_eq_true h9)<|P1 h10<|P1 (int_lt_of_at h10 hx11)<|P1 (at_map gi_Goal hx11)<|P2 ((decide (x11.At ≥ x3.At)) = false) (decide_eq_false h12)<|P0) hn))
  (fun h9 H =>
  eN H fun r hn => gO [rg [hC 3 true [] (RI r4) [], { i := 4, call := some { cl := true, auto := true, ins := [], res := (RB r5), G' := [] }, dec := some true }, { i := 9, call := some { cl := true, auto := true, ins := [], res := (RB r7), G' := [] }, dec := some true }, hF 14], r0, .canon [0, 1] [2, 3, 24, 25, 26]] (by kernel_rfl) (P1 (ci_sizeOf hr4)<|P1 (ci_isIndex hr5)<|P2 (r5 = true) (h6)<|P1 (ci_inRange hr7)<|P2 (r7 = true) (h8)<|P2 ((decide (t2 > 0)) = false) (decide_eq_false h9)<|P0) hn))
  (fun h8 H =>
  eN H<|gE func108 [rg [hC 3 true [] (RI r4) [], { i := 4, call := some { cl := true, auto := true, ins := [], res := (RB r5), G' := [] }, dec := some true }, { i := 9, call := some { cl := true, auto := true, ins := [], res := (RB r7), G' := [] }, dec := some false }], r0] (by kernel_rfl) (P1 (ci_sizeOf hr4)<|P1 (ci_isIndex hr5)<|P2 (r5 = true) (h6)<|P1 (ci_inRange hr7)<|P2 (r7 = false) (eqF h8)<|P0)))
  (fun h6 H =>
  eN H<|gE func108 [rg [hC 3 true [] (RI r4) [], { i := 4, call := some { cl := true, auto := true, ins := [], res := (RB r5), G' := [] }, dec := some false }], r0] (by kernel_rfl) (P1 (ci_sizeOf hr4)<|P1 (ci_isIndex hr5)<|P2 (r5 = false) (eqF h6)<|P0)))
  (fun h1 H =>
  eN H<|gE func108 [rg [hF 0], r0] (by kernel_rfl) (P2 ((decide (t2 < t1)) = false) (decide_eq_false h1)<|P0))
theorem wi_goodConditions : ∀ s r, loop Bi_goodConditions s = some r → Wc X 108 0 (Ki_goodConditions s) (Zi_goodConditions s) (RB r) ((fun _ => []) r) := Nx.all (ni_goodConditions)
theorem ci_goodConditions {a0 : Gi_Board} {a1 : Gi_Conditions} {r : Bool} (H : Di_goodConditions a0 a1 = some r) : Ct X.P X.gl 108 [gi_Board a0, gi_Conditions a1] [] (RB r) [] :=
 Ct.of func108 (c := bdy f108) (by kernel_rfl) (by kernel_rfl) <|
 gS [r0] (by kernel_rfl) P0 <|
 eIf H (fun h1 H =>
 eW RB (fun _ => []) H<|gE func108 [rg [hT 3], r0] (by kernel_rfl) (P2 ((decide (((a1.Goals.length : Nat) : Int) > 12)) = true) (decide_eq_true h1)<|P0))
 (fun h1 H =>
 eBind H fun r2 hr2 H =>
 eIf H (fun h3 H =>
 eBind H fun r4 hr4 H =>
 eIf H (fun h5 H =>
 gO [rg [hF 3, { i := 7, call := some { cl := true, auto := true, ins := [], res := (RB r2), G' := [] }, dec := some true }, { i := 13, call := some { cl := true, auto := true, ins := [], res := (RB r4), G' := [] }, dec := some true }], r0, .canon [0, 1] [2, 3, 24, 25, 26]] (by kernel_rfl) (P2 ((decide (((a1.Goals.length : Nat) : Int) > 12)) = false) (decide_eq_false h1)<|P1 (ci_inRange hr2)<|P2 (r2 = true) (h3)<|P1 (ci_inRange hr4)<|P2 (r4 = true) (h5)<|P0) (wi_goodConditions _ _ H))
 (fun h5 H =>
 eW RB (fun _ => []) H<|gE func108 [rg [hF 3, { i := 7, call := some { cl := true, auto := true, ins := [], res := (RB r2), G' := [] }, dec := some true }, { i := 13, call := some { cl := true, auto := true, ins := [], res := (RB r4), G' := [] }, dec := some false }], r0] (by kernel_rfl) (P2 ((decide (((a1.Goals.length : Nat) : Int) > 12)) = false) (decide_eq_false h1)<|P1 (ci_inRange hr2)<|P2 (r2 = true) (h3)<|P1 (ci_inRange hr4)<|P2 (r4 = false) (eqF h5)<|P0)))
 (fun h3 H =>
 eW RB (fun _ => []) H<|gE func108 [rg [hF 3, { i := 7, call := some { cl := true, auto := true, ins := [], res := (RB r2), G' := [] }, dec := some false }], r0] (by kernel_rfl) (P2 ((decide (((a1.Goals.length : Nat) : Int) > 12)) = false) (decide_eq_false h1)<|P1 (ci_inRange hr2)<|P2 (r2 = false) (eqF h3)<|P0)))
theorem ci_areSources_1 {a0 : Int} {a1 : Gi_Board} {r : Bool} (H : Di_areSources_1 a0 a1 = some r) : Ct X.P X.gl 163 [I a0, .fptr 12 [.agg [sl 5 gi_Terrain a1.Rules.Terrains, sl 6 gi_Kind a1.Rules.Kinds, I a1.Rules.Stack, I a1.Rules.River, I a1.Rules.Road, I a1.Rules.Supply, I a1.Rules.Turns, I a1.Map.Width, I a1.Map.Height, sl 1 I a1.Map.Terrain, sl 1 I a1.Map.Rivers, sl 1 I a1.Map.Roads]] 0 0] [] (RB r) [] :=
 have H := (Di_areSources_1.eq_1 ..).symm.trans H
 Ct.of func163 (c := bdy f163) (by kernel_rfl) (by kernel_rfl) <|
 eBind H fun r1 hr1 H =>
 eBind H fun r2 hr2 H =>
 eW RB (fun _ => []) H<|gE func163 [r0, rg [hC 2 true [] (RI r1) [], hC 3 true [] (RB r2) []]] (by kernel_rfl) (P1 (ci_sizeOf hr1)<|P1 (ci_isIndex hr2)<|P0)
noncomputable def Kslices_IndexFunc_int_i_areSources_1 : Sslices_IndexFunc_int_i_areSources_1 → List Item
 | .h1 .. => nav 300 2 [] [.code (bdy f210)]
def Zslices_IndexFunc_int_i_areSources_1 : Sslices_IndexFunc_int_i_areSources_1 → St
 | .h1 s0 f1 t2 t3 => ⟨sts 19 [(0, sl 1 I s0), (1, .fn 163 [.fptr 12 [.agg [sl 5 gi_Terrain f1.Rules.Terrains, sl 6 gi_Kind f1.Rules.Kinds, I f1.Rules.Stack, I f1.Rules.River, I f1.Rules.Road, I f1.Rules.Supply, I f1.Rules.Turns, I f1.Map.Width, I f1.Map.Height, sl 1 I f1.Map.Terrain, sl 1 I f1.Map.Rivers, sl 1 I f1.Map.Roads]] 0 0]), (7, I t2), (8, I t3)], []⟩
abbrev Qslices_IndexFunc_int_i_areSources_1 := Nx X 210 0 Kslices_IndexFunc_int_i_areSources_1 Zslices_IndexFunc_int_i_areSources_1 RI (fun _ => [])
theorem nslices_IndexFunc_int_i_areSources_1 : ∀ s o, Bslices_IndexFunc_int_i_areSources_1 s = some o → Qslices_IndexFunc_int_i_areSources_1 (Kslices_IndexFunc_int_i_areSources_1 s) (Zslices_IndexFunc_int_i_areSources_1 s) o
 | .h1 s0 f1 t2 t3, o, H =>
  eIf H (fun h1 H =>
  eCk H fun h2 H =>
  eBind H fun x3 hx3 H =>
  eBind H fun r4 hr4 H =>
  gN [rg [hT 0], r0] (by kernel_rfl) (P2 ((decide (t3 < t2)) = true) (decide_eq_true h1)<|P0) <|
  eIf H (fun h5 H =>
  eN H<|gE func210 [rg [hE 4 (I x3), { i := 5, call := some { cl := true, auto := true, ins := [], res := (RB r4), G' := [] }, dec := some true }], r0] (by kernel_rfl) (P1 h2<|P1 (int_lt_of_at h2 hx3)<|P1 (at_map I hx3)<|P1 (ci_areSources_1 hr4)<|P2 (r4 = true) (h5)<|P0))
  (fun h5 H =>
  eN H fun r hn => gO [rg [hE 4 (I x3), { i := 5, call := some { cl := true, auto := true, ins := [], res := (RB r4), G' := [] }, dec := some false }], r0, .canon [] [0, 1, 7, 8]] (by kernel_rfl) (P1 h2<|P1 (int_lt_of_at h2 hx3)<|P1 (at_map I hx3)<|P1 (ci_areSources_1 hr4)<|P2 (r4 = false) (eqF h5)<|P0) hn))
  (fun h1 H =>
  eN H<|gE func210 [rg [hF 0], r0] (by kernel_rfl) (P2 ((decide (t3 < t2)) = false) (decide_eq_false h1)<|P0))
theorem wslices_IndexFunc_int_i_areSources_1 : ∀ s r, loop Bslices_IndexFunc_int_i_areSources_1 s = some r → Wc X 210 0 (Kslices_IndexFunc_int_i_areSources_1 s) (Zslices_IndexFunc_int_i_areSources_1 s) (RI r) ((fun _ => []) r) := Nx.all (nslices_IndexFunc_int_i_areSources_1)
theorem cslices_IndexFunc_int_i_areSources_1 {a0 : (List Int)} {a100 : Gi_Board} {r : Int} (H : Dslices_IndexFunc_int_i_areSources_1 a0 a100 = some r) : Ct X.P X.gl 210 [sl 1 I a0, .fn 163 [.fptr 12 [.agg [sl 5 gi_Terrain a100.Rules.Terrains, sl 6 gi_Kind a100.Rules.Kinds, I a100.Rules.Stack, I a100.Rules.River, I a100.Rules.Road, I a100.Rules.Supply, I a100.Rules.Turns, I a100.Map.Width, I a100.Map.Height, sl 1 I a100.Map.Terrain, sl 1 I a100.Map.Rivers, sl 1 I a100.Map.Roads]] 0 0]] [] (RI r) [] :=
 Ct.of func210 (c := bdy f210) (by kernel_rfl) (by kernel_rfl) <|
 gO [r0, r0, .canon [] [0, 1, 7, 8]] (by kernel_rfl) P0 (wslices_IndexFunc_int_i_areSources_1 _ _ H)
theorem cslices_ContainsFunc_int_i_areSources_1 {a0 : (List Int)} {a100 : Gi_Board} {r : Bool} (H : Dslices_ContainsFunc_int_i_areSources_1 a0 a100 = some r) : Ct X.P X.gl 155 [sl 1 I a0, .fn 163 [.fptr 12 [.agg [sl 5 gi_Terrain a100.Rules.Terrains, sl 6 gi_Kind a100.Rules.Kinds, I a100.Rules.Stack, I a100.Rules.River, I a100.Rules.Road, I a100.Rules.Supply, I a100.Rules.Turns, I a100.Map.Width, I a100.Map.Height, sl 1 I a100.Map.Terrain, sl 1 I a100.Map.Rivers, sl 1 I a100.Map.Roads]] 0 0]] [] (RB r) [] :=
 Ct.of func155 (c := bdy f155) (by kernel_rfl) (by kernel_rfl) <|
 eBind H fun r1 hr1 H =>
 eW RB (fun _ => []) H<|gE func155 [r0, rg [hC 2 true [] (RI r1) []]] (by kernel_rfl) (P1 (cslices_IndexFunc_int_i_areSources_1 hr1)<|P0)
theorem ci_areSources {a0 : Gi_Board} {a1 : (List Int)} {r : Bool} (H : Di_areSources a0 a1 = some r) : Ct X.P X.gl 109 [gi_Board a0, sl 1 I a1] [] (RB r) [] :=
 Ct.of func109 (c := bdy f109) (by kernel_rfl) (by kernel_rfl) <|
 gS [r0] (by kernel_rfl) P0 <|
 eIf H (fun h1 H =>
 eBind H fun r2 hr2 H =>
 eIf H (fun h3 H =>
 eBind H fun r4 hr4 H =>
 eW RB (fun _ => []) H<|gE func109 [rg [hT 2, { i := 5, call := some { cl := true, auto := true, ins := [], res := (RB r2), G' := [] }, dec := some true }, hC 10 false [] (RB r4) []]] (by kernel_rfl) (P2 ((decide (((a1.length : Nat) : Int) ≤ 6)) = true) (decide_eq_true h1)<|P1 (ci_increasing hr2)<|P2 (r2 = true) (h3)<|P1 (cslices_ContainsFunc_int_i_areSources_1 hr4)<|P0))
 (fun h3 H =>
 eW RB (fun _ => []) H<|gE func109 [rg [hT 2, { i := 5, call := some { cl := true, auto := true, ins := [], res := (RB r2), G' := [] }, dec := some false }]] (by kernel_rfl) (P2 ((decide (((a1.length : Nat) : Int) ≤ 6)) = true) (decide_eq_true h1)<|P1 (ci_increasing hr2)<|P2 (r2 = false) (eqF h3)<|P0)))
 (fun h1 H =>
 eW RB (fun _ => []) H<|gE func109 [rg [hF 2]] (by kernel_rfl) (P2 ((decide (((a1.length : Nat) : Int) ≤ 6)) = false) (decide_eq_false h1)<|P0))
theorem ci_ScenarioFault {a0 : Gi_Scenario} {r : Int} (H : Di_ScenarioFault a0 = some r) : Ct X.P X.gl 62 [gi_Scenario a0] [] (RI r) [] :=
 Ct.of func62 (c := bdy f62) (by kernel_rfl) (by kernel_rfl) <|
 eBind H fun r1 hr1 H =>
 gS [r0] (by kernel_rfl) P0 <|
 eIf H (fun h2 H =>
 eBind H fun r3 hr3 H =>
 gS [rg [{ i := 2, call := some { cl := true, auto := true, ins := [], res := (RB r1), G' := [] }, dec := some true }]] (by kernel_rfl) (P1 (ci_isName hr1)<|P2 (r1 = true) (h2)<|P0) <|
 eIf H (fun h4 H =>
 eBind H fun r5 hr5 H =>
 gS [rg [{ i := 2, call := some { cl := true, auto := true, ins := [], res := (RB r3), G' := [] }, dec := some true }]] (by kernel_rfl) (P1 (ci_IsBoard hr3)<|P2 (r3 = true) (h4)<|P0) <|
 eIf H (fun h6 H =>
 eBind H fun r7 hr7 H =>
 gS [rg [{ i := 2, call := some { cl := true, auto := true, ins := [], res := (RB r5), G' := [] }, dec := some true }]] (by kernel_rfl) (P1 (ci_IsCombatTable hr5)<|P2 (r5 = true) (h6)<|P0) <|
 eIf H (fun h8 H =>
 eBind H fun r9 hr9 H =>
 gS [rg [{ i := 4, call := some { cl := true, auto := true, ins := [], res := (RB r7), G' := [] }, dec := some true }]] (by kernel_rfl) (P1 (ci_goodState hr7)<|P2 (r7 = true) (h8)<|P0) <|
 eIf H (fun h10 H =>
 eBind H fun r11 hr11 H =>
 gS [rg [{ i := 4, call := some { cl := true, auto := true, ins := [], res := (RB r9), G' := [] }, dec := some true }]] (by kernel_rfl) (P1 (ci_goodConditions hr9)<|P2 (r9 = true) (h10)<|P0) <|
 eIf H (fun h12 H =>
 eBind H fun r13 hr13 H =>
 eIf H (fun h14 H =>
 eW RI (fun _ => []) H<|gE func62 [rg [{ i := 4, call := some { cl := true, auto := true, ins := [], res := (RB r11), G' := [] }, dec := some true }, { i := 11, call := some { cl := true, auto := true, ins := [], res := (RB r13), G' := [] }, dec := some true }], r0] (by kernel_rfl) (P1 (ci_areSources hr11)<|P2 (r11 = true) (h12)<|P1 (ci_areSources hr13)<|P2 (r13 = true) (h14)<|P0))
 (fun h14 H =>
 eW RI (fun _ => []) H<|gE func62 [rg [{ i := 4, call := some { cl := true, auto := true, ins := [], res := (RB r11), G' := [] }, dec := some true }, { i := 11, call := some { cl := true, auto := true, ins := [], res := (RB r13), G' := [] }, dec := some false }], r0] (by kernel_rfl) (P1 (ci_areSources hr11)<|P2 (r11 = true) (h12)<|P1 (ci_areSources hr13)<|P2 (r13 = false) (eqF h14)<|P0)))
 (fun h12 H =>
 eW RI (fun _ => []) H<|gE func62 [rg [{ i := 4, call := some { cl := true, auto := true, ins := [], res := (RB r11), G' := [] }, dec := some false }], r0] (by kernel_rfl) (P1 (ci_areSources hr11)<|P2 (r11 = false) (eqF h12)<|P0)))
 (fun h10 H =>
 eW RI (fun _ => []) H<|gE func62 [rg [{ i := 4, call := some { cl := true, auto := true, ins := [], res := (RB r9), G' := [] }, dec := some false }], r0] (by kernel_rfl) (P1 (ci_goodConditions hr9)<|P2 (r9 = false) (eqF h10)<|P0)))
 (fun h8 H =>
 eW RI (fun _ => []) H<|gE func62 [rg [{ i := 4, call := some { cl := true, auto := true, ins := [], res := (RB r7), G' := [] }, dec := some false }], r0] (by kernel_rfl) (P1 (ci_goodState hr7)<|P2 (r7 = false) (eqF h8)<|P0)))
 (fun h6 H =>
 eW RI (fun _ => []) H<|gE func62 [rg [{ i := 2, call := some { cl := true, auto := true, ins := [], res := (RB r5), G' := [] }, dec := some false }], r0] (by kernel_rfl) (P1 (ci_IsCombatTable hr5)<|P2 (r5 = false) (eqF h6)<|P0)))
 (fun h4 H =>
 eW RI (fun _ => []) H<|gE func62 [rg [{ i := 2, call := some { cl := true, auto := true, ins := [], res := (RB r3), G' := [] }, dec := some false }], r0] (by kernel_rfl) (P1 (ci_IsBoard hr3)<|P2 (r3 = false) (eqF h4)<|P0)))
 (fun h2 H =>
 eW RI (fun _ => []) H<|gE func62 [rg [{ i := 2, call := some { cl := true, auto := true, ins := [], res := (RB r1), G' := [] }, dec := some false }], r0] (by kernel_rfl) (P1 (ci_isName hr1)<|P2 (r1 = false) (eqF h2)<|P0))
theorem ci_IsScenario {a0 : Gi_Scenario} {r : Bool} (H : Di_IsScenario a0 = some r) : Ct X.P X.gl 24 [gi_Scenario a0] [] (RB r) [] :=
 Ct.of func24 (c := bdy f24) (by kernel_rfl) (by kernel_rfl) <|
 eBind H fun r1 hr1 H =>
 eW RB (fun _ => []) H<|gE func24 [r0, rg [hC 1 true [] (RI r1) []]] (by kernel_rfl) (P1 (ci_ScenarioFault hr1)<|P0)
def Rslices_Clone_int (r : List Int) : List D := [ow 1 I r]
theorem cslices_Clone_int {l r : List Int} (H : Dslices_Clone_int l = some r) : Ct X.P X.gl 131 [sl 1 I l] [] (Rslices_Clone_int r) [] :=
 eCk H fun h H => eRet (P := fun r => Ct X.P X.gl 131 [sl 1 I l] [] (Rslices_Clone_int r) []) H <|
  Ct.of func131 (c := bdy f131) (by kernel_rfl) (by kernel_rfl)<|by
   by_cases h0 : 0 < l.length
   ·exact gE func131 [r0, rg [{ i := 1, keep := true }], rg [{ i := 2, n := l.length, xs := List.map I l }]] (by kernel_rfl) (P1 h0<|P1 (allFl_3 l)<|P2 (l.length = 0 + l.length) (by simp)<|P2 ((0 + l.length) * 8 ≤ 70368744177664) (by simpa using h)<|P2 (([] : List D) ++ List.map I l = List.map I l) rfl P0)
   ·have e : l = [] := by cases l with | nil => rfl | cons x l => exact absurd (Nat.succ_pos _) h0
    subst e
    refine gO [r0, r0, .stop] (k' := nav 300 2 [] [.code (bdy f131)]) (σ' := ⟨sts 8 [(0, sl 1 I []), (2, .nil), (3, sl 1 I []), (4, .anyb)], []⟩) (by kernel_rfl) P0 (Wc.anyb 4 (by kernel_rfl) fun b => ?_)
    cases b with
    | true => exact gE func131 [r0] (by kernel_rfl) P0
    | false =>
     have h : ([] : List Int).length * 8 ≤ 70368744177664 := by decide
     have : Wc X 131 0 (nav 300 2 [] [.code (bdy f131)]) ⟨sts 8 [(0, sl 1 I []), (2, .nil), (3, sl 1 I []), (4, .bool false)], []⟩ (Rslices_Clone_int []) [] := by
      generalize hl : ([] : List Int) = l at h ⊢
      exact gE func131 [ rg [{ i := 2, n := l.length, xs := List.map I l }]] (by kernel_rfl) ( P1 (allFl_3 l)<|P2 (l.length = 0 + l.length) (by simp)<|P2 ((0 + l.length) * 8 ≤ 70368744177664) (by simpa using h)<|P2 (([] : List D) ++ List.map I l = List.map I l) rfl P0)
     exact this
def Rslices_Clone_i_Kind (r : List Gi_Kind) : List D := [ow 6 gi_Kind r]
theorem cslices_Clone_i_Kind {l r : List Gi_Kind} (H : Dslices_Clone_i_Kind l = some r) : Ct X.P X.gl 216 [sl 6 gi_Kind l] [] (Rslices_Clone_i_Kind r) [] :=
 eCk H fun h H => eRet (P := fun r => Ct X.P X.gl 216 [sl 6 gi_Kind l] [] (Rslices_Clone_i_Kind r) []) H <|
  Ct.of func216 (c := bdy f216) (by kernel_rfl) (by kernel_rfl)<|by
   by_cases h0 : 0 < l.length
   ·exact gE func216 [r0, rg [{ i := 1, keep := true }], rg [{ i := 2, n := l.length, xs := List.map gi_Kind l }]] (by kernel_rfl) (P1 h0<|P1 (allFl_139 l)<|P2 (l.length = 0 + l.length) (by simp)<|P2 ((0 + l.length) * 56 ≤ 70368744177664) (by simpa using h)<|P2 (([] : List D) ++ List.map gi_Kind l = List.map gi_Kind l) rfl P0)
   ·have e : l = [] := by cases l with | nil => rfl | cons x l => exact absurd (Nat.succ_pos _) h0
    subst e
    refine gO [r0, r0, .stop] (k' := nav 300 2 [] [.code (bdy f216)]) (σ' := ⟨sts 8 [(0, sl 6 gi_Kind []), (2, .nil), (3, sl 6 gi_Kind []), (4, .anyb)], []⟩) (by kernel_rfl) P0 (Wc.anyb 4 (by kernel_rfl) fun b => ?_)
    cases b with
    | true => exact gE func216 [r0] (by kernel_rfl) P0
    | false =>
     have h : ([] : List Gi_Kind).length * 56 ≤ 70368744177664 := by decide
     have : Wc X 216 0 (nav 300 2 [] [.code (bdy f216)]) ⟨sts 8 [(0, sl 6 gi_Kind []), (2, .nil), (3, sl 6 gi_Kind []), (4, .bool false)], []⟩ (Rslices_Clone_i_Kind []) [] := by
      generalize hl : ([] : List Gi_Kind) = l at h ⊢
      exact gE func216 [ rg [{ i := 2, n := l.length, xs := List.map gi_Kind l }]] (by kernel_rfl) ( P1 (allFl_139 l)<|P2 (l.length = 0 + l.length) (by simp)<|P2 ((0 + l.length) * 56 ≤ 70368744177664) (by simpa using h)<|P2 (([] : List D) ++ List.map gi_Kind l = List.map gi_Kind l) rfl P0)
     exact this
def Ri_cloneRules (r : Gi_Rules) : List D := [.agg [ow 5 goi_Terrain r.Terrains, ow 6 gi_Kind r.Kinds, I r.Stack, I r.River, I r.Road, I r.Supply, I r.Turns]]
noncomputable def Ki_cloneRules : Si_cloneRules → List Item
 | .h1 .. => nav 300 3 [] [.code (bdy f173)]
def Zi_cloneRules : Si_cloneRules → St
 | .h1 t0 t1 t2 b3 b4 b5 b6 b7 b8 l9 => ⟨sts 30 [(1, .ptr 0 7 0 0), (2, .ptr 1 7 0 0), (3, .ref 2 5 none), (8, sl 5 gi_Terrain t0), (9, I t1), (10, I t2)], [some ⟨false, true, 7, 1, [gi_Rules b3]⟩, some ⟨false, true, 7, 1, [.agg [.nil, .nil, I b4, I b5, I b6, I b7, I b8]]⟩, some ⟨false, false, 5, l9.length, List.map goi_Terrain l9⟩]⟩
abbrev Qi_cloneRules := Nx X 173 0 Ki_cloneRules Zi_cloneRules Ri_cloneRules (fun _ => [])
theorem ni_cloneRules : ∀ s o, Bi_cloneRules s = some o → Qi_cloneRules (Ki_cloneRules s) (Zi_cloneRules s) o
 | .h1 t0 t1 t2 b3 b4 b5 b6 b7 b8 l9, o, H =>
  eIf H (fun h1 H =>
  eCk H fun h2 H =>
  eBind H fun x3 hx3 H =>
  eBind H fun r4 hr4 H =>
  eCk H fun h5 H =>
  eN H fun r hn => gO [rg [hT 0], rg [hE 1 (gi_Terrain x3)], rg [hC 2 true [] (Rslices_Clone_int r4) []], rg [{ i := 2, post := [.put 5 0 1 4 (List.map goi_Terrain [(Gi_Terrain.mk x3.Name r4 x3.Shift x3.Height x3.Blocks)]), .own 5 1] }, hA 3 ((l9 ++ [(Gi_Terrain.mk x3.Name r4 x3.Shift x3.Height x3.Blocks)]).length) (List.map goi_Terrain (l9 ++ [(Gi_Terrain.mk x3.Name r4 x3.Shift x3.Height x3.Blocks)]))], r0, .canon [0, 1, 6] [1, 2, 3, 8, 9, 10]] (by kernel_rfl) (P2 ((decide (t2 < t1)) = true) (decide_eq_true h1)<|P1 h2<|P1 (int_lt_of_at h2 hx3)<|P1 (at_map gi_Terrain hx3)<|P1 (cslices_Clone_int hr4)<|P2 (getCells [.agg [.str x3.Name, .ref 4 1 none, I x3.Shift, I x3.Height, .bool x3.Blocks]] 0 1 1 = some [.ref 4 1 none]) rfl<|P2 (setCells [.agg [.str x3.Name, .ref 4 1 none, I x3.Shift, I x3.Height, .bool x3.Blocks]] 0 1 [ow 1 I r4] = List.map goi_Terrain [(Gi_Terrain.mk x3.Name r4 x3.Shift x3.Height x3.Blocks)]) rfl<|P1 (allOw_186 [(Gi_Terrain.mk x3.Name r4 x3.Shift x3.Height x3.Blocks)])<|P2 ((1 : Nat) = 1) rfl<|P1 (apL l9 [(Gi_Terrain.mk x3.Name r4 x3.Shift x3.Height x3.Blocks)])<|P1 (apB h5)<|P1 (apM goi_Terrain l9 [(Gi_Terrain.mk x3.Name r4 x3.Shift x3.Height x3.Blocks)])<|P0) hn)
  (fun h1 H =>
  eBind H fun r2 hr2 H =>
  eN H<|gE func173 [rg [hF 0], rg [hC 3 true [] (Rslices_Clone_i_Kind r2) []], r0] (by kernel_rfl) (P2 ((decide (t2 < t1)) = false) (decide_eq_false h1)<|P1 (cslices_Clone_i_Kind hr2)<|P0))
theorem wi_cloneRules : ∀ s r, loop Bi_cloneRules s = some r → Wc X 173 0 (Ki_cloneRules s) (Zi_cloneRules s) (Ri_cloneRules r) ((fun _ => []) r) := Nx.all (ni_cloneRules)
theorem ci_cloneRules {a0 : Gi_Rules} {r : Gi_Rules} (H : Di_cloneRules a0 = some r) : Ct X.P X.gl 173 [gi_Rules a0] [] (Ri_cloneRules r) [] :=
 Ct.of func173 (c := bdy f173) (by kernel_rfl) (by kernel_rfl) <|
 gO [r0, r0, r0, .canon [0, 1, 2] [1, 2, 3, 8, 9, 10]] (by kernel_rfl) P0 (wi_cloneRules _ _ H)
def Ri_cloneMap (r : Gi_Map) : List D := [.agg [I r.Width, I r.Height, ow 1 I r.Terrain, ow 1 I r.Rivers, ow 1 I r.Roads]]
theorem ci_cloneMap {a0 : Gi_Map} {r : Gi_Map} (H : Di_cloneMap a0 = some r) : Ct X.P X.gl 174 [gi_Map a0] [] (Ri_cloneMap r) [] :=
 Ct.of func174 (c := bdy f174) (by kernel_rfl) (by kernel_rfl) <|
 eBind H fun r1 hr1 H =>
 eBind H fun r2 hr2 H =>
 eBind H fun r3 hr3 H =>
 eW Ri_cloneMap (fun _ => []) H<|gE func174 [r0, rg [hC 2 true [] (Rslices_Clone_int r1) [], hC 5 true [] (Rslices_Clone_int r2) [], hC 8 true [] (Rslices_Clone_int r3) []], r0] (by kernel_rfl) (P1 (cslices_Clone_int hr1)<|P1 (cslices_Clone_int hr2)<|P1 (cslices_Clone_int hr3)<|P0)
def Ri_cloneBoard (r : Gi_Board) : List D := [.agg [ow 5 goi_Terrain r.Rules.Terrains, ow 6 gi_Kind r.Rules.Kinds, I r.Rules.Stack, I r.Rules.River, I r.Rules.Road, I r.Rules.Supply, I r.Rules.Turns, I r.Map.Width, I r.Map.Height, ow 1 I r.Map.Terrain, ow 1 I r.Map.Rivers, ow 1 I r.Map.Roads]]
theorem ci_cloneBoard {a0 : Gi_Board} {r : Gi_Board} (H : Di_cloneBoard a0 = some r) : Ct X.P X.gl 127 [gi_Board a0] [] (Ri_cloneBoard r) [] :=
 Ct.of func127 (c := bdy f127) (by kernel_rfl) (by kernel_rfl) <|
 eBind H fun r1 hr1 H =>
 eBind H fun r2 hr2 H =>
 eW Ri_cloneBoard (fun _ => []) H<|gE func127 [r0, rg [hC 2 true [] (Ri_cloneRules r1) [], hC 5 true [] (Ri_cloneMap r2) []]] (by kernel_rfl) (P1 (ci_cloneRules hr1)<|P1 (ci_cloneMap hr2)<|P0)
def Rslices_Clone_i_Odds (r : List Gi_Odds) : List D := [ow 2 gi_Odds r]
theorem cslices_Clone_i_Odds {l r : List Gi_Odds} (H : Dslices_Clone_i_Odds l = some r) : Ct X.P X.gl 175 [sl 2 gi_Odds l] [] (Rslices_Clone_i_Odds r) [] :=
 eCk H fun h H => eRet (P := fun r => Ct X.P X.gl 175 [sl 2 gi_Odds l] [] (Rslices_Clone_i_Odds r) []) H <|
  Ct.of func175 (c := bdy f175) (by kernel_rfl) (by kernel_rfl)<|by
   by_cases h0 : 0 < l.length
   ·exact gE func175 [r0, rg [{ i := 1, keep := true }], rg [{ i := 2, n := l.length, xs := List.map gi_Odds l }]] (by kernel_rfl) (P1 h0<|P1 (allFl_137 l)<|P2 (l.length = 0 + l.length) (by simp)<|P2 ((0 + l.length) * 16 ≤ 70368744177664) (by simpa using h)<|P2 (([] : List D) ++ List.map gi_Odds l = List.map gi_Odds l) rfl P0)
   ·have e : l = [] := by cases l with | nil => rfl | cons x l => exact absurd (Nat.succ_pos _) h0
    subst e
    refine gO [r0, r0, .stop] (k' := nav 300 2 [] [.code (bdy f175)]) (σ' := ⟨sts 8 [(0, sl 2 gi_Odds []), (2, .nil), (3, sl 2 gi_Odds []), (4, .anyb)], []⟩) (by kernel_rfl) P0 (Wc.anyb 4 (by kernel_rfl) fun b => ?_)
    cases b with
    | true => exact gE func175 [r0] (by kernel_rfl) P0
    | false =>
     have h : ([] : List Gi_Odds).length * 16 ≤ 70368744177664 := by decide
     have : Wc X 175 0 (nav 300 2 [] [.code (bdy f175)]) ⟨sts 8 [(0, sl 2 gi_Odds []), (2, .nil), (3, sl 2 gi_Odds []), (4, .bool false)], []⟩ (Rslices_Clone_i_Odds []) [] := by
      generalize hl : ([] : List Gi_Odds) = l at h ⊢
      exact gE func175 [ rg [{ i := 2, n := l.length, xs := List.map gi_Odds l }]] (by kernel_rfl) ( P1 (allFl_137 l)<|P2 (l.length = 0 + l.length) (by simp)<|P2 ((0 + l.length) * 16 ≤ 70368744177664) (by simpa using h)<|P2 (([] : List D) ++ List.map gi_Odds l = List.map gi_Odds l) rfl P0)
     exact this
def Ri_cloneTable (r : Gi_CombatTable) : List D := [.agg [ow 2 gi_Odds r.Columns, I r.Dice, ow 1 (ow 1 I) r.Results]]
noncomputable def Ki_cloneTable : Si_cloneTable → List Item
 | .h1 .. => nav 300 3 [] [.code (bdy f128)]
 | .h2 .. => nav 300 7 [true] [.code (bdy f128)]
def Zi_cloneTable : Si_cloneTable → St
 | .h1 t0 t1 t2 b3 b4 l5 => ⟨sts 28 [(2, .ptr 0 3 0 0), (3, .ptr 1 3 0 0), (13, sl 1 (sl 1 I) t0), (14, I t1), (15, I t2)], [some ⟨false, true, 3, 1, [.agg [.nil, I b3, .nil]]⟩, some ⟨false, true, 3, 1, [.agg [.ref 2 2 none, I b4, .nil]]⟩, some ⟨false, false, 2, l5.length, List.map gi_Odds l5⟩]⟩
 | .h2 t0 t1 t2 b3 b4 l5 l6 => ⟨sts 28 [(2, .ptr 0 3 0 0), (3, .ptr 1 3 0 0), (13, sl 1 (sl 1 I) t0), (14, I t1), (15, I t2)], [some ⟨false, true, 3, 1, [.agg [.nil, I b3, .nil]]⟩, some ⟨false, true, 3, 1, [.agg [.ref 2 2 none, I b4, .ref 3 1 none]]⟩, some ⟨false, false, 2, l5.length, List.map gi_Odds l5⟩, some ⟨false, false, 1, l6.length, List.map (ow 1 I) l6⟩]⟩
abbrev Qi_cloneTable := Nx X 128 0 Ki_cloneTable Zi_cloneTable Ri_cloneTable (fun _ => [])
theorem ni_cloneTable : ∀ s o, Bi_cloneTable s = some o → Qi_cloneTable (Ki_cloneTable s) (Zi_cloneTable s) o
 | .h1 t0 t1 t2 b3 b4 l5, o, H =>
  eIf H (fun h1 H =>
  eCk H fun h2 H =>
  eBind H fun x3 hx3 H =>
  eBind H fun r4 hr4 H =>
  eCk H fun h5 H =>
  eN H fun r hn => gO [rg [hT 0], rg [hE 1 ((sl 1 I) x3)], rg [hC 3 true [] (Rslices_Clone_int r4) [], { i := 4, post := [.put 4 0 0 3 (List.map (ow 1 I) [r4]), .own 4 1] }, hA 5 ([r4].length) (List.map (ow 1 I) [r4])], r0, .canon [0, 1, 2, 5] [2, 3, 13, 14, 15]] (by kernel_rfl) (P2 ((decide (t2 < t1)) = true) (decide_eq_true h1)<|P1 h2<|P1 (int_lt_of_at h2 hx3)<|P1 (at_map (sl 1 I) hx3)<|P1 (cslices_Clone_int hr4)<|P2 (getCells [.ref 3 1 none] 0 0 1 = some [.ref 3 1 none]) rfl<|P2 (setCells [.ref 3 1 none] 0 0 [ow 1 I r4] = List.map (ow 1 I) [r4]) rfl<|P1 (allOw_26 [r4])<|P2 ((1 : Nat) = 1) rfl<|P2 ([r4].length = 0 + [r4].length) (by simp <;> omega)<|P2 ((0 + [r4].length) * 24 ≤ 70368744177664) (by have := h5; simp at this ⊢ <;> omega)<|P2 (([] : List D) ++ List.map (ow 1 I) [r4] = List.map (ow 1 I) [r4]) (by simp)<|P0) hn)
  (fun h1 H =>
  eN H<|gE func128 [rg [hF 0], r0] (by kernel_rfl) (P2 ((decide (t2 < t1)) = false) (decide_eq_false h1)<|P0))
 | .h2 t0 t1 t2 b3 b4 l5 l6, o, H =>
  eIf H (fun h1 H =>
  eCk H fun h2 H =>
  eBind H fun x3 hx3 H =>
  eBind H fun r4 hr4 H =>
  eCk H fun h5 H =>
  eN H fun r hn => gO [rg [hT 0], rg [hE 1 ((sl 1 I) x3)], rg [hC 3 true [] (Rslices_Clone_int r4) [], { i := 4, post := [.put 5 0 0 4 (List.map (ow 1 I) [r4]), .own 5 1] }, hA 5 ((l6 ++ [r4]).length) (List.map (ow 1 I) (l6 ++ [r4]))], r0, .canon [0, 1, 2, 6] [2, 3, 13, 14, 15]] (by kernel_rfl) (P2 ((decide (t2 < t1)) = true) (decide_eq_true h1)<|P1 h2<|P1 (int_lt_of_at h2 hx3)<|P1 (at_map (sl 1 I) hx3)<|P1 (cslices_Clone_int hr4)<|P2 (getCells [.ref 4 1 none] 0 0 1 = some [.ref 4 1 none]) rfl<|P2 (setCells [.ref 4 1 none] 0 0 [ow 1 I r4] = List.map (ow 1 I) [r4]) rfl<|P1 (allOw_26 [r4])<|P2 ((1 : Nat) = 1) rfl<|P1 (apL l6 [r4])<|P1 (apB h5)<|P1 (apM (ow 1 I) l6 [r4])<|P0) hn)
  (fun h1 H =>
  eN H<|gE func128 [rg [hF 0], r0] (by kernel_rfl) (P2 ((decide (t2 < t1)) = false) (decide_eq_false h1)<|P0))
theorem wi_cloneTable : ∀ s r, loop Bi_cloneTable s = some r → Wc X 128 0 (Ki_cloneTable s) (Zi_cloneTable s) (Ri_cloneTable r) ((fun _ => []) r) := Nx.all (ni_cloneTable)
theorem ci_cloneTable {a0 : Gi_CombatTable} {r : Gi_CombatTable} (H : Di_cloneTable a0 = some r) : Ct X.P X.gl 128 [gi_CombatTable a0] [] (Ri_cloneTable r) [] :=
 Ct.of func128 (c := bdy f128) (by kernel_rfl) (by kernel_rfl) <|
 eBind H fun r1 hr1 H =>
 gO [r0, rg [hC 2 true [] (Rslices_Clone_i_Odds r1) []], r0, .canon [1, 3, 2] [2, 3, 13, 14, 15]] (by kernel_rfl) (P1 (cslices_Clone_i_Odds hr1)<|P0) (wi_cloneTable _ _ H)
def Rslices_Clone_i_Unit (r : List Gi_Unit) : List D := [ow 4 gi_Unit r]
theorem cslices_Clone_i_Unit {l r : List Gi_Unit} (H : Dslices_Clone_i_Unit l = some r) : Ct X.P X.gl 86 [sl 4 gi_Unit l] [] (Rslices_Clone_i_Unit r) [] :=
 eCk H fun h H => eRet (P := fun r => Ct X.P X.gl 86 [sl 4 gi_Unit l] [] (Rslices_Clone_i_Unit r) []) H <|
  Ct.of func86 (c := bdy f86) (by kernel_rfl) (by kernel_rfl)<|by
   by_cases h0 : 0 < l.length
   ·exact gE func86 [r0, rg [{ i := 1, keep := true }], rg [{ i := 2, n := l.length, xs := List.map gi_Unit l }]] (by kernel_rfl) (P1 h0<|P1 (allFl_88 l)<|P2 (l.length = 0 + l.length) (by simp)<|P2 ((0 + l.length) * 32 ≤ 70368744177664) (by simpa using h)<|P2 (([] : List D) ++ List.map gi_Unit l = List.map gi_Unit l) rfl P0)
   ·have e : l = [] := by cases l with | nil => rfl | cons x l => exact absurd (Nat.succ_pos _) h0
    subst e
    refine gO [r0, r0, .stop] (k' := nav 300 2 [] [.code (bdy f86)]) (σ' := ⟨sts 8 [(0, sl 4 gi_Unit []), (2, .nil), (3, sl 4 gi_Unit []), (4, .anyb)], []⟩) (by kernel_rfl) P0 (Wc.anyb 4 (by kernel_rfl) fun b => ?_)
    cases b with
    | true => exact gE func86 [r0] (by kernel_rfl) P0
    | false =>
     have h : ([] : List Gi_Unit).length * 32 ≤ 70368744177664 := by decide
     have : Wc X 86 0 (nav 300 2 [] [.code (bdy f86)]) ⟨sts 8 [(0, sl 4 gi_Unit []), (2, .nil), (3, sl 4 gi_Unit []), (4, .bool false)], []⟩ (Rslices_Clone_i_Unit []) [] := by
      generalize hl : ([] : List Gi_Unit) = l at h ⊢
      exact gE func86 [ rg [{ i := 2, n := l.length, xs := List.map gi_Unit l }]] (by kernel_rfl) ( P1 (allFl_88 l)<|P2 (l.length = 0 + l.length) (by simp)<|P2 ((0 + l.length) * 32 ≤ 70368744177664) (by simpa using h)<|P2 (([] : List D) ++ List.map gi_Unit l = List.map gi_Unit l) rfl P0)
     exact this
def Ri_cloneState (r : Gi_State) : List D := [.agg [I r.Turn, I r.Weather, ow 4 gi_Unit r.Units]]
theorem ci_cloneState {a0 : Gi_State} {r : Gi_State} (H : Di_cloneState a0 = some r) : Ct X.P X.gl 129 [gi_State a0] [] (Ri_cloneState r) [] :=
 Ct.of func129 (c := bdy f129) (by kernel_rfl) (by kernel_rfl) <|
 eBind H fun r1 hr1 H =>
 eW Ri_cloneState (fun _ => []) H<|gE func129 [r0, rg [hC 2 true [] (Rslices_Clone_i_Unit r1) []], r0] (by kernel_rfl) (P1 (cslices_Clone_i_Unit hr1)<|P0)
def Rslices_Clone_i_Goal (r : List Gi_Goal) : List D := [ow 2 gi_Goal r]
theorem cslices_Clone_i_Goal {l r : List Gi_Goal} (H : Dslices_Clone_i_Goal l = some r) : Ct X.P X.gl 130 [sl 2 gi_Goal l] [] (Rslices_Clone_i_Goal r) [] :=
 eCk H fun h H => eRet (P := fun r => Ct X.P X.gl 130 [sl 2 gi_Goal l] [] (Rslices_Clone_i_Goal r) []) H <|
  Ct.of func130 (c := bdy f130) (by kernel_rfl) (by kernel_rfl)<|by
   by_cases h0 : 0 < l.length
   ·exact gE func130 [r0, rg [{ i := 1, keep := true }], rg [{ i := 2, n := l.length, xs := List.map gi_Goal l }]] (by kernel_rfl) (P1 h0<|P1 (allFl_93 l)<|P2 (l.length = 0 + l.length) (by simp)<|P2 ((0 + l.length) * 16 ≤ 70368744177664) (by simpa using h)<|P2 (([] : List D) ++ List.map gi_Goal l = List.map gi_Goal l) rfl P0)
   ·have e : l = [] := by cases l with | nil => rfl | cons x l => exact absurd (Nat.succ_pos _) h0
    subst e
    refine gO [r0, r0, .stop] (k' := nav 300 2 [] [.code (bdy f130)]) (σ' := ⟨sts 8 [(0, sl 2 gi_Goal []), (2, .nil), (3, sl 2 gi_Goal []), (4, .anyb)], []⟩) (by kernel_rfl) P0 (Wc.anyb 4 (by kernel_rfl) fun b => ?_)
    cases b with
    | true => exact gE func130 [r0] (by kernel_rfl) P0
    | false =>
     have h : ([] : List Gi_Goal).length * 16 ≤ 70368744177664 := by decide
     have : Wc X 130 0 (nav 300 2 [] [.code (bdy f130)]) ⟨sts 8 [(0, sl 2 gi_Goal []), (2, .nil), (3, sl 2 gi_Goal []), (4, .bool false)], []⟩ (Rslices_Clone_i_Goal []) [] := by
      generalize hl : ([] : List Gi_Goal) = l at h ⊢
      exact gE func130 [ rg [{ i := 2, n := l.length, xs := List.map gi_Goal l }]] (by kernel_rfl) ( P1 (allFl_93 l)<|P2 (l.length = 0 + l.length) (by simp)<|P2 ((0 + l.length) * 16 ≤ 70368744177664) (by simpa using h)<|P2 (([] : List D) ++ List.map gi_Goal l = List.map gi_Goal l) rfl P0)
     exact this
def Ri_cloneScenario (r : Gi_Scenario) : List D := [.agg [.str r.Name, ow 5 goi_Terrain r.Board.Rules.Terrains, ow 6 gi_Kind r.Board.Rules.Kinds, I r.Board.Rules.Stack, I r.Board.Rules.River, I r.Board.Rules.Road, I r.Board.Rules.Supply, I r.Board.Rules.Turns, I r.Board.Map.Width, I r.Board.Map.Height, ow 1 I r.Board.Map.Terrain, ow 1 I r.Board.Map.Rivers, ow 1 I r.Board.Map.Roads, ow 2 gi_Odds r.Table.Columns, I r.Table.Dice, ow 1 (ow 1 I) r.Table.Results, I r.Start.Turn, I r.Start.Weather, ow 4 gi_Unit r.Start.Units, ow 2 gi_Goal r.Conditions.Goals, I r.Conditions.Step, I r.Conditions.Margin, ow 1 I r.First, ow 1 I r.Other]]
theorem ci_cloneScenario {a0 : Gi_Scenario} {r : Gi_Scenario} (H : Di_cloneScenario a0 = some r) : Ct X.P X.gl 79 [gi_Scenario a0] [] (Ri_cloneScenario r) [] :=
 Ct.of func79 (c := bdy f79) (by kernel_rfl) (by kernel_rfl) <|
 eBind H fun r1 hr1 H =>
 eBind H fun r2 hr2 H =>
 eBind H fun r3 hr3 H =>
 eBind H fun r4 hr4 H =>
 eBind H fun r5 hr5 H =>
 eBind H fun r6 hr6 H =>
 eW Ri_cloneScenario (fun _ => []) H<|gE func79 [r0, rg [hC 2 true [] (Ri_cloneBoard r1) [], hC 5 true [] (Ri_cloneTable r2) [], hC 8 true [] (Ri_cloneState r3) []], rg [hC 3 true [] (Rslices_Clone_i_Goal r4) []], rg [hC 2 true [] (Rslices_Clone_int r5) [], hC 5 true [] (Rslices_Clone_int r6) []], r0] (by kernel_rfl) (P1 (ci_cloneBoard hr1)<|P1 (ci_cloneTable hr2)<|P1 (ci_cloneState hr3)<|P1 (cslices_Clone_i_Goal hr4)<|P1 (cslices_Clone_int hr5)<|P1 (cslices_Clone_int hr6)<|P0)
theorem ci_mirrorIndex {a0 : Gi_Map} {a1 : Int} {r : Int} (H : Di_mirrorIndex a0 a1 = some r) : Ct X.P X.gl 81 [gi_Map a0, I a1] [] (RI r) [] :=
 Ct.of func81 (c := bdy f81) (by kernel_rfl) (by kernel_rfl) <|
 eCk H fun h1 H =>
 eCk H fun h2 H =>
 eW RI (fun _ => []) H<|gE func81 [r0, r0] (by kernel_rfl) (P2 (¬ (a0.Width : Int) = 0) h1<|P2 (¬ (a0.Width : Int) = 0) h2<|P0)
theorem ci_edgeOf {a0 : Gi_Map} {a1 : Int} {a2 : Int} {r : Int} (H : Di_edgeOf a0 a1 a2 = some r) : Ct X.P X.gl 133 [gi_Map a0, I a1, I a2] [] (RI r) [] :=
 Ct.of func133 (c := bdy f133) (by kernel_rfl) (by kernel_rfl) <|
 eBind H fun r1 hr1 H =>
 gS [r0, rg [hC 3 true [] (RI r1) []]] (by kernel_rfl) (P1 (ci_nextTo hr1)<|P0) <|
 eIf H (fun h2 H =>
 eW RI (fun _ => []) H<|gE func133 [rg [hT 1], r0] (by kernel_rfl) (P2 ((decide (r1 < 0)) = true) (decide_eq_true h2)<|P0))
 (fun h2 H =>
 gS [rg [hF 1]] (by kernel_rfl) (P2 ((decide (r1 < 0)) = false) (decide_eq_false h2)<|P0) <|
 eIf H (fun h3 H =>
 eW RI (fun _ => []) H<|gE func133 [rg [hT 1], r0] (by kernel_rfl) (P2 ((decide (a2 < 3)) = true) (decide_eq_true h3)<|P0))
 (fun h3 H =>
 eW RI (fun _ => []) H<|gE func133 [rg [hF 1], r0] (by kernel_rfl) (P2 ((decide (a2 < 3)) = false) (decide_eq_false h3)<|P0)))
def Rslices_Sort_int (r : List Int) : List D := []
def Nslices_Sort_int (r : List Int) : List Root := [⟨false, false, 1, r.length, List.map I r⟩]
theorem cslices_Sort_int {a0 : (List Int)} {r : (List Int)} (H : Dslices_Sort_int a0 = some r) : Ct X.P X.gl 134 [.ref 0 1 none] [⟨false, false, 1, a0.length, List.map I a0⟩] (Rslices_Sort_int r) (Nslices_Sort_int r) :=
 eCk H fun h H => eRet (P := fun r => Ct X.P X.gl 134 [.ref 0 1 none] [⟨false, false, 1, a0.length, List.map I a0⟩] (Rslices_Sort_int r) (Nslices_Sort_int r)) H<|ct_sort (P := X.P) (ρ := lays_n189_ren) lays_n189 ⟨f134, func134, by kernel_rfl, by kernel_rfl⟩ h
def Ri_mirrorMap_1 (r : (List Int)) : List D := [ow 1 I r]
noncomputable def Ki_mirrorMap_1 : Si_mirrorMap_1 → List Item
 | .h1 .. => nav 300 3 [] [.code (bdy f132)]
def Zi_mirrorMap_1 : Si_mirrorMap_1 → St
 | .h1 t0 t1 t2 t3 t4 l5 => ⟨sts 31 [(1, .fptr 5 [.agg [I t0.Width, I t0.Height, sl 1 I t0.Terrain, sl 1 I t0.Rivers, sl 1 I t0.Roads]] 0 0), (2, .fptr 5 [.agg [I t1.Width, I t1.Height, sl 1 I t1.Terrain, sl 1 I t1.Rivers, sl 1 I t1.Roads]] 0 0), (5, .ref 0 1 none), (9, sl 1 I t2), (10, I t3), (11, I t4)], [some ⟨false, false, 1, l5.length, List.map I l5⟩]⟩
abbrev Qi_mirrorMap_1 := Nx X 132 0 Ki_mirrorMap_1 Zi_mirrorMap_1 Ri_mirrorMap_1 (fun _ => [])
theorem ni_mirrorMap_1 : ∀ s o, Bi_mirrorMap_1 s = some o → Qi_mirrorMap_1 (Ki_mirrorMap_1 s) (Zi_mirrorMap_1 s) o
 | .h1 t0 t1 t2 t3 t4 l5, o, H =>
  eIf H (fun h1 H =>
  eCk H fun h2 H =>
  eBind H fun x3 hx3 H =>
  eBind H fun r4 hr4 H =>
  eBind H fun r5 hr5 H =>
  eCk H fun h6 H =>
  eN H fun r hn => gO [rg [hT 0], rg [hE 1 (I x3)], rg [hC 5 true [] (RI r4) [], hC 9 true [] (RI r5) [], hA 11 ((l5 ++ [r5]).length) (List.map I (l5 ++ [r5]))], r0, .canon [2] [1, 2, 5, 9, 10, 11]] (by kernel_rfl) (P2 ((decide (t4 < t3)) = true) (decide_eq_true h1)<|P1 h2<|P1 (int_lt_of_at h2 hx3)<|P1 (at_map I hx3)<|P2 (¬ (3 : Int) = 0) (by decide)<|P1 (ci_mirrorIndex hr4)<|P2 (¬ (3 : Int) = 0) (by decide)<|P1 (ci_edgeOf hr5)<|P1 (apL l5 [r5])<|P1 (apB h6)<|P1 (apM I l5 [r5])<|P0) hn)
  (fun h1 H =>
  eBind H fun r2 hr2 H =>
  eCk H fun h3 H =>
  eN H<|gE func132 [rg [hF 0], rg [hC 1 true [0] (Rslices_Sort_int r2) (Nslices_Sort_int r2)], r0] (by kernel_rfl) (P2 ((decide (t4 < t3)) = false) (decide_eq_false h1)<|P1 h3<|P1 (cslices_Sort_int hr2)<|P0))
theorem wi_mirrorMap_1 : ∀ s r, loop Bi_mirrorMap_1 s = some r → Wc X 132 0 (Ki_mirrorMap_1 s) (Zi_mirrorMap_1 s) (Ri_mirrorMap_1 r) ((fun _ => []) r) := Nx.all (ni_mirrorMap_1)
theorem ci_mirrorMap_1 {a0 : (List Int)} {a1 : Gi_Map} {a2 : Gi_Map} {r : (List Int)} (H : Di_mirrorMap_1 a0 a1 a2 = some r) : Ct X.P X.gl 132 [sl 1 I a0, .fptr 5 [.agg [I a1.Width, I a1.Height, sl 1 I a1.Terrain, sl 1 I a1.Rivers, sl 1 I a1.Roads]] 0 0, .fptr 5 [.agg [I a2.Width, I a2.Height, sl 1 I a2.Terrain, sl 1 I a2.Rivers, sl 1 I a2.Roads]] 0 0] [] (Ri_mirrorMap_1 r) [] :=
 Ct.of func132 (c := bdy f132) (by kernel_rfl) (by kernel_rfl) <|
 gO [r0, r0, r0, .canon [0] [1, 2, 5, 9, 10, 11]] (by kernel_rfl) P0 (wi_mirrorMap_1 _ _ H)
def Ri_mirrorMap (r : Gi_Map) : List D := [.agg [I r.Width, I r.Height, ow 1 I r.Terrain, ow 1 I r.Rivers, ow 1 I r.Roads]]
noncomputable def Ki_mirrorMap : Si_mirrorMap → List Item
 | .h1 .. => nav 300 3 [] [.code (bdy f80)]
def Zi_mirrorMap : Si_mirrorMap → St
 | .h1 t0 t1 t2 b3 b4 b5 b6 b7 l8 => ⟨sts 44 [(1, .ptr 0 5 0 0), (2, .ptr 1 5 0 0), (3, .ptr 2 5 0 0), (17, sl 1 I t0), (18, I t1), (19, I t2)], [some ⟨false, true, 5, 1, [gi_Map b3]⟩, some ⟨false, true, 5, 1, [.agg [I b4, I b5, .nil, .nil, .nil]]⟩, some ⟨false, true, 5, 1, [.agg [I b6, I b7, .ref 3 1 none, .nil, .nil]]⟩, some ⟨false, false, 1, l8.length, List.map I l8⟩]⟩
abbrev Qi_mirrorMap := Nx X 80 0 Ki_mirrorMap Zi_mirrorMap Ri_mirrorMap (fun _ => [])
theorem ni_mirrorMap : ∀ s o, Bi_mirrorMap s = some o → Qi_mirrorMap (Ki_mirrorMap s) (Zi_mirrorMap s) o
 | .h1 t0 t1 t2 b3 b4 b5 b6 b7 l8, o, H =>
  eIf H (fun h1 H =>
  eCk H fun h2 H =>
  eBind H fun x3 hx3 H =>
  eBind H fun r4 hr4 H =>
  eCk H fun h5 H =>
  eBind H fun x6 hx6 H =>
  eN H fun r hn => gO [rg [hT 0], rg [hE 2 (I x3)], rg [hC 4 true [] (RI r4) [], hA 7 ((List.set l8 (Int.toNat r4) x3).length) (List.map I (List.set l8 (Int.toNat r4) x3))], r0, .canon [0, 1, 2, 3] [1, 2, 3, 17, 18, 19]] (by kernel_rfl) (P2 ((decide (t2 < t1)) = true) (decide_eq_true h1)<|P1 h2<|P1 (int_lt_of_at h2 hx3)<|P1 (at_map I hx3)<|P1 (ci_mirrorIndex hr4)<|P1 h5<|P1 (int_lt_of_at h5 hx6)<|P1 (lt_of_at hx6)<|P2 (setCells (List.map I l8) (Int.toNat r4) 0 [I x3] = List.map I (List.set l8 (Int.toNat r4) x3)) (setCells_map hx6 rfl)<|P1 (setLen l8 (Int.toNat r4) x3)<|P0) hn)
  (fun h1 H =>
  eBind H fun r2 hr2 H =>
  eBind H fun r3 hr3 H =>
  eN H<|gE func80 [rg [hF 0], r0, rg [{ i := 3, xtra := [3], call := some { cl := false, ins := [], args := [sl 1 I b3.Rivers, .fptr 5 [.agg [I b6, I b7, sl 1 I l8, sl 1 I [], sl 1 I []]] 0 0, .fptr 5 [.agg [I b3.Width, I b3.Height, sl 1 I b3.Terrain, sl 1 I b3.Rivers, sl 1 I b3.Roads]] 0 0], res := Ri_mirrorMap_1 r2, G' := [] } }, { i := 7, xtra := [3], call := some { cl := false, ins := [], args := [sl 1 I b3.Roads, .fptr 5 [.agg [I b6, I b7, sl 1 I l8, sl 1 I [], sl 1 I []]] 0 0, .fptr 5 [.agg [I b3.Width, I b3.Height, sl 1 I b3.Terrain, sl 1 I b3.Rivers, sl 1 I b3.Roads]] 0 0], res := Ri_mirrorMap_1 r3, G' := [] } }], r0] (by kernel_rfl) (P2 ((decide (t2 < t1)) = false) (decide_eq_false h1)<|PL I b3.Rivers<|PI (0 : Nat)<|PI (0 : Nat)<|PI b6<|PI b7<|PL I l8<|PI (0 : Nat)<|PI ([] : List D)<|PI (0 : Nat)<|PI ([] : List D)<|PI (0 : Nat)<|PI (0 : Nat)<|PI b3.Width<|PI b3.Height<|PL I b3.Terrain<|PL I b3.Rivers<|PL I b3.Roads<|P2 (nfL (List.flatMap D.cells (Ri_mirrorMap_1 r2))) ⟨nfL_map nf_3 _, trivial⟩<|P2 (nfG []) trivial<|P1 (ci_mirrorMap_1 hr2)<|PL I b3.Roads<|PI (0 : Nat)<|PI (0 : Nat)<|PI b6<|PI b7<|PL I l8<|PI (0 : Nat)<|PI ([] : List D)<|PI (0 : Nat)<|PI ([] : List D)<|PI (0 : Nat)<|PI (0 : Nat)<|PI b3.Width<|PI b3.Height<|PL I b3.Terrain<|PL I b3.Rivers<|PL I b3.Roads<|P2 (nfL (List.flatMap D.cells (Ri_mirrorMap_1 r3))) ⟨nfL_map nf_3 _, trivial⟩<|P2 (nfG []) trivial<|P1 (ci_mirrorMap_1 hr3)<|P0))
theorem wi_mirrorMap : ∀ s r, loop Bi_mirrorMap s = some r → Wc X 80 0 (Ki_mirrorMap s) (Zi_mirrorMap s) (Ri_mirrorMap r) ((fun _ => []) r) := Nx.all (ni_mirrorMap)
theorem ci_mirrorMap {a0 : Gi_Map} {r : Gi_Map} (H : Di_mirrorMap a0 = some r) : Ct X.P X.gl 80 [gi_Map a0] [] (Ri_mirrorMap r) [] :=
 Ct.of func80 (c := bdy f80) (by kernel_rfl) (by kernel_rfl) <|
 eCk H fun h1 H =>
 gO [r0, rg [hA 7 ((List.replicate (Int.toNat ((a0.Terrain.length : Nat) : Int)) (0 : Int)).length) (List.map I (List.replicate (Int.toNat ((a0.Terrain.length : Nat) : Int)) (0 : Int)))], r0, .canon [0, 1, 3, 2] [1, 2, 3, 17, 18, 19]] (by kernel_rfl) (PI (((a0.Terrain.length : Nat) : Int) : Int)<|P2 ((0 : Int) ≤ ((a0.Terrain.length : Nat) : Int)) (by omega)<|P2 (Int.toNat ((a0.Terrain.length : Nat) : Int) * 8 ≤ 140737488355328) h1<|P1 (repLen (Int.toNat ((a0.Terrain.length : Nat) : Int)) (0 : Int))<|P1 (repMap I (Int.toNat ((a0.Terrain.length : Nat) : Int)) (0 : Int))<|P0) (wi_mirrorMap _ _ H)
theorem ci_mirrorScenario_1 {a0 : Gi_Goal} {a1 : Gi_Goal} {r : Int} (H : Di_mirrorScenario_1 a0 a1 = some r) : Ct X.P X.gl 83 [gi_Goal a0, gi_Goal a1] [] (RI r) [] :=
 Ct.of func83 (c := bdy f83) (by kernel_rfl) (by kernel_rfl) <|
 eW RI (fun _ => []) H<|gE func83 [r0, r0] (by kernel_rfl) P0
def Rslices_SortFunc_i_Goal_i_mirrorScenario_1 (r : List Gi_Goal) : List D := []
def Nslices_SortFunc_i_Goal_i_mirrorScenario_1 (r : List Gi_Goal) : List Root := [⟨false, false, 2, r.length, List.map gi_Goal r⟩]
open Go.Shelf Go.RowKit Go.Lib Go.Sort in
theorem k_i_mirrorScenario_1 (x y : Gi_Goal) (r : Int) (W : World) (H : Di_mirrorScenario_1 x y = some r) : Calls Tryz.prog 83 #[.agg #[.int .i64 x.At, .int .i64 x.Points], .agg #[.int .i64 y.At, .int .i64 y.Points]] W fun e w' => e = .returned (.int .i64 r) ∧ ∃ q os', w' = grow (W.drewN q) os' := by
 unfold Di_mirrorScenario_1 at H
 repeat' split at H
 all_goals
  cases H
  go_enter func83, ntmps83
  go_wp2
  go_ret
  exact ⟨w64r _, 0, _, by rw [alloc_eq_grow, alloc_eq_grow, grow_grow]; rfl⟩

theorem cslices_SortFunc_i_Goal_i_mirrorScenario_1 {a0 : (List Gi_Goal)} {r : (List Gi_Goal)} (H : Dslices_SortFunc_i_Goal_i_mirrorScenario_1 a0 = some r) : Ct X.P X.gl 82 [.ref 0 2 none, .fn 83 []] [⟨false, false, 2, a0.length, List.map gi_Goal a0⟩] (Rslices_SortFunc_i_Goal_i_mirrorScenario_1 r) (Nslices_SortFunc_i_Goal_i_mirrorScenario_1 r) :=
 ct_sortG (P := X.P) (ρ := lays_g82_ren) (k := 2) (t := 93) (en := fun x : Gi_Goal => [I x.At, I x.Points]) lays_g82 ⟨f82, func82, by kernel_rfl, by kernel_rfl⟩ ⟨f83, func83, by kernel_rfl, by kernel_rfl⟩ (by kernel_rfl) (by kernel_rfl) (by kernel_rfl) (fun _ => rfl) (fun _ => rfl) (fun x y r _ W _ h => k_i_mirrorScenario_1 x y r W h) H
def Ri_mirrorPlaces (r : (List Int)) : List D := [ow 1 I r]
noncomputable def Ki_mirrorPlaces : Si_mirrorPlaces → List Item
 | .h1 .. => nav 300 3 [] [.code (bdy f84)]
def Zi_mirrorPlaces : Si_mirrorPlaces → St
 | .h1 t0 t1 t2 b3 l4 => ⟨sts 25 [(2, .ptr 0 5 0 0), (5, .ref 1 1 none), (9, sl 1 I t0), (10, I t1), (11, I t2)], [some ⟨false, true, 5, 1, [gi_Map b3]⟩, some ⟨false, false, 1, l4.length, List.map I l4⟩]⟩
abbrev Qi_mirrorPlaces := Nx X 84 0 Ki_mirrorPlaces Zi_mirrorPlaces Ri_mirrorPlaces (fun _ => [])
theorem ni_mirrorPlaces : ∀ s o, Bi_mirrorPlaces s = some o → Qi_mirrorPlaces (Ki_mirrorPlaces s) (Zi_mirrorPlaces s) o
 | .h1 t0 t1 t2 b3 l4, o, H =>
  eIf H (fun h1 H =>
  eCk H fun h2 H =>
  eBind H fun x3 hx3 H =>
  eBind H fun r4 hr4 H =>
  eCk H fun h5 H =>
  eN H fun r hn => gO [rg [hT 0], rg [hE 1 (I x3)], rg [hC 3 true [] (RI r4) [], hA 5 ((l4 ++ [r4]).length) (List.map I (l4 ++ [r4]))], r0, .canon [0, 3] [2, 5, 9, 10, 11]] (by kernel_rfl) (P2 ((decide (t2 < t1)) = true) (decide_eq_true h1)<|P1 h2<|P1 (int_lt_of_at h2 hx3)<|P1 (at_map I hx3)<|P1 (ci_mirrorIndex hr4)<|P1 (apL l4 [r4])<|P1 (apB h5)<|P1 (apM I l4 [r4])<|P0) hn)
  (fun h1 H =>
  eBind H fun r2 hr2 H =>
  eCk H fun h3 H =>
  eN H<|gE func84 [rg [hF 0], rg [hC 1 true [1] (Rslices_Sort_int r2) (Nslices_Sort_int r2)], r0] (by kernel_rfl) (P2 ((decide (t2 < t1)) = false) (decide_eq_false h1)<|P1 h3<|P1 (cslices_Sort_int hr2)<|P0))
theorem wi_mirrorPlaces : ∀ s r, loop Bi_mirrorPlaces s = some r → Wc X 84 0 (Ki_mirrorPlaces s) (Zi_mirrorPlaces s) (Ri_mirrorPlaces r) ((fun _ => []) r) := Nx.all (ni_mirrorPlaces)
theorem ci_mirrorPlaces {a0 : Gi_Map} {a1 : (List Int)} {r : (List Int)} (H : Di_mirrorPlaces a0 a1 = some r) : Ct X.P X.gl 84 [gi_Map a0, sl 1 I a1] [] (Ri_mirrorPlaces r) [] :=
 Ct.of func84 (c := bdy f84) (by kernel_rfl) (by kernel_rfl) <|
 gO [r0, r0, r0, .canon [0, 1] [2, 5, 9, 10, 11]] (by kernel_rfl) P0 (wi_mirrorPlaces _ _ H)
def Ri_mirrorScenario (r : Gi_Scenario) : List D := [.agg [.str r.Name, ow 5 goi_Terrain r.Board.Rules.Terrains, ow 6 gi_Kind r.Board.Rules.Kinds, I r.Board.Rules.Stack, I r.Board.Rules.River, I r.Board.Rules.Road, I r.Board.Rules.Supply, I r.Board.Rules.Turns, I r.Board.Map.Width, I r.Board.Map.Height, ow 1 I r.Board.Map.Terrain, ow 1 I r.Board.Map.Rivers, ow 1 I r.Board.Map.Roads, ow 2 gi_Odds r.Table.Columns, I r.Table.Dice, ow 1 (ow 1 I) r.Table.Results, I r.Start.Turn, I r.Start.Weather, ow 4 gi_Unit r.Start.Units, ow 2 gi_Goal r.Conditions.Goals, I r.Conditions.Step, I r.Conditions.Margin, ow 1 I r.First, ow 1 I r.Other]]
noncomputable def Ki_mirrorScenario : Si_mirrorScenario → List Item
 | .h1 .. => nav 300 4 [] [.code (bdy f38)]
 | .h2 .. => nav 300 6 [false] [.code (bdy f38)]
def Zi_mirrorScenario : Si_mirrorScenario → St
 | .h1 t0 t1 t2 b3 b4 b5 b6 b7 b8 b9 b10 b11 b12 b13 b14 b15 b16 b17 b18 b19 b20 b21 b22 b23 b24 b25 b26 b27 b28 b29 l30 l31 l32 l33 l34 l35 l36 l37 l38 l39 l40 => ⟨sts 82 [(1, .ptr 0 24 0 0), (2, .ptr 1 24 0 0), (3, .ptr 2 24 0 0), (18, sl 4 gi_Unit t0), (19, I t1), (20, I t2)], [some ⟨false, true, 24, 1, [gi_Scenario b3]⟩, some ⟨false, true, 24, 1, [.agg [.str b4, .nil, .nil, I b5, I b6, I b7, I b8, I b9, I b10, I b11, .nil, .nil, .nil, .nil, I b12, .nil, I b13, I b14, .nil, .nil, I b15, I b16, .nil, .nil]]⟩, some ⟨false, true, 24, 1, [.agg [.str b17, .ref 3 5 none, .ref 4 6 none, I b18, I b19, I b20, I b21, I b22, I b23, I b24, .ref 5 1 none, .ref 6 1 none, .ref 7 1 none, .ref 8 2 none, I b25, .ref 9 1 none, I b26, I b27, .ref 10 4 none, .ref 11 2 none, I b28, I b29, .ref 12 1 none, .ref 13 1 none]]⟩, some ⟨false, false, 5, l30.length, List.map goi_Terrain l30⟩, some ⟨false, false, 6, l31.length, List.map gi_Kind l31⟩, some ⟨false, false, 1, l32.length, List.map I l32⟩, some ⟨false, false, 1, l33.length, List.map I l33⟩, some ⟨false, false, 1, l34.length, List.map I l34⟩, some ⟨false, false, 2, l35.length, List.map gi_Odds l35⟩, some ⟨false, false, 1, l36.length, List.map (ow 1 I) l36⟩, some ⟨false, false, 4, l37.length, List.map gi_Unit l37⟩, some ⟨false, false, 2, l38.length, List.map gi_Goal l38⟩, some ⟨false, false, 1, l39.length, List.map I l39⟩, some ⟨false, false, 1, l40.length, List.map I l40⟩]⟩
 | .h2 t0 t1 t2 b3 b4 b5 b6 b7 b8 b9 b10 b11 b12 b13 b14 b15 b16 b17 b18 b19 b20 b21 b22 b23 b24 b25 b26 b27 b28 b29 l30 l31 l32 l33 l34 l35 l36 l37 l38 l39 l40 => ⟨sts 82 [(1, .ptr 0 24 0 0), (2, .ptr 1 24 0 0), (3, .ptr 2 24 0 0), (43, sl 2 gi_Goal t0), (44, I t1), (45, I t2)], [some ⟨false, true, 24, 1, [gi_Scenario b3]⟩, some ⟨false, true, 24, 1, [.agg [.str b4, .nil, .nil, I b5, I b6, I b7, I b8, I b9, I b10, I b11, .nil, .nil, .nil, .nil, I b12, .nil, I b13, I b14, .nil, .nil, I b15, I b16, .nil, .nil]]⟩, some ⟨false, true, 24, 1, [.agg [.str b17, .ref 3 5 none, .ref 4 6 none, I b18, I b19, I b20, I b21, I b22, I b23, I b24, .ref 5 1 none, .ref 6 1 none, .ref 7 1 none, .ref 8 2 none, I b25, .ref 9 1 none, I b26, I b27, .ref 10 4 none, .ref 11 2 none, I b28, I b29, .ref 12 1 none, .ref 13 1 none]]⟩, some ⟨false, false, 5, l30.length, List.map goi_Terrain l30⟩, some ⟨false, false, 6, l31.length, List.map gi_Kind l31⟩, some ⟨false, false, 1, l32.length, List.map I l32⟩, some ⟨false, false, 1, l33.length, List.map I l33⟩, some ⟨false, false, 1, l34.length, List.map I l34⟩, some ⟨false, false, 2, l35.length, List.map gi_Odds l35⟩, some ⟨false, false, 1, l36.length, List.map (ow 1 I) l36⟩, some ⟨false, false, 4, l37.length, List.map gi_Unit l37⟩, some ⟨false, false, 2, l38.length, List.map gi_Goal l38⟩, some ⟨false, false, 1, l39.length, List.map I l39⟩, some ⟨false, false, 1, l40.length, List.map I l40⟩]⟩
abbrev Qi_mirrorScenario := Nx X 38 0 Ki_mirrorScenario Zi_mirrorScenario Ri_mirrorScenario (fun _ => [])
theorem ni_mirrorScenario : ∀ s o, Bi_mirrorScenario s = some o → Qi_mirrorScenario (Ki_mirrorScenario s) (Zi_mirrorScenario s) o
 | .h1 t0 t1 t2 b3 b4 b5 b6 b7 b8 b9 b10 b11 b12 b13 b14 b15 b16 b17 b18 b19 b20 b21 b22 b23 b24 b25 b26 b27 b28 b29 l30 l31 l32 l33 l34 l35 l36 l37 l38 l39 l40, o, H =>
  eIf H (fun h1 H =>
  eCk H fun h2 H =>
  eBind H fun x3 hx3 H =>
  gN [rg [hT 0], rg [hE 2 (gi_Unit x3)]] (by kernel_rfl) (P2 ((decide (t2 < t1)) = true) (decide_eq_true h1)<|P1 h2<|P1 (int_lt_of_at h2 hx3)<|P1 (at_map gi_Unit hx3)<|P0) <|
  eIf H (fun h4 H =>
  eBind H fun r5 hr5 H =>
  eCk H fun h6 H =>
  eBind H fun x7 hx7 H =>
  eN H fun r hn => gO [rg [hT 2], rg [hC 9 true [] (RI r5) [], hA 12 ((List.set l37 (Int.toNat t2) (Gi_Unit.mk x7.Side x7.Kind r5 x7.Steps)).length) (List.map gi_Unit (List.set l37 (Int.toNat t2) (Gi_Unit.mk x7.Side x7.Kind r5 x7.Steps)))], r0, .canon [0, 1, 2, 3, 4, 5, 6, 7, 8, 9, 10, 11, 12, 13] [1, 2, 3, 18, 19, 20]] (by kernel_rfl) (P2 ((decide (x3.At ≥ 0)) = true) (decide_eq_true h4)<|P1 (ci_mirrorIndex hr5)<|P1 h6<|P1 (int_lt_of_at h6 hx7)<|P1 (lt_of_at hx7)<|P2 (setCells (List.map gi_Unit l37) (Int.toNat t2) 2 [I r5] = List.map gi_Unit (List.set l37 (Int.toNat t2) (Gi_Unit.mk x7.Side x7.Kind r5 x7.Steps))) (setCells_map hx7 rfl)<|P1 (setLen l37 (Int.toNat t2) (Gi_Unit.mk x7.Side x7.Kind r5 x7.Steps))<|P0) hn)
  (fun h4 H =>
  eN H fun r hn => gO [rg [hF 2], r0, .canon [0, 1, 2, 3, 4, 5, 6, 7, 8, 9, 10, 11, 12, 13] [1, 2, 3, 18, 19, 20]] (by kernel_rfl) (P2 ((decide (x3.At ≥ 0)) = false) (decide_eq_false h4)<|P0) hn))
  (fun h1 H =>
  eN H fun r hn => gO [rg [hF 0], r0, .canon [0, 1, 2, 3, 4, 5, 6, 7, 8, 9, 10, 11, 12, 13] [1, 2, 3, 43, 44, 45]] (by kernel_rfl) (P2 ((decide (t2 < t1)) = false) (decide_eq_false h1)<|P0) hn)
 | .h2 t0 t1 t2 b3 b4 b5 b6 b7 b8 b9 b10 b11 b12 b13 b14 b15 b16 b17 b18 b19 b20 b21 b22 b23 b24 b25 b26 b27 b28 b29 l30 l31 l32 l33 l34 l35 l36 l37 l38 l39 l40, o, H =>
  eIf H (fun h1 H =>
  eCk H fun h2 H =>
  eBind H fun x3 hx3 H =>
  eBind H fun r4 hr4 H =>
  eCk H fun h5 H =>
  eBind H fun x6 hx6 H =>
  eN H fun r hn => gO [rg [hT 0], rg [hE 2 (gi_Goal x3)], rg [hC 9 true [] (RI r4) [], hA 12 ((List.set l38 (Int.toNat t2) (Gi_Goal.mk r4 x6.Points)).length) (List.map gi_Goal (List.set l38 (Int.toNat t2) (Gi_Goal.mk r4 x6.Points)))], r0, .canon [0, 1, 2, 3, 4, 5, 6, 7, 8, 9, 10, 11, 12, 13] [1, 2, 3, 43, 44, 45]] (by kernel_rfl) (P2 ((decide (t2 < t1)) = true) (decide_eq_true h1)<|P1 h2<|P1 (int_lt_of_at h2 hx3)<|P1 (at_map gi_Goal hx3)<|P1 (ci_mirrorIndex hr4)<|P1 h5<|P1 (int_lt_of_at h5 hx6)<|P1 (lt_of_at hx6)<|P2 (setCells (List.map gi_Goal l38) (Int.toNat t2) 0 [I r4] = List.map gi_Goal (List.set l38 (Int.toNat t2) (Gi_Goal.mk r4 x6.Points))) (setCells_map hx6 rfl)<|P1 (setLen l38 (Int.toNat t2) (Gi_Goal.mk r4 x6.Points))<|P0) hn)
  (fun h1 H =>
  eBind H fun r2 hr2 H =>
  eCk H fun h3 H =>
  eBind H fun r4 hr4 H =>
  eBind H fun r5 hr5 H =>
  eN H<|gE func38 [rg [hF 0], rg [hC 3 true [11] (Rslices_SortFunc_i_Goal_i_mirrorScenario_1 r2) (Nslices_SortFunc_i_Goal_i_mirrorScenario_1 r2)], rg [hC 5 true [] (Ri_mirrorPlaces r4) [], hC 11 true [] (Ri_mirrorPlaces r5) []], r0] (by kernel_rfl) (P2 ((decide (t2 < t1)) = false) (decide_eq_false h1)<|P1 h3<|P1 (cslices_SortFunc_i_Goal_i_mirrorScenario_1 hr2)<|P1 (ci_mirrorPlaces hr4)<|P1 (ci_mirrorPlaces hr5)<|P0))
theorem wi_mirrorScenario : ∀ s r, loop Bi_mirrorScenario s = some r → Wc X 38 0 (Ki_mirrorScenario s) (Zi_mirrorScenario s) (Ri_mirrorScenario r) ((fun _ => []) r) := Nx.all (ni_mirrorScenario)
theorem ci_mirrorScenario {a0 : Gi_Scenario} {r : Gi_Scenario} (H : Di_mirrorScenario a0 = some r) : Ct X.P X.gl 38 [gi_Scenario a0] [] (Ri_mirrorScenario r) [] :=
 Ct.of func38 (c := bdy f38) (by kernel_rfl) (by kernel_rfl) <|
 eBind H fun r1 hr1 H =>
 eBind H fun r2 hr2 H =>
 gO [r0, rg [hC 1 true [] (Ri_cloneScenario r1) []], rg [hC 3 true [] (Ri_mirrorMap r2) []], r0, .canon [0, 1, 26, 3, 4, 29, 30, 31, 15, 17, 20, 21, 24, 25] [1, 2, 3, 18, 19, 20]] (by kernel_rfl) (P1 (ci_cloneScenario hr1)<|P1 (ci_mirrorMap hr2)<|P0) (wi_mirrorScenario _ _ H)
def Ri_swapScenario (r : Gi_Scenario) : List D := [.agg [.str r.Name, ow 5 goi_Terrain r.Board.Rules.Terrains, ow 6 gi_Kind r.Board.Rules.Kinds, I r.Board.Rules.Stack, I r.Board.Rules.River, I r.Board.Rules.Road, I r.Board.Rules.Supply, I r.Board.Rules.Turns, I r.Board.Map.Width, I r.Board.Map.Height, ow 1 I r.Board.Map.Terrain, ow 1 I r.Board.Map.Rivers, ow 1 I r.Board.Map.Roads, ow 2 gi_Odds r.Table.Columns, I r.Table.Dice, ow 1 (ow 1 I) r.Table.Results, I r.Start.Turn, I r.Start.Weather, ow 4 gi_Unit r.Start.Units, ow 2 gi_Goal r.Conditions.Goals, I r.Conditions.Step, I r.Conditions.Margin, ow 1 I r.First, ow 1 I r.Other]]
noncomputable def Ki_swapScenario : Si_swapScenario → List Item
 | .h1 .. => nav 300 3 [] [.code (bdy f37)]
def Zi_swapScenario : Si_swapScenario → St
 | .h1 t0 t1 b2 b3 b4 b5 b6 b7 b8 b9 b10 b11 b12 b13 b14 b15 b16 b17 b18 b19 b20 b21 b22 b23 b24 b25 b26 b27 l28 l29 l30 l31 l32 l33 l34 l35 l36 l37 l38 => ⟨sts 38 [(2, .ptr 0 24 0 0), (3, .ptr 1 24 0 0), (11, I t0), (12, I t1)], [some ⟨false, true, 24, 1, [.agg [.str b2, .nil, .nil, I b3, I b4, I b5, I b6, I b7, I b8, I b9, .nil, .nil, .nil, .nil, I b10, .nil, I b11, I b12, .nil, .nil, I b13, I b14, .nil, .nil]]⟩, some ⟨false, true, 24, 1, [.agg [.str b15, .ref 2 5 none, .ref 3 6 none, I b16, I b17, I b18, I b19, I b20, I b21, I b22, .ref 4 1 none, .ref 5 1 none, .ref 6 1 none, .ref 7 2 none, I b23, .ref 8 1 none, I b24, I b25, .ref 9 4 none, .ref 10 2 none, I b26, I b27, .ref 11 1 none, .ref 12 1 none]]⟩, some ⟨false, false, 5, l28.length, List.map goi_Terrain l28⟩, some ⟨false, false, 6, l29.length, List.map gi_Kind l29⟩, some ⟨false, false, 1, l30.length, List.map I l30⟩, some ⟨false, false, 1, l31.length, List.map I l31⟩, some ⟨false, false, 1, l32.length, List.map I l32⟩, some ⟨false, false, 2, l33.length, List.map gi_Odds l33⟩, some ⟨false, false, 1, l34.length, List.map (ow 1 I) l34⟩, some ⟨false, false, 4, l35.length, List.map gi_Unit l35⟩, some ⟨false, false, 2, l36.length, List.map gi_Goal l36⟩, some ⟨false, false, 1, l37.length, List.map I l37⟩, some ⟨false, false, 1, l38.length, List.map I l38⟩]⟩
abbrev Qi_swapScenario := Nx X 37 0 Ki_swapScenario Zi_swapScenario Ri_swapScenario (fun _ => [])
theorem ni_swapScenario : ∀ s o, Bi_swapScenario s = some o → Qi_swapScenario (Ki_swapScenario s) (Zi_swapScenario s) o
 | .h1 t0 t1 b2 b3 b4 b5 b6 b7 b8 b9 b10 b11 b12 b13 b14 b15 b16 b17 b18 b19 b20 b21 b22 b23 b24 b25 b26 b27 l28 l29 l30 l31 l32 l33 l34 l35 l36 l37 l38, o, H =>
  eIf H (fun h1 H =>
  eCk H fun h2 H =>
  eBind H fun x3 hx3 H =>
  eCk H fun h4 H =>
  eBind H fun x5 hx5 H =>
  eN H fun r hn => gO [rg [hT 0], r0, rg [hE 10 (gi_Unit x3), hA 14 ((List.set l35 (Int.toNat t1) (Gi_Unit.mk (IntKind.wrap .i64 (1 - x3.Side)) x5.Kind x5.At x5.Steps)).length) (List.map gi_Unit (List.set l35 (Int.toNat t1) (Gi_Unit.mk (IntKind.wrap .i64 (1 - x3.Side)) x5.Kind x5.At x5.Steps)))], r0, .canon [0, 1, 2, 3, 4, 5, 6, 7, 8, 9, 10, 11, 12] [2, 3, 11, 12]] (by kernel_rfl) (P2 ((decide (t1 < t0)) = true) (decide_eq_true h1)<|P1 h2<|P1 (int_lt_of_at h2 hx3)<|P1 (at_map gi_Unit hx3)<|P1 h4<|P1 (int_lt_of_at h4 hx5)<|P1 (lt_of_at hx5)<|P2 (setCells (List.map gi_Unit l35) (Int.toNat t1) 0 [I (IntKind.wrap .i64 (1 - x3.Side))] = List.map gi_Unit (List.set l35 (Int.toNat t1) (Gi_Unit.mk (IntKind.wrap .i64 (1 - x3.Side)) x5.Kind x5.At x5.Steps))) (setCells_map hx5 rfl)<|P1 (setLen l35 (Int.toNat t1) (Gi_Unit.mk (IntKind.wrap .i64 (1 - x3.Side)) x5.Kind x5.At x5.Steps))<|P0) hn)
  (fun h1 H =>
  eN H<|gE func37 [rg [hF 0], r0, r0, r0, r0] (by kernel_rfl) (P2 ((decide (t1 < t0)) = false) (decide_eq_false h1)<|P0))
theorem wi_swapScenario : ∀ s r, loop Bi_swapScenario s = some r → Wc X 37 0 (Ki_swapScenario s) (Zi_swapScenario s) (Ri_swapScenario r) ((fun _ => []) r) := Nx.all (ni_swapScenario)
theorem ci_swapScenario {a0 : Gi_Scenario} {r : Gi_Scenario} (H : Di_swapScenario a0 = some r) : Ct X.P X.gl 37 [gi_Scenario a0] [] (Ri_swapScenario r) [] :=
 Ct.of func37 (c := bdy f37) (by kernel_rfl) (by kernel_rfl) <|
 eBind H fun r1 hr1 H =>
 gO [r0, rg [hC 1 true [] (Ri_cloneScenario r1) []], r0, .canon [1, 26, 3, 4, 12, 13, 14, 15, 17, 20, 21, 24, 25] [2, 3, 11, 12]] (by kernel_rfl) (P1 (ci_cloneScenario hr1)<|P0) (wi_swapScenario _ _ H)
def Rstrconv_Itoa (r : ByteArray) : List D := [.str r]
theorem cstrconv_Itoa {a0 : Int} {r : ByteArray} (H : Dstrconv_Itoa a0 = some r) : Ct X.P X.gl 85 [I a0] [] (Rstrconv_Itoa r) [] :=
 eCk H fun h H => eRet (P := fun r => Ct X.P X.gl 85 [I a0] [] (Rstrconv_Itoa r) []) H<|ct_itoa (P := X.P) (ρ := lays_n171_ren) lays_n171 ⟨f85, func85, by kernel_rfl, by kernel_rfl⟩ (g := 2) (W := 20) (by kernel_rfl) (by kernel_rfl) h
def Rstrings_Join (r : ByteArray) : List D := [.str r]
theorem cstrings_Join {a0 : (List ByteArray)} {a1 : ByteArray} {r : ByteArray} (H : Dstrings_Join a0 a1 = some r) : Ct X.P X.gl 112 [sl 1 D.str a0, .str a1] [] (Rstrings_Join r) [] :=
 eCk H fun h H => eRet (P := fun r => Ct X.P X.gl 112 [sl 1 D.str a0, .str a1] [] (Rstrings_Join r) []) H<|ct_join (P := X.P) (ρ := lays_n156_ren) lays_n156 lays_Extra ⟨f112, func112, by kernel_rfl, by kernel_rfl⟩ h
def Ri_wordsText (r : ByteArray) : List D := [.str r]
noncomputable def Ki_wordsText : Si_wordsText → List Item
 | .h1 .. => nav 300 3 [] [.code (bdy f66)]
def Zi_wordsText : Si_wordsText → St
 | .h1 t0 t1 t2 l3 => ⟨sts 24 [(5, .ref 0 1 none), (10, sl 1 I t0), (11, I t1), (12, I t2)], [some ⟨false, false, 1, l3.length, List.map D.str l3⟩]⟩
abbrev Qi_wordsText := Nx X 66 0 Ki_wordsText Zi_wordsText Ri_wordsText (fun _ => [])
theorem ni_wordsText : ∀ s o, Bi_wordsText s = some o → Qi_wordsText (Ki_wordsText s) (Zi_wordsText s) o
 | .h1 t0 t1 t2 l3, o, H =>
  eIf H (fun h1 H =>
  eCk H fun h2 H =>
  eBind H fun x3 hx3 H =>
  eBind H fun r4 hr4 H =>
  eCk H fun h5 H =>
  eN H fun r hn => gO [rg [hT 0], rg [hE 1 (I x3)], rg [hC 2 true [] (Rstrconv_Itoa r4) [], hA 4 ((l3 ++ [r4]).length) (List.map D.str (l3 ++ [r4]))], r0, .canon [2] [5, 10, 11, 12]] (by kernel_rfl) (P2 ((decide (t2 < t1)) = true) (decide_eq_true h1)<|P1 h2<|P1 (int_lt_of_at h2 hx3)<|P1 (at_map I hx3)<|P1 (cstrconv_Itoa hr4)<|P1 (apL l3 [r4])<|P1 (apB h5)<|P1 (apM D.str l3 [r4])<|P0) hn)
  (fun h1 H =>
  eBind H fun r2 hr2 H =>
  eN H<|gE func66 [rg [hF 0], rg [hC 1 false [] (Rstrings_Join r2) []]] (by kernel_rfl) (P2 ((decide (t2 < t1)) = false) (decide_eq_false h1)<|P1 (cstrings_Join hr2)<|P0))
theorem wi_wordsText : ∀ s r, loop Bi_wordsText s = some r → Wc X 66 0 (Ki_wordsText s) (Zi_wordsText s) (Ri_wordsText r) ((fun _ => []) r) := Nx.all (ni_wordsText)
theorem ci_wordsText {a0 : ByteArray} {a1 : (List Int)} {r : ByteArray} (H : Di_wordsText a0 a1 = some r) : Ct X.P X.gl 66 [.str a0, sl 1 I a1] [] (Ri_wordsText r) [] :=
 Ct.of func66 (c := bdy f66) (by kernel_rfl) (by kernel_rfl) <|
 gO [r0, r0, r0, .canon [0] [5, 10, 11, 12]] (by kernel_rfl) P0 (wi_wordsText _ _ H)
def Ri_mapText (r : ByteArray) : List D := [.str r]
noncomputable def Ki_mapText : Si_mapText → List Item
 | .h1 .. => nav 300 3 [] [.code (bdy f39)]
def Zi_mapText : Si_mapText → St
 | .h1 out0 t1 t2 t3 b4 => ⟨sts 47 [(1, .ptr 0 5 0 0), (3, .str out0), (14, sl 1 I t1), (15, I t2), (16, I t3)], [some ⟨false, true, 5, 1, [gi_Map b4]⟩]⟩
abbrev Qi_mapText := Nx X 39 0 Ki_mapText Zi_mapText Ri_mapText (fun _ => [])
theorem ni_mapText : ∀ s o, Bi_mapText s = some o → Qi_mapText (Ki_mapText s) (Zi_mapText s) o
 | .h1 out0 t1 t2 t3 b4, o, H =>
  eIf H (fun h1 H =>
  eCk H fun h2 H =>
  eBind H fun x3 hx3 H =>
  eBind H fun r4 hr4 H =>
  eCk H fun h5 H =>
  eCk H fun h6 H =>
  gN [rg [hT 0], rg [hE 2 (I x3)], rg [hC 2 true [] (Rstrconv_Itoa r4) []]] (by kernel_rfl) (P2 ((decide (t3 < t2)) = true) (decide_eq_true h1)<|P1 h2<|P1 (int_lt_of_at h2 hx3)<|P1 (at_map I hx3)<|P1 (cstrconv_Itoa hr4)<|P1 h5<|P0) <|
  eIf H (fun h7 H =>
  eCk H fun h8 H =>
  eN H fun r hn => gO [rg [hT 7], r0, r0, .canon [0] [1, 3, 14, 15, 16]] (by kernel_rfl) (P2 (¬ (b4.Width : Int) = 0) h6<|P2 ((((Int.tmod t3 b4.Width) : Int) == (IntKind.wrap .i64 (b4.Width - 1))) = true) (beqT h7)<|P1 h8<|P0) hn)
  (fun h7 H =>
  eN H fun r hn => gO [rg [hF 7], r0, .canon [0] [1, 3, 14, 15, 16]] (by kernel_rfl) (P2 (¬ (b4.Width : Int) = 0) h6<|P2 ((((Int.tmod t3 b4.Width) : Int) == (IntKind.wrap .i64 (b4.Width - 1))) = false) (beqF h7)<|P0) hn))
  (fun h1 H =>
  eBind H fun r2 hr2 H =>
  eCk H fun h3 H =>
  eCk H fun h4 H =>
  eBind H fun r5 hr5 H =>
  eCk H fun h6 H =>
  eCk H fun h7 H =>
  eN H<|gE func39 [rg [hF 0], rg [hC 3 true [] (Ri_wordsText r2) [], hC 8 true [] (Ri_wordsText r5) []]] (by kernel_rfl) (P2 ((decide (t3 < t2)) = false) (decide_eq_false h1)<|P1 (ci_wordsText hr2)<|P1 h3<|P1 h4<|P1 (ci_wordsText hr5)<|P1 h6<|P1 h7<|P0))
theorem wi_mapText : ∀ s r, loop Bi_mapText s = some r → Wc X 39 0 (Ki_mapText s) (Zi_mapText s) (Ri_mapText r) ((fun _ => []) r) := Nx.all (ni_mapText)
theorem ci_mapText {a0 : Gi_Map} {r : ByteArray} (H : Di_mapText a0 = some r) : Ct X.P X.gl 39 [gi_Map a0] [] (Ri_mapText r) [] :=
 Ct.of func39 (c := bdy f39) (by kernel_rfl) (by kernel_rfl) <|
 eBind H fun r1 hr1 H =>
 eCk H fun h2 H =>
 gO [r0, rg [hC 5 false [] (Ri_wordsText r1) []], r0, .canon [0] [1, 3, 14, 15, 16]] (by kernel_rfl) (P1 (ci_wordsText hr1)<|P1 h2<|P0) (wi_mapText _ _ H)
noncomputable def Kslices_Equal_i_Goal : Sslices_Equal_i_Goal → List Item
 | .h1 .. => nav 300 3 [false] [.code (bdy f40)]
def Zslices_Equal_i_Goal : Sslices_Equal_i_Goal → St
 | .h1 s10 s21 t2 t3 => ⟨sts 26 [(0, sl 2 gi_Goal s10), (1, sl 2 gi_Goal s21), (12, I t2), (13, I t3)], []⟩
abbrev Qslices_Equal_i_Goal := Nx X 40 0 Kslices_Equal_i_Goal Zslices_Equal_i_Goal RB (fun _ => [])
theorem nslices_Equal_i_Goal : ∀ s o, Bslices_Equal_i_Goal s = some o → Qslices_Equal_i_Goal (Kslices_Equal_i_Goal s) (Zslices_Equal_i_Goal s) o
 | .h1 s10 s21 t2 t3, o, H =>
  eIf H (fun h1 H =>
  eCk H fun h2 H =>
  eBind H fun x3 hx3 H =>
  eCk H fun h4 H =>
  eBind H fun x5 hx5 H =>
  gN [rg [hT 0], r0] (by kernel_rfl) (P2 ((decide (t3 < t2)) = true) (decide_eq_true h1)<|P0) <|
  eIf H (fun h6 H =>
  eN H<|gE func40 [rg [hE 3 (gi_Goal x3), hE 7 (gi_Goal x5), hT 8], r0] (by kernel_rfl) (P1 h2<|P1 (int_lt_of_at h2 hx3)<|P1 (at_map gi_Goal hx3)<|P1 h4<|P1 (int_lt_of_at h4 hx5)<|P1 (at_map gi_Goal hx5)<|P2 ((!((x3.At == x5.At) && (x3.Points == x5.Points))) = true) (h6)<|P0))
  (fun h6 H =>
  eN H fun r hn => gO [rg [hE 3 (gi_Goal x3), hE 7 (gi_Goal x5), hF 8], r0, .canon [] [0, 1, 12, 13]] (by kernel_rfl) (P1 h2<|P1 (int_lt_of_at h2 hx3)<|P1 (at_map gi_Goal hx3)<|P1 h4<|P1 (int_lt_of_at h4 hx5)<|P1 (at_map gi_Goal hx5)<|P2 ((!((x3.At == x5.At) && (x3.Points == x5.Points))) = false) (eqF h6)<|P0) hn))
  (fun h1 H =>
  eN H<|gE func40 [rg [hF 0], r0] (by kernel_rfl) (P2 ((decide (t3 < t2)) = false) (decide_eq_false h1)<|P0))
theorem wslices_Equal_i_Goal : ∀ s r, loop Bslices_Equal_i_Goal s = some r → Wc X 40 0 (Kslices_Equal_i_Goal s) (Zslices_Equal_i_Goal s) (RB r) ((fun _ => []) r) := Nx.all (nslices_Equal_i_Goal)
theorem cslices_Equal_i_Goal {a0 : (List Gi_Goal)} {a1 : (List Gi_Goal)} {r : Bool} (H : Dslices_Equal_i_Goal a0 a1 = some r) : Ct X.P X.gl 40 [sl 2 gi_Goal a0, sl 2 gi_Goal a1] [] (RB r) [] :=
 Ct.of func40 (c := bdy f40) (by kernel_rfl) (by kernel_rfl) <|
 gS [r0] (by kernel_rfl) P0 <|
 eIf H (fun h1 H =>
 gO [rg [hF 4], r0, .canon [] [0, 1, 12, 13]] (by kernel_rfl) (P2 (((((a0.length : Nat) : Int) : Int) != ((a1.length : Nat) : Int)) = false) (bneF h1)<|P0) (wslices_Equal_i_Goal _ _ H))
 (fun h1 H =>
 eW RB (fun _ => []) H<|gE func40 [rg [hT 4], r0] (by kernel_rfl) (P2 (((((a0.length : Nat) : Int) : Int) != ((a1.length : Nat) : Int)) = true) (bneT h1)<|P0))
noncomputable def Kslices_Equal_int : Sslices_Equal_int → List Item
 | .h1 .. => nav 300 3 [false] [.code (bdy f41)]
def Zslices_Equal_int : Sslices_Equal_int → St
 | .h1 s10 s21 t2 t3 => ⟨sts 26 [(0, sl 1 I s10), (1, sl 1 I s21), (12, I t2), (13, I t3)], []⟩
abbrev Qslices_Equal_int := Nx X 41 0 Kslices_Equal_int Zslices_Equal_int RB (fun _ => [])
theorem nslices_Equal_int : ∀ s o, Bslices_Equal_int s = some o → Qslices_Equal_int (Kslices_Equal_int s) (Zslices_Equal_int s) o
 | .h1 s10 s21 t2 t3, o, H =>
  eIf H (fun h1 H =>
  eCk H fun h2 H =>
  eBind H fun x3 hx3 H =>
  eCk H fun h4 H =>
  eBind H fun x5 hx5 H =>
  gN [rg [hT 0], r0] (by kernel_rfl) (P2 ((decide (t3 < t2)) = true) (decide_eq_true h1)<|P0) <|
  eIf H (fun h6 H =>
  eN H fun r hn => gO [rg [hE 3 (I x3), hE 7 (I x5), hF 8], r0, .canon [] [0, 1, 12, 13]] (by kernel_rfl) (P1 h2<|P1 (int_lt_of_at h2 hx3)<|P1 (at_map I hx3)<|P1 h4<|P1 (int_lt_of_at h4 hx5)<|P1 (at_map I hx5)<|P2 (((x3 : Int) != x5) = false) (bneF h6)<|P0) hn)
  (fun h6 H =>
  eN H<|gE func41 [rg [hE 3 (I x3), hE 7 (I x5), hT 8], r0] (by kernel_rfl) (P1 h2<|P1 (int_lt_of_at h2 hx3)<|P1 (at_map I hx3)<|P1 h4<|P1 (int_lt_of_at h4 hx5)<|P1 (at_map I hx5)<|P2 (((x3 : Int) != x5) = true) (bneT h6)<|P0)))
  (fun h1 H =>
  eN H<|gE func41 [rg [hF 0], r0] (by kernel_rfl) (P2 ((decide (t3 < t2)) = false) (decide_eq_false h1)<|P0))
theorem wslices_Equal_int : ∀ s r, loop Bslices_Equal_int s = some r → Wc X 41 0 (Kslices_Equal_int s) (Zslices_Equal_int s) (RB r) ((fun _ => []) r) := Nx.all (nslices_Equal_int)
theorem cslices_Equal_int {a0 : (List Int)} {a1 : (List Int)} {r : Bool} (H : Dslices_Equal_int a0 a1 = some r) : Ct X.P X.gl 41 [sl 1 I a0, sl 1 I a1] [] (RB r) [] :=
 Ct.of func41 (c := bdy f41) (by kernel_rfl) (by kernel_rfl) <|
 gS [r0] (by kernel_rfl) P0 <|
 eIf H (fun h1 H =>
 gO [rg [hF 4], r0, .canon [] [0, 1, 12, 13]] (by kernel_rfl) (P2 (((((a0.length : Nat) : Int) : Int) != ((a1.length : Nat) : Int)) = false) (bneF h1)<|P0) (wslices_Equal_int _ _ H))
 (fun h1 H =>
 eW RB (fun _ => []) H<|gE func41 [rg [hT 4], r0] (by kernel_rfl) (P2 (((((a0.length : Nat) : Int) : Int) != ((a1.length : Nat) : Int)) = true) (bneT h1)<|P0))
theorem ci_compareUnits {a0 : Gi_Unit} {a1 : Gi_Unit} {r : Int} (H : Di_compareUnits a0 a1 = some r) : Ct X.P X.gl 89 [gi_Unit a0, gi_Unit a1] [] (RI r) [] :=
 Ct.of func89 (c := bdy f89) (by kernel_rfl) (by kernel_rfl) <|
 gS [r0] (by kernel_rfl) P0 <|
 eIf H (fun h1 H =>
 gS [rg [hF 4]] (by kernel_rfl) (P2 (((a0.At : Int) != a1.At) = false) (bneF h1)<|P0) <|
 eIf H (fun h2 H =>
 eW RI (fun _ => []) H<|gE func89 [rg [hF 4], r0] (by kernel_rfl) (P2 (((a0.Kind : Int) != a1.Kind) = false) (bneF h2)<|P0))
 (fun h2 H =>
 eW RI (fun _ => []) H<|gE func89 [rg [hT 4], r0] (by kernel_rfl) (P2 (((a0.Kind : Int) != a1.Kind) = true) (bneT h2)<|P0)))
 (fun h1 H =>
 eW RI (fun _ => []) H<|gE func89 [rg [hT 4], r0] (by kernel_rfl) (P2 (((a0.At : Int) != a1.At) = true) (bneT h1)<|P0))
theorem ci_sortedUnits_1 {a0 : Gi_Unit} {a1 : Gi_Unit} {r : Int} (H : Di_sortedUnits_1 a0 a1 = some r) : Ct X.P X.gl 88 [gi_Unit a0, gi_Unit a1] [] (RI r) [] :=
 Ct.of func88 (c := bdy f88) (by kernel_rfl) (by kernel_rfl) <|
 gS [r0] (by kernel_rfl) P0 <|
 eIf H (fun h1 H =>
 eBind H fun r2 hr2 H =>
 eW RI (fun _ => []) H<|gE func88 [rg [hF 4], rg [hC 2 true [] (RI r2) []]] (by kernel_rfl) (P2 (((a0.Side : Int) != a1.Side) = false) (bneF h1)<|P1 (ci_compareUnits hr2)<|P0))
 (fun h1 H =>
 eW RI (fun _ => []) H<|gE func88 [rg [hT 4], r0] (by kernel_rfl) (P2 (((a0.Side : Int) != a1.Side) = true) (bneT h1)<|P0))
def Rslices_SortFunc_i_Unit_i_sortedUnits_1 (r : List Gi_Unit) : List D := []
def Nslices_SortFunc_i_Unit_i_sortedUnits_1 (r : List Gi_Unit) : List Root := [⟨false, false, 4, r.length, List.map gi_Unit r⟩]
open Go.Shelf Go.RowKit Go.Lib Go.Sort in
theorem k_i_compareUnits (x y : Gi_Unit) (r : Int) (W : World) (H : Di_compareUnits x y = some r) : Calls Tryz.prog 89 #[.agg #[.int .i64 x.Side, .int .i64 x.Kind, .int .i64 x.At, .int .i64 x.Steps], .agg #[.int .i64 y.Side, .int .i64 y.Kind, .int .i64 y.At, .int .i64 y.Steps]] W fun e w' => e = .returned (.int .i64 r) ∧ ∃ q os', w' = grow (W.drewN q) os' := by
 unfold Di_compareUnits at H
 repeat' split at H
 all_goals
  cases H
  go_enter func89, ntmps89
  go_wp2
  go_ret
  exact ⟨w64r _, 0, _, by rw [alloc_eq_grow, alloc_eq_grow, grow_grow]; rfl⟩
open Go.Shelf Go.RowKit Go.Lib Go.Sort in
theorem k_i_sortedUnits_1 (x y : Gi_Unit) (r : Int) (W : World) (H : Di_sortedUnits_1 x y = some r) : Calls Tryz.prog 88 #[.agg #[.int .i64 x.Side, .int .i64 x.Kind, .int .i64 x.At, .int .i64 x.Steps], .agg #[.int .i64 y.Side, .int .i64 y.Kind, .int .i64 y.At, .int .i64 y.Steps]] W fun e w' => e = .returned (.int .i64 r) ∧ ∃ q os', w' = grow (W.drewN q) os' := by
 unfold Di_sortedUnits_1 at H
 split at H
 ·rename_i hs
  obtain ⟨r0, hr0, H⟩ := Option.bind_eq_some_iff.1 H
  cases H
  have hcon := fun W' => k_i_compareUnits x y r W' hr0
  clear hr0
  rw [hs] at hcon
  go_enter func88, ntmps88
  go_wp2_with (go_at_call 89; refine (hcon _).mono ?_; rintro e w' ⟨rfl, q, os, rfl⟩)
  go_ret
  exact ⟨rfl, q, _, by rw [alloc_eq_grow, alloc_eq_grow, grow_drewN, grow_drewN, grow_grow, grow_grow]⟩
 ·cases H
  go_enter func88, ntmps88
  go_wp2
  go_ret
  exact ⟨w64r _, 0, _, by rw [alloc_eq_grow, alloc_eq_grow, grow_grow]; rfl⟩

theorem cslices_SortFunc_i_Unit_i_sortedUnits_1 {a0 : (List Gi_Unit)} {r : (List Gi_Unit)} (H : Dslices_SortFunc_i_Unit_i_sortedUnits_1 a0 = some r) : Ct X.P X.gl 87 [.ref 0 4 none, .fn 88 []] [⟨false, false, 4, a0.length, List.map gi_Unit a0⟩] (Rslices_SortFunc_i_Unit_i_sortedUnits_1 r) (Nslices_SortFunc_i_Unit_i_sortedUnits_1 r) :=
 ct_sortG (P := X.P) (ρ := lays_g87_ren) (k := 4) (t := 88) (en := fun x : Gi_Unit => [I x.Side, I x.Kind, I x.At, I x.Steps]) lays_g87 ⟨f87, func87, by kernel_rfl, by kernel_rfl⟩ ⟨f88, func88, by kernel_rfl, by kernel_rfl⟩ (by kernel_rfl) (by kernel_rfl) (by kernel_rfl) (fun _ => rfl) (fun _ => rfl) (fun x y r _ W _ h => k_i_sortedUnits_1 x y r W h) H
def Ri_sortedUnits (r : (List Gi_Unit)) : List D := [ow 4 gi_Unit r]
theorem ci_sortedUnits {a0 : (List Gi_Unit)} {r : (List Gi_Unit)} (H : Di_sortedUnits a0 = some r) : Ct X.P X.gl 43 [sl 4 gi_Unit a0] [] (Ri_sortedUnits r) [] :=
 Ct.of func43 (c := bdy f43) (by kernel_rfl) (by kernel_rfl) <|
 eBind H fun r1 hr1 H =>
 eBind H fun r2 hr2 H =>
 eCk H fun h3 H =>
 eW Ri_sortedUnits (fun _ => []) H<|gE func43 [r0, rg [hC 1 true [] (Rslices_Clone_i_Unit r1) []], rg [hC 1 true [0] (Rslices_SortFunc_i_Unit_i_sortedUnits_1 r2) (Nslices_SortFunc_i_Unit_i_sortedUnits_1 r2)], r0] (by kernel_rfl) (P1 (cslices_Clone_i_Unit hr1)<|P1 h3<|P1 (cslices_SortFunc_i_Unit_i_sortedUnits_1 hr2)<|P0)
noncomputable def Kslices_Equal_i_Unit : Sslices_Equal_i_Unit → List Item
 | .h1 .. => nav 300 3 [false] [.code (bdy f42)]
def Zslices_Equal_i_Unit : Sslices_Equal_i_Unit → St
 | .h1 s10 s21 t2 t3 => ⟨sts 26 [(0, sl 4 gi_Unit s10), (1, sl 4 gi_Unit s21), (12, I t2), (13, I t3)], []⟩
abbrev Qslices_Equal_i_Unit := Nx X 42 0 Kslices_Equal_i_Unit Zslices_Equal_i_Unit RB (fun _ => [])
theorem nslices_Equal_i_Unit : ∀ s o, Bslices_Equal_i_Unit s = some o → Qslices_Equal_i_Unit (Kslices_Equal_i_Unit s) (Zslices_Equal_i_Unit s) o
 | .h1 s10 s21 t2 t3, o, H =>
  eIf H (fun h1 H =>
  eCk H fun h2 H =>
  eBind H fun x3 hx3 H =>
  eCk H fun h4 H =>
  eBind H fun x5 hx5 H =>
  gN [rg [hT 0], r0] (by kernel_rfl) (P2 ((decide (t3 < t2)) = true) (decide_eq_true h1)<|P0) <|
  eIf H (fun h6 H =>
  eN H<|gE func42 [rg [hE 3 (gi_Unit x3), hE 7 (gi_Unit x5), hT 8], r0] (by kernel_rfl) (P1 h2<|P1 (int_lt_of_at h2 hx3)<|P1 (at_map gi_Unit hx3)<|P1 h4<|P1 (int_lt_of_at h4 hx5)<|P1 (at_map gi_Unit hx5)<|P2 ((!((x3.Side == x5.Side) && ((x3.Kind == x5.Kind) && ((x3.At == x5.At) && (x3.Steps == x5.Steps))))) = true) (h6)<|P0))
  (fun h6 H =>
  eN H fun r hn => gO [rg [hE 3 (gi_Unit x3), hE 7 (gi_Unit x5), hF 8], r0, .canon [] [0, 1, 12, 13]] (by kernel_rfl) (P1 h2<|P1 (int_lt_of_at h2 hx3)<|P1 (at_map gi_Unit hx3)<|P1 h4<|P1 (int_lt_of_at h4 hx5)<|P1 (at_map gi_Unit hx5)<|P2 ((!((x3.Side == x5.Side) && ((x3.Kind == x5.Kind) && ((x3.At == x5.At) && (x3.Steps == x5.Steps))))) = false) (eqF h6)<|P0) hn))
  (fun h1 H =>
  eN H<|gE func42 [rg [hF 0], r0] (by kernel_rfl) (P2 ((decide (t3 < t2)) = false) (decide_eq_false h1)<|P0))
theorem wslices_Equal_i_Unit : ∀ s r, loop Bslices_Equal_i_Unit s = some r → Wc X 42 0 (Kslices_Equal_i_Unit s) (Zslices_Equal_i_Unit s) (RB r) ((fun _ => []) r) := Nx.all (nslices_Equal_i_Unit)
theorem cslices_Equal_i_Unit {a0 : (List Gi_Unit)} {a1 : (List Gi_Unit)} {r : Bool} (H : Dslices_Equal_i_Unit a0 a1 = some r) : Ct X.P X.gl 42 [sl 4 gi_Unit a0, sl 4 gi_Unit a1] [] (RB r) [] :=
 Ct.of func42 (c := bdy f42) (by kernel_rfl) (by kernel_rfl) <|
 gS [r0] (by kernel_rfl) P0 <|
 eIf H (fun h1 H =>
 gO [rg [hF 4], r0, .canon [] [0, 1, 12, 13]] (by kernel_rfl) (P2 (((((a0.length : Nat) : Int) : Int) != ((a1.length : Nat) : Int)) = false) (bneF h1)<|P0) (wslices_Equal_i_Unit _ _ H))
 (fun h1 H =>
 eW RB (fun _ => []) H<|gE func42 [rg [hT 4], r0] (by kernel_rfl) (P2 (((((a0.length : Nat) : Int) : Int) != ((a1.length : Nat) : Int)) = true) (bneT h1)<|P0))
def Ri_IsFair (r : Bool × Bool) : List D := [.bool r.1, .bool r.2]
theorem ci_IsFair {a0 : Gi_Scenario} {r : Bool × Bool} (H : Di_IsFair a0 = some r) : Ct X.P X.gl 11 [gi_Scenario a0] [] (Ri_IsFair r) [] :=
 Ct.of func11 (c := bdy f11) (by kernel_rfl) (by kernel_rfl) <|
 eBind H fun r1 hr1 H =>
 gS [r0] (by kernel_rfl) P0 <|
 eIf H (fun h2 H =>
 eBind H fun r3 hr3 H =>
 eBind H fun r4 hr4 H =>
 eBind H fun r5 hr5 H =>
 eBind H fun r6 hr6 H =>
 gS [rg [{ i := 1, call := some { cl := true, auto := true, ins := [], res := (RB r1), G' := [] }, dec := some true }], rg [hC 1 true [] (Ri_mirrorScenario r3) [], { i := 2, call := some { cl := false, ins := [], args := [gi_Scenario r3], res := Ri_swapScenario r4, G' := [] } }]] (by kernel_rfl) (P1 (ci_IsScenario hr1)<|P2 (r1 = true) (h2)<|P1 (ci_mirrorScenario hr3)<|PI r3.Name<|PE ero_186 r3.Board.Rules.Terrains<|PL gi_Kind r3.Board.Rules.Kinds<|PI r3.Board.Rules.Stack<|PI r3.Board.Rules.River<|PI r3.Board.Rules.Road<|PI r3.Board.Rules.Supply<|PI r3.Board.Rules.Turns<|PI r3.Board.Map.Width<|PI r3.Board.Map.Height<|PL I r3.Board.Map.Terrain<|PL I r3.Board.Map.Rivers<|PL I r3.Board.Map.Roads<|PL gi_Odds r3.Table.Columns<|PI r3.Table.Dice<|PE ero_26 r3.Table.Results<|PI r3.Start.Turn<|PI r3.Start.Weather<|PL gi_Unit r3.Start.Units<|PL gi_Goal r3.Conditions.Goals<|PI r3.Conditions.Step<|PI r3.Conditions.Margin<|PL I r3.First<|PL I r3.Other<|P2 (nfL (List.flatMap D.cells (Ri_swapScenario r4))) ⟨trivial, nfL_map nfo_186 _, nfL_map nf_139 _, trivial, trivial, trivial, trivial, trivial, trivial, trivial, nfL_map nf_3 _, nfL_map nf_3 _, nfL_map nf_3 _, nfL_map nf_137 _, trivial, nfL_map nfo_26 _, trivial, trivial, nfL_map nf_88 _, nfL_map nf_93 _, trivial, trivial, nfL_map nf_3 _, nfL_map nf_3 _, trivial⟩<|P2 (nfG []) trivial<|P1 (ci_swapScenario hr4)<|P0) <|
 eIf H (fun h7 H =>
 eBind H fun r8 hr8 H =>
 eIf H (fun h9 H =>
 eBind H fun r10 hr10 H =>
 eIf H (fun h11 H =>
 eBind H fun r12 hr12 H =>
 eIf H (fun h13 H =>
 eBind H fun r14 hr14 H =>
 eBind H fun r15 hr15 H =>
 eBind H fun r16 hr16 H =>
 eW Ri_IsFair (fun _ => []) H<|gE func11 [rg [hC 3 true [] (Ri_mapText r5) [], hC 7 false [] (Ri_mapText r6) [], hT 8, { i := 16, call := some { cl := false, auto := true, ins := [], res := (RB r8), G' := [] }, dec := some true }, { i := 23, call := some { cl := false, auto := true, ins := [], res := (RB r10), G' := [] }, dec := some true }, { i := 30, call := some { cl := false, auto := true, ins := [], res := (RB r12), G' := [] }, dec := some true }, hC 36 true [] (Ri_sortedUnits r14) [], hC 40 false [] (Ri_sortedUnits r15) [], hC 41 false [] (RB r16) []]] (by kernel_rfl) (P1 (ci_mapText hr5)<|P1 (ci_mapText hr6)<|P2 ((r5 == r6) = true) (beqT h7)<|P1 (cslices_Equal_i_Goal hr8)<|P2 (r8 = true) (h9)<|P1 (cslices_Equal_int hr10)<|P2 (r10 = true) (h11)<|P1 (cslices_Equal_int hr12)<|P2 (r12 = true) (h13)<|P1 (ci_sortedUnits hr14)<|P2 (nfL (List.flatMap D.cells (Ri_sortedUnits r15))) ⟨nfL_map nf_88 _, trivial⟩<|P2 (nfG []) trivial<|P1 (ci_sortedUnits hr15)<|P1 (cslices_Equal_i_Unit hr16)<|P0))
 (fun h13 H =>
 eW Ri_IsFair (fun _ => []) H<|gE func11 [rg [hC 3 true [] (Ri_mapText r5) [], hC 7 false [] (Ri_mapText r6) [], hT 8, { i := 16, call := some { cl := false, auto := true, ins := [], res := (RB r8), G' := [] }, dec := some true }, { i := 23, call := some { cl := false, auto := true, ins := [], res := (RB r10), G' := [] }, dec := some true }, { i := 30, call := some { cl := false, auto := true, ins := [], res := (RB r12), G' := [] }, dec := some false }]] (by kernel_rfl) (P1 (ci_mapText hr5)<|P1 (ci_mapText hr6)<|P2 ((r5 == r6) = true) (beqT h7)<|P1 (cslices_Equal_i_Goal hr8)<|P2 (r8 = true) (h9)<|P1 (cslices_Equal_int hr10)<|P2 (r10 = true) (h11)<|P1 (cslices_Equal_int hr12)<|P2 (r12 = false) (eqF h13)<|P0)))
 (fun h11 H =>
 eW Ri_IsFair (fun _ => []) H<|gE func11 [rg [hC 3 true [] (Ri_mapText r5) [], hC 7 false [] (Ri_mapText r6) [], hT 8, { i := 16, call := some { cl := false, auto := true, ins := [], res := (RB r8), G' := [] }, dec := some true }, { i := 23, call := some { cl := false, auto := true, ins := [], res := (RB r10), G' := [] }, dec := some false }]] (by kernel_rfl) (P1 (ci_mapText hr5)<|P1 (ci_mapText hr6)<|P2 ((r5 == r6) = true) (beqT h7)<|P1 (cslices_Equal_i_Goal hr8)<|P2 (r8 = true) (h9)<|P1 (cslices_Equal_int hr10)<|P2 (r10 = false) (eqF h11)<|P0)))
 (fun h9 H =>
 eW Ri_IsFair (fun _ => []) H<|gE func11 [rg [hC 3 true [] (Ri_mapText r5) [], hC 7 false [] (Ri_mapText r6) [], hT 8, { i := 16, call := some { cl := false, auto := true, ins := [], res := (RB r8), G' := [] }, dec := some false }]] (by kernel_rfl) (P1 (ci_mapText hr5)<|P1 (ci_mapText hr6)<|P2 ((r5 == r6) = true) (beqT h7)<|P1 (cslices_Equal_i_Goal hr8)<|P2 (r8 = false) (eqF h9)<|P0)))
 (fun h7 H =>
 eW Ri_IsFair (fun _ => []) H<|gE func11 [rg [hC 3 true [] (Ri_mapText r5) [], hC 7 false [] (Ri_mapText r6) [], hF 8]] (by kernel_rfl) (P1 (ci_mapText hr5)<|P1 (ci_mapText hr6)<|P2 ((r5 == r6) = false) (beqF h7)<|P0)))
 (fun h2 H =>
 eW Ri_IsFair (fun _ => []) H<|gE func11 [rg [{ i := 1, call := some { cl := true, auto := true, ins := [], res := (RB r1), G' := [] }, dec := some false }], r0] (by kernel_rfl) (P1 (ci_IsScenario hr1)<|P2 (r1 = false) (eqF h2)<|P0))
noncomputable def Kw_eqIntS : Sw_eqIntS → List Item
 | .h1 .. => nav 300 3 [false] [.code (bdy f30)]
def Zw_eqIntS : Sw_eqIntS → St
 | .h1 va0 b1 i2 => ⟨sts 26 [(0, sl 1 I va0), (1, sl 1 I b1), (5, I i2)], []⟩
abbrev Qw_eqIntS := Nx X 30 0 Kw_eqIntS Zw_eqIntS RB (fun _ => [])
theorem nw_eqIntS : ∀ s o, Bw_eqIntS s = some o → Qw_eqIntS (Kw_eqIntS s) (Zw_eqIntS s) o
 | .h1 va0 b1 i2, o, H =>
  eIf H (fun h1 H =>
  eCk H fun h2 H =>
  eBind H fun x3 hx3 H =>
  eCk H fun h4 H =>
  eBind H fun x5 hx5 H =>
  gN [rg [hT 3]] (by kernel_rfl) (P2 ((decide (i2 < ((va0.length : Nat) : Int))) = true) (decide_eq_true h1)<|P0) <|
  eIf H (fun h6 H =>
  eN H fun r hn => gO [rg [hE 3 (I x3), hE 7 (I x5), hF 8], r0, .canon [] [0, 1, 5]] (by kernel_rfl) (P1 h2<|P1 (int_lt_of_at h2 hx3)<|P1 (at_map I hx3)<|P1 h4<|P1 (int_lt_of_at h4 hx5)<|P1 (at_map I hx5)<|P2 (((x3 : Int) != x5) = false) (bneF h6)<|P0) hn)
  (fun h6 H =>
  eN H<|gE func30 [rg [hE 3 (I x3), hE 7 (I x5), hT 8], r0] (by kernel_rfl) (P1 h2<|P1 (int_lt_of_at h2 hx3)<|P1 (at_map I hx3)<|P1 h4<|P1 (int_lt_of_at h4 hx5)<|P1 (at_map I hx5)<|P2 (((x3 : Int) != x5) = true) (bneT h6)<|P0)))
  (fun h1 H =>
  eN H<|gE func30 [rg [hF 3], r0] (by kernel_rfl) (P2 ((decide (i2 < ((va0.length : Nat) : Int))) = false) (decide_eq_false h1)<|P0))
theorem ww_eqIntS : ∀ s r, loop Bw_eqIntS s = some r → Wc X 30 0 (Kw_eqIntS s) (Zw_eqIntS s) (RB r) ((fun _ => []) r) := Nx.all (nw_eqIntS)
theorem cw_eqIntS {a0 : (List Int)} {a1 : (List Int)} {r : Bool} (H : Dw_eqIntS a0 a1 = some r) : Ct X.P X.gl 30 [sl 1 I a0, sl 1 I a1] [] (RB r) [] :=
 Ct.of func30 (c := bdy f30) (by kernel_rfl) (by kernel_rfl) <|
 gS [r0] (by kernel_rfl) P0 <|
 eIf H (fun h1 H =>
 gO [rg [hF 4], r0, .canon [] [0, 1, 5]] (by kernel_rfl) (P2 (((((a0.length : Nat) : Int) : Int) != ((a1.length : Nat) : Int)) = false) (bneF h1)<|P0) (ww_eqIntS _ _ H))
 (fun h1 H =>
 eW RB (fun _ => []) H<|gE func30 [rg [hT 4], r0] (by kernel_rfl) (P2 (((((a0.length : Nat) : Int) : Int) != ((a1.length : Nat) : Int)) = true) (bneT h1)<|P0))
theorem cw_eqTerrain {a0 : Gi_Terrain} {a1 : Gi_Terrain} {r : Bool} (H : Dw_eqTerrain a0 a1 = some r) : Ct X.P X.gl 170 [gi_Terrain a0, gi_Terrain a1] [] (RB r) [] :=
 Ct.of func170 (c := bdy f170) (by kernel_rfl) (by kernel_rfl) <|
 gS [r0] (by kernel_rfl) P0 <|
 eIf H (fun h1 H =>
 eBind H fun r2 hr2 H =>
 gS [rg [hF 4]] (by kernel_rfl) (P2 ((!(a0.Name == a1.Name)) = false) (nbeqF h1)<|P0) <|
 eIf H (fun h3 H =>
 gS [rg [{ i := 4, call := some { cl := true, auto := true, ins := [], res := (RB r2), G' := [] }, dec := some true }]] (by kernel_rfl) (P1 (cw_eqIntS hr2)<|P2 (r2 = true) (h3)<|P0) <|
 eIf H (fun h4 H =>
 gS [rg [hF 4]] (by kernel_rfl) (P2 (((a0.Shift : Int) != a1.Shift) = false) (bneF h4)<|P0) <|
 eIf H (fun h5 H =>
 gS [rg [hF 4]] (by kernel_rfl) (P2 (((a0.Height : Int) != a1.Height) = false) (bneF h5)<|P0) <|
 eIf H (fun h6 H =>
 eW RB (fun _ => []) H<|gE func170 [rg [hT 4], r0] (by kernel_rfl) (P2 ((!(a0.Blocks == a1.Blocks)) = true) (h6)<|P0))
 (fun h6 H =>
 eW RB (fun _ => []) H<|gE func170 [rg [hF 4], r0] (by kernel_rfl) (P2 ((!(a0.Blocks == a1.Blocks)) = false) (eqF h6)<|P0)))
 (fun h5 H =>
 eW RB (fun _ => []) H<|gE func170 [rg [hT 4], r0] (by kernel_rfl) (P2 (((a0.Height : Int) != a1.Height) = true) (bneT h5)<|P0)))
 (fun h4 H =>
 eW RB (fun _ => []) H<|gE func170 [rg [hT 4], r0] (by kernel_rfl) (P2 (((a0.Shift : Int) != a1.Shift) = true) (bneT h4)<|P0)))
 (fun h3 H =>
 eW RB (fun _ => []) H<|gE func170 [rg [{ i := 4, call := some { cl := true, auto := true, ins := [], res := (RB r2), G' := [] }, dec := some false }], r0] (by kernel_rfl) (P1 (cw_eqIntS hr2)<|P2 (r2 = false) (eqF h3)<|P0)))
 (fun h1 H =>
 eW RB (fun _ => []) H<|gE func170 [rg [hT 4], r0] (by kernel_rfl) (P2 ((!(a0.Name == a1.Name)) = true) (nbeqT h1)<|P0))
noncomputable def Kw_eqTerrainS : Sw_eqTerrainS → List Item
 | .h1 .. => nav 300 3 [false] [.code (bdy f114)]
def Zw_eqTerrainS : Sw_eqTerrainS → St
 | .h1 va0 b1 i2 => ⟨sts 27 [(0, sl 5 gi_Terrain va0), (1, sl 5 gi_Terrain b1), (5, I i2)], []⟩
abbrev Qw_eqTerrainS := Nx X 114 0 Kw_eqTerrainS Zw_eqTerrainS RB (fun _ => [])
theorem nw_eqTerrainS : ∀ s o, Bw_eqTerrainS s = some o → Qw_eqTerrainS (Kw_eqTerrainS s) (Zw_eqTerrainS s) o
 | .h1 va0 b1 i2, o, H =>
  eIf H (fun h1 H =>
  eCk H fun h2 H =>
  eBind H fun x3 hx3 H =>
  eCk H fun h4 H =>
  eBind H fun x5 hx5 H =>
  eBind H fun r6 hr6 H =>
  gN [rg [hT 3]] (by kernel_rfl) (P2 ((decide (i2 < ((va0.length : Nat) : Int))) = true) (decide_eq_true h1)<|P0) <|
  eIf H (fun h7 H =>
  eN H fun r hn => gO [rg [hE 3 (gi_Terrain x3), hE 7 (gi_Terrain x5), { i := 8, call := some { cl := true, auto := true, ins := [], res := (RB r6), G' := [] }, dec := some true }], r0, .canon [] [0, 1, 5]] (by kernel_rfl) (P1 h2<|P1 (int_lt_of_at h2 hx3)<|P1 (at_map gi_Terrain hx3)<|P1 h4<|P1 (int_lt_of_at h4 hx5)<|P1 (at_map gi_Terrain hx5)<|P1 (cw_eqTerrain hr6)<|P2 (r6 = true) (h7)<|P0) hn)
  (fun h7 H =>
  eN H<|gE func114 [rg [hE 3 (gi_Terrain x3), hE 7 (gi_Terrain x5), { i := 8, call := some { cl := true, auto := true, ins := [], res := (RB r6), G' := [] }, dec := some false }], r0] (by kernel_rfl) (P1 h2<|P1 (int_lt_of_at h2 hx3)<|P1 (at_map gi_Terrain hx3)<|P1 h4<|P1 (int_lt_of_at h4 hx5)<|P1 (at_map gi_Terrain hx5)<|P1 (cw_eqTerrain hr6)<|P2 (r6 = false) (eqF h7)<|P0)))
  (fun h1 H =>
  eN H<|gE func114 [rg [hF 3], r0] (by kernel_rfl) (P2 ((decide (i2 < ((va0.length : Nat) : Int))) = false) (decide_eq_false h1)<|P0))
theorem ww_eqTerrainS : ∀ s r, loop Bw_eqTerrainS s = some r → Wc X 114 0 (Kw_eqTerrainS s) (Zw_eqTerrainS s) (RB r) ((fun _ => []) r) := Nx.all (nw_eqTerrainS)
theorem cw_eqTerrainS {a0 : (List Gi_Terrain)} {a1 : (List Gi_Terrain)} {r : Bool} (H : Dw_eqTerrainS a0 a1 = some r) : Ct X.P X.gl 114 [sl 5 gi_Terrain a0, sl 5 gi_Terrain a1] [] (RB r) [] :=
 Ct.of func114 (c := bdy f114) (by kernel_rfl) (by kernel_rfl) <|
 gS [r0] (by kernel_rfl) P0 <|
 eIf H (fun h1 H =>
 gO [rg [hF 4], r0, .canon [] [0, 1, 5]] (by kernel_rfl) (P2 (((((a0.length : Nat) : Int) : Int) != ((a1.length : Nat) : Int)) = false) (bneF h1)<|P0) (ww_eqTerrainS _ _ H))
 (fun h1 H =>
 eW RB (fun _ => []) H<|gE func114 [rg [hT 4], r0] (by kernel_rfl) (P2 (((((a0.length : Nat) : Int) : Int) != ((a1.length : Nat) : Int)) = true) (bneT h1)<|P0))
theorem cw_eqKind {a0 : Gi_Kind} {a1 : Gi_Kind} {r : Bool} (H : Dw_eqKind a0 a1 = some r) : Ct X.P X.gl 171 [gi_Kind a0, gi_Kind a1] [] (RB r) [] :=
 Ct.of func171 (c := bdy f171) (by kernel_rfl) (by kernel_rfl) <|
 gS [r0] (by kernel_rfl) P0 <|
 eIf H (fun h1 H =>
 gS [rg [hF 4]] (by kernel_rfl) (P2 ((!(a0.Name == a1.Name)) = false) (nbeqF h1)<|P0) <|
 eIf H (fun h2 H =>
 gS [rg [hF 4]] (by kernel_rfl) (P2 (((a0.Strength : Int) != a1.Strength) = false) (bneF h2)<|P0) <|
 eIf H (fun h3 H =>
 gS [rg [hF 4]] (by kernel_rfl) (P2 (((a0.Moves : Int) != a1.Moves) = false) (bneF h3)<|P0) <|
 eIf H (fun h4 H =>
 gS [rg [hF 4]] (by kernel_rfl) (P2 (((a0.Steps : Int) != a1.Steps) = false) (bneF h4)<|P0) <|
 eIf H (fun h5 H =>
 eW RB (fun _ => []) H<|gE func171 [rg [hT 4], r0] (by kernel_rfl) (P2 ((!(a0.Zone == a1.Zone)) = true) (h5)<|P0))
 (fun h5 H =>
 gS [rg [hF 4]] (by kernel_rfl) (P2 ((!(a0.Zone == a1.Zone)) = false) (eqF h5)<|P0) <|
 eIf H (fun h6 H =>
 eW RB (fun _ => []) H<|gE func171 [rg [hF 4], r0] (by kernel_rfl) (P2 (((a0.View : Int) != a1.View) = false) (bneF h6)<|P0))
 (fun h6 H =>
 eW RB (fun _ => []) H<|gE func171 [rg [hT 4], r0] (by kernel_rfl) (P2 (((a0.View : Int) != a1.View) = true) (bneT h6)<|P0))))
 (fun h4 H =>
 eW RB (fun _ => []) H<|gE func171 [rg [hT 4], r0] (by kernel_rfl) (P2 (((a0.Steps : Int) != a1.Steps) = true) (bneT h4)<|P0)))
 (fun h3 H =>
 eW RB (fun _ => []) H<|gE func171 [rg [hT 4], r0] (by kernel_rfl) (P2 (((a0.Moves : Int) != a1.Moves) = true) (bneT h3)<|P0)))
 (fun h2 H =>
 eW RB (fun _ => []) H<|gE func171 [rg [hT 4], r0] (by kernel_rfl) (P2 (((a0.Strength : Int) != a1.Strength) = true) (bneT h2)<|P0)))
 (fun h1 H =>
 eW RB (fun _ => []) H<|gE func171 [rg [hT 4], r0] (by kernel_rfl) (P2 ((!(a0.Name == a1.Name)) = true) (nbeqT h1)<|P0))
noncomputable def Kw_eqKindS : Sw_eqKindS → List Item
 | .h1 .. => nav 300 3 [false] [.code (bdy f115)]
def Zw_eqKindS : Sw_eqKindS → St
 | .h1 va0 b1 i2 => ⟨sts 27 [(0, sl 6 gi_Kind va0), (1, sl 6 gi_Kind b1), (5, I i2)], []⟩
abbrev Qw_eqKindS := Nx X 115 0 Kw_eqKindS Zw_eqKindS RB (fun _ => [])
theorem nw_eqKindS : ∀ s o, Bw_eqKindS s = some o → Qw_eqKindS (Kw_eqKindS s) (Zw_eqKindS s) o
 | .h1 va0 b1 i2, o, H =>
  eIf H (fun h1 H =>
  eCk H fun h2 H =>
  eBind H fun x3 hx3 H =>
  eCk H fun h4 H =>
  eBind H fun x5 hx5 H =>
  eBind H fun r6 hr6 H =>
  gN [rg [hT 3]] (by kernel_rfl) (P2 ((decide (i2 < ((va0.length : Nat) : Int))) = true) (decide_eq_true h1)<|P0) <|
  eIf H (fun h7 H =>
  eN H fun r hn => gO [rg [hE 3 (gi_Kind x3), hE 7 (gi_Kind x5), { i := 8, call := some { cl := true, auto := true, ins := [], res := (RB r6), G' := [] }, dec := some true }], r0, .canon [] [0, 1, 5]] (by kernel_rfl) (P1 h2<|P1 (int_lt_of_at h2 hx3)<|P1 (at_map gi_Kind hx3)<|P1 h4<|P1 (int_lt_of_at h4 hx5)<|P1 (at_map gi_Kind hx5)<|P1 (cw_eqKind hr6)<|P2 (r6 = true) (h7)<|P0) hn)
  (fun h7 H =>
  eN H<|gE func115 [rg [hE 3 (gi_Kind x3), hE 7 (gi_Kind x5), { i := 8, call := some { cl := true, auto := true, ins := [], res := (RB r6), G' := [] }, dec := some false }], r0] (by kernel_rfl) (P1 h2<|P1 (int_lt_of_at h2 hx3)<|P1 (at_map gi_Kind hx3)<|P1 h4<|P1 (int_lt_of_at h4 hx5)<|P1 (at_map gi_Kind hx5)<|P1 (cw_eqKind hr6)<|P2 (r6 = false) (eqF h7)<|P0)))
  (fun h1 H =>
  eN H<|gE func115 [rg [hF 3], r0] (by kernel_rfl) (P2 ((decide (i2 < ((va0.length : Nat) : Int))) = false) (decide_eq_false h1)<|P0))
theorem ww_eqKindS : ∀ s r, loop Bw_eqKindS s = some r → Wc X 115 0 (Kw_eqKindS s) (Zw_eqKindS s) (RB r) ((fun _ => []) r) := Nx.all (nw_eqKindS)
theorem cw_eqKindS {a0 : (List Gi_Kind)} {a1 : (List Gi_Kind)} {r : Bool} (H : Dw_eqKindS a0 a1 = some r) : Ct X.P X.gl 115 [sl 6 gi_Kind a0, sl 6 gi_Kind a1] [] (RB r) [] :=
 Ct.of func115 (c := bdy f115) (by kernel_rfl) (by kernel_rfl) <|
 gS [r0] (by kernel_rfl) P0 <|
 eIf H (fun h1 H =>
 gO [rg [hF 4], r0, .canon [] [0, 1, 5]] (by kernel_rfl) (P2 (((((a0.length : Nat) : Int) : Int) != ((a1.length : Nat) : Int)) = false) (bneF h1)<|P0) (ww_eqKindS _ _ H))
 (fun h1 H =>
 eW RB (fun _ => []) H<|gE func115 [rg [hT 4], r0] (by kernel_rfl) (P2 (((((a0.length : Nat) : Int) : Int) != ((a1.length : Nat) : Int)) = true) (bneT h1)<|P0))
theorem cw_eqRules {a0 : Gi_Rules} {a1 : Gi_Rules} {r : Bool} (H : Dw_eqRules a0 a1 = some r) : Ct X.P X.gl 68 [gi_Rules a0, gi_Rules a1] [] (RB r) [] :=
 Ct.of func68 (c := bdy f68) (by kernel_rfl) (by kernel_rfl) <|
 eBind H fun r1 hr1 H =>
 gS [r0] (by kernel_rfl) P0 <|
 eIf H (fun h2 H =>
 eBind H fun r3 hr3 H =>
 gS [rg [{ i := 4, call := some { cl := true, auto := true, ins := [], res := (RB r1), G' := [] }, dec := some true }]] (by kernel_rfl) (P1 (cw_eqTerrainS hr1)<|P2 (r1 = true) (h2)<|P0) <|
 eIf H (fun h4 H =>
 gS [rg [{ i := 4, call := some { cl := true, auto := true, ins := [], res := (RB r3), G' := [] }, dec := some true }]] (by kernel_rfl) (P1 (cw_eqKindS hr3)<|P2 (r3 = true) (h4)<|P0) <|
 eIf H (fun h5 H =>
 gS [rg [hF 4]] (by kernel_rfl) (P2 (((a0.Stack : Int) != a1.Stack) = false) (bneF h5)<|P0) <|
 eIf H (fun h6 H =>
 gS [rg [hF 4]] (by kernel_rfl) (P2 (((a0.River : Int) != a1.River) = false) (bneF h6)<|P0) <|
 eIf H (fun h7 H =>
 gS [rg [hF 4]] (by kernel_rfl) (P2 (((a0.Road : Int) != a1.Road) = false) (bneF h7)<|P0) <|
 eIf H (fun h8 H =>
 gS [rg [hF 4]] (by kernel_rfl) (P2 (((a0.Supply : Int) != a1.Supply) = false) (bneF h8)<|P0) <|
 eIf H (fun h9 H =>
 eW RB (fun _ => []) H<|gE func68 [rg [hF 4], r0] (by kernel_rfl) (P2 (((a0.Turns : Int) != a1.Turns) = false) (bneF h9)<|P0))
 (fun h9 H =>
 eW RB (fun _ => []) H<|gE func68 [rg [hT 4], r0] (by kernel_rfl) (P2 (((a0.Turns : Int) != a1.Turns) = true) (bneT h9)<|P0)))
 (fun h8 H =>
 eW RB (fun _ => []) H<|gE func68 [rg [hT 4], r0] (by kernel_rfl) (P2 (((a0.Supply : Int) != a1.Supply) = true) (bneT h8)<|P0)))
 (fun h7 H =>
 eW RB (fun _ => []) H<|gE func68 [rg [hT 4], r0] (by kernel_rfl) (P2 (((a0.Road : Int) != a1.Road) = true) (bneT h7)<|P0)))
 (fun h6 H =>
 eW RB (fun _ => []) H<|gE func68 [rg [hT 4], r0] (by kernel_rfl) (P2 (((a0.River : Int) != a1.River) = true) (bneT h6)<|P0)))
 (fun h5 H =>
 eW RB (fun _ => []) H<|gE func68 [rg [hT 4], r0] (by kernel_rfl) (P2 (((a0.Stack : Int) != a1.Stack) = true) (bneT h5)<|P0)))
 (fun h4 H =>
 eW RB (fun _ => []) H<|gE func68 [rg [{ i := 4, call := some { cl := true, auto := true, ins := [], res := (RB r3), G' := [] }, dec := some false }], r0] (by kernel_rfl) (P1 (cw_eqKindS hr3)<|P2 (r3 = false) (eqF h4)<|P0)))
 (fun h2 H =>
 eW RB (fun _ => []) H<|gE func68 [rg [{ i := 4, call := some { cl := true, auto := true, ins := [], res := (RB r1), G' := [] }, dec := some false }], r0] (by kernel_rfl) (P1 (cw_eqTerrainS hr1)<|P2 (r1 = false) (eqF h2)<|P0))
theorem cw_eqMap {a0 : Gi_Map} {a1 : Gi_Map} {r : Bool} (H : Dw_eqMap a0 a1 = some r) : Ct X.P X.gl 69 [gi_Map a0, gi_Map a1] [] (RB r) [] :=
 Ct.of func69 (c := bdy f69) (by kernel_rfl) (by kernel_rfl) <|
 gS [r0] (by kernel_rfl) P0 <|
 eIf H (fun h1 H =>
 gS [rg [hF 4]] (by kernel_rfl) (P2 (((a0.Width : Int) != a1.Width) = false) (bneF h1)<|P0) <|
 eIf H (fun h2 H =>
 eBind H fun r3 hr3 H =>
 gS [rg [hF 4]] (by kernel_rfl) (P2 (((a0.Height : Int) != a1.Height) = false) (bneF h2)<|P0) <|
 eIf H (fun h4 H =>
 eBind H fun r5 hr5 H =>
 gS [rg [{ i := 4, call := some { cl := true, auto := true, ins := [], res := (RB r3), G' := [] }, dec := some true }]] (by kernel_rfl) (P1 (cw_eqIntS hr3)<|P2 (r3 = true) (h4)<|P0) <|
 eIf H (fun h6 H =>
 eBind H fun r7 hr7 H =>
 gS [rg [{ i := 4, call := some { cl := true, auto := true, ins := [], res := (RB r5), G' := [] }, dec := some true }]] (by kernel_rfl) (P1 (cw_eqIntS hr5)<|P2 (r5 = true) (h6)<|P0) <|
 eIf H (fun h8 H =>
 eW RB (fun _ => []) H<|gE func69 [rg [{ i := 4, call := some { cl := true, auto := true, ins := [], res := (RB r7), G' := [] }, dec := some true }], r0] (by kernel_rfl) (P1 (cw_eqIntS hr7)<|P2 (r7 = true) (h8)<|P0))
 (fun h8 H =>
 eW RB (fun _ => []) H<|gE func69 [rg [{ i := 4, call := some { cl := true, auto := true, ins := [], res := (RB r7), G' := [] }, dec := some false }], r0] (by kernel_rfl) (P1 (cw_eqIntS hr7)<|P2 (r7 = false) (eqF h8)<|P0)))
 (fun h6 H =>
 eW RB (fun _ => []) H<|gE func69 [rg [{ i := 4, call := some { cl := true, auto := true, ins := [], res := (RB r5), G' := [] }, dec := some false }], r0] (by kernel_rfl) (P1 (cw_eqIntS hr5)<|P2 (r5 = false) (eqF h6)<|P0)))
 (fun h4 H =>
 eW RB (fun _ => []) H<|gE func69 [rg [{ i := 4, call := some { cl := true, auto := true, ins := [], res := (RB r3), G' := [] }, dec := some false }], r0] (by kernel_rfl) (P1 (cw_eqIntS hr3)<|P2 (r3 = false) (eqF h4)<|P0)))
 (fun h2 H =>
 eW RB (fun _ => []) H<|gE func69 [rg [hT 4], r0] (by kernel_rfl) (P2 (((a0.Height : Int) != a1.Height) = true) (bneT h2)<|P0)))
 (fun h1 H =>
 eW RB (fun _ => []) H<|gE func69 [rg [hT 4], r0] (by kernel_rfl) (P2 (((a0.Width : Int) != a1.Width) = true) (bneT h1)<|P0))
theorem cw_eqBoard {a0 : Gi_Board} {a1 : Gi_Board} {r : Bool} (H : Dw_eqBoard a0 a1 = some r) : Ct X.P X.gl 26 [gi_Board a0, gi_Board a1] [] (RB r) [] :=
 Ct.of func26 (c := bdy f26) (by kernel_rfl) (by kernel_rfl) <|
 eBind H fun r1 hr1 H =>
 gS [r0] (by kernel_rfl) P0 <|
 eIf H (fun h2 H =>
 eBind H fun r3 hr3 H =>
 gS [rg [{ i := 4, call := some { cl := true, auto := true, ins := [], res := (RB r1), G' := [] }, dec := some true }]] (by kernel_rfl) (P1 (cw_eqRules hr1)<|P2 (r1 = true) (h2)<|P0) <|
 eIf H (fun h4 H =>
 eW RB (fun _ => []) H<|gE func26 [rg [{ i := 4, call := some { cl := true, auto := true, ins := [], res := (RB r3), G' := [] }, dec := some true }], r0] (by kernel_rfl) (P1 (cw_eqMap hr3)<|P2 (r3 = true) (h4)<|P0))
 (fun h4 H =>
 eW RB (fun _ => []) H<|gE func26 [rg [{ i := 4, call := some { cl := true, auto := true, ins := [], res := (RB r3), G' := [] }, dec := some false }], r0] (by kernel_rfl) (P1 (cw_eqMap hr3)<|P2 (r3 = false) (eqF h4)<|P0)))
 (fun h2 H =>
 eW RB (fun _ => []) H<|gE func26 [rg [{ i := 4, call := some { cl := true, auto := true, ins := [], res := (RB r1), G' := [] }, dec := some false }], r0] (by kernel_rfl) (P1 (cw_eqRules hr1)<|P2 (r1 = false) (eqF h2)<|P0))
theorem cw_eqOdds {a0 : Gi_Odds} {a1 : Gi_Odds} {r : Bool} (H : Dw_eqOdds a0 a1 = some r) : Ct X.P X.gl 116 [gi_Odds a0, gi_Odds a1] [] (RB r) [] :=
 Ct.of func116 (c := bdy f116) (by kernel_rfl) (by kernel_rfl) <|
 gS [r0] (by kernel_rfl) P0 <|
 eIf H (fun h1 H =>
 gS [rg [hF 4]] (by kernel_rfl) (P2 (((a0.Num : Int) != a1.Num) = false) (bneF h1)<|P0) <|
 eIf H (fun h2 H =>
 eW RB (fun _ => []) H<|gE func116 [rg [hF 4], r0] (by kernel_rfl) (P2 (((a0.Den : Int) != a1.Den) = false) (bneF h2)<|P0))
 (fun h2 H =>
 eW RB (fun _ => []) H<|gE func116 [rg [hT 4], r0] (by kernel_rfl) (P2 (((a0.Den : Int) != a1.Den) = true) (bneT h2)<|P0)))
 (fun h1 H =>
 eW RB (fun _ => []) H<|gE func116 [rg [hT 4], r0] (by kernel_rfl) (P2 (((a0.Num : Int) != a1.Num) = true) (bneT h1)<|P0))
noncomputable def Kw_eqOddsS : Sw_eqOddsS → List Item
 | .h1 .. => nav 300 3 [false] [.code (bdy f70)]
def Zw_eqOddsS : Sw_eqOddsS → St
 | .h1 va0 b1 i2 => ⟨sts 27 [(0, sl 2 gi_Odds va0), (1, sl 2 gi_Odds b1), (5, I i2)], []⟩
abbrev Qw_eqOddsS := Nx X 70 0 Kw_eqOddsS Zw_eqOddsS RB (fun _ => [])
theorem nw_eqOddsS : ∀ s o, Bw_eqOddsS s = some o → Qw_eqOddsS (Kw_eqOddsS s) (Zw_eqOddsS s) o
 | .h1 va0 b1 i2, o, H =>
  eIf H (fun h1 H =>
  eCk H fun h2 H =>
  eBind H fun x3 hx3 H =>
  eCk H fun h4 H =>
  eBind H fun x5 hx5 H =>
  eBind H fun r6 hr6 H =>
  gN [rg [hT 3]] (by kernel_rfl) (P2 ((decide (i2 < ((va0.length : Nat) : Int))) = true) (decide_eq_true h1)<|P0) <|
  eIf H (fun h7 H =>
  eN H fun r hn => gO [rg [hE 3 (gi_Odds x3), hE 7 (gi_Odds x5), { i := 8, call := some { cl := true, auto := true, ins := [], res := (RB r6), G' := [] }, dec := some true }], r0, .canon [] [0, 1, 5]] (by kernel_rfl) (P1 h2<|P1 (int_lt_of_at h2 hx3)<|P1 (at_map gi_Odds hx3)<|P1 h4<|P1 (int_lt_of_at h4 hx5)<|P1 (at_map gi_Odds hx5)<|P1 (cw_eqOdds hr6)<|P2 (r6 = true) (h7)<|P0) hn)
  (fun h7 H =>
  eN H<|gE func70 [rg [hE 3 (gi_Odds x3), hE 7 (gi_Odds x5), { i := 8, call := some { cl := true, auto := true, ins := [], res := (RB r6), G' := [] }, dec := some false }], r0] (by kernel_rfl) (P1 h2<|P1 (int_lt_of_at h2 hx3)<|P1 (at_map gi_Odds hx3)<|P1 h4<|P1 (int_lt_of_at h4 hx5)<|P1 (at_map gi_Odds hx5)<|P1 (cw_eqOdds hr6)<|P2 (r6 = false) (eqF h7)<|P0)))
  (fun h1 H =>
  eN H<|gE func70 [rg [hF 3], r0] (by kernel_rfl) (P2 ((decide (i2 < ((va0.length : Nat) : Int))) = false) (decide_eq_false h1)<|P0))
theorem ww_eqOddsS : ∀ s r, loop Bw_eqOddsS s = some r → Wc X 70 0 (Kw_eqOddsS s) (Zw_eqOddsS s) (RB r) ((fun _ => []) r) := Nx.all (nw_eqOddsS)
theorem cw_eqOddsS {a0 : (List Gi_Odds)} {a1 : (List Gi_Odds)} {r : Bool} (H : Dw_eqOddsS a0 a1 = some r) : Ct X.P X.gl 70 [sl 2 gi_Odds a0, sl 2 gi_Odds a1] [] (RB r) [] :=
 Ct.of func70 (c := bdy f70) (by kernel_rfl) (by kernel_rfl) <|
 gS [r0] (by kernel_rfl) P0 <|
 eIf H (fun h1 H =>
 gO [rg [hF 4], r0, .canon [] [0, 1, 5]] (by kernel_rfl) (P2 (((((a0.length : Nat) : Int) : Int) != ((a1.length : Nat) : Int)) = false) (bneF h1)<|P0) (ww_eqOddsS _ _ H))
 (fun h1 H =>
 eW RB (fun _ => []) H<|gE func70 [rg [hT 4], r0] (by kernel_rfl) (P2 (((((a0.length : Nat) : Int) : Int) != ((a1.length : Nat) : Int)) = true) (bneT h1)<|P0))
noncomputable def Kw_eqIntSS : Sw_eqIntSS → List Item
 | .h1 .. => nav 300 3 [false] [.code (bdy f71)]
def Zw_eqIntSS : Sw_eqIntSS → St
 | .h1 va0 b1 i2 => ⟨sts 27 [(0, sl 1 (sl 1 I) va0), (1, sl 1 (sl 1 I) b1), (5, I i2)], []⟩
abbrev Qw_eqIntSS := Nx X 71 0 Kw_eqIntSS Zw_eqIntSS RB (fun _ => [])
theorem nw_eqIntSS : ∀ s o, Bw_eqIntSS s = some o → Qw_eqIntSS (Kw_eqIntSS s) (Zw_eqIntSS s) o
 | .h1 va0 b1 i2, o, H =>
  eIf H (fun h1 H =>
  eCk H fun h2 H =>
  eBind H fun x3 hx3 H =>
  eCk H fun h4 H =>
  eBind H fun x5 hx5 H =>
  eBind H fun r6 hr6 H =>
  gN [rg [hT 3]] (by kernel_rfl) (P2 ((decide (i2 < ((va0.length : Nat) : Int))) = true) (decide_eq_true h1)<|P0) <|
  eIf H (fun h7 H =>
  eN H fun r hn => gO [rg [hE 3 ((sl 1 I) x3), hE 7 ((sl 1 I) x5), { i := 8, call := some { cl := true, auto := true, ins := [], res := (RB r6), G' := [] }, dec := some true }], r0, .canon [] [0, 1, 5]] (by kernel_rfl) (P1 h2<|P1 (int_lt_of_at h2 hx3)<|P1 (at_map (sl 1 I) hx3)<|P1 h4<|P1 (int_lt_of_at h4 hx5)<|P1 (at_map (sl 1 I) hx5)<|P1 (cw_eqIntS hr6)<|P2 (r6 = true) (h7)<|P0) hn)
  (fun h7 H =>
  eN H<|gE func71 [rg [hE 3 ((sl 1 I) x3), hE 7 ((sl 1 I) x5), { i := 8, call := some { cl := true, auto := true, ins := [], res := (RB r6), G' := [] }, dec := some false }], r0] (by kernel_rfl) (P1 h2<|P1 (int_lt_of_at h2 hx3)<|P1 (at_map (sl 1 I) hx3)<|P1 h4<|P1 (int_lt_of_at h4 hx5)<|P1 (at_map (sl 1 I) hx5)<|P1 (cw_eqIntS hr6)<|P2 (r6 = false) (eqF h7)<|P0)))
  (fun h1 H =>
  eN H<|gE func71 [rg [hF 3], r0] (by kernel_rfl) (P2 ((decide (i2 < ((va0.length : Nat) : Int))) = false) (decide_eq_false h1)<|P0))
theorem ww_eqIntSS : ∀ s r, loop Bw_eqIntSS s = some r → Wc X 71 0 (Kw_eqIntSS s) (Zw_eqIntSS s) (RB r) ((fun _ => []) r) := Nx.all (nw_eqIntSS)
theorem cw_eqIntSS {a0 : (List (List Int))} {a1 : (List (List Int))} {r : Bool} (H : Dw_eqIntSS a0 a1 = some r) : Ct X.P X.gl 71 [sl 1 (sl 1 I) a0, sl 1 (sl 1 I) a1] [] (RB r) [] :=
 Ct.of func71 (c := bdy f71) (by kernel_rfl) (by kernel_rfl) <|
 gS [r0] (by kernel_rfl) P0 <|
 eIf H (fun h1 H =>
 gO [rg [hF 4], r0, .canon [] [0, 1, 5]] (by kernel_rfl) (P2 (((((a0.length : Nat) : Int) : Int) != ((a1.length : Nat) : Int)) = false) (bneF h1)<|P0) (ww_eqIntSS _ _ H))
 (fun h1 H =>
 eW RB (fun _ => []) H<|gE func71 [rg [hT 4], r0] (by kernel_rfl) (P2 (((((a0.length : Nat) : Int) : Int) != ((a1.length : Nat) : Int)) = true) (bneT h1)<|P0))
theorem cw_eqCombatTable {a0 : Gi_CombatTable} {a1 : Gi_CombatTable} {r : Bool} (H : Dw_eqCombatTable a0 a1 = some r) : Ct X.P X.gl 27 [gi_CombatTable a0, gi_CombatTable a1] [] (RB r) [] :=
 Ct.of func27 (c := bdy f27) (by kernel_rfl) (by kernel_rfl) <|
 eBind H fun r1 hr1 H =>
 gS [r0] (by kernel_rfl) P0 <|
 eIf H (fun h2 H =>
 gS [rg [{ i := 4, call := some { cl := true, auto := true, ins := [], res := (RB r1), G' := [] }, dec := some true }]] (by kernel_rfl) (P1 (cw_eqOddsS hr1)<|P2 (r1 = true) (h2)<|P0) <|
 eIf H (fun h3 H =>
 eBind H fun r4 hr4 H =>
 gS [rg [hF 4]] (by kernel_rfl) (P2 (((a0.Dice : Int) != a1.Dice) = false) (bneF h3)<|P0) <|
 eIf H (fun h5 H =>
 eW RB (fun _ => []) H<|gE func27 [rg [{ i := 4, call := some { cl := true, auto := true, ins := [], res := (RB r4), G' := [] }, dec := some true }], r0] (by kernel_rfl) (P1 (cw_eqIntSS hr4)<|P2 (r4 = true) (h5)<|P0))
 (fun h5 H =>
 eW RB (fun _ => []) H<|gE func27 [rg [{ i := 4, call := some { cl := true, auto := true, ins := [], res := (RB r4), G' := [] }, dec := some false }], r0] (by kernel_rfl) (P1 (cw_eqIntSS hr4)<|P2 (r4 = false) (eqF h5)<|P0)))
 (fun h3 H =>
 eW RB (fun _ => []) H<|gE func27 [rg [hT 4], r0] (by kernel_rfl) (P2 (((a0.Dice : Int) != a1.Dice) = true) (bneT h3)<|P0)))
 (fun h2 H =>
 eW RB (fun _ => []) H<|gE func27 [rg [{ i := 4, call := some { cl := true, auto := true, ins := [], res := (RB r1), G' := [] }, dec := some false }], r0] (by kernel_rfl) (P1 (cw_eqOddsS hr1)<|P2 (r1 = false) (eqF h2)<|P0))
theorem cw_eqUnit {a0 : Gi_Unit} {a1 : Gi_Unit} {r : Bool} (H : Dw_eqUnit a0 a1 = some r) : Ct X.P X.gl 117 [gi_Unit a0, gi_Unit a1] [] (RB r) [] :=
 Ct.of func117 (c := bdy f117) (by kernel_rfl) (by kernel_rfl) <|
 gS [r0] (by kernel_rfl) P0 <|
 eIf H (fun h1 H =>
 gS [rg [hF 4]] (by kernel_rfl) (P2 (((a0.Side : Int) != a1.Side) = false) (bneF h1)<|P0) <|
 eIf H (fun h2 H =>
 gS [rg [hF 4]] (by kernel_rfl) (P2 (((a0.Kind : Int) != a1.Kind) = false) (bneF h2)<|P0) <|
 eIf H (fun h3 H =>
 gS [rg [hF 4]] (by kernel_rfl) (P2 (((a0.At : Int) != a1.At) = false) (bneF h3)<|P0) <|
 eIf H (fun h4 H =>
 eW RB (fun _ => []) H<|gE func117 [rg [hF 4], r0] (by kernel_rfl) (P2 (((a0.Steps : Int) != a1.Steps) = false) (bneF h4)<|P0))
 (fun h4 H =>
 eW RB (fun _ => []) H<|gE func117 [rg [hT 4], r0] (by kernel_rfl) (P2 (((a0.Steps : Int) != a1.Steps) = true) (bneT h4)<|P0)))
 (fun h3 H =>
 eW RB (fun _ => []) H<|gE func117 [rg [hT 4], r0] (by kernel_rfl) (P2 (((a0.At : Int) != a1.At) = true) (bneT h3)<|P0)))
 (fun h2 H =>
 eW RB (fun _ => []) H<|gE func117 [rg [hT 4], r0] (by kernel_rfl) (P2 (((a0.Kind : Int) != a1.Kind) = true) (bneT h2)<|P0)))
 (fun h1 H =>
 eW RB (fun _ => []) H<|gE func117 [rg [hT 4], r0] (by kernel_rfl) (P2 (((a0.Side : Int) != a1.Side) = true) (bneT h1)<|P0))
noncomputable def Kw_eqUnitS : Sw_eqUnitS → List Item
 | .h1 .. => nav 300 3 [false] [.code (bdy f72)]
def Zw_eqUnitS : Sw_eqUnitS → St
 | .h1 va0 b1 i2 => ⟨sts 27 [(0, sl 4 gi_Unit va0), (1, sl 4 gi_Unit b1), (5, I i2)], []⟩
abbrev Qw_eqUnitS := Nx X 72 0 Kw_eqUnitS Zw_eqUnitS RB (fun _ => [])
theorem nw_eqUnitS : ∀ s o, Bw_eqUnitS s = some o → Qw_eqUnitS (Kw_eqUnitS s) (Zw_eqUnitS s) o
 | .h1 va0 b1 i2, o, H =>
  eIf H (fun h1 H =>
  eCk H fun h2 H =>
  eBind H fun x3 hx3 H =>
  eCk H fun h4 H =>
  eBind H fun x5 hx5 H =>
  eBind H fun r6 hr6 H =>
  gN [rg [hT 3]] (by kernel_rfl) (P2 ((decide (i2 < ((va0.length : Nat) : Int))) = true) (decide_eq_true h1)<|P0) <|
  eIf H (fun h7 H =>
  eN H fun r hn => gO [rg [hE 3 (gi_Unit x3), hE 7 (gi_Unit x5), { i := 8, call := some { cl := true, auto := true, ins := [], res := (RB r6), G' := [] }, dec := some true }], r0, .canon [] [0, 1, 5]] (by kernel_rfl) (P1 h2<|P1 (int_lt_of_at h2 hx3)<|P1 (at_map gi_Unit hx3)<|P1 h4<|P1 (int_lt_of_at h4 hx5)<|P1 (at_map gi_Unit hx5)<|P1 (cw_eqUnit hr6)<|P2 (r6 = true) (h7)<|P0) hn)
  (fun h7 H =>
  eN H<|gE func72 [rg [hE 3 (gi_Unit x3), hE 7 (gi_Unit x5), { i := 8, call := some { cl := true, auto := true, ins := [], res := (RB r6), G' := [] }, dec := some false }], r0] (by kernel_rfl) (P1 h2<|P1 (int_lt_of_at h2 hx3)<|P1 (at_map gi_Unit hx3)<|P1 h4<|P1 (int_lt_of_at h4 hx5)<|P1 (at_map gi_Unit hx5)<|P1 (cw_eqUnit hr6)<|P2 (r6 = false) (eqF h7)<|P0)))
  (fun h1 H =>
  eN H<|gE func72 [rg [hF 3], r0] (by kernel_rfl) (P2 ((decide (i2 < ((va0.length : Nat) : Int))) = false) (decide_eq_false h1)<|P0))
theorem ww_eqUnitS : ∀ s r, loop Bw_eqUnitS s = some r → Wc X 72 0 (Kw_eqUnitS s) (Zw_eqUnitS s) (RB r) ((fun _ => []) r) := Nx.all (nw_eqUnitS)
theorem cw_eqUnitS {a0 : (List Gi_Unit)} {a1 : (List Gi_Unit)} {r : Bool} (H : Dw_eqUnitS a0 a1 = some r) : Ct X.P X.gl 72 [sl 4 gi_Unit a0, sl 4 gi_Unit a1] [] (RB r) [] :=
 Ct.of func72 (c := bdy f72) (by kernel_rfl) (by kernel_rfl) <|
 gS [r0] (by kernel_rfl) P0 <|
 eIf H (fun h1 H =>
 gO [rg [hF 4], r0, .canon [] [0, 1, 5]] (by kernel_rfl) (P2 (((((a0.length : Nat) : Int) : Int) != ((a1.length : Nat) : Int)) = false) (bneF h1)<|P0) (ww_eqUnitS _ _ H))
 (fun h1 H =>
 eW RB (fun _ => []) H<|gE func72 [rg [hT 4], r0] (by kernel_rfl) (P2 (((((a0.length : Nat) : Int) : Int) != ((a1.length : Nat) : Int)) = true) (bneT h1)<|P0))
theorem cw_eqState {a0 : Gi_State} {a1 : Gi_State} {r : Bool} (H : Dw_eqState a0 a1 = some r) : Ct X.P X.gl 28 [gi_State a0, gi_State a1] [] (RB r) [] :=
 Ct.of func28 (c := bdy f28) (by kernel_rfl) (by kernel_rfl) <|
 gS [r0] (by kernel_rfl) P0 <|
 eIf H (fun h1 H =>
 gS [rg [hF 4]] (by kernel_rfl) (P2 (((a0.Turn : Int) != a1.Turn) = false) (bneF h1)<|P0) <|
 eIf H (fun h2 H =>
 eBind H fun r3 hr3 H =>
 gS [rg [hF 4]] (by kernel_rfl) (P2 (((a0.Weather : Int) != a1.Weather) = false) (bneF h2)<|P0) <|
 eIf H (fun h4 H =>
 eW RB (fun _ => []) H<|gE func28 [rg [{ i := 4, call := some { cl := true, auto := true, ins := [], res := (RB r3), G' := [] }, dec := some true }], r0] (by kernel_rfl) (P1 (cw_eqUnitS hr3)<|P2 (r3 = true) (h4)<|P0))
 (fun h4 H =>
 eW RB (fun _ => []) H<|gE func28 [rg [{ i := 4, call := some { cl := true, auto := true, ins := [], res := (RB r3), G' := [] }, dec := some false }], r0] (by kernel_rfl) (P1 (cw_eqUnitS hr3)<|P2 (r3 = false) (eqF h4)<|P0)))
 (fun h2 H =>
 eW RB (fun _ => []) H<|gE func28 [rg [hT 4], r0] (by kernel_rfl) (P2 (((a0.Weather : Int) != a1.Weather) = true) (bneT h2)<|P0)))
 (fun h1 H =>
 eW RB (fun _ => []) H<|gE func28 [rg [hT 4], r0] (by kernel_rfl) (P2 (((a0.Turn : Int) != a1.Turn) = true) (bneT h1)<|P0))
theorem cw_eqGoal {a0 : Gi_Goal} {a1 : Gi_Goal} {r : Bool} (H : Dw_eqGoal a0 a1 = some r) : Ct X.P X.gl 118 [gi_Goal a0, gi_Goal a1] [] (RB r) [] :=
 Ct.of func118 (c := bdy f118) (by kernel_rfl) (by kernel_rfl) <|
 gS [r0] (by kernel_rfl) P0 <|
 eIf H (fun h1 H =>
 gS [rg [hF 4]] (by kernel_rfl) (P2 (((a0.At : Int) != a1.At) = false) (bneF h1)<|P0) <|
 eIf H (fun h2 H =>
 eW RB (fun _ => []) H<|gE func118 [rg [hF 4], r0] (by kernel_rfl) (P2 (((a0.Points : Int) != a1.Points) = false) (bneF h2)<|P0))
 (fun h2 H =>
 eW RB (fun _ => []) H<|gE func118 [rg [hT 4], r0] (by kernel_rfl) (P2 (((a0.Points : Int) != a1.Points) = true) (bneT h2)<|P0)))
 (fun h1 H =>
 eW RB (fun _ => []) H<|gE func118 [rg [hT 4], r0] (by kernel_rfl) (P2 (((a0.At : Int) != a1.At) = true) (bneT h1)<|P0))
noncomputable def Kw_eqGoalS : Sw_eqGoalS → List Item
 | .h1 .. => nav 300 3 [false] [.code (bdy f73)]
def Zw_eqGoalS : Sw_eqGoalS → St
 | .h1 va0 b1 i2 => ⟨sts 27 [(0, sl 2 gi_Goal va0), (1, sl 2 gi_Goal b1), (5, I i2)], []⟩
abbrev Qw_eqGoalS := Nx X 73 0 Kw_eqGoalS Zw_eqGoalS RB (fun _ => [])
theorem nw_eqGoalS : ∀ s o, Bw_eqGoalS s = some o → Qw_eqGoalS (Kw_eqGoalS s) (Zw_eqGoalS s) o
 | .h1 va0 b1 i2, o, H =>
  eIf H (fun h1 H =>
  eCk H fun h2 H =>
  eBind H fun x3 hx3 H =>
  eCk H fun h4 H =>
  eBind H fun x5 hx5 H =>
  eBind H fun r6 hr6 H =>
  gN [rg [hT 3]] (by kernel_rfl) (P2 ((decide (i2 < ((va0.length : Nat) : Int))) = true) (decide_eq_true h1)<|P0) <|
  eIf H (fun h7 H =>
  eN H fun r hn => gO [rg [hE 3 (gi_Goal x3), hE 7 (gi_Goal x5), { i := 8, call := some { cl := true, auto := true, ins := [], res := (RB r6), G' := [] }, dec := some true }], r0, .canon [] [0, 1, 5]] (by kernel_rfl) (P1 h2<|P1 (int_lt_of_at h2 hx3)<|P1 (at_map gi_Goal hx3)<|P1 h4<|P1 (int_lt_of_at h4 hx5)<|P1 (at_map gi_Goal hx5)<|P1 (cw_eqGoal hr6)<|P2 (r6 = true) (h7)<|P0) hn)
  (fun h7 H =>
  eN H<|gE func73 [rg [hE 3 (gi_Goal x3), hE 7 (gi_Goal x5), { i := 8, call := some { cl := true, auto := true, ins := [], res := (RB r6), G' := [] }, dec := some false }], r0] (by kernel_rfl) (P1 h2<|P1 (int_lt_of_at h2 hx3)<|P1 (at_map gi_Goal hx3)<|P1 h4<|P1 (int_lt_of_at h4 hx5)<|P1 (at_map gi_Goal hx5)<|P1 (cw_eqGoal hr6)<|P2 (r6 = false) (eqF h7)<|P0)))
  (fun h1 H =>
  eN H<|gE func73 [rg [hF 3], r0] (by kernel_rfl) (P2 ((decide (i2 < ((va0.length : Nat) : Int))) = false) (decide_eq_false h1)<|P0))
theorem ww_eqGoalS : ∀ s r, loop Bw_eqGoalS s = some r → Wc X 73 0 (Kw_eqGoalS s) (Zw_eqGoalS s) (RB r) ((fun _ => []) r) := Nx.all (nw_eqGoalS)
theorem cw_eqGoalS {a0 : (List Gi_Goal)} {a1 : (List Gi_Goal)} {r : Bool} (H : Dw_eqGoalS a0 a1 = some r) : Ct X.P X.gl 73 [sl 2 gi_Goal a0, sl 2 gi_Goal a1] [] (RB r) [] :=
 Ct.of func73 (c := bdy f73) (by kernel_rfl) (by kernel_rfl) <|
 gS [r0] (by kernel_rfl) P0 <|
 eIf H (fun h1 H =>
 gO [rg [hF 4], r0, .canon [] [0, 1, 5]] (by kernel_rfl) (P2 (((((a0.length : Nat) : Int) : Int) != ((a1.length : Nat) : Int)) = false) (bneF h1)<|P0) (ww_eqGoalS _ _ H))
 (fun h1 H =>
 eW RB (fun _ => []) H<|gE func73 [rg [hT 4], r0] (by kernel_rfl) (P2 (((((a0.length : Nat) : Int) : Int) != ((a1.length : Nat) : Int)) = true) (bneT h1)<|P0))
theorem cw_eqConditions {a0 : Gi_Conditions} {a1 : Gi_Conditions} {r : Bool} (H : Dw_eqConditions a0 a1 = some r) : Ct X.P X.gl 29 [gi_Conditions a0, gi_Conditions a1] [] (RB r) [] :=
 Ct.of func29 (c := bdy f29) (by kernel_rfl) (by kernel_rfl) <|
 eBind H fun r1 hr1 H =>
 gS [r0] (by kernel_rfl) P0 <|
 eIf H (fun h2 H =>
 gS [rg [{ i := 4, call := some { cl := true, auto := true, ins := [], res := (RB r1), G' := [] }, dec := some true }]] (by kernel_rfl) (P1 (cw_eqGoalS hr1)<|P2 (r1 = true) (h2)<|P0) <|
 eIf H (fun h3 H =>
 gS [rg [hF 4]] (by kernel_rfl) (P2 (((a0.Step : Int) != a1.Step) = false) (bneF h3)<|P0) <|
 eIf H (fun h4 H =>
 eW RB (fun _ => []) H<|gE func29 [rg [hF 4], r0] (by kernel_rfl) (P2 (((a0.Margin : Int) != a1.Margin) = false) (bneF h4)<|P0))
 (fun h4 H =>
 eW RB (fun _ => []) H<|gE func29 [rg [hT 4], r0] (by kernel_rfl) (P2 (((a0.Margin : Int) != a1.Margin) = true) (bneT h4)<|P0)))
 (fun h3 H =>
 eW RB (fun _ => []) H<|gE func29 [rg [hT 4], r0] (by kernel_rfl) (P2 (((a0.Step : Int) != a1.Step) = true) (bneT h3)<|P0)))
 (fun h2 H =>
 eW RB (fun _ => []) H<|gE func29 [rg [{ i := 4, call := some { cl := true, auto := true, ins := [], res := (RB r1), G' := [] }, dec := some false }], r0] (by kernel_rfl) (P1 (cw_eqGoalS hr1)<|P2 (r1 = false) (eqF h2)<|P0))
theorem cw_eqScenario {a0 : Gi_Scenario} {a1 : Gi_Scenario} {r : Bool} (H : Dw_eqScenario a0 a1 = some r) : Ct X.P X.gl 9 [gi_Scenario a0, gi_Scenario a1] [] (RB r) [] :=
 Ct.of func9 (c := bdy f9) (by kernel_rfl) (by kernel_rfl) <|
 gS [r0] (by kernel_rfl) P0 <|
 eIf H (fun h1 H =>
 eBind H fun r2 hr2 H =>
 gS [rg [hF 4]] (by kernel_rfl) (P2 ((!(a0.Name == a1.Name)) = false) (nbeqF h1)<|P0) <|
 eIf H (fun h3 H =>
 eBind H fun r4 hr4 H =>
 gS [rg [{ i := 4, call := some { cl := true, auto := true, ins := [], res := (RB r2), G' := [] }, dec := some true }]] (by kernel_rfl) (P1 (cw_eqBoard hr2)<|P2 (r2 = true) (h3)<|P0) <|
 eIf H (fun h5 H =>
 eBind H fun r6 hr6 H =>
 gS [rg [{ i := 4, call := some { cl := true, auto := true, ins := [], res := (RB r4), G' := [] }, dec := some true }]] (by kernel_rfl) (P1 (cw_eqCombatTable hr4)<|P2 (r4 = true) (h5)<|P0) <|
 eIf H (fun h7 H =>
 eBind H fun r8 hr8 H =>
 gS [rg [{ i := 4, call := some { cl := true, auto := true, ins := [], res := (RB r6), G' := [] }, dec := some true }]] (by kernel_rfl) (P1 (cw_eqState hr6)<|P2 (r6 = true) (h7)<|P0) <|
 eIf H (fun h9 H =>
 eBind H fun r10 hr10 H =>
 gS [rg [{ i := 4, call := some { cl := true, auto := true, ins := [], res := (RB r8), G' := [] }, dec := some true }]] (by kernel_rfl) (P1 (cw_eqConditions hr8)<|P2 (r8 = true) (h9)<|P0) <|
 eIf H (fun h11 H =>
 eBind H fun r12 hr12 H =>
 gS [rg [{ i := 4, call := some { cl := true, auto := true, ins := [], res := (RB r10), G' := [] }, dec := some true }]] (by kernel_rfl) (P1 (cw_eqIntS hr10)<|P2 (r10 = true) (h11)<|P0) <|
 eIf H (fun h13 H =>
 eW RB (fun _ => []) H<|gE func9 [rg [{ i := 4, call := some { cl := true, auto := true, ins := [], res := (RB r12), G' := [] }, dec := some true }], r0] (by kernel_rfl) (P1 (cw_eqIntS hr12)<|P2 (r12 = true) (h13)<|P0))
 (fun h13 H =>
 eW RB (fun _ => []) H<|gE func9 [rg [{ i := 4, call := some { cl := true, auto := true, ins := [], res := (RB r12), G' := [] }, dec := some false }], r0] (by kernel_rfl) (P1 (cw_eqIntS hr12)<|P2 (r12 = false) (eqF h13)<|P0)))
 (fun h11 H =>
 eW RB (fun _ => []) H<|gE func9 [rg [{ i := 4, call := some { cl := true, auto := true, ins := [], res := (RB r10), G' := [] }, dec := some false }], r0] (by kernel_rfl) (P1 (cw_eqIntS hr10)<|P2 (r10 = false) (eqF h11)<|P0)))
 (fun h9 H =>
 eW RB (fun _ => []) H<|gE func9 [rg [{ i := 4, call := some { cl := true, auto := true, ins := [], res := (RB r8), G' := [] }, dec := some false }], r0] (by kernel_rfl) (P1 (cw_eqConditions hr8)<|P2 (r8 = false) (eqF h9)<|P0)))
 (fun h7 H =>
 eW RB (fun _ => []) H<|gE func9 [rg [{ i := 4, call := some { cl := true, auto := true, ins := [], res := (RB r6), G' := [] }, dec := some false }], r0] (by kernel_rfl) (P1 (cw_eqState hr6)<|P2 (r6 = false) (eqF h7)<|P0)))
 (fun h5 H =>
 eW RB (fun _ => []) H<|gE func9 [rg [{ i := 4, call := some { cl := true, auto := true, ins := [], res := (RB r4), G' := [] }, dec := some false }], r0] (by kernel_rfl) (P1 (cw_eqCombatTable hr4)<|P2 (r4 = false) (eqF h5)<|P0)))
 (fun h3 H =>
 eW RB (fun _ => []) H<|gE func9 [rg [{ i := 4, call := some { cl := true, auto := true, ins := [], res := (RB r2), G' := [] }, dec := some false }], r0] (by kernel_rfl) (P1 (cw_eqBoard hr2)<|P2 (r2 = false) (eqF h3)<|P0)))
 (fun h1 H =>
 eW RB (fun _ => []) H<|gE func9 [rg [hT 4], r0] (by kernel_rfl) (P2 ((!(a0.Name == a1.Name)) = true) (nbeqT h1)<|P0))
theorem cw_FnExactIsFair {a0 : Gw_Scenario} {r : Bool} (H : Dw_FnExactIsFair a0 = some r) : Ct X.P X.gl 4 [gw_Scenario a0] [] (RB r) [] :=
 Ct.of func4 (c := bdy f4) (by kernel_rfl) (by kernel_rfl) <|
 eBind H fun r1 hr1 H =>
 gS [r0, r0, rg [hC 2 true [] (RI r1) []]] (by kernel_rfl) (P1 (cw_szScenario hr1)<|P0) <|
 eIf H (fun h2 H =>
 eW RB (fun _ => []) H<|gE func4 [rg [hT 1], r0] (by kernel_rfl) (P2 ((decide (r1 < 0)) = true) (decide_eq_true h2)<|P0))
 (fun h2 H =>
 eBind H fun r3 hr3 H =>
 eBind H fun r4 hr4 H =>
 eBind H fun r5 hr5 H =>
 eBind H fun r6 hr6 H =>
 gS [rg [hF 1], rg [hC 1 true [] (Rw_toScenario r3) [], { i := 2, call := some { cl := false, ins := [], args := [gi_Scenario r3], res := Rs_IsFair r4, G' := [] } }], rg [hC 1 true [] (Rw_toScenario r5) []], rg [{ i := 1, call := some { cl := false, ins := [], args := [gi_Scenario r5], res := Ri_IsFair r6, G' := [] } }]] (by kernel_rfl) (P2 ((decide (r1 < 0)) = false) (decide_eq_false h2)<|P1 (cw_toScenario hr3)<|PI r3.Name<|PE ero_186 r3.Board.Rules.Terrains<|PL gi_Kind r3.Board.Rules.Kinds<|PI r3.Board.Rules.Stack<|PI r3.Board.Rules.River<|PI r3.Board.Rules.Road<|PI r3.Board.Rules.Supply<|PI r3.Board.Rules.Turns<|PI r3.Board.Map.Width<|PI r3.Board.Map.Height<|PL I r3.Board.Map.Terrain<|PL I r3.Board.Map.Rivers<|PL I r3.Board.Map.Roads<|PL gi_Odds r3.Table.Columns<|PI r3.Table.Dice<|PE ero_26 r3.Table.Results<|PI r3.Start.Turn<|PI r3.Start.Weather<|PL gi_Unit r3.Start.Units<|PL gi_Goal r3.Conditions.Goals<|PI r3.Conditions.Step<|PI r3.Conditions.Margin<|PL I r3.First<|PL I r3.Other<|P1 (cs_IsFair hr4)<|P1 (cw_toScenario hr5)<|PI r5.Name<|PE ero_186 r5.Board.Rules.Terrains<|PL gi_Kind r5.Board.Rules.Kinds<|PI r5.Board.Rules.Stack<|PI r5.Board.Rules.River<|PI r5.Board.Rules.Road<|PI r5.Board.Rules.Supply<|PI r5.Board.Rules.Turns<|PI r5.Board.Map.Width<|PI r5.Board.Map.Height<|PL I r5.Board.Map.Terrain<|PL I r5.Board.Map.Rivers<|PL I r5.Board.Map.Roads<|PL gi_Odds r5.Table.Columns<|PI r5.Table.Dice<|PE ero_26 r5.Table.Results<|PI r5.Start.Turn<|PI r5.Start.Weather<|PL gi_Unit r5.Start.Units<|PL gi_Goal r5.Conditions.Goals<|PI r5.Conditions.Step<|PI r5.Conditions.Margin<|PL I r5.First<|PL I r5.Other<|P1 (ci_IsFair hr6)<|P0) <|
 eIf H (fun h7 H =>
 eW RB (fun _ => []) H<|gE func4 [rg [hT 2], r0] (by kernel_rfl) (P2 ((!(r6.1 == r4.1)) = true) (h7)<|P0))
 (fun h7 H =>
 eIf H (fun h8 H =>
 eW RB (fun _ => []) H<|gE func4 [rg [hF 2, hT 6], r0] (by kernel_rfl) (P2 ((!(r6.1 == r4.1)) = false) (eqF h7)<|P2 ((!(r6.2 == r4.2)) = true) (h8)<|P0))
 (fun h8 H =>
 eBind H fun r9 hr9 H =>
 eBind H fun r10 hr10 H =>
 gS [rg [hF 2, hF 6]] (by kernel_rfl) (P2 ((!(r6.1 == r4.1)) = false) (eqF h7)<|P2 ((!(r6.2 == r4.2)) = false) (eqF h8)<|P0) <|
 eIf H (fun h11 H =>
 eW RB (fun _ => []) H<|gE func4 [rg [hC 2 true [] (Rw_toScenario r9) [], { i := 3, call := some { cl := false, ins := [], args := [gi_Scenario r5, gi_Scenario r9], res := RB r10, G' := [] }, dec := some true }], r0] (by kernel_rfl) (P1 (cw_toScenario hr9)<|PI r5.Name<|PE ero_186 r5.Board.Rules.Terrains<|PL gi_Kind r5.Board.Rules.Kinds<|PI r5.Board.Rules.Stack<|PI r5.Board.Rules.River<|PI r5.Board.Rules.Road<|PI r5.Board.Rules.Supply<|PI r5.Board.Rules.Turns<|PI r5.Board.Map.Width<|PI r5.Board.Map.Height<|PL I r5.Board.Map.Terrain<|PL I r5.Board.Map.Rivers<|PL I r5.Board.Map.Roads<|PL gi_Odds r5.Table.Columns<|PI r5.Table.Dice<|PE ero_26 r5.Table.Results<|PI r5.Start.Turn<|PI r5.Start.Weather<|PL gi_Unit r5.Start.Units<|PL gi_Goal r5.Conditions.Goals<|PI r5.Conditions.Step<|PI r5.Conditions.Margin<|PL I r5.First<|PL I r5.Other<|PI r9.Name<|PE ero_186 r9.Board.Rules.Terrains<|PL gi_Kind r9.Board.Rules.Kinds<|PI r9.Board.Rules.Stack<|PI r9.Board.Rules.River<|PI r9.Board.Rules.Road<|PI r9.Board.Rules.Supply<|PI r9.Board.Rules.Turns<|PI r9.Board.Map.Width<|PI r9.Board.Map.Height<|PL I r9.Board.Map.Terrain<|PL I r9.Board.Map.Rivers<|PL I r9.Board.Map.Roads<|PL gi_Odds r9.Table.Columns<|PI r9.Table.Dice<|PE ero_26 r9.Table.Results<|PI r9.Start.Turn<|PI r9.Start.Weather<|PL gi_Unit r9.Start.Units<|PL gi_Goal r9.Conditions.Goals<|PI r9.Conditions.Step<|PI r9.Conditions.Margin<|PL I r9.First<|PL I r9.Other<|P1 (cw_eqScenario hr10)<|P2 (r10 = true) (h11)<|P0))
 (fun h11 H =>
 eW RB (fun _ => []) H<|gE func4 [rg [hC 2 true [] (Rw_toScenario r9) [], { i := 3, call := some { cl := false, ins := [], args := [gi_Scenario r5, gi_Scenario r9], res := RB r10, G' := [] }, dec := some false }], r0] (by kernel_rfl) (P1 (cw_toScenario hr9)<|PI r5.Name<|PE ero_186 r5.Board.Rules.Terrains<|PL gi_Kind r5.Board.Rules.Kinds<|PI r5.Board.Rules.Stack<|PI r5.Board.Rules.River<|PI r5.Board.Rules.Road<|PI r5.Board.Rules.Supply<|PI r5.Board.Rules.Turns<|PI r5.Board.Map.Width<|PI r5.Board.Map.Height<|PL I r5.Board.Map.Terrain<|PL I r5.Board.Map.Rivers<|PL I r5.Board.Map.Roads<|PL gi_Odds r5.Table.Columns<|PI r5.Table.Dice<|PE ero_26 r5.Table.Results<|PI r5.Start.Turn<|PI r5.Start.Weather<|PL gi_Unit r5.Start.Units<|PL gi_Goal r5.Conditions.Goals<|PI r5.Conditions.Step<|PI r5.Conditions.Margin<|PL I r5.First<|PL I r5.Other<|PI r9.Name<|PE ero_186 r9.Board.Rules.Terrains<|PL gi_Kind r9.Board.Rules.Kinds<|PI r9.Board.Rules.Stack<|PI r9.Board.Rules.River<|PI r9.Board.Rules.Road<|PI r9.Board.Rules.Supply<|PI r9.Board.Rules.Turns<|PI r9.Board.Map.Width<|PI r9.Board.Map.Height<|PL I r9.Board.Map.Terrain<|PL I r9.Board.Map.Rivers<|PL I r9.Board.Map.Roads<|PL gi_Odds r9.Table.Columns<|PI r9.Table.Dice<|PE ero_26 r9.Table.Results<|PI r9.Start.Turn<|PI r9.Start.Weather<|PL gi_Unit r9.Start.Units<|PL gi_Goal r9.Conditions.Goals<|PI r9.Conditions.Step<|PI r9.Conditions.Margin<|PL I r9.First<|PL I r9.Other<|P1 (cw_eqScenario hr10)<|P2 (r10 = false) (eqF h11)<|P0)))))
end Go.Proofs.YtogomlkoocbhcaaGreatDoor.Ab
