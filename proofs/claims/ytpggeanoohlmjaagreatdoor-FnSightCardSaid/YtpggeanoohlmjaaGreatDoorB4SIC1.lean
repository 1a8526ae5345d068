/- Part of the proof of FnSightCard: no condition of its own. -/
import Derived.Test.YtpggeanoohlmjaaGreatDoorB4SIC
set_option linter.unusedVariables false
set_option linter.unusedSimpArgs false
open Go Go.Proofs Go.Proofs.Tryz
namespace Go.Proofs.YtpggeanoohlmjaaGreatDoor.Ab
/-! loop example/g00886/spec hNear -/
def Rs_hNear (r : (List Int)) : List D := [ow 1 I r]
theorem cs_hNear {a0 : Int} {a1 : Int} {r : (List Int)} (H : Ds_hNear a0 a1 = some r) : Ct X.P X.gl 201 [I a0, I a1] [] (Rs_hNear r) [] :=
  Ct.of func201 (c := bdy f201) (by kernel_rfl) (by kernel_rfl) <|
  eCk H fun h1 H =>
  eCk H fun h2 H =>
  gS [r0, r0] (by kernel_rfl) (P2 (¬ (a1 : Int) = 0) h1 <| P0) <|
  eIf H (fun h3 H =>
    gS [rg [hT 3], r0, r0] (by kernel_rfl) (P2 (¬ (a1 : Int) = 0) h2 <| P2 ((decide ((Int.tmod a0 a1) < 0)) = true) (decide_eq_true h3) <| P0) <|
    eIf H (fun h4 H =>
      eW Rs_hNear (fun _ => []) H <| gE func201 [rg [hT 2], r0] (by kernel_rfl) (P2 ((decide ((IntKind.wrap .i64 (2 * (IntKind.wrap .i64 (a0 - (IntKind.wrap .i64 ((IntKind.wrap .i64 ((IntKind.wrap .i64 (Int.tdiv a0 a1)) - 1)) * a1)))))) < a1)) = true) (decide_eq_true h4) <| P0))
    (fun h4 H =>
      gS [rg [hF 2]] (by kernel_rfl) (P2 ((decide ((IntKind.wrap .i64 (2 * (IntKind.wrap .i64 (a0 - (IntKind.wrap .i64 ((IntKind.wrap .i64 ((IntKind.wrap .i64 (Int.tdiv a0 a1)) - 1)) * a1)))))) < a1)) = false) (decide_eq_false h4) <| P0) <|
      eIf H (fun h5 H =>
        eW Rs_hNear (fun _ => []) H <| gE func201 [rg [hT 2], r0] (by kernel_rfl) (P2 ((decide ((IntKind.wrap .i64 (2 * (IntKind.wrap .i64 (a0 - (IntKind.wrap .i64 ((IntKind.wrap .i64 ((IntKind.wrap .i64 (Int.tdiv a0 a1)) - 1)) * a1)))))) > a1)) = true) (decide_eq_true h5) <| P0))
      (fun h5 H =>
        eW Rs_hNear (fun _ => []) H <| gE func201 [rg [hF 2], r0] (by kernel_rfl) (P2 ((decide ((IntKind.wrap .i64 (2 * (IntKind.wrap .i64 (a0 - (IntKind.wrap .i64 ((IntKind.wrap .i64 ((IntKind.wrap .i64 (Int.tdiv a0 a1)) - 1)) * a1)))))) > a1)) = false) (decide_eq_false h5) <| P0))))
  (fun h3 H =>
    gS [rg [hF 3], r0] (by kernel_rfl) (P2 (¬ (a1 : Int) = 0) h2 <| P2 ((decide ((Int.tmod a0 a1) < 0)) = false) (decide_eq_false h3) <| P0) <|
    eIf H (fun h4 H =>
      eW Rs_hNear (fun _ => []) H <| gE func201 [rg [hT 2], r0] (by kernel_rfl) (P2 ((decide ((IntKind.wrap .i64 (2 * (IntKind.wrap .i64 (a0 - (IntKind.wrap .i64 ((IntKind.wrap .i64 (Int.tdiv a0 a1)) * a1)))))) < a1)) = true) (decide_eq_true h4) <| P0))
    (fun h4 H =>
      gS [rg [hF 2]] (by kernel_rfl) (P2 ((decide ((IntKind.wrap .i64 (2 * (IntKind.wrap .i64 (a0 - (IntKind.wrap .i64 ((IntKind.wrap .i64 (Int.tdiv a0 a1)) * a1)))))) < a1)) = false) (decide_eq_false h4) <| P0) <|
      eIf H (fun h5 H =>
        eW Rs_hNear (fun _ => []) H <| gE func201 [rg [hT 2], r0] (by kernel_rfl) (P2 ((decide ((IntKind.wrap .i64 (2 * (IntKind.wrap .i64 (a0 - (IntKind.wrap .i64 ((IntKind.wrap .i64 (Int.tdiv a0 a1)) * a1)))))) > a1)) = true) (decide_eq_true h5) <| P0))
      (fun h5 H =>
        eW Rs_hNear (fun _ => []) H <| gE func201 [rg [hF 2], r0] (by kernel_rfl) (P2 ((decide ((IntKind.wrap .i64 (2 * (IntKind.wrap .i64 (a0 - (IntKind.wrap .i64 ((IntKind.wrap .i64 (Int.tdiv a0 a1)) * a1)))))) > a1)) = false) (decide_eq_false h5) <| P0))))
/-! loop example/g00886/spec hCells -/
def Rs_hCells (r : (List Gi_Hex)) : List D := [ow 2 gi_Hex r]
noncomputable def Ks_hCells : Ss_hCells → List Item
  | .h1 .. => nav 300 5 [true] [.code (bdy f181)]
  | .h2 .. => nav 300 5 [false] [.code (bdy f181)]
def Zs_hCells : Ss_hCells → St
  | .h1 t0 t1 t2 t3 l4 l5 => ⟨sts 96 [(3, I t0), (9, I t1), (11, .ref 0 2 none), (46, .ref 1 1 none), (47, I t2), (48, I t3)], [some ⟨false, false, 2, l4.length, List.map gi_Hex l4⟩, some ⟨false, false, 1, l5.length, List.map I l5⟩]⟩
  | .h2 t0 t1 t2 t3 t4 l5 l6 => ⟨sts 96 [(3, I t0), (9, I t1), (10, I t2), (11, .ref 0 2 none), (64, .ref 1 1 none), (65, I t3), (66, I t4)], [some ⟨false, false, 2, l5.length, List.map gi_Hex l5⟩, some ⟨false, false, 1, l6.length, List.map I l6⟩]⟩
abbrev Qs_hCells := Nx X 181 0 Ks_hCells Zs_hCells Rs_hCells (fun _ => [])
theorem ns_hCells : ∀ s o, Bs_hCells s = some o → Qs_hCells (Ks_hCells s) (Zs_hCells s) o
  | .h1 t0 t1 t2 t3 l4 l5, o, H =>
    eIf H (fun h1 H =>
      eCk H fun h2 H =>
      eBind H fun x3 hx3 H =>
      eCk H fun h4 H =>
      eCk H fun h5 H =>
      eN H fun r hn => gO [rg [hT 0], rg [hE 1 (I x3)], rg [hA 7 ((l4 ++ [(Gi_Hex.mk (IntKind.wrap .i64 (Int.tdiv t1 t0)) x3)]).length) (List.map gi_Hex (l4 ++ [(Gi_Hex.mk (IntKind.wrap .i64 (Int.tdiv t1 t0)) x3)]))], r0, .canon [3, 1] [3, 9, 11, 46, 47, 48]] (by kernel_rfl) (P2 ((decide (t3 < t2)) = true) (decide_eq_true h1) <| P1 h2 <| P1 (int_lt_of_at h2 hx3) <| P1 (at_map I hx3) <| P2 (¬ (t0 : Int) = 0) h4 <| P1 (apL l4 [(Gi_Hex.mk (IntKind.wrap .i64 (Int.tdiv t1 t0)) x3)]) <| P1 (apB h5) <| P1 (apM gi_Hex l4 [(Gi_Hex.mk (IntKind.wrap .i64 (Int.tdiv t1 t0)) x3)]) <| P0) hn)
    (fun h1 H =>
      eN H <| gE func181 [rg [hF 0], r0] (by kernel_rfl) (P2 ((decide (t3 < t2)) = false) (decide_eq_false h1) <| P0))
  | .h2 t0 t1 t2 t3 t4 l5 l6, o, H =>
    eIf H (fun h1 H =>
      eCk H fun h2 H =>
      eBind H fun x3 hx3 H =>
      eCk H fun h4 H =>
      gN [rg [hT 0], rg [hE 1 (I x3)]] (by kernel_rfl) (P2 ((decide (t4 < t3)) = true) (decide_eq_true h1) <| P1 h2 <| P1 (int_lt_of_at h2 hx3) <| P1 (at_map I hx3) <| P0) <|
      eIf H (fun h5 H =>
        eCk H fun h6 H =>
        eCk H fun h7 H =>
        eN H fun r hn => gO [rg [hT 3], rg [hA 7 ((l5 ++ [(Gi_Hex.mk x3 (IntKind.wrap .i64 (Int.tdiv t2 t0)))]).length) (List.map gi_Hex (l5 ++ [(Gi_Hex.mk x3 (IntKind.wrap .i64 (Int.tdiv t2 t0)))]))], r0, .canon [3, 1] [3, 9, 10, 11, 64, 65, 66]] (by kernel_rfl) (P2 (¬ (t0 : Int) = 0) h4 <| P2 ((((Int.tmod t2 t0) : Int) == 0) = true) (beqT h5) <| P2 (¬ (t0 : Int) = 0) h6 <| P1 (apL l5 [(Gi_Hex.mk x3 (IntKind.wrap .i64 (Int.tdiv t2 t0)))]) <| P1 (apB h7) <| P1 (apM gi_Hex l5 [(Gi_Hex.mk x3 (IntKind.wrap .i64 (Int.tdiv t2 t0)))]) <| P0) hn)
      (fun h5 H =>
        eCk H fun h6 H =>
        eCk H fun h7 H =>
        eN H fun r hn => gO [rg [hF 3], rg [hA 11 ((l5 ++ [(Gi_Hex.mk x3 (IntKind.wrap .i64 ((IntKind.wrap .i64 (Int.tdiv (IntKind.wrap .i64 (t1 + t2)) t0)) - x3)))]).length) (List.map gi_Hex (l5 ++ [(Gi_Hex.mk x3 (IntKind.wrap .i64 ((IntKind.wrap .i64 (Int.tdiv (IntKind.wrap .i64 (t1 + t2)) t0)) - x3)))]))], r0, .canon [3, 1] [3, 9, 10, 11, 64, 65, 66]] (by kernel_rfl) (P2 (¬ (t0 : Int) = 0) h4 <| P2 ((((Int.tmod t2 t0) : Int) == 0) = false) (beqF h5) <| P2 (¬ (t0 : Int) = 0) h6 <| P1 (apL l5 [(Gi_Hex.mk x3 (IntKind.wrap .i64 ((IntKind.wrap .i64 (Int.tdiv (IntKind.wrap .i64 (t1 + t2)) t0)) - x3)))]) <| P1 (apB h7) <| P1 (apM gi_Hex l5 [(Gi_Hex.mk x3 (IntKind.wrap .i64 ((IntKind.wrap .i64 (Int.tdiv (IntKind.wrap .i64 (t1 + t2)) t0)) - x3)))]) <| P0) hn))
    (fun h1 H =>
      eN H <| gE func181 [rg [hF 0], r0] (by kernel_rfl) (P2 ((decide (t4 < t3)) = false) (decide_eq_false h1) <| P0))
theorem ws_hCells : ∀ s r, loop Bs_hCells s = some r → Wc X 181 0 (Ks_hCells s) (Zs_hCells s) (Rs_hCells r) ((fun _ => []) r) := Nx.all ns_hCells
theorem cs_hCells {a0 : Gi_Hex} {a1 : Gi_Hex} {a2 : Int} {a3 : Int} {r : (List Gi_Hex)} (H : Ds_hCells a0 a1 a2 a3 = some r) : Ct X.P X.gl 181 [.agg [I a0.Q, I a0.R], .agg [I a1.Q, I a1.R], I a2, I a3] [] (Rs_hCells r) [] :=
  Ct.of func181 (c := bdy f181) (by kernel_rfl) (by kernel_rfl) <|
  eCk H fun h1 H =>
  gS [r0, r0, r0] (by kernel_rfl) P0 <|
  eIf H (fun h2 H =>
    eBind H fun r3 hr3 H =>
    gO [rg [hT 3], rg [hC 2 true [] (Rs_hNear r3) []], .own 11 2, .canon [3, 2] [3, 9, 11, 46, 47, 48]] (by kernel_rfl) (P2 (¬ (a3 : Int) = 0) h1 <| P2 ((((Int.tmod (IntKind.wrap .i64 ((IntKind.wrap .i64 (a0.Q * a3)) + (IntKind.wrap .i64 ((IntKind.wrap .i64 (a1.Q - a0.Q)) * a2)))) a3) : Int) == 0) = true) (beqT h2) <| P1 (cs_hNear hr3) <| P0) (ws_hCells _ _ H))
  (fun h2 H =>
    eBind H fun r3 hr3 H =>
    gO [rg [hF 3], rg [hC 2 true [] (Rs_hNear r3) []], .own 11 2, .canon [3, 2] [3, 9, 10, 11, 64, 65, 66]] (by kernel_rfl) (P2 (¬ (a3 : Int) = 0) h1 <| P2 ((((Int.tmod (IntKind.wrap .i64 ((IntKind.wrap .i64 (a0.Q * a3)) + (IntKind.wrap .i64 ((IntKind.wrap .i64 (a1.Q - a0.Q)) * a2)))) a3) : Int) == 0) = false) (beqF h2) <| P1 (cs_hNear hr3) <| P0) (ws_hCells _ _ H))
/-! loop example/g00886/spec hLine -/
def Rs_hLine (r : (List (List Gi_Hex))) : List D := [ow 1 (ow 2 gi_Hex) r]
noncomputable def Ks_hLine : Ss_hLine → List Item
  | .h1 .. => nav 300 5 [false] [.code (bdy f151)]
def Zs_hLine : Ss_hLine → St
  | .h1 n0 i1 b2 b3 l4 => ⟨sts 30 [(2, .ptr 0 2 0 0), (3, .ptr 1 2 0 0), (5, I n0), (6, .ref 2 1 none), (7, I i1)], [some ⟨false, true, 2, 1, [.agg [I b2.Q, I b2.R]]⟩, some ⟨false, true, 2, 1, [.agg [I b3.Q, I b3.R]]⟩, some ⟨false, false, 1, l4.length, List.map (ow 2 gi_Hex) l4⟩]⟩
abbrev Qs_hLine := Nx X 151 0 Ks_hLine Zs_hLine Rs_hLine (fun _ => [])
theorem ns_hLine : ∀ s o, Bs_hLine s = some o → Qs_hLine (Ks_hLine s) (Zs_hLine s) o
  | .h1 n0 i1 b2 b3 l4, o, H =>
    eIf H (fun h1 H =>
      eBind H fun r2 hr2 H =>
      eCk H fun h3 H =>
      eN H fun r hn => gO [rg [hT 2], rg [hC 5 true [] (Rs_hCells r2) [], { i := 6, post := [.put 4 0 0 3 (List.map (ow 2 gi_Hex) [r2]), .own 4 1] }, hA 7 ((l4 ++ [r2]).length) (List.map (ow 2 gi_Hex) (l4 ++ [r2]))], r0, .canon [0, 1, 5] [2, 3, 5, 6, 7]] (by kernel_rfl) (P2 ((decide (i1 ≤ n0)) = true) (decide_eq_true h1) <| P1 (cs_hCells hr2) <| P2 (getCells [.ref 3 2 none] 0 0 1 = some [.ref 3 2 none]) rfl <| P2 (setCells [.ref 3 2 none] 0 0 [ow 2 gi_Hex r2] = List.map (ow 2 gi_Hex) [r2]) rfl <| P1 (allOw_142 [r2]) <| P2 ((1 : Nat) = 1) rfl <| P1 (apL l4 [r2]) <| P1 (apB h3) <| P1 (apM (ow 2 gi_Hex) l4 [r2]) <| P0) hn)
    (fun h1 H =>
      eN H <| gE func151 [rg [hF 2], r0] (by kernel_rfl) (P2 ((decide (i1 ≤ n0)) = false) (decide_eq_false h1) <| P0))
theorem ws_hLine : ∀ s r, loop Bs_hLine s = some r → Wc X 151 0 (Ks_hLine s) (Zs_hLine s) (Rs_hLine r) ((fun _ => []) r) := Nx.all ns_hLine
theorem cs_hLine {a0 : Gi_Hex} {a1 : Gi_Hex} {r : (List (List Gi_Hex))} (H : Ds_hLine a0 a1 = some r) : Ct X.P X.gl 151 [.agg [I a0.Q, I a0.R], .agg [I a1.Q, I a1.R]] [] (Rs_hLine r) [] :=
  Ct.of func151 (c := bdy f151) (by kernel_rfl) (by kernel_rfl) <|
  eBind H fun r1 hr1 H =>
  gS [r0, rg [hC 2 true [] (RI r1) []]] (by kernel_rfl) (P1 (cs_hDistance hr1) <| P0) <|
  eIf H (fun h2 H =>
    eW Rs_hLine (fun _ => []) H <| gE func151 [rg [hT 1], rg [{ i := 2, post := [.put 3 0 0 2 (List.map (ow 2 gi_Hex) [[a0]]), .own 3 1] }]] (by kernel_rfl) (P2 (((r1 : Int) == 0) = true) (beqT h2) <| P2 (getCells [.ref 2 2 none] 0 0 1 = some [.ref 2 2 none]) rfl <| P2 (setCells [.ref 2 2 none] 0 0 [ow 2 gi_Hex [a0]] = List.map (ow 2 gi_Hex) [[a0]]) rfl <| P1 (allOw_142 [[a0]]) <| P2 ((1 : Nat) = 1) rfl <| P0))
  (fun h2 H =>
    gO [rg [hF 1], r0, r0, .own 6 1, .canon [0, 1, 2] [2, 3, 5, 6, 7]] (by kernel_rfl) (P2 (((r1 : Int) == 0) = false) (beqF h2) <| P0) (ws_hLine _ _ H))
/-! loop example/g00886/spec vCells -/
def Rs_vCells (r : (List (List Int))) : List D := [ow 1 (ow 1 I) r]
noncomputable def Ks_vCells : Ss_vCells → List Item
  | .h1 .. => nav 300 4 [] [.code (bdy f102)]
  | .h2 .. => nav 300 7 [true] [.code (bdy f102)]
  | .h3 .. => nav 300 10 [true, false] [.code (bdy f102)]
def Zs_vCells : Ss_vCells → St
  | .h1 n0 b1 l2 l3 => ⟨sts 51 [(3, .ptr 0 12 0 0), (7, .ref 1 1 none), (8, .ref 2 1 none), (9, I n0)], [some ⟨false, true, 12, 1, [.agg [sl 5 gi_Terrain b1.Rules.Terrains, sl 6 gi_Kind b1.Rules.Kinds, I b1.Rules.Stack, I b1.Rules.River, I b1.Rules.Road, I b1.Rules.Supply, I b1.Rules.Turns, I b1.Map.Width, I b1.Map.Height, sl 1 I b1.Map.Terrain, sl 1 I b1.Map.Rivers, sl 1 I b1.Map.Roads]]⟩, some ⟨false, false, 1, l2.length, List.map (ow 2 gi_Hex) l2⟩, some ⟨false, false, 1, l3.length, List.map (ow 1 I) l3⟩]⟩
  | .h2 n0 t1 t2 t3 b4 l5 l6 l7 => ⟨sts 51 [(3, .ptr 0 12 0 0), (7, .ref 1 1 none), (8, .ref 2 1 none), (9, I n0), (10, .ref 3 1 none), (32, sl 2 gi_Hex t1), (33, I t2), (34, I t3)], [some ⟨false, true, 12, 1, [.agg [sl 5 gi_Terrain b4.Rules.Terrains, sl 6 gi_Kind b4.Rules.Kinds, I b4.Rules.Stack, I b4.Rules.River, I b4.Rules.Road, I b4.Rules.Supply, I b4.Rules.Turns, I b4.Map.Width, I b4.Map.Height, sl 1 I b4.Map.Terrain, sl 1 I b4.Map.Rivers, sl 1 I b4.Map.Roads]]⟩, some ⟨true, false, 1, l5.length, List.map (sl 2 gi_Hex) l5⟩, some ⟨false, false, 1, l6.length, List.map (ow 1 I) l6⟩, some ⟨false, false, 1, l7.length, List.map I l7⟩]⟩
  | .h3 n0 b1 l2 l3 => ⟨sts 51 [(3, .ptr 0 12 0 0), (7, .ref 1 1 none), (8, .ref 2 1 none), (9, I n0)], [some ⟨false, true, 12, 1, [.agg [sl 5 gi_Terrain b1.Rules.Terrains, sl 6 gi_Kind b1.Rules.Kinds, I b1.Rules.Stack, I b1.Rules.River, I b1.Rules.Road, I b1.Rules.Supply, I b1.Rules.Turns, I b1.Map.Width, I b1.Map.Height, sl 1 I b1.Map.Terrain, sl 1 I b1.Map.Rivers, sl 1 I b1.Map.Roads]]⟩, some ⟨true, false, 1, l2.length, List.map (sl 2 gi_Hex) l2⟩, some ⟨false, false, 1, l3.length, List.map (ow 1 I) l3⟩]⟩
abbrev Qs_vCells := Nx X 102 0 Ks_vCells Zs_vCells Rs_vCells (fun _ => [])
theorem ns_vCells : ∀ s o, Bs_vCells s = some o → Qs_vCells (Ks_vCells s) (Zs_vCells s) o
  | .h1 n0 b1 l2 l3, o, H =>
    eIf H (fun h1 H =>
      eCk H fun h2 H =>
      eBind H fun x3 hx3 H =>
      eN H fun r hn => gO [rg [hT 4], r0, .frz 1, .er 1 (List.map (sl 2 gi_Hex) l2), rg [hE 3 ((sl 2 gi_Hex) x3)], .own 10 1, .canon [0, 1, 2, 3] [3, 7, 8, 9, 10, 32, 33, 34]] (by kernel_rfl) (P2 ((decide (n0 < (IntKind.wrap .i64 (((l2.length : Nat) : Int) - 1)))) = true) (decide_eq_true h1) <| P2 (erL (List.map (ow 2 gi_Hex) l2) = erL (List.map (sl 2 gi_Hex) l2)) (erL_map2 ero_142 l2) <| P1 h2 <| P1 (int_lt_of_at h2 hx3) <| P1 (at_map (sl 2 gi_Hex) hx3) <| P0) hn)
    (fun h1 H =>
      eN H <| gE func102 [rg [hF 4], r0] (by kernel_rfl) (P2 ((decide (n0 < (IntKind.wrap .i64 (((l2.length : Nat) : Int) - 1)))) = false) (decide_eq_false h1) <| P0))
  | .h2 n0 t1 t2 t3 b4 l5 l6 l7, o, H =>
    eIf H (fun h1 H =>
      eCk H fun h2 H =>
      eBind H fun x3 hx3 H =>
      eBind H fun r4 hr4 H =>
      eCk H fun h5 H =>
      eN H fun r hn => gO [rg [hT 0], rg [hE 1 (gi_Hex x3)], rg [hC 4 true [] (RI r4) [], hA 6 ((l7 ++ [r4]).length) (List.map I (l7 ++ [r4]))], r0, .canon [0, 1, 2, 6] [3, 7, 8, 9, 10, 32, 33, 34]] (by kernel_rfl) (P2 ((decide (t3 < t2)) = true) (decide_eq_true h1) <| P1 h2 <| P1 (int_lt_of_at h2 hx3) <| P1 (at_map gi_Hex hx3) <| P1 (cs_mIndex hr4) <| P1 (apL l7 [r4]) <| P1 (apB h5) <| P1 (apM I l7 [r4]) <| P0) hn)
    (fun h1 H =>
      eCk H fun h2 H =>
      eN H fun r hn => gO [rg [hF 0], rg [{ i := 2, post := [.put 4 0 0 3 (List.map (ow 1 I) [l7]), .own 4 1] }, hA 3 ((l6 ++ [l7]).length) (List.map (ow 1 I) (l6 ++ [l7]))], r0, .canon [0, 1, 5] [3, 7, 8, 9]] (by kernel_rfl) (P2 ((decide (t3 < t2)) = false) (decide_eq_false h1) <| P2 (getCells [.ref 3 1 none] 0 0 1 = some [.ref 3 1 none]) rfl <| P2 (setCells [.ref 3 1 none] 0 0 [ow 1 I l7] = List.map (ow 1 I) [l7]) rfl <| P1 (allOw_27 [l7]) <| P2 ((1 : Nat) = 1) rfl <| P1 (apL l6 [l7]) <| P1 (apB h2) <| P1 (apM (ow 1 I) l6 [l7]) <| P0) hn)
  | .h3 n0 b1 l2 l3, o, H =>
    eIf H (fun h1 H =>
      eCk H fun h2 H =>
      eBind H fun x3 hx3 H =>
      eN H fun r hn => gO [rg [hT 4], r0, rg [hE 3 ((sl 2 gi_Hex) x3)], .own 10 1, .canon [0, 1, 2, 3] [3, 7, 8, 9, 10, 32, 33, 34]] (by kernel_rfl) (P2 ((decide (n0 < (IntKind.wrap .i64 (((l2.length : Nat) : Int) - 1)))) = true) (decide_eq_true h1) <| P1 h2 <| P1 (int_lt_of_at h2 hx3) <| P1 (at_map (sl 2 gi_Hex) hx3) <| P0) hn)
    (fun h1 H =>
      eN H <| gE func102 [rg [hF 4], r0] (by kernel_rfl) (P2 ((decide (n0 < (IntKind.wrap .i64 (((l2.length : Nat) : Int) - 1)))) = false) (decide_eq_false h1) <| P0))
theorem ws_vCells : ∀ s r, loop Bs_vCells s = some r → Wc X 102 0 (Ks_vCells s) (Zs_vCells s) (Rs_vCells r) ((fun _ => []) r) := Nx.all ns_vCells
theorem cs_vCells {a0 : Gi_Board} {a1 : Int} {a2 : Int} {r : (List (List Int))} (H : Ds_vCells a0 a1 a2 = some r) : Ct X.P X.gl 102 [.agg [sl 5 gi_Terrain a0.Rules.Terrains, sl 6 gi_Kind a0.Rules.Kinds, I a0.Rules.Stack, I a0.Rules.River, I a0.Rules.Road, I a0.Rules.Supply, I a0.Rules.Turns, I a0.Map.Width, I a0.Map.Height, sl 1 I a0.Map.Terrain, sl 1 I a0.Map.Rivers, sl 1 I a0.Map.Roads], I a1, I a2] [] (Rs_vCells r) [] :=
  Ct.of func102 (c := bdy f102) (by kernel_rfl) (by kernel_rfl) <|
  eBind H fun r1 hr1 H =>
  eBind H fun r2 hr2 H =>
  eBind H fun r3 hr3 H =>
  gO [r0, rg [hC 3 true [] (Rs_mHex r1) [], hC 7 true [] (Rs_mHex r2) [], hC 8 true [] (Rs_hLine r3) []], r0, r0, .own 8 1, .canon [0, 1, 2] [3, 7, 8, 9]] (by kernel_rfl) (P1 (cs_mHex hr1) <| P1 (cs_mHex hr2) <| P1 (cs_hLine hr3) <| P0) (ws_vCells _ _ H)
/-! loop example/g00886/spec bTerrain -/
def Rs_bTerrain (r : Gi_Terrain) : List D := [.agg [.str r.Name, sl 1 I r.Cost, I r.Shift, I r.Height, .bool r.Blocks]]
theorem cs_bTerrain {a0 : Gi_Board} {a1 : Int} {r : Gi_Terrain} (H : Ds_bTerrain a0 a1 = some r) : Ct X.P X.gl 192 [.agg [sl 5 gi_Terrain a0.Rules.Terrains, sl 6 gi_Kind a0.Rules.Kinds, I a0.Rules.Stack, I a0.Rules.River, I a0.Rules.Road, I a0.Rules.Supply, I a0.Rules.Turns, I a0.Map.Width, I a0.Map.Height, sl 1 I a0.Map.Terrain, sl 1 I a0.Map.Rivers, sl 1 I a0.Map.Roads], I a1] [] (Rs_bTerrain r) [] :=
  Ct.of func192 (c := bdy f192) (by kernel_rfl) (by kernel_rfl) <|
  eCk H fun h1 H =>
  eBind H fun x2 hx2 H =>
  eCk H fun h3 H =>
  eBind H fun x4 hx4 H =>
  eW Rs_bTerrain (fun _ => []) H <| gE func192 [r0, rg [hE 8 (I x2), hE 10 (gi_Terrain x4)]] (by kernel_rfl) (P1 h1 <| P1 (int_lt_of_at h1 hx2) <| P1 (at_map I hx2) <| P1 h3 <| P1 (int_lt_of_at h3 hx4) <| P1 (at_map gi_Terrain hx4) <| P0)
/-! loop example/g00886/spec vHeight -/
theorem cs_vHeight {a0 : Gi_Board} {a1 : Int} {r : Int} (H : Ds_vHeight a0 a1 = some r) : Ct X.P X.gl 198 [.agg [sl 5 gi_Terrain a0.Rules.Terrains, sl 6 gi_Kind a0.Rules.Kinds, I a0.Rules.Stack, I a0.Rules.River, I a0.Rules.Road, I a0.Rules.Supply, I a0.Rules.Turns, I a0.Map.Width, I a0.Map.Height, sl 1 I a0.Map.Terrain, sl 1 I a0.Map.Rivers, sl 1 I a0.Map.Roads], I a1] [] (RI r) [] :=
  Ct.of func198 (c := bdy f198) (by kernel_rfl) (by kernel_rfl) <|
  eBind H fun r1 hr1 H =>
  gS [r0, rg [hC 2 true [] (Rs_bTerrain r1) []]] (by kernel_rfl) (P1 (cs_bTerrain hr1) <| P0) <|
  eIf H (fun h2 H =>
    eW RI (fun _ => []) H <| gE func198 [rg [hT 1], r0] (by kernel_rfl) (P2 (r1.Blocks = true) (h2) <| P0))
  (fun h2 H =>
    eW RI (fun _ => []) H <| gE func198 [rg [hF 1], r0] (by kernel_rfl) (P2 (r1.Blocks = false) (eqF h2) <| P0))
/-! loop example/g00886/spec vBlocks -/
theorem cs_vBlocks {a0 : Gi_Board} {a1 : Int} {a2 : Int} {a3 : Int} {r : Bool} (H : Ds_vBlocks a0 a1 a2 a3 = some r) : Ct X.P X.gl 178 [.agg [sl 5 gi_Terrain a0.Rules.Terrains, sl 6 gi_Kind a0.Rules.Kinds, I a0.Rules.Stack, I a0.Rules.River, I a0.Rules.Road, I a0.Rules.Supply, I a0.Rules.Turns, I a0.Map.Width, I a0.Map.Height, sl 1 I a0.Map.Terrain, sl 1 I a0.Map.Rivers, sl 1 I a0.Map.Roads], I a1, I a2, I a3] [] (RB r) [] :=
  Ct.of func178 (c := bdy f178) (by kernel_rfl) (by kernel_rfl) <|
  eBind H fun r1 hr1 H =>
  eBind H fun r2 hr2 H =>
  eBind H fun r3 hr3 H =>
  eBind H fun r4 hr4 H =>
  eW RB (fun _ => []) H <| gE func178 [r0, rg [hC 2 true [] (RI r1) [], hC 5 true [] (Rs_bTerrain r2) [], hC 9 true [] (Rs_bTerrain r3) [], hC 11 true [] (RI r4) []]] (by kernel_rfl) (P1 (cs_vHeight hr1) <| P1 (cs_bTerrain hr2) <| P1 (cs_bTerrain hr3) <| P1 (cs_l1Most hr4) <| P0)
/-! loop example/g00886/spec vCount -/
noncomputable def Ks_vCount : Ss_vCount → List Item
  | .h1 .. => nav 300 3 [] [.code (bdy f147)]
def Zs_vCount : Ss_vCount → St
  | .h1 i0 k1 n2 t3 t4 t5 b6 => ⟨sts 27 [(1, I i0), (2, I k1), (4, .ptr 0 12 0 0), (9, I n2), (12, sl 1 I t3), (13, I t4), (14, I t5)], [some ⟨false, true, 12, 1, [.agg [sl 5 gi_Terrain b6.Rules.Terrains, sl 6 gi_Kind b6.Rules.Kinds, I b6.Rules.Stack, I b6.Rules.River, I b6.Rules.Road, I b6.Rules.Supply, I b6.Rules.Turns, I b6.Map.Width, I b6.Map.Height, sl 1 I b6.Map.Terrain, sl 1 I b6.Map.Rivers, sl 1 I b6.Map.Roads]]⟩]⟩
abbrev Qs_vCount := Nx X 147 0 Ks_vCount Zs_vCount RI (fun _ => [])
theorem ns_vCount : ∀ s o, Bs_vCount s = some o → Qs_vCount (Ks_vCount s) (Zs_vCount s) o
  | .h1 i0 k1 n2 t3 t4 t5 b6, o, H =>
    eIf H (fun h1 H =>
      eCk H fun h2 H =>
      eBind H fun x3 hx3 H =>
      eBind H fun r4 hr4 H =>
      gN [rg [hT 0], rg [hE 1 (I x3)]] (by kernel_rfl) (P2 ((decide (t5 < t4)) = true) (decide_eq_true h1) <| P1 h2 <| P1 (int_lt_of_at h2 hx3) <| P1 (at_map I hx3) <| P0) <|
      eIf H (fun h5 H =>
        eN H fun r hn => gO [rg [{ i := 4, call := some { cl := true, auto := true, ins := [], res := (RB r4), G' := [] }, dec := some true }], r0, r0, .canon [0] [1, 2, 4, 9, 12, 13, 14]] (by kernel_rfl) (P1 (cs_vBlocks hr4) <| P2 (r4 = true) (h5) <| P0) hn)
      (fun h5 H =>
        eN H fun r hn => gO [rg [{ i := 4, call := some { cl := true, auto := true, ins := [], res := (RB r4), G' := [] }, dec := some false }], r0, .canon [0] [1, 2, 4, 9, 12, 13, 14]] (by kernel_rfl) (P1 (cs_vBlocks hr4) <| P2 (r4 = false) (eqF h5) <| P0) hn))
    (fun h1 H =>
      eN H <| gE func147 [rg [hF 0], r0] (by kernel_rfl) (P2 ((decide (t5 < t4)) = false) (decide_eq_false h1) <| P0))
theorem ws_vCount : ∀ s r, loop Bs_vCount s = some r → Wc X 147 0 (Ks_vCount s) (Zs_vCount s) (RI r) ((fun _ => []) r) := Nx.all ns_vCount
theorem cs_vCount {a0 : Gi_Board} {a1 : Int} {a2 : Int} {a3 : (List Int)} {r : Int} (H : Ds_vCount a0 a1 a2 a3 = some r) : Ct X.P X.gl 147 [.agg [sl 5 gi_Terrain a0.Rules.Terrains, sl 6 gi_Kind a0.Rules.Kinds, I a0.Rules.Stack, I a0.Rules.River, I a0.Rules.Road, I a0.Rules.Supply, I a0.Rules.Turns, I a0.Map.Width, I a0.Map.Height, sl 1 I a0.Map.Terrain, sl 1 I a0.Map.Rivers, sl 1 I a0.Map.Roads], I a1, I a2, sl 1 I a3] [] (RI r) [] :=
  Ct.of func147 (c := bdy f147) (by kernel_rfl) (by kernel_rfl) <|
  gO [r0, r0, r0, .canon [0] [1, 2, 4, 9, 12, 13, 14]] (by kernel_rfl) P0 (ws_vCount _ _ H)
/-! loop example/g00886/spec vFirst -/
noncomputable def Ks_vFirst : Ss_vFirst → List Item
  | .h1 .. => nav 300 2 [] [.code (bdy f103)]
  | .h2 .. => nav 300 6 [true, false] [.code (bdy f103)]
def Zs_vFirst : Ss_vFirst → St
  | .h1 i0 k1 t2 t3 b4 l5 => ⟨sts 29 [(1, I i0), (2, I k1), (3, .ptr 0 12 0 0), (12, .ref 1 1 none), (13, I t2), (14, I t3)], [some ⟨false, true, 12, 1, [.agg [sl 5 gi_Terrain b4.Rules.Terrains, sl 6 gi_Kind b4.Rules.Kinds, I b4.Rules.Stack, I b4.Rules.River, I b4.Rules.Road, I b4.Rules.Supply, I b4.Rules.Turns, I b4.Map.Width, I b4.Map.Height, sl 1 I b4.Map.Terrain, sl 1 I b4.Map.Rivers, sl 1 I b4.Map.Roads]]⟩, some ⟨false, false, 1, l5.length, List.map (ow 1 I) l5⟩]⟩
  | .h2 i0 k1 t2 t3 b4 l5 => ⟨sts 29 [(1, I i0), (2, I k1), (3, .ptr 0 12 0 0), (12, .ref 1 1 none), (13, I t2), (14, I t3)], [some ⟨false, true, 12, 1, [.agg [sl 5 gi_Terrain b4.Rules.Terrains, sl 6 gi_Kind b4.Rules.Kinds, I b4.Rules.Stack, I b4.Rules.River, I b4.Rules.Road, I b4.Rules.Supply, I b4.Rules.Turns, I b4.Map.Width, I b4.Map.Height, sl 1 I b4.Map.Terrain, sl 1 I b4.Map.Rivers, sl 1 I b4.Map.Roads]]⟩, some ⟨true, false, 1, l5.length, List.map (sl 1 I) l5⟩]⟩
abbrev Qs_vFirst := Nx X 103 0 Ks_vFirst Zs_vFirst RI (fun _ => [])
theorem ns_vFirst : ∀ s o, Bs_vFirst s = some o → Qs_vFirst (Ks_vFirst s) (Zs_vFirst s) o
  | .h1 i0 k1 t2 t3 b4 l5, o, H =>
    eIf H (fun h1 H =>
      eCk H fun h2 H =>
      eBind H fun x3 hx3 H =>
      eBind H fun r4 hr4 H =>
      gN [rg [hT 0], .frz 1, .er 1 (List.map (sl 1 I) l5), rg [hE 2 ((sl 1 I) x3)]] (by kernel_rfl) (P2 ((decide (t3 < t2)) = true) (decide_eq_true h1) <| P2 (erL (List.map (ow 1 I) l5) = erL (List.map (sl 1 I) l5)) (erL_map2 ero_27 l5) <| P1 h2 <| P1 (int_lt_of_at h2 hx3) <| P1 (at_map (sl 1 I) hx3) <| P0) <|
      eIf H (fun h5 H =>
        eN H <| gE func103 [rg [hC 4 true [] (RI r4) [], hT 7], r0] (by kernel_rfl) (P1 (cs_vCount hr4) <| P2 (((r4 : Int) == ((x3.length : Nat) : Int)) = true) (beqT h5) <| P0))
      (fun h5 H =>
        eN H fun r hn => gO [rg [hC 4 true [] (RI r4) [], hF 7], r0, .canon [0, 1] [1, 2, 3, 12, 13, 14]] (by kernel_rfl) (P1 (cs_vCount hr4) <| P2 (((r4 : Int) == ((x3.length : Nat) : Int)) = false) (beqF h5) <| P0) hn))
    (fun h1 H =>
      eN H <| gE func103 [rg [hF 0], r0] (by kernel_rfl) (P2 ((decide (t3 < t2)) = false) (decide_eq_false h1) <| P0))
  | .h2 i0 k1 t2 t3 b4 l5, o, H =>
    eIf H (fun h1 H =>
      eCk H fun h2 H =>
      eBind H fun x3 hx3 H =>
      eBind H fun r4 hr4 H =>
      gN [rg [hT 0], rg [hE 2 ((sl 1 I) x3)]] (by kernel_rfl) (P2 ((decide (t3 < t2)) = true) (decide_eq_true h1) <| P1 h2 <| P1 (int_lt_of_at h2 hx3) <| P1 (at_map (sl 1 I) hx3) <| P0) <|
      eIf H (fun h5 H =>
        eN H <| gE func103 [rg [hC 4 true [] (RI r4) [], hT 7], r0] (by kernel_rfl) (P1 (cs_vCount hr4) <| P2 (((r4 : Int) == ((x3.length : Nat) : Int)) = true) (beqT h5) <| P0))
      (fun h5 H =>
        eN H fun r hn => gO [rg [hC 4 true [] (RI r4) [], hF 7], r0, .canon [0, 1] [1, 2, 3, 12, 13, 14]] (by kernel_rfl) (P1 (cs_vCount hr4) <| P2 (((r4 : Int) == ((x3.length : Nat) : Int)) = false) (beqF h5) <| P0) hn))
    (fun h1 H =>
      eN H <| gE func103 [rg [hF 0], r0] (by kernel_rfl) (P2 ((decide (t3 < t2)) = false) (decide_eq_false h1) <| P0))
theorem ws_vFirst : ∀ s r, loop Bs_vFirst s = some r → Wc X 103 0 (Ks_vFirst s) (Zs_vFirst s) (RI r) ((fun _ => []) r) := Nx.all ns_vFirst
theorem cs_vFirst {a0 : Gi_Board} {a1 : Int} {a2 : Int} {r : Int} (H : Ds_vFirst a0 a1 a2 = some r) : Ct X.P X.gl 103 [.agg [sl 5 gi_Terrain a0.Rules.Terrains, sl 6 gi_Kind a0.Rules.Kinds, I a0.Rules.Stack, I a0.Rules.River, I a0.Rules.Road, I a0.Rules.Supply, I a0.Rules.Turns, I a0.Map.Width, I a0.Map.Height, sl 1 I a0.Map.Terrain, sl 1 I a0.Map.Rivers, sl 1 I a0.Map.Roads], I a1, I a2] [] (RI r) [] :=
  Ct.of func103 (c := bdy f103) (by kernel_rfl) (by kernel_rfl) <|
  eBind H fun r1 hr1 H =>
  gO [r0, rg [hC 3 true [] (Rs_vCells r1) []], .canon [0, 1] [1, 2, 3, 12, 13, 14]] (by kernel_rfl) (P1 (cs_vCells hr1) <| P0) (ws_vFirst _ _ H)
/-! loop example/g00886/spec vCode -/
noncomputable def Ks_vCode : Ss_vCode → List Item
  | .h1 .. => nav 300 3 [false] [.code (bdy f100)]
  | .h2 .. => nav 300 7 [false, true, false] [.code (bdy f100)]
def Zs_vCode : Ss_vCode → St
  | .h1 i0 k1 t2 t3 b4 l5 => ⟨sts 30 [(1, I i0), (2, I k1), (3, .ptr 0 12 0 0), (17, .ref 1 1 none), (18, I t2), (19, I t3)], [some ⟨false, true, 12, 1, [.agg [sl 5 gi_Terrain b4.Rules.Terrains, sl 6 gi_Kind b4.Rules.Kinds, I b4.Rules.Stack, I b4.Rules.River, I b4.Rules.Road, I b4.Rules.Supply, I b4.Rules.Turns, I b4.Map.Width, I b4.Map.Height, sl 1 I b4.Map.Terrain, sl 1 I b4.Map.Rivers, sl 1 I b4.Map.Roads]]⟩, some ⟨false, false, 1, l5.length, List.map (ow 1 I) l5⟩]⟩
  | .h2 i0 k1 t2 t3 b4 l5 => ⟨sts 30 [(1, I i0), (2, I k1), (3, .ptr 0 12 0 0), (17, .ref 1 1 none), (18, I t2), (19, I t3)], [some ⟨false, true, 12, 1, [.agg [sl 5 gi_Terrain b4.Rules.Terrains, sl 6 gi_Kind b4.Rules.Kinds, I b4.Rules.Stack, I b4.Rules.River, I b4.Rules.Road, I b4.Rules.Supply, I b4.Rules.Turns, I b4.Map.Width, I b4.Map.Height, sl 1 I b4.Map.Terrain, sl 1 I b4.Map.Rivers, sl 1 I b4.Map.Roads]]⟩, some ⟨true, false, 1, l5.length, List.map (sl 1 I) l5⟩]⟩
abbrev Qs_vCode := Nx X 100 0 Ks_vCode Zs_vCode RI (fun _ => [])
theorem ns_vCode : ∀ s o, Bs_vCode s = some o → Qs_vCode (Ks_vCode s) (Zs_vCode s) o
  | .h1 i0 k1 t2 t3 b4 l5, o, H =>
    eIf H (fun h1 H =>
      eCk H fun h2 H =>
      eBind H fun x3 hx3 H =>
      eBind H fun r4 hr4 H =>
      gN [rg [hT 0], .frz 1, .er 1 (List.map (sl 1 I) l5), rg [hE 1 ((sl 1 I) x3)]] (by kernel_rfl) (P2 ((decide (t3 < t2)) = true) (decide_eq_true h1) <| P2 (erL (List.map (ow 1 I) l5) = erL (List.map (sl 1 I) l5)) (erL_map2 ero_27 l5) <| P1 h2 <| P1 (int_lt_of_at h2 hx3) <| P1 (at_map (sl 1 I) hx3) <| P0) <|
      eIf H (fun h5 H =>
        eN H <| gE func100 [rg [hC 4 true [] (RI r4) [], hT 5], r0] (by kernel_rfl) (P1 (cs_vCount hr4) <| P2 ((decide (r4 > 0)) = true) (decide_eq_true h5) <| P0))
      (fun h5 H =>
        eN H fun r hn => gO [rg [hC 4 true [] (RI r4) [], hF 5], r0, .canon [0, 1] [1, 2, 3, 17, 18, 19]] (by kernel_rfl) (P1 (cs_vCount hr4) <| P2 ((decide (r4 > 0)) = false) (decide_eq_false h5) <| P0) hn))
    (fun h1 H =>
      eN H <| gE func100 [rg [hF 0], r0] (by kernel_rfl) (P2 ((decide (t3 < t2)) = false) (decide_eq_false h1) <| P0))
  | .h2 i0 k1 t2 t3 b4 l5, o, H =>
    eIf H (fun h1 H =>
      eCk H fun h2 H =>
      eBind H fun x3 hx3 H =>
      eBind H fun r4 hr4 H =>
      gN [rg [hT 0], rg [hE 1 ((sl 1 I) x3)]] (by kernel_rfl) (P2 ((decide (t3 < t2)) = true) (decide_eq_true h1) <| P1 h2 <| P1 (int_lt_of_at h2 hx3) <| P1 (at_map (sl 1 I) hx3) <| P0) <|
      eIf H (fun h5 H =>
        eN H <| gE func100 [rg [hC 4 true [] (RI r4) [], hT 5], r0] (by kernel_rfl) (P1 (cs_vCount hr4) <| P2 ((decide (r4 > 0)) = true) (decide_eq_true h5) <| P0))
      (fun h5 H =>
        eN H fun r hn => gO [rg [hC 4 true [] (RI r4) [], hF 5], r0, .canon [0, 1] [1, 2, 3, 17, 18, 19]] (by kernel_rfl) (P1 (cs_vCount hr4) <| P2 ((decide (r4 > 0)) = false) (decide_eq_false h5) <| P0) hn))
    (fun h1 H =>
      eN H <| gE func100 [rg [hF 0], r0] (by kernel_rfl) (P2 ((decide (t3 < t2)) = false) (decide_eq_false h1) <| P0))
theorem ws_vCode : ∀ s r, loop Bs_vCode s = some r → Wc X 100 0 (Ks_vCode s) (Zs_vCode s) (RI r) ((fun _ => []) r) := Nx.all ns_vCode
theorem cs_vCode {a0 : Gi_Board} {a1 : Int} {a2 : Int} {r : Int} (H : Ds_vCode a0 a1 a2 = some r) : Ct X.P X.gl 100 [.agg [sl 5 gi_Terrain a0.Rules.Terrains, sl 6 gi_Kind a0.Rules.Kinds, I a0.Rules.Stack, I a0.Rules.River, I a0.Rules.Road, I a0.Rules.Supply, I a0.Rules.Turns, I a0.Map.Width, I a0.Map.Height, sl 1 I a0.Map.Terrain, sl 1 I a0.Map.Rivers, sl 1 I a0.Map.Roads], I a1, I a2] [] (RI r) [] :=
  Ct.of func100 (c := bdy f100) (by kernel_rfl) (by kernel_rfl) <|
  eBind H fun r1 hr1 H =>
  gS [r0] (by kernel_rfl) P0 <|
  eIf H (fun h2 H =>
    eW RI (fun _ => []) H <| gE func100 [rg [hC 3 true [] (RI r1) [], hT 4], r0] (by kernel_rfl) (P1 (cs_vFirst hr1) <| P2 ((decide (r1 ≥ 0)) = true) (decide_eq_true h2) <| P0))
  (fun h2 H =>
    eBind H fun r3 hr3 H =>
    gO [rg [hC 3 true [] (RI r1) [], hF 4], rg [hC 3 true [] (Rs_vCells r3) []], .canon [0, 1] [1, 2, 3, 17, 18, 19]] (by kernel_rfl) (P1 (cs_vFirst hr1) <| P2 ((decide (r1 ≥ 0)) = false) (decide_eq_false h2) <| P1 (cs_vCells hr3) <| P0) (ws_vCode _ _ H))
/-! loop example/g00886/spec SightCode -/
def Rs_SightCode (r : Int × Bool) : List D := [I r.1, .bool r.2]
theorem cs_SightCode {a0 : Gi_Board} {a1 : Int} {a2 : Int} {r : Int × Bool} (H : Ds_SightCode a0 a1 a2 = some r) : Ct X.P X.gl 31 [.agg [sl 5 gi_Terrain a0.Rules.Terrains, sl 6 gi_Kind a0.Rules.Kinds, I a0.Rules.Stack, I a0.Rules.River, I a0.Rules.Road, I a0.Rules.Supply, I a0.Rules.Turns, I a0.Map.Width, I a0.Map.Height, sl 1 I a0.Map.Terrain, sl 1 I a0.Map.Rivers, sl 1 I a0.Map.Roads], I a1, I a2] [] (Rs_SightCode r) [] :=
  Ct.of func31 (c := bdy f31) (by kernel_rfl) (by kernel_rfl) <|
  eBind H fun r1 hr1 H =>
  gS [r0] (by kernel_rfl) P0 <|
  eIf H (fun h2 H =>
    eBind H fun r3 hr3 H =>
    eW Rs_SightCode (fun _ => []) H <| gE func31 [rg [{ i := 3, call := some { cl := true, auto := true, ins := [], res := (RB r1), G' := [] }, dec := some true }], rg [hC 3 true [] (RI r3) []]] (by kernel_rfl) (P1 (cs_vPair hr1) <| P2 (r1 = true) (h2) <| P1 (cs_vCode hr3) <| P0))
  (fun h2 H =>
    eW Rs_SightCode (fun _ => []) H <| gE func31 [rg [{ i := 3, call := some { cl := true, auto := true, ins := [], res := (RB r1), G' := [] }, dec := some false }], r0] (by kernel_rfl) (P1 (cs_vPair hr1) <| P2 (r1 = false) (eqF h2) <| P0))
/-! loop example/g00886/impl SightCells -/
def Ri_SightCells (r : (List (List Int)) × Bool) : List D := [ow 1 (ow 1 I) r.1, .bool r.2]
theorem ci_SightCells {a0 : Gi_Board} {a1 : Int} {a2 : Int} {r : (List (List Int)) × Bool} (H : Di_SightCells a0 a1 a2 = some r) : Ct X.P X.gl 32 [.agg [sl 5 gi_Terrain a0.Rules.Terrains, sl 6 gi_Kind a0.Rules.Kinds, I a0.Rules.Stack, I a0.Rules.River, I a0.Rules.Road, I a0.Rules.Supply, I a0.Rules.Turns, I a0.Map.Width, I a0.Map.Height, sl 1 I a0.Map.Terrain, sl 1 I a0.Map.Rivers, sl 1 I a0.Map.Roads], I a1, I a2] [] (Ri_SightCells r) [] :=
  Ct.of func32 (c := bdy f32) (by kernel_rfl) (by kernel_rfl) <|
  eBind H fun r1 hr1 H =>
  gS [r0] (by kernel_rfl) P0 <|
  eIf H (fun h2 H =>
    eBind H fun r3 hr3 H =>
    eW Ri_SightCells (fun _ => []) H <| gE func32 [rg [{ i := 3, call := some { cl := true, auto := true, ins := [], res := (RB r1), G' := [] }, dec := some true }], rg [hC 3 true [] (Ri_sightCells r3) []]] (by kernel_rfl) (P1 (ci_isPair hr1) <| P2 (r1 = true) (h2) <| P1 (ci_sightCells hr3) <| P0))
  (fun h2 H =>
    eW Ri_SightCells (fun _ => []) H <| gE func32 [rg [{ i := 3, call := some { cl := true, auto := true, ins := [], res := (RB r1), G' := [] }, dec := some false }], r0] (by kernel_rfl) (P1 (ci_isPair hr1) <| P2 (r1 = false) (eqF h2) <| P0))
/-! loop example/g00886/spec SightCells -/
def Rs_SightCells (r : (List (List Int)) × Bool) : List D := [ow 1 (ow 1 I) r.1, .bool r.2]
theorem cs_SightCells {a0 : Gi_Board} {a1 : Int} {a2 : Int} {r : (List (List Int)) × Bool} (H : Ds_SightCells a0 a1 a2 = some r) : Ct X.P X.gl 33 [.agg [sl 5 gi_Terrain a0.Rules.Terrains, sl 6 gi_Kind a0.Rules.Kinds, I a0.Rules.Stack, I a0.Rules.River, I a0.Rules.Road, I a0.Rules.Supply, I a0.Rules.Turns, I a0.Map.Width, I a0.Map.Height, sl 1 I a0.Map.Terrain, sl 1 I a0.Map.Rivers, sl 1 I a0.Map.Roads], I a1, I a2] [] (Rs_SightCells r) [] :=
  Ct.of func33 (c := bdy f33) (by kernel_rfl) (by kernel_rfl) <|
  eBind H fun r1 hr1 H =>
  gS [r0] (by kernel_rfl) P0 <|
  eIf H (fun h2 H =>
    eBind H fun r3 hr3 H =>
    eW Rs_SightCells (fun _ => []) H <| gE func33 [rg [{ i := 3, call := some { cl := true, auto := true, ins := [], res := (RB r1), G' := [] }, dec := some true }], rg [hC 3 true [] (Rs_vCells r3) []]] (by kernel_rfl) (P1 (cs_vPair hr1) <| P2 (r1 = true) (h2) <| P1 (cs_vCells hr3) <| P0))
  (fun h2 H =>
    eW Rs_SightCells (fun _ => []) H <| gE func33 [rg [{ i := 3, call := some { cl := true, auto := true, ins := [], res := (RB r1), G' := [] }, dec := some false }], r0] (by kernel_rfl) (P1 (cs_vPair hr1) <| P2 (r1 = false) (eqF h2) <| P0))
/-! loop example/g00886/impl FirstBlock -/
def Ri_FirstBlock (r : Int × Bool) : List D := [I r.1, .bool r.2]
theorem ci_FirstBlock {a0 : Gi_Board} {a1 : Int} {a2 : Int} {r : Int × Bool} (H : Di_FirstBlock a0 a1 a2 = some r) : Ct X.P X.gl 34 [.agg [sl 5 gi_Terrain a0.Rules.Terrains, sl 6 gi_Kind a0.Rules.Kinds, I a0.Rules.Stack, I a0.Rules.River, I a0.Rules.Road, I a0.Rules.Supply, I a0.Rules.Turns, I a0.Map.Width, I a0.Map.Height, sl 1 I a0.Map.Terrain, sl 1 I a0.Map.Rivers, sl 1 I a0.Map.Roads], I a1, I a2] [] (Ri_FirstBlock r) [] :=
  Ct.of func34 (c := bdy f34) (by kernel_rfl) (by kernel_rfl) <|
  eBind H fun r1 hr1 H =>
  gS [r0] (by kernel_rfl) P0 <|
  eIf H (fun h2 H =>
    eBind H fun r3 hr3 H =>
    gS [rg [{ i := 3, call := some { cl := true, auto := true, ins := [], res := (RB r1), G' := [] }, dec := some true }], rg [hC 3 true [] (Ri_sightOf r3) []]] (by kernel_rfl) (P1 (ci_isPair hr1) <| P2 (r1 = true) (h2) <| P1 (ci_sightOf hr3) <| P0) <|
    eIf H (fun h4 H =>
      eW Ri_FirstBlock (fun _ => []) H <| gE func34 [rg [hT 1], r0] (by kernel_rfl) (P2 ((decide (r3.2 < 0)) = true) (decide_eq_true h4) <| P0))
    (fun h4 H =>
      eW Ri_FirstBlock (fun _ => []) H <| gE func34 [rg [hF 1], r0] (by kernel_rfl) (P2 ((decide (r3.2 < 0)) = false) (decide_eq_false h4) <| P0)))
  (fun h2 H =>
    eW Ri_FirstBlock (fun _ => []) H <| gE func34 [rg [{ i := 3, call := some { cl := true, auto := true, ins := [], res := (RB r1), G' := [] }, dec := some false }], r0] (by kernel_rfl) (P1 (ci_isPair hr1) <| P2 (r1 = false) (eqF h2) <| P0))
/-! loop example/g00886/spec FirstBlock -/
def Rs_FirstBlock (r : Int × Bool) : List D := [I r.1, .bool r.2]
theorem cs_FirstBlock {a0 : Gi_Board} {a1 : Int} {a2 : Int} {r : Int × Bool} (H : Ds_FirstBlock a0 a1 a2 = some r) : Ct X.P X.gl 35 [.agg [sl 5 gi_Terrain a0.Rules.Terrains, sl 6 gi_Kind a0.Rules.Kinds, I a0.Rules.Stack, I a0.Rules.River, I a0.Rules.Road, I a0.Rules.Supply, I a0.Rules.Turns, I a0.Map.Width, I a0.Map.Height, sl 1 I a0.Map.Terrain, sl 1 I a0.Map.Rivers, sl 1 I a0.Map.Roads], I a1, I a2] [] (Rs_FirstBlock r) [] :=
  Ct.of func35 (c := bdy f35) (by kernel_rfl) (by kernel_rfl) <|
  eBind H fun r1 hr1 H =>
  gS [r0] (by kernel_rfl) P0 <|
  eIf H (fun h2 H =>
    eBind H fun r3 hr3 H =>
    eIf H (fun h4 H =>
      eW Rs_FirstBlock (fun _ => []) H <| gE func35 [rg [{ i := 3, call := some { cl := true, auto := true, ins := [], res := (RB r1), G' := [] }, dec := some true }, hC 9 true [] (RI r3) [], hT 10], r0] (by kernel_rfl) (P1 (cs_vPair hr1) <| P2 (r1 = true) (h2) <| P1 (cs_vFirst hr3) <| P2 ((decide (r3 < 0)) = true) (decide_eq_true h4) <| P0))
    (fun h4 H =>
      eBind H fun r5 hr5 H =>
      eW Rs_FirstBlock (fun _ => []) H <| gE func35 [rg [{ i := 3, call := some { cl := true, auto := true, ins := [], res := (RB r1), G' := [] }, dec := some true }, hC 9 true [] (RI r3) [], hF 10], rg [hC 3 true [] (RI r5) []]] (by kernel_rfl) (P1 (cs_vPair hr1) <| P2 (r1 = true) (h2) <| P1 (cs_vFirst hr3) <| P2 ((decide (r3 < 0)) = false) (decide_eq_false h4) <| P1 (cs_vFirst hr5) <| P0)))
  (fun h2 H =>
    eW Rs_FirstBlock (fun _ => []) H <| gE func35 [rg [{ i := 3, call := some { cl := true, auto := true, ins := [], res := (RB r1), G' := [] }, dec := some false }], r0] (by kernel_rfl) (P1 (cs_vPair hr1) <| P2 (r1 = false) (eqF h2) <| P0))
/-! loop example/g00886/laws sameInts -/
noncomputable def Kw_sameInts : Sw_sameInts → List Item
  | .h1 .. => nav 300 3 [false] [.code (bdy f42)]
def Zw_sameInts : Sw_sameInts → St
  | .h1 va0 b1 t2 t3 => ⟨sts 26 [(0, sl 1 I va0), (1, sl 1 I b1), (12, I t2), (13, I t3)], []⟩
abbrev Qw_sameInts := Nx X 42 0 Kw_sameInts Zw_sameInts RB (fun _ => [])
theorem nw_sameInts : ∀ s o, Bw_sameInts s = some o → Qw_sameInts (Kw_sameInts s) (Zw_sameInts s) o
  | .h1 va0 b1 t2 t3, o, H =>
    eIf H (fun h1 H =>
      eCk H fun h2 H =>
      eBind H fun x3 hx3 H =>
      eCk H fun h4 H =>
      eBind H fun x5 hx5 H =>
      gN [rg [hT 0], r0] (by kernel_rfl) (P2 ((decide (t3 < t2)) = true) (decide_eq_true h1) <| P0) <|
      eIf H (fun h6 H =>
        eN H fun r hn => gO [rg [hE 3 (I x3), hE 7 (I x5), hF 8], r0, .canon [] [0, 1, 12, 13]] (by kernel_rfl) (P1 h2 <| P1 (int_lt_of_at h2 hx3) <| P1 (at_map I hx3) <| P1 h4 <| P1 (int_lt_of_at h4 hx5) <| P1 (at_map I hx5) <| P2 (((x3 : Int) != x5) = false) (bneF h6) <| P0) hn)
      (fun h6 H =>
        eN H <| gE func42 [rg [hE 3 (I x3), hE 7 (I x5), hT 8], r0] (by kernel_rfl) (P1 h2 <| P1 (int_lt_of_at h2 hx3) <| P1 (at_map I hx3) <| P1 h4 <| P1 (int_lt_of_at h4 hx5) <| P1 (at_map I hx5) <| P2 (((x3 : Int) != x5) = true) (bneT h6) <| P0)))
    (fun h1 H =>
      eN H <| gE func42 [rg [hF 0], r0] (by kernel_rfl) (P2 ((decide (t3 < t2)) = false) (decide_eq_false h1) <| P0))
theorem ww_sameInts : ∀ s r, loop Bw_sameInts s = some r → Wc X 42 0 (Kw_sameInts s) (Zw_sameInts s) (RB r) ((fun _ => []) r) := Nx.all nw_sameInts
theorem cw_sameInts {a0 : (List Int)} {a1 : (List Int)} {r : Bool} (H : Dw_sameInts a0 a1 = some r) : Ct X.P X.gl 42 [sl 1 I a0, sl 1 I a1] [] (RB r) [] :=
  Ct.of func42 (c := bdy f42) (by kernel_rfl) (by kernel_rfl) <|
  gS [r0] (by kernel_rfl) P0 <|
  eIf H (fun h1 H =>
    gO [rg [hF 4], r0, .canon [] [0, 1, 12, 13]] (by kernel_rfl) (P2 (((((a0.length : Nat) : Int) : Int) != ((a1.length : Nat) : Int)) = false) (bneF h1) <| P0) (ww_sameInts _ _ H))
  (fun h1 H =>
    eW RB (fun _ => []) H <| gE func42 [rg [hT 4], r0] (by kernel_rfl) (P2 (((((a0.length : Nat) : Int) : Int) != ((a1.length : Nat) : Int)) = true) (bneT h1) <| P0))
/-! loop example/g00886/laws sameLists -/
noncomputable def Kw_sameLists : Sw_sameLists → List Item
  | .h1 .. => nav 300 3 [false] [.code (bdy f36)]
def Zw_sameLists : Sw_sameLists → St
  | .h1 va0 b1 t2 t3 => ⟨sts 27 [(0, sl 1 (sl 1 I) va0), (1, sl 1 (sl 1 I) b1), (12, I t2), (13, I t3)], []⟩
abbrev Qw_sameLists := Nx X 36 0 Kw_sameLists Zw_sameLists RB (fun _ => [])
theorem nw_sameLists : ∀ s o, Bw_sameLists s = some o → Qw_sameLists (Kw_sameLists s) (Zw_sameLists s) o
  | .h1 va0 b1 t2 t3, o, H =>
    eIf H (fun h1 H =>
      eCk H fun h2 H =>
      eBind H fun x3 hx3 H =>
      eCk H fun h4 H =>
      eBind H fun x5 hx5 H =>
      eBind H fun r6 hr6 H =>
      gN [rg [hT 0], r0] (by kernel_rfl) (P2 ((decide (t3 < t2)) = true) (decide_eq_true h1) <| P0) <|
      eIf H (fun h7 H =>
        eN H fun r hn => gO [rg [hE 3 ((sl 1 I) x3), hE 7 ((sl 1 I) x5), { i := 8, call := some { cl := true, auto := true, ins := [], res := (RB r6), G' := [] }, dec := some true }], r0, .canon [] [0, 1, 12, 13]] (by kernel_rfl) (P1 h2 <| P1 (int_lt_of_at h2 hx3) <| P1 (at_map (sl 1 I) hx3) <| P1 h4 <| P1 (int_lt_of_at h4 hx5) <| P1 (at_map (sl 1 I) hx5) <| P1 (cw_sameInts hr6) <| P2 (r6 = true) (h7) <| P0) hn)
      (fun h7 H =>
        eN H <| gE func36 [rg [hE 3 ((sl 1 I) x3), hE 7 ((sl 1 I) x5), { i := 8, call := some { cl := true, auto := true, ins := [], res := (RB r6), G' := [] }, dec := some false }], r0] (by kernel_rfl) (P1 h2 <| P1 (int_lt_of_at h2 hx3) <| P1 (at_map (sl 1 I) hx3) <| P1 h4 <| P1 (int_lt_of_at h4 hx5) <| P1 (at_map (sl 1 I) hx5) <| P1 (cw_sameInts hr6) <| P2 (r6 = false) (eqF h7) <| P0)))
    (fun h1 H =>
      eN H <| gE func36 [rg [hF 0], r0] (by kernel_rfl) (P2 ((decide (t3 < t2)) = false) (decide_eq_false h1) <| P0))
theorem ww_sameLists : ∀ s r, loop Bw_sameLists s = some r → Wc X 36 0 (Kw_sameLists s) (Zw_sameLists s) (RB r) ((fun _ => []) r) := Nx.all nw_sameLists
theorem cw_sameLists {a0 : (List (List Int))} {a1 : (List (List Int))} {r : Bool} (H : Dw_sameLists a0 a1 = some r) : Ct X.P X.gl 36 [sl 1 (sl 1 I) a0, sl 1 (sl 1 I) a1] [] (RB r) [] :=
  Ct.of func36 (c := bdy f36) (by kernel_rfl) (by kernel_rfl) <|
  gS [r0] (by kernel_rfl) P0 <|
  eIf H (fun h1 H =>
    gO [rg [hF 4], r0, .canon [] [0, 1, 12, 13]] (by kernel_rfl) (P2 (((((a0.length : Nat) : Int) : Int) != ((a1.length : Nat) : Int)) = false) (bneF h1) <| P0) (ww_sameLists _ _ H))
  (fun h1 H =>
    eW RB (fun _ => []) H <| gE func36 [rg [hT 4], r0] (by kernel_rfl) (P2 (((((a0.length : Nat) : Int) : Int) != ((a1.length : Nat) : Int)) = true) (bneT h1) <| P0))
/-! loop example/g00886/spec DrawSeenFrom -/
def Rs_DrawSeenFrom (r : Gi_Board × Int × Int) : List D := [.agg [ow 5 goi_Terrain r.1.Rules.Terrains, ow 6 gi_Kind r.1.Rules.Kinds, I r.1.Rules.Stack, I r.1.Rules.River, I r.1.Rules.Road, I r.1.Rules.Supply, I r.1.Rules.Turns, I r.1.Map.Width, I r.1.Map.Height, ow 1 I r.1.Map.Terrain, ow 1 I r.1.Map.Rivers, ow 1 I r.1.Map.Roads], I r.2.1, I r.2.2]
theorem cs_DrawSeenFrom {a0 : (List Int)} {r : Gi_Board × Int × Int} (H : Ds_DrawSeenFrom a0 = some r) : Ct X.P X.gl 37 [sl 1 (D.int .u8) a0] [] (Rs_DrawSeenFrom r) [] :=
  Ct.of func37 (c := bdy f37) (by kernel_rfl) (by kernel_rfl) <|
  eBind H fun r1 hr1 H =>
  eBind H fun r2 hr2 H =>
  eBind H fun r3 hr3 H =>
  eW Rs_DrawSeenFrom (fun _ => []) H <| gE func37 [r0, r0, rg [hC 1 true [1] (Rs_l1Cur_anyBoard r1) (Ns_l1Cur_anyBoard r1)], rg [{ i := 4, call := some { cl := true, ins := [1], args := [.ptr 0 3 0 0, .agg [I r1.1.Map.Width, I r1.1.Map.Height, .hid, .hid, .hid]], res := Rs_l1Cur_place_u1_2_3_4 r2, G' := Ns_l1Cur_place_u1_2_3_4 r2 } }, { i := 7, frz := [15], call := some { cl := true, auto := true, ins := [1], res := (Rs_l1Cur_among r3), G' := (Ns_l1Cur_among r3) } }]] (by kernel_rfl) (PI (1 : Nat) <| P1 (cs_l1Cur_anyBoard hr1) <| PI (0 : Nat) <| PI (0 : Nat) <| PI (r1.1.Map.Width : Int) <| PI (r1.1.Map.Height : Int) <| PI (1 : Nat) <| P1 (cs_l1Cur_place_u1_2_3_4 hr2) <| PI (1 : Nat) <| P1 (cs_l1Cur_among hr3) <| P0)
/-! loop example/g00886/impl inSight -/
def Ri_inSight (r : (List Int)) : List D := [ow 1 I r]
noncomputable def Ki_inSight : Si_inSight → List Item
  | .h1 .. => nav 300 3 [] [.code (bdy f105)]
def Zi_inSight : Si_inSight → St
  | .h1 i0 far1 worst2 t3 t4 b5 l6 => ⟨sts 48 [(1, I i0), (2, I far1), (3, I worst2), (4, .ptr 0 12 0 0), (9, .ref 1 1 none), (17, I t3), (18, I t4)], [some ⟨false, true, 12, 1, [.agg [sl 5 gi_Terrain b5.Rules.Terrains, sl 6 gi_Kind b5.Rules.Kinds, I b5.Rules.Stack, I b5.Rules.River, I b5.Rules.Road, I b5.Rules.Supply, I b5.Rules.Turns, I b5.Map.Width, I b5.Map.Height, sl 1 I b5.Map.Terrain, sl 1 I b5.Map.Rivers, sl 1 I b5.Map.Roads]]⟩, some ⟨false, false, 1, l6.length, List.map I l6⟩]⟩
abbrev Qi_inSight := Nx X 105 0 Ki_inSight Zi_inSight Ri_inSight (fun _ => [])
theorem ni_inSight : ∀ s o, Bi_inSight s = some o → Qi_inSight (Ki_inSight s) (Zi_inSight s) o
  | .h1 i0 far1 worst2 t3 t4 b5 l6, o, H =>
    eIf H (fun h1 H =>
      eBind H fun r2 hr2 H =>
      eBind H fun r3 hr3 H =>
      eBind H fun r4 hr4 H =>
      gN [rg [hT 0], r0] (by kernel_rfl) (P2 ((decide (t4 < t3)) = true) (decide_eq_true h1) <| P0) <|
      eIf H (fun h5 H =>
        eN H fun r hn => gO [rg [hC 3 true [] (Ri_hexOf r2) [], hC 7 true [] (Ri_hexOf r3) [], hC 8 true [] (RI r4) [], hT 10], r0, .canon [0, 1] [1, 2, 3, 4, 9, 17, 18]] (by kernel_rfl) (P1 (ci_hexOf hr2) <| P1 (ci_hexOf hr3) <| P1 (ci_distance hr4) <| P2 ((decide (r4 > far1)) = true) (decide_eq_true h5) <| P0) hn)
      (fun h5 H =>
        eBind H fun r6 hr6 H =>
        gN [rg [hC 3 true [] (Ri_hexOf r2) [], hC 7 true [] (Ri_hexOf r3) [], hC 8 true [] (RI r4) [], hF 10], rg [hC 3 true [] (Ri_sightOf r6) []]] (by kernel_rfl) (P1 (ci_hexOf hr2) <| P1 (ci_hexOf hr3) <| P1 (ci_distance hr4) <| P2 ((decide (r4 > far1)) = false) (decide_eq_false h5) <| P1 (ci_sightOf hr6) <| P0) <|
        eIf H (fun h7 H =>
          eCk H fun h8 H =>
          eN H fun r hn => gO [rg [hT 2], rg [hA 3 ((l6 ++ [t4]).length) (List.map I (l6 ++ [t4]))], r0, .canon [0, 3] [1, 2, 3, 4, 9, 17, 18]] (by kernel_rfl) (P2 ((decide (r6.1 ≤ worst2)) = true) (decide_eq_true h7) <| P1 (apL l6 [t4]) <| P1 (apB h8) <| P1 (apM I l6 [t4]) <| P0) hn)
        (fun h7 H =>
          eN H fun r hn => gO [rg [hF 2], r0, .canon [0, 1] [1, 2, 3, 4, 9, 17, 18]] (by kernel_rfl) (P2 ((decide (r6.1 ≤ worst2)) = false) (decide_eq_false h7) <| P0) hn)))
    (fun h1 H =>
      eN H <| gE func105 [rg [hF 0], r0] (by kernel_rfl) (P2 ((decide (t4 < t3)) = false) (decide_eq_false h1) <| P0))
theorem wi_inSight : ∀ s r, loop Bi_inSight s = some r → Wc X 105 0 (Ki_inSight s) (Zi_inSight s) (Ri_inSight r) ((fun _ => []) r) := Nx.all ni_inSight
theorem ci_inSight {a0 : Gi_Board} {a1 : Int} {a2 : Int} {a3 : Int} {r : (List Int)} (H : Di_inSight a0 a1 a2 a3 = some r) : Ct X.P X.gl 105 [.agg [sl 5 gi_Terrain a0.Rules.Terrains, sl 6 gi_Kind a0.Rules.Kinds, I a0.Rules.Stack, I a0.Rules.River, I a0.Rules.Road, I a0.Rules.Supply, I a0.Rules.Turns, I a0.Map.Width, I a0.Map.Height, sl 1 I a0.Map.Terrain, sl 1 I a0.Map.Rivers, sl 1 I a0.Map.Roads], I a1, I a2, I a3] [] (Ri_inSight r) [] :=
  Ct.of func105 (c := bdy f105) (by kernel_rfl) (by kernel_rfl) <|
  gO [r0, r0, r0, .canon [0, 1] [1, 2, 3, 4, 9, 17, 18]] (by kernel_rfl) P0 (wi_inSight _ _ H)
/-! loop example/g00886/impl SeenFrom -/
def Ri_SeenFrom (r : (List Int) × Bool) : List D := [ow 1 I r.1, .bool r.2]
theorem ci_SeenFrom {a0 : Gi_Board} {a1 : Int} {a2 : Int} {r : (List Int) × Bool} (H : Di_SeenFrom a0 a1 a2 = some r) : Ct X.P X.gl 38 [.agg [sl 5 gi_Terrain a0.Rules.Terrains, sl 6 gi_Kind a0.Rules.Kinds, I a0.Rules.Stack, I a0.Rules.River, I a0.Rules.Road, I a0.Rules.Supply, I a0.Rules.Turns, I a0.Map.Width, I a0.Map.Height, sl 1 I a0.Map.Terrain, sl 1 I a0.Map.Rivers, sl 1 I a0.Map.Roads], I a1, I a2] [] (Ri_SeenFrom r) [] :=
  Ct.of func38 (c := bdy f38) (by kernel_rfl) (by kernel_rfl) <|
  eBind H fun r1 hr1 H =>
  gS [r0] (by kernel_rfl) P0 <|
  eIf H (fun h2 H =>
    eBind H fun r3 hr3 H =>
    eIf H (fun h4 H =>
      eBind H fun r5 hr5 H =>
      eW Ri_SeenFrom (fun _ => []) H <| gE func38 [rg [{ i := 3, call := some { cl := true, auto := true, ins := [], res := (RB r1), G' := [] }, dec := some true }, { i := 7, call := some { cl := true, auto := true, ins := [], res := (RB r3), G' := [] }, dec := some true }], rg [hC 3 true [] (Ri_inSight r5) []]] (by kernel_rfl) (P1 (ci_isPair hr1) <| P2 (r1 = true) (h2) <| P1 (ci_inRange hr3) <| P2 (r3 = true) (h4) <| P1 (ci_inSight hr5) <| P0))
    (fun h4 H =>
      eW Ri_SeenFrom (fun _ => []) H <| gE func38 [rg [{ i := 3, call := some { cl := true, auto := true, ins := [], res := (RB r1), G' := [] }, dec := some true }, { i := 7, call := some { cl := true, auto := true, ins := [], res := (RB r3), G' := [] }, dec := some false }], r0] (by kernel_rfl) (P1 (ci_isPair hr1) <| P2 (r1 = true) (h2) <| P1 (ci_inRange hr3) <| P2 (r3 = false) (eqF h4) <| P0)))
  (fun h2 H =>
    eW Ri_SeenFrom (fun _ => []) H <| gE func38 [rg [{ i := 3, call := some { cl := true, auto := true, ins := [], res := (RB r1), G' := [] }, dec := some false }], r0] (by kernel_rfl) (P1 (ci_isPair hr1) <| P2 (r1 = false) (eqF h2) <| P0))
/-! loop example/g00886/spec mNear -/
def Rs_mNear (r : (List Int)) : List D := [ow 1 I r]
noncomputable def Ks_mNear : Ss_mNear → List Item
  | .h1 .. => nav 300 3 [] [.code (bdy f155)]
def Zs_mNear : Ss_mNear → St
  | .h1 i0 vradius1 k2 b3 l4 => ⟨sts 29 [(1, I i0), (2, I vradius1), (3, .ptr 0 5 0 0), (7, .ref 1 1 none), (8, I k2)], [some ⟨false, true, 5, 1, [.agg [I b3.Width, I b3.Height, sl 1 I b3.Terrain, sl 1 I b3.Rivers, sl 1 I b3.Roads]]⟩, some ⟨false, false, 1, l4.length, List.map I l4⟩]⟩
abbrev Qs_mNear := Nx X 155 0 Ks_mNear Zs_mNear Rs_mNear (fun _ => [])
theorem ns_mNear : ∀ s o, Bs_mNear s = some o → Qs_mNear (Ks_mNear s) (Zs_mNear s) o
  | .h1 i0 vradius1 k2 b3 l4, o, H =>
    have H := (Bs_mNear.eq_1 ..).symm.trans H
    eBind H fun r1 hr1 H =>
    eIf H (fun h2 H =>
      eBind H fun r3 hr3 H =>
      eBind H fun r4 hr4 H =>
      eBind H fun r5 hr5 H =>
      gN [rg [hC 2 true [] (RI r1) [], hT 3]] (by kernel_rfl) (P1 (cs_mSize hr1) <| P2 ((decide (k2 < r1)) = true) (decide_eq_true h2) <| P0) <|
      eIf H (fun h6 H =>
        eCk H fun h7 H =>
        eN H fun r hn => gO [rg [hC 2 true [] (Rs_mHex r3) [], hC 5 true [] (Rs_mHex r4) [], hC 6 true [] (RI r5) [], hT 8], rg [hA 3 ((l4 ++ [k2]).length) (List.map I (l4 ++ [k2]))], r0, .canon [0, 3] [1, 2, 3, 7, 8]] (by kernel_rfl) (P1 (cs_mHex hr3) <| P1 (cs_mHex hr4) <| P1 (cs_hDistance hr5) <| P2 ((decide (r5 ≤ vradius1)) = true) (decide_eq_true h6) <| P1 (apL l4 [k2]) <| P1 (apB h7) <| P1 (apM I l4 [k2]) <| P0) hn)
      (fun h6 H =>
        eN H fun r hn => gO [rg [hC 2 true [] (Rs_mHex r3) [], hC 5 true [] (Rs_mHex r4) [], hC 6 true [] (RI r5) [], hF 8], r0, .canon [0, 1] [1, 2, 3, 7, 8]] (by kernel_rfl) (P1 (cs_mHex hr3) <| P1 (cs_mHex hr4) <| P1 (cs_hDistance hr5) <| P2 ((decide (r5 ≤ vradius1)) = false) (decide_eq_false h6) <| P0) hn))
    (fun h2 H =>
      eN H <| gE func155 [rg [hC 2 true [] (RI r1) [], hF 3], r0] (by kernel_rfl) (P1 (cs_mSize hr1) <| P2 ((decide (k2 < r1)) = false) (decide_eq_false h2) <| P0))
theorem ws_mNear : ∀ s r, loop Bs_mNear s = some r → Wc X 155 0 (Ks_mNear s) (Zs_mNear s) (Rs_mNear r) ((fun _ => []) r) := Nx.all ns_mNear
theorem cs_mNear {a0 : Gi_Map} {a1 : Int} {a2 : Int} {r : (List Int)} (H : Ds_mNear a0 a1 a2 = some r) : Ct X.P X.gl 155 [.agg [I a0.Width, I a0.Height, sl 1 I a0.Terrain, sl 1 I a0.Rivers, sl 1 I a0.Roads], I a1, I a2] [] (Rs_mNear r) [] :=
  Ct.of func155 (c := bdy f155) (by kernel_rfl) (by kernel_rfl) <|
  gO [r0, r0, r0, .own 7 1, .canon [0, 1] [1, 2, 3, 7, 8]] (by kernel_rfl) P0 (ws_mNear _ _ H)
/-! loop example/g00886/spec vSeen -/
def Rs_vSeen (r : (List Int)) : List D := [ow 1 I r]
noncomputable def Ks_vSeen : Ss_vSeen → List Item
  | .h1 .. => nav 300 3 [] [.code (bdy f106)]
def Zs_vSeen : Ss_vSeen → St
  | .h1 i0 most1 t2 t3 b4 l5 l6 => ⟨sts 34 [(1, I i0), (3, I most1), (4, .ptr 0 12 0 0), (9, .ref 1 1 none), (16, .ref 2 1 none), (17, I t2), (18, I t3)], [some ⟨false, true, 12, 1, [.agg [sl 5 gi_Terrain b4.Rules.Terrains, sl 6 gi_Kind b4.Rules.Kinds, I b4.Rules.Stack, I b4.Rules.River, I b4.Rules.Road, I b4.Rules.Supply, I b4.Rules.Turns, I b4.Map.Width, I b4.Map.Height, sl 1 I b4.Map.Terrain, sl 1 I b4.Map.Rivers, sl 1 I b4.Map.Roads]]⟩, some ⟨false, false, 1, l5.length, List.map I l5⟩, some ⟨false, false, 1, l6.length, List.map I l6⟩]⟩
abbrev Qs_vSeen := Nx X 106 0 Ks_vSeen Zs_vSeen Rs_vSeen (fun _ => [])
theorem ns_vSeen : ∀ s o, Bs_vSeen s = some o → Qs_vSeen (Ks_vSeen s) (Zs_vSeen s) o
  | .h1 i0 most1 t2 t3 b4 l5 l6, o, H =>
    eIf H (fun h1 H =>
      eCk H fun h2 H =>
      eBind H fun x3 hx3 H =>
      eBind H fun r4 hr4 H =>
      gN [rg [hT 0], rg [hE 1 (I x3)]] (by kernel_rfl) (P2 ((decide (t3 < t2)) = true) (decide_eq_true h1) <| P1 h2 <| P1 (int_lt_of_at h2 hx3) <| P1 (at_map I hx3) <| P0) <|
      eIf H (fun h5 H =>
        eCk H fun h6 H =>
        eN H fun r hn => gO [rg [hC 3 true [] (RI r4) [], hT 5], rg [hA 3 ((l5 ++ [x3]).length) (List.map I (l5 ++ [x3]))], r0, .canon [0, 4, 2] [1, 3, 4, 9, 16, 17, 18]] (by kernel_rfl) (P1 (cs_vCode hr4) <| P2 ((decide (r4 ≤ most1)) = true) (decide_eq_true h5) <| P1 (apL l5 [x3]) <| P1 (apB h6) <| P1 (apM I l5 [x3]) <| P0) hn)
      (fun h5 H =>
        eN H fun r hn => gO [rg [hC 3 true [] (RI r4) [], hF 5], r0, .canon [0, 1, 2] [1, 3, 4, 9, 16, 17, 18]] (by kernel_rfl) (P1 (cs_vCode hr4) <| P2 ((decide (r4 ≤ most1)) = false) (decide_eq_false h5) <| P0) hn))
    (fun h1 H =>
      eN H <| gE func106 [rg [hF 0], r0] (by kernel_rfl) (P2 ((decide (t3 < t2)) = false) (decide_eq_false h1) <| P0))
theorem ws_vSeen : ∀ s r, loop Bs_vSeen s = some r → Wc X 106 0 (Ks_vSeen s) (Zs_vSeen s) (Rs_vSeen r) ((fun _ => []) r) := Nx.all ns_vSeen
theorem cs_vSeen {a0 : Gi_Board} {a1 : Int} {a2 : Int} {a3 : Int} {r : (List Int)} (H : Ds_vSeen a0 a1 a2 a3 = some r) : Ct X.P X.gl 106 [.agg [sl 5 gi_Terrain a0.Rules.Terrains, sl 6 gi_Kind a0.Rules.Kinds, I a0.Rules.Stack, I a0.Rules.River, I a0.Rules.Road, I a0.Rules.Supply, I a0.Rules.Turns, I a0.Map.Width, I a0.Map.Height, sl 1 I a0.Map.Terrain, sl 1 I a0.Map.Rivers, sl 1 I a0.Map.Roads], I a1, I a2, I a3] [] (Rs_vSeen r) [] :=
  Ct.of func106 (c := bdy f106) (by kernel_rfl) (by kernel_rfl) <|
  eBind H fun r1 hr1 H =>
  gO [r0, r0, rg [hC 4 true [] (Rs_mNear r1) []], .own 9 1, .canon [0, 2, 1] [1, 3, 4, 9, 16, 17, 18]] (by kernel_rfl) (P1 (cs_mNear hr1) <| P0) (ws_vSeen _ _ H)
/-! loop example/g00886/spec SeenFrom -/
def Rs_SeenFrom (r : (List Int) × Bool) : List D := [ow 1 I r.1, .bool r.2]
theorem cs_SeenFrom {a0 : Gi_Board} {a1 : Int} {a2 : Int} {r : (List Int) × Bool} (H : Ds_SeenFrom a0 a1 a2 = some r) : Ct X.P X.gl 39 [.agg [sl 5 gi_Terrain a0.Rules.Terrains, sl 6 gi_Kind a0.Rules.Kinds, I a0.Rules.Stack, I a0.Rules.River, I a0.Rules.Road, I a0.Rules.Supply, I a0.Rules.Turns, I a0.Map.Width, I a0.Map.Height, sl 1 I a0.Map.Terrain, sl 1 I a0.Map.Rivers, sl 1 I a0.Map.Roads], I a1, I a2] [] (Rs_SeenFrom r) [] :=
  Ct.of func39 (c := bdy f39) (by kernel_rfl) (by kernel_rfl) <|
  eBind H fun r1 hr1 H =>
  gS [r0] (by kernel_rfl) P0 <|
  eIf H (fun h2 H =>
    eBind H fun r3 hr3 H =>
    eIf H (fun h4 H =>
      eBind H fun r5 hr5 H =>
      eW Rs_SeenFrom (fun _ => []) H <| gE func39 [rg [{ i := 2, call := some { cl := true, auto := true, ins := [], res := (RB r1), G' := [] }, dec := some true }, { i := 6, call := some { cl := true, auto := true, ins := [], res := (RB r3), G' := [] }, dec := some true }], rg [hC 3 true [] (Rs_vSeen r5) []]] (by kernel_rfl) (P1 (cs_bAt hr1) <| P2 (r1 = true) (h2) <| P1 (cs_l1In hr3) <| P2 (r3 = true) (h4) <| P1 (cs_vSeen hr5) <| P0))
    (fun h4 H =>
      eW Rs_SeenFrom (fun _ => []) H <| gE func39 [rg [{ i := 2, call := some { cl := true, auto := true, ins := [], res := (RB r1), G' := [] }, dec := some true }, { i := 6, call := some { cl := true, auto := true, ins := [], res := (RB r3), G' := [] }, dec := some false }], r0] (by kernel_rfl) (P1 (cs_bAt hr1) <| P2 (r1 = true) (h2) <| P1 (cs_l1In hr3) <| P2 (r3 = false) (eqF h4) <| P0)))
  (fun h2 H =>
    eW Rs_SeenFrom (fun _ => []) H <| gE func39 [rg [{ i := 2, call := some { cl := true, auto := true, ins := [], res := (RB r1), G' := [] }, dec := some false }], r0] (by kernel_rfl) (P1 (cs_bAt hr1) <| P2 (r1 = false) (eqF h2) <| P0))
/-! loop example/g00886/impl ClearFrom -/
def Ri_ClearFrom (r : (List Int) × Bool) : List D := [ow 1 I r.1, .bool r.2]
theorem ci_ClearFrom {a0 : Gi_Board} {a1 : Int} {a2 : Int} {r : (List Int) × Bool} (H : Di_ClearFrom a0 a1 a2 = some r) : Ct X.P X.gl 40 [.agg [sl 5 gi_Terrain a0.Rules.Terrains, sl 6 gi_Kind a0.Rules.Kinds, I a0.Rules.Stack, I a0.Rules.River, I a0.Rules.Road, I a0.Rules.Supply, I a0.Rules.Turns, I a0.Map.Width, I a0.Map.Height, sl 1 I a0.Map.Terrain, sl 1 I a0.Map.Rivers, sl 1 I a0.Map.Roads], I a1, I a2] [] (Ri_ClearFrom r) [] :=
  Ct.of func40 (c := bdy f40) (by kernel_rfl) (by kernel_rfl) <|
  eBind H fun r1 hr1 H =>
  gS [r0] (by kernel_rfl) P0 <|
  eIf H (fun h2 H =>
    eBind H fun r3 hr3 H =>
    eIf H (fun h4 H =>
      eBind H fun r5 hr5 H =>
      eW Ri_ClearFrom (fun _ => []) H <| gE func40 [rg [{ i := 3, call := some { cl := true, auto := true, ins := [], res := (RB r1), G' := [] }, dec := some true }, { i := 7, call := some { cl := true, auto := true, ins := [], res := (RB r3), G' := [] }, dec := some true }], rg [hC 3 true [] (Ri_inSight r5) []]] (by kernel_rfl) (P1 (ci_isPair hr1) <| P2 (r1 = true) (h2) <| P1 (ci_inRange hr3) <| P2 (r3 = true) (h4) <| P1 (ci_inSight hr5) <| P0))
    (fun h4 H =>
      eW Ri_ClearFrom (fun _ => []) H <| gE func40 [rg [{ i := 3, call := some { cl := true, auto := true, ins := [], res := (RB r1), G' := [] }, dec := some true }, { i := 7, call := some { cl := true, auto := true, ins := [], res := (RB r3), G' := [] }, dec := some false }], r0] (by kernel_rfl) (P1 (ci_isPair hr1) <| P2 (r1 = true) (h2) <| P1 (ci_inRange hr3) <| P2 (r3 = false) (eqF h4) <| P0)))
  (fun h2 H =>
    eW Ri_ClearFrom (fun _ => []) H <| gE func40 [rg [{ i := 3, call := some { cl := true, auto := true, ins := [], res := (RB r1), G' := [] }, dec := some false }], r0] (by kernel_rfl) (P1 (ci_isPair hr1) <| P2 (r1 = false) (eqF h2) <| P0))
/-! loop example/g00886/spec ClearFrom -/
def Rs_ClearFrom (r : (List Int) × Bool) : List D := [ow 1 I r.1, .bool r.2]
theorem cs_ClearFrom {a0 : Gi_Board} {a1 : Int} {a2 : Int} {r : (List Int) × Bool} (H : Ds_ClearFrom a0 a1 a2 = some r) : Ct X.P X.gl 41 [.agg [sl 5 gi_Terrain a0.Rules.Terrains, sl 6 gi_Kind a0.Rules.Kinds, I a0.Rules.Stack, I a0.Rules.River, I a0.Rules.Road, I a0.Rules.Supply, I a0.Rules.Turns, I a0.Map.Width, I a0.Map.Height, sl 1 I a0.Map.Terrain, sl 1 I a0.Map.Rivers, sl 1 I a0.Map.Roads], I a1, I a2] [] (Rs_ClearFrom r) [] :=
  Ct.of func41 (c := bdy f41) (by kernel_rfl) (by kernel_rfl) <|
  eBind H fun r1 hr1 H =>
  gS [r0] (by kernel_rfl) P0 <|
  eIf H (fun h2 H =>
    eBind H fun r3 hr3 H =>
    eIf H (fun h4 H =>
      eBind H fun r5 hr5 H =>
      eW Rs_ClearFrom (fun _ => []) H <| gE func41 [rg [{ i := 2, call := some { cl := true, auto := true, ins := [], res := (RB r1), G' := [] }, dec := some true }, { i := 6, call := some { cl := true, auto := true, ins := [], res := (RB r3), G' := [] }, dec := some true }], rg [hC 3 true [] (Rs_vSeen r5) []]] (by kernel_rfl) (P1 (cs_bAt hr1) <| P2 (r1 = true) (h2) <| P1 (cs_l1In hr3) <| P2 (r3 = true) (h4) <| P1 (cs_vSeen hr5) <| P0))
    (fun h4 H =>
      eW Rs_ClearFrom (fun _ => []) H <| gE func41 [rg [{ i := 2, call := some { cl := true, auto := true, ins := [], res := (RB r1), G' := [] }, dec := some true }, { i := 6, call := some { cl := true, auto := true, ins := [], res := (RB r3), G' := [] }, dec := some false }], r0] (by kernel_rfl) (P1 (cs_bAt hr1) <| P2 (r1 = true) (h2) <| P1 (cs_l1In hr3) <| P2 (r3 = false) (eqF h4) <| P0)))
  (fun h2 H =>
    eW Rs_ClearFrom (fun _ => []) H <| gE func41 [rg [{ i := 2, call := some { cl := true, auto := true, ins := [], res := (RB r1), G' := [] }, dec := some false }], r0] (by kernel_rfl) (P1 (cs_bAt hr1) <| P2 (r1 = false) (eqF h2) <| P0))
/-! loop example/g00886/laws FnSight -/
noncomputable def Kw_FnSight : Sw_FnSight → List Item
  | .h1 .. => nav 300 19 [false, false, false, false] [.code (bdy f5)]
  | .h2 .. => nav 300 23 [false, false, false, false, true] [.code (bdy f5)]
def Zw_FnSight : Sw_FnSight → St
  | .h1 t0 t1 l2 l3 => ⟨sts 218 [(27, .ref 0 1 none), (196, .ref 1 1 none), (197, I t0), (198, I t1)], [some ⟨false, false, 1, l2.length, List.map I l2⟩, some ⟨false, false, 1, l3.length, List.map I l3⟩]⟩
  | .h2 t0 t1 t2 t3 t4 t5 l6 l7 => ⟨sts 218 [(27, .ref 0 1 none), (34, I t0), (35, .bool t1), (196, .ref 1 1 none), (197, I t2), (198, I t3), (202, .ref 0 1 none), (203, I t4), (204, I t5)], [some ⟨false, false, 1, l6.length, List.map I l6⟩, some ⟨false, false, 1, l7.length, List.map I l7⟩]⟩
abbrev Qw_FnSight := Nx X 5 0 Kw_FnSight Zw_FnSight RB (fun _ => [])
theorem nw_FnSight : ∀ s o, Bw_FnSight s = some o → Qw_FnSight (Kw_FnSight s) (Zw_FnSight s) o
  | .h1 t0 t1 l2 l3, o, H =>
    eIf H (fun h1 H =>
      eCk H fun h2 H =>
      eBind H fun x3 hx3 H =>
      eN H fun r hn => gO [rg [hT 0], rg [hE 1 (I x3)], r0, r0, .canon [0, 1] [27, 34, 35, 196, 197, 198, 202, 203, 204]] (by kernel_rfl) (P2 ((decide (t1 < t0)) = true) (decide_eq_true h1) <| P1 h2 <| P1 (int_lt_of_at h2 hx3) <| P1 (at_map I hx3) <| P0) hn)
    (fun h1 H =>
      eN H <| gE func5 [rg [hF 0], r0] (by kernel_rfl) (P2 ((decide (t1 < t0)) = false) (decide_eq_false h1) <| P0))
  | .h2 t0 true t2 t3 t4 t5 l6 l7, o, H =>
    eIf H (fun h1 H =>
      eCk H fun h2 H =>
      eBind H fun x3 hx3 H =>
      eN H fun r hn => gO [rg [hT 0], rg [hE 1 (I x3)], r0, r0, .canon [0, 1] [27, 34, 35, 196, 197, 198, 202, 203, 204]] (by kernel_rfl) (P2 ((decide (t5 < t4)) = true) (decide_eq_true h1) <| P1 h2 <| P1 (int_lt_of_at h2 hx3) <| P1 (at_map I hx3) <| P0) hn)
    (fun h1 H =>
      eN H fun r hn => gO [rg [hF 0], r0, r0, .canon [0, 1] [27, 196, 197, 198]] (by kernel_rfl) (P2 ((decide (t5 < t4)) = false) (decide_eq_false h1) <| P0) hn)
  | .h2 t0 false t2 t3 t4 t5 l6 l7, o, H =>
    eIf H (fun h1 H =>
      eCk H fun h2 H =>
      eBind H fun x3 hx3 H =>
      eN H fun r hn => gO [rg [hT 0], rg [hE 1 (I x3)], r0, r0, .canon [0, 1] [27, 34, 35, 196, 197, 198, 202, 203, 204]] (by kernel_rfl) (P2 ((decide (t5 < t4)) = true) (decide_eq_true h1) <| P1 h2 <| P1 (int_lt_of_at h2 hx3) <| P1 (at_map I hx3) <| P0) hn)
    (fun h1 H =>
      eN H <| gE func5 [rg [hF 0], r0, r0] (by kernel_rfl) (P2 ((decide (t5 < t4)) = false) (decide_eq_false h1) <| P0))
theorem ww_FnSight : ∀ s r, loop Bw_FnSight s = some r → Wc X 5 0 (Kw_FnSight s) (Zw_FnSight s) (RB r) ((fun _ => []) r) := Nx.all nw_FnSight
theorem cw_FnSight {a0 : (List Int)} {a1 : (List Int)} {r : Bool} (H : Dw_FnSight a0 a1 = some r) : Ct X.P X.gl 5 [sl 1 (D.int .u8) a0, sl 1 (D.int .u8) a1] [] (RB r) [] :=
  Ct.of func5 (c := bdy f5) (by kernel_rfl) (by kernel_rfl) <|
  eBind H fun r1 hr1 H =>
  gS [r0] (by kernel_rfl) P0 <|
  eIf H (fun h2 H =>
    eW RB (fun _ => []) H <| gE func5 [rg [{ i := 2, call := some { cl := true, auto := true, ins := [], res := (RB r1), G' := [] }, dec := some true }], r0] (by kernel_rfl) (P1 (cw_big hr1) <| P2 (r1 = true) (h2) <| P0))
  (fun h2 H =>
    eBind H fun r3 hr3 H =>
    eBind H fun r4 hr4 H =>
    gS [rg [{ i := 2, call := some { cl := true, auto := true, ins := [], res := (RB r1), G' := [] }, dec := some false }], rg [hC 1 true [] (Rs_DrawSightCode r3) []]] (by kernel_rfl) (P1 (cw_big hr1) <| P2 (r1 = false) (eqF h2) <| P1 (cs_DrawSightCode hr3) <| P0) <|
    eIf H (fun h5 H =>
      eBind H fun r6 hr6 H =>
      eBind H fun r7 hr7 H =>
      gS [rg [{ i := 3, call := some { cl := false, ins := [], args := [.agg [sl 5 gi_Terrain r3.1.Rules.Terrains, sl 6 gi_Kind r3.1.Rules.Kinds, I r3.1.Rules.Stack, I r3.1.Rules.River, I r3.1.Rules.Road, I r3.1.Rules.Supply, I r3.1.Rules.Turns, I r3.1.Map.Width, I r3.1.Map.Height, sl 1 I r3.1.Map.Terrain, sl 1 I r3.1.Map.Rivers, sl 1 I r3.1.Map.Roads], I r3.2.1, I r3.2.2], res := Ri_SightCode r4, G' := [] } }, hT 6], rg [{ i := 3, call := some { cl := false, ins := [], args := [.agg [sl 5 gi_Terrain r3.1.Rules.Terrains, sl 6 gi_Kind r3.1.Rules.Kinds, I r3.1.Rules.Stack, I r3.1.Rules.River, I r3.1.Rules.Road, I r3.1.Rules.Supply, I r3.1.Rules.Turns, I r3.1.Map.Width, I r3.1.Map.Height, sl 1 I r3.1.Map.Terrain, sl 1 I r3.1.Map.Rivers, sl 1 I r3.1.Map.Roads], I r3.2.1, I r3.2.2], res := Rs_SightCode r6, G' := [] } }], rg [{ i := 3, call := some { cl := false, ins := [], args := [.agg [sl 5 gi_Terrain r3.1.Rules.Terrains, sl 6 gi_Kind r3.1.Rules.Kinds, I r3.1.Rules.Stack, I r3.1.Rules.River, I r3.1.Rules.Road, I r3.1.Rules.Supply, I r3.1.Rules.Turns, I r3.1.Map.Width, I r3.1.Map.Height, sl 1 I r3.1.Map.Terrain, sl 1 I r3.1.Map.Rivers, sl 1 I r3.1.Map.Roads], I r3.2.2, I r3.2.1], res := Ri_SightCode r7, G' := [] } }]] (by kernel_rfl) (PE ero_153 r3.1.Rules.Terrains <| PL gi_Kind r3.1.Rules.Kinds <| PI (r3.1.Rules.Stack : Int) <| PI (r3.1.Rules.River : Int) <| PI (r3.1.Rules.Road : Int) <| PI (r3.1.Rules.Supply : Int) <| PI (r3.1.Rules.Turns : Int) <| PI (r3.1.Map.Width : Int) <| PI (r3.1.Map.Height : Int) <| PL I r3.1.Map.Terrain <| PL I r3.1.Map.Rivers <| PL I r3.1.Map.Roads <| PI (r3.2.1 : Int) <| PI (r3.2.2 : Int) <| P1 (ci_SightCode hr4) <| P2 (r4.2 = true) (h5) <| PE ero_153 r3.1.Rules.Terrains <| PL gi_Kind r3.1.Rules.Kinds <| PI (r3.1.Rules.Stack : Int) <| PI (r3.1.Rules.River : Int) <| PI (r3.1.Rules.Road : Int) <| PI (r3.1.Rules.Supply : Int) <| PI (r3.1.Rules.Turns : Int) <| PI (r3.1.Map.Width : Int) <| PI (r3.1.Map.Height : Int) <| PL I r3.1.Map.Terrain <| PL I r3.1.Map.Rivers <| PL I r3.1.Map.Roads <| PI (r3.2.1 : Int) <| PI (r3.2.2 : Int) <| P1 (cs_SightCode hr6) <| PE ero_153 r3.1.Rules.Terrains <| PL gi_Kind r3.1.Rules.Kinds <| PI (r3.1.Rules.Stack : Int) <| PI (r3.1.Rules.River : Int) <| PI (r3.1.Rules.Road : Int) <| PI (r3.1.Rules.Supply : Int) <| PI (r3.1.Rules.Turns : Int) <| PI (r3.1.Map.Width : Int) <| PI (r3.1.Map.Height : Int) <| PL I r3.1.Map.Terrain <| PL I r3.1.Map.Rivers <| PL I r3.1.Map.Roads <| PI (r3.2.2 : Int) <| PI (r3.2.1 : Int) <| P1 (ci_SightCode hr7) <| P0) <|
      eIf H (fun h8 H =>
        eW RB (fun _ => []) H <| gE func5 [rg [hT 2], r0] (by kernel_rfl) (P2 ((!(true == r6.2)) = true) (h8) <| P0))
      (fun h8 H =>
        eIf H (fun h9 H =>
          eIf H (fun h10 H =>
            eW RB (fun _ => []) H <| gE func5 [rg [hF 2, hF 6, hT 11], r0] (by kernel_rfl) (P2 ((!(true == r6.2)) = false) (eqF h8) <| P2 (((r4.1 : Int) != r6.1) = false) (bneF h9) <| P2 ((!(r7.2 == true)) = true) (h10) <| P0))
          (fun h10 H =>
            eIf H (fun h11 H =>
              eBind H fun r12 hr12 H =>
              eBind H fun r13 hr13 H =>
              eBind H fun r14 hr14 H =>
              eBind H fun r15 hr15 H =>
              gS [rg [hF 2, hF 6, hF 11, hF 16], rg [{ i := 3, call := some { cl := false, ins := [], args := [.agg [sl 5 gi_Terrain r3.1.Rules.Terrains, sl 6 gi_Kind r3.1.Rules.Kinds, I r3.1.Rules.Stack, I r3.1.Rules.River, I r3.1.Rules.Road, I r3.1.Rules.Supply, I r3.1.Rules.Turns, I r3.1.Map.Width, I r3.1.Map.Height, sl 1 I r3.1.Map.Terrain, sl 1 I r3.1.Map.Rivers, sl 1 I r3.1.Map.Roads], I r3.2.1, I r3.2.2], res := Ri_SightCells r12, G' := [] } }], rg [{ i := 3, call := some { cl := false, ins := [], args := [.agg [sl 5 gi_Terrain r3.1.Rules.Terrains, sl 6 gi_Kind r3.1.Rules.Kinds, I r3.1.Rules.Stack, I r3.1.Rules.River, I r3.1.Rules.Road, I r3.1.Rules.Supply, I r3.1.Rules.Turns, I r3.1.Map.Width, I r3.1.Map.Height, sl 1 I r3.1.Map.Terrain, sl 1 I r3.1.Map.Rivers, sl 1 I r3.1.Map.Roads], I r3.2.1, I r3.2.2], res := Rs_SightCells r13, G' := [] } }], rg [{ i := 3, call := some { cl := false, ins := [], args := [.agg [sl 5 gi_Terrain r3.1.Rules.Terrains, sl 6 gi_Kind r3.1.Rules.Kinds, I r3.1.Rules.Stack, I r3.1.Rules.River, I r3.1.Rules.Road, I r3.1.Rules.Supply, I r3.1.Rules.Turns, I r3.1.Map.Width, I r3.1.Map.Height, sl 1 I r3.1.Map.Terrain, sl 1 I r3.1.Map.Rivers, sl 1 I r3.1.Map.Roads], I r3.2.1, I r3.2.2], res := Ri_FirstBlock r14, G' := [] } }], rg [{ i := 3, call := some { cl := false, ins := [], args := [.agg [sl 5 gi_Terrain r3.1.Rules.Terrains, sl 6 gi_Kind r3.1.Rules.Kinds, I r3.1.Rules.Stack, I r3.1.Rules.River, I r3.1.Rules.Road, I r3.1.Rules.Supply, I r3.1.Rules.Turns, I r3.1.Map.Width, I r3.1.Map.Height, sl 1 I r3.1.Map.Terrain, sl 1 I r3.1.Map.Rivers, sl 1 I r3.1.Map.Roads], I r3.2.1, I r3.2.2], res := Rs_FirstBlock r15, G' := [] } }]] (by kernel_rfl) (P2 ((!(true == r6.2)) = false) (eqF h8) <| P2 (((r4.1 : Int) != r6.1) = false) (bneF h9) <| P2 ((!(r7.2 == true)) = false) (eqF h10) <| P2 (((r7.1 : Int) != r4.1) = false) (bneF h11) <| PE ero_153 r3.1.Rules.Terrains <| PL gi_Kind r3.1.Rules.Kinds <| PI (r3.1.Rules.Stack : Int) <| PI (r3.1.Rules.River : Int) <| PI (r3.1.Rules.Road : Int) <| PI (r3.1.Rules.Supply : Int) <| PI (r3.1.Rules.Turns : Int) <| PI (r3.1.Map.Width : Int) <| PI (r3.1.Map.Height : Int) <| PL I r3.1.Map.Terrain <| PL I r3.1.Map.Rivers <| PL I r3.1.Map.Roads <| PI (r3.2.1 : Int) <| PI (r3.2.2 : Int) <| P2 (nfL (List.flatMap D.cells (Ri_SightCells r12))) ⟨nfL_map nfo_27 _, trivial, trivial⟩ <| P2 (nfG []) trivial <| P1 (ci_SightCells hr12) <| PE ero_153 r3.1.Rules.Terrains <| PL gi_Kind r3.1.Rules.Kinds <| PI (r3.1.Rules.Stack : Int) <| PI (r3.1.Rules.River : Int) <| PI (r3.1.Rules.Road : Int) <| PI (r3.1.Rules.Supply : Int) <| PI (r3.1.Rules.Turns : Int) <| PI (r3.1.Map.Width : Int) <| PI (r3.1.Map.Height : Int) <| PL I r3.1.Map.Terrain <| PL I r3.1.Map.Rivers <| PL I r3.1.Map.Roads <| PI (r3.2.1 : Int) <| PI (r3.2.2 : Int) <| P2 (nfL (List.flatMap D.cells (Rs_SightCells r13))) ⟨nfL_map nfo_27 _, trivial, trivial⟩ <| P2 (nfG []) trivial <| P1 (cs_SightCells hr13) <| PE ero_153 r3.1.Rules.Terrains <| PL gi_Kind r3.1.Rules.Kinds <| PI (r3.1.Rules.Stack : Int) <| PI (r3.1.Rules.River : Int) <| PI (r3.1.Rules.Road : Int) <| PI (r3.1.Rules.Supply : Int) <| PI (r3.1.Rules.Turns : Int) <| PI (r3.1.Map.Width : Int) <| PI (r3.1.Map.Height : Int) <| PL I r3.1.Map.Terrain <| PL I r3.1.Map.Rivers <| PL I r3.1.Map.Roads <| PI (r3.2.1 : Int) <| PI (r3.2.2 : Int) <| P1 (ci_FirstBlock hr14) <| PE ero_153 r3.1.Rules.Terrains <| PL gi_Kind r3.1.Rules.Kinds <| PI (r3.1.Rules.Stack : Int) <| PI (r3.1.Rules.River : Int) <| PI (r3.1.Rules.Road : Int) <| PI (r3.1.Rules.Supply : Int) <| PI (r3.1.Rules.Turns : Int) <| PI (r3.1.Map.Width : Int) <| PI (r3.1.Map.Height : Int) <| PL I r3.1.Map.Terrain <| PL I r3.1.Map.Rivers <| PL I r3.1.Map.Roads <| PI (r3.2.1 : Int) <| PI (r3.2.2 : Int) <| P1 (cs_FirstBlock hr15) <| P0) <|
              eIf H (fun h16 H =>
                eW RB (fun _ => []) H <| gE func5 [rg [hT 2], r0] (by kernel_rfl) (P2 ((!(r12.2 == r13.2)) = true) (h16) <| P0))
              (fun h16 H =>
                eBind H fun r17 hr17 H =>
                eIf H (fun h18 H =>
                  eIf H (fun h19 H =>
                    eW RB (fun _ => []) H <| gE func5 [rg [hF 2, { i := 6, call := some { cl := false, ins := [], args := [sl 1 (sl 1 I) r12.1, sl 1 (sl 1 I) r13.1], res := RB r17, G' := [] }, dec := some true }, hT 12], r0] (by kernel_rfl) (P2 ((!(r12.2 == r13.2)) = false) (eqF h16) <| PE ero_27 r12.1 <| PE ero_27 r13.1 <| P1 (cw_sameLists hr17) <| P2 (r17 = true) (h18) <| P2 ((!(r14.2 == r15.2)) = true) (h19) <| P0))
                  (fun h19 H =>
                    eIf H (fun h20 H =>
                      eIf H (fun h21 H =>
                        eW RB (fun _ => []) H <| gE func5 [rg [hF 2, { i := 6, call := some { cl := false, ins := [], args := [sl 1 (sl 1 I) r12.1, sl 1 (sl 1 I) r13.1], res := RB r17, G' := [] }, dec := some true }, hF 12, hF 17, hT 25], r0] (by kernel_rfl) (P2 ((!(r12.2 == r13.2)) = false) (eqF h16) <| PE ero_27 r12.1 <| PE ero_27 r13.1 <| P1 (cw_sameLists hr17) <| P2 (r17 = true) (h18) <| P2 ((!(r14.2 == r15.2)) = false) (eqF h19) <| P2 (((r14.1 : Int) != r15.1) = false) (bneF h20) <| P2 ((!(r14.2 == ((r4.1 : Int) == 2))) = true) (h21) <| P0))
                      (fun h21 H =>
                        eBind H fun r22 hr22 H =>
                        eBind H fun r23 hr23 H =>
                        eBind H fun r24 hr24 H =>
                        eBind H fun r25 hr25 H =>
                        eBind H fun r26 hr26 H =>
                        gS [rg [hF 2, { i := 6, call := some { cl := false, ins := [], args := [sl 1 (sl 1 I) r12.1, sl 1 (sl 1 I) r13.1], res := RB r17, G' := [] }, dec := some true }, hF 12, hF 17, hF 25], rg [hC 1 true [] (Rs_DrawSeenFrom r22) []], rg [{ i := 3, call := some { cl := false, ins := [], args := [.agg [sl 5 gi_Terrain r22.1.Rules.Terrains, sl 6 gi_Kind r22.1.Rules.Kinds, I r22.1.Rules.Stack, I r22.1.Rules.River, I r22.1.Rules.Road, I r22.1.Rules.Supply, I r22.1.Rules.Turns, I r22.1.Map.Width, I r22.1.Map.Height, sl 1 I r22.1.Map.Terrain, sl 1 I r22.1.Map.Rivers, sl 1 I r22.1.Map.Roads], I r22.2.1, I r22.2.2], res := Ri_SeenFrom r23, G' := [] } }], rg [{ i := 3, call := some { cl := false, ins := [], args := [.agg [sl 5 gi_Terrain r22.1.Rules.Terrains, sl 6 gi_Kind r22.1.Rules.Kinds, I r22.1.Rules.Stack, I r22.1.Rules.River, I r22.1.Rules.Road, I r22.1.Rules.Supply, I r22.1.Rules.Turns, I r22.1.Map.Width, I r22.1.Map.Height, sl 1 I r22.1.Map.Terrain, sl 1 I r22.1.Map.Rivers, sl 1 I r22.1.Map.Roads], I r22.2.1, I r22.2.2], res := Rs_SeenFrom r24, G' := [] } }], rg [{ i := 3, call := some { cl := false, ins := [], args := [.agg [sl 5 gi_Terrain r22.1.Rules.Terrains, sl 6 gi_Kind r22.1.Rules.Kinds, I r22.1.Rules.Stack, I r22.1.Rules.River, I r22.1.Rules.Road, I r22.1.Rules.Supply, I r22.1.Rules.Turns, I r22.1.Map.Width, I r22.1.Map.Height, sl 1 I r22.1.Map.Terrain, sl 1 I r22.1.Map.Rivers, sl 1 I r22.1.Map.Roads], I r22.2.1, I r22.2.2], res := Ri_ClearFrom r25, G' := [] } }], rg [{ i := 3, call := some { cl := false, ins := [], args := [.agg [sl 5 gi_Terrain r22.1.Rules.Terrains, sl 6 gi_Kind r22.1.Rules.Kinds, I r22.1.Rules.Stack, I r22.1.Rules.River, I r22.1.Rules.Road, I r22.1.Rules.Supply, I r22.1.Rules.Turns, I r22.1.Map.Width, I r22.1.Map.Height, sl 1 I r22.1.Map.Terrain, sl 1 I r22.1.Map.Rivers, sl 1 I r22.1.Map.Roads], I r22.2.1, I r22.2.2], res := Rs_ClearFrom r26, G' := [] } }]] (by kernel_rfl) (P2 ((!(r12.2 == r13.2)) = false) (eqF h16) <| PE ero_27 r12.1 <| PE ero_27 r13.1 <| P1 (cw_sameLists hr17) <| P2 (r17 = true) (h18) <| P2 ((!(r14.2 == r15.2)) = false) (eqF h19) <| P2 (((r14.1 : Int) != r15.1) = false) (bneF h20) <| P2 ((!(r14.2 == ((r4.1 : Int) == 2))) = false) (eqF h21) <| P1 (cs_DrawSeenFrom hr22) <| PE ero_153 r22.1.Rules.Terrains <| PL gi_Kind r22.1.Rules.Kinds <| PI (r22.1.Rules.Stack : Int) <| PI (r22.1.Rules.River : Int) <| PI (r22.1.Rules.Road : Int) <| PI (r22.1.Rules.Supply : Int) <| PI (r22.1.Rules.Turns : Int) <| PI (r22.1.Map.Width : Int) <| PI (r22.1.Map.Height : Int) <| PL I r22.1.Map.Terrain <| PL I r22.1.Map.Rivers <| PL I r22.1.Map.Roads <| PI (r22.2.1 : Int) <| PI (r22.2.2 : Int) <| P2 (nfL (List.flatMap D.cells (Ri_SeenFrom r23))) ⟨nfL_map nf_3 _, trivial, trivial⟩ <| P2 (nfG []) trivial <| P1 (ci_SeenFrom hr23) <| PE ero_153 r22.1.Rules.Terrains <| PL gi_Kind r22.1.Rules.Kinds <| PI (r22.1.Rules.Stack : Int) <| PI (r22.1.Rules.River : Int) <| PI (r22.1.Rules.Road : Int) <| PI (r22.1.Rules.Supply : Int) <| PI (r22.1.Rules.Turns : Int) <| PI (r22.1.Map.Width : Int) <| PI (r22.1.Map.Height : Int) <| PL I r22.1.Map.Terrain <| PL I r22.1.Map.Rivers <| PL I r22.1.Map.Roads <| PI (r22.2.1 : Int) <| PI (r22.2.2 : Int) <| P2 (nfL (List.flatMap D.cells (Rs_SeenFrom r24))) ⟨nfL_map nf_3 _, trivial, trivial⟩ <| P2 (nfG []) trivial <| P1 (cs_SeenFrom hr24) <| PE ero_153 r22.1.Rules.Terrains <| PL gi_Kind r22.1.Rules.Kinds <| PI (r22.1.Rules.Stack : Int) <| PI (r22.1.Rules.River : Int) <| PI (r22.1.Rules.Road : Int) <| PI (r22.1.Rules.Supply : Int) <| PI (r22.1.Rules.Turns : Int) <| PI (r22.1.Map.Width : Int) <| PI (r22.1.Map.Height : Int) <| PL I r22.1.Map.Terrain <| PL I r22.1.Map.Rivers <| PL I r22.1.Map.Roads <| PI (r22.2.1 : Int) <| PI (r22.2.2 : Int) <| P2 (nfL (List.flatMap D.cells (Ri_ClearFrom r25))) ⟨nfL_map nf_3 _, trivial, trivial⟩ <| P2 (nfG []) trivial <| P1 (ci_ClearFrom hr25) <| PE ero_153 r22.1.Rules.Terrains <| PL gi_Kind r22.1.Rules.Kinds <| PI (r22.1.Rules.Stack : Int) <| PI (r22.1.Rules.River : Int) <| PI (r22.1.Rules.Road : Int) <| PI (r22.1.Rules.Supply : Int) <| PI (r22.1.Rules.Turns : Int) <| PI (r22.1.Map.Width : Int) <| PI (r22.1.Map.Height : Int) <| PL I r22.1.Map.Terrain <| PL I r22.1.Map.Rivers <| PL I r22.1.Map.Roads <| PI (r22.2.1 : Int) <| PI (r22.2.2 : Int) <| P2 (nfL (List.flatMap D.cells (Rs_ClearFrom r26))) ⟨nfL_map nf_3 _, trivial, trivial⟩ <| P2 (nfG []) trivial <| P1 (cs_ClearFrom hr26) <| P0) <|
                        eIf H (fun h27 H =>
                          eW RB (fun _ => []) H <| gE func5 [rg [hT 2], r0] (by kernel_rfl) (P2 ((!(r23.2 == r24.2)) = true) (h27) <| P0))
                        (fun h27 H =>
                          eBind H fun r28 hr28 H =>
                          eIf H (fun h29 H =>
                            eIf H (fun h30 H =>
                              eW RB (fun _ => []) H <| gE func5 [rg [hF 2, { i := 6, call := some { cl := false, auto := true, ins := [], res := (RB r28), G' := [] }, dec := some true }, hT 12], r0] (by kernel_rfl) (P2 ((!(r23.2 == r24.2)) = false) (eqF h27) <| P1 (cw_sameInts hr28) <| P2 (r28 = true) (h29) <| P2 ((!(r25.2 == r26.2)) = true) (h30) <| P0))
                            (fun h30 H =>
                              eBind H fun r31 hr31 H =>
                              eIf H (fun h32 H =>
                                gO [rg [hF 2, { i := 6, call := some { cl := false, auto := true, ins := [], res := (RB r28), G' := [] }, dec := some true }, hF 12, { i := 17, call := some { cl := false, auto := true, ins := [], res := (RB r31), G' := [] }, dec := some true }], r0, .canon [29, 31] [27, 196, 197, 198]] (by kernel_rfl) (P2 ((!(r23.2 == r24.2)) = false) (eqF h27) <| P1 (cw_sameInts hr28) <| P2 (r28 = true) (h29) <| P2 ((!(r25.2 == r26.2)) = false) (eqF h30) <| P1 (cw_sameInts hr31) <| P2 (r31 = true) (h32) <| P0) (ww_FnSight _ _ H))
                              (fun h32 H =>
                                eW RB (fun _ => []) H <| gE func5 [rg [hF 2, { i := 6, call := some { cl := false, auto := true, ins := [], res := (RB r28), G' := [] }, dec := some true }, hF 12, { i := 17, call := some { cl := false, auto := true, ins := [], res := (RB r31), G' := [] }, dec := some false }], r0] (by kernel_rfl) (P2 ((!(r23.2 == r24.2)) = false) (eqF h27) <| P1 (cw_sameInts hr28) <| P2 (r28 = true) (h29) <| P2 ((!(r25.2 == r26.2)) = false) (eqF h30) <| P1 (cw_sameInts hr31) <| P2 (r31 = false) (eqF h32) <| P0))))
                          (fun h29 H =>
                            eW RB (fun _ => []) H <| gE func5 [rg [hF 2, { i := 6, call := some { cl := false, auto := true, ins := [], res := (RB r28), G' := [] }, dec := some false }], r0] (by kernel_rfl) (P2 ((!(r23.2 == r24.2)) = false) (eqF h27) <| P1 (cw_sameInts hr28) <| P2 (r28 = false) (eqF h29) <| P0)))))
                    (fun h20 H =>
                      eW RB (fun _ => []) H <| gE func5 [rg [hF 2, { i := 6, call := some { cl := false, ins := [], args := [sl 1 (sl 1 I) r12.1, sl 1 (sl 1 I) r13.1], res := RB r17, G' := [] }, dec := some true }, hF 12, hT 17], r0] (by kernel_rfl) (P2 ((!(r12.2 == r13.2)) = false) (eqF h16) <| PE ero_27 r12.1 <| PE ero_27 r13.1 <| P1 (cw_sameLists hr17) <| P2 (r17 = true) (h18) <| P2 ((!(r14.2 == r15.2)) = false) (eqF h19) <| P2 (((r14.1 : Int) != r15.1) = true) (bneT h20) <| P0))))
                (fun h18 H =>
                  eW RB (fun _ => []) H <| gE func5 [rg [hF 2, { i := 6, call := some { cl := false, ins := [], args := [sl 1 (sl 1 I) r12.1, sl 1 (sl 1 I) r13.1], res := RB r17, G' := [] }, dec := some false }], r0] (by kernel_rfl) (P2 ((!(r12.2 == r13.2)) = false) (eqF h16) <| PE ero_27 r12.1 <| PE ero_27 r13.1 <| P1 (cw_sameLists hr17) <| P2 (r17 = false) (eqF h18) <| P0))))
            (fun h11 H =>
              eW RB (fun _ => []) H <| gE func5 [rg [hF 2, hF 6, hF 11, hT 16], r0] (by kernel_rfl) (P2 ((!(true == r6.2)) = false) (eqF h8) <| P2 (((r4.1 : Int) != r6.1) = false) (bneF h9) <| P2 ((!(r7.2 == true)) = false) (eqF h10) <| P2 (((r7.1 : Int) != r4.1) = true) (bneT h11) <| P0))))
        (fun h9 H =>
          eW RB (fun _ => []) H <| gE func5 [rg [hF 2, hT 6], r0] (by kernel_rfl) (P2 ((!(true == r6.2)) = false) (eqF h8) <| P2 (((r4.1 : Int) != r6.1) = true) (bneT h9) <| P0))))
    (fun h5 H =>
      eBind H fun r6 hr6 H =>
      eBind H fun r7 hr7 H =>
      gS [rg [{ i := 3, call := some { cl := false, ins := [], args := [.agg [sl 5 gi_Terrain r3.1.Rules.Terrains, sl 6 gi_Kind r3.1.Rules.Kinds, I r3.1.Rules.Stack, I r3.1.Rules.River, I r3.1.Rules.Road, I r3.1.Rules.Supply, I r3.1.Rules.Turns, I r3.1.Map.Width, I r3.1.Map.Height, sl 1 I r3.1.Map.Terrain, sl 1 I r3.1.Map.Rivers, sl 1 I r3.1.Map.Roads], I r3.2.1, I r3.2.2], res := Ri_SightCode r4, G' := [] } }, hF 6], rg [{ i := 3, call := some { cl := false, ins := [], args := [.agg [sl 5 gi_Terrain r3.1.Rules.Terrains, sl 6 gi_Kind r3.1.Rules.Kinds, I r3.1.Rules.Stack, I r3.1.Rules.River, I r3.1.Rules.Road, I r3.1.Rules.Supply, I r3.1.Rules.Turns, I r3.1.Map.Width, I r3.1.Map.Height, sl 1 I r3.1.Map.Terrain, sl 1 I r3.1.Map.Rivers, sl 1 I r3.1.Map.Roads], I r3.2.1, I r3.2.2], res := Rs_SightCode r6, G' := [] } }], rg [{ i := 3, call := some { cl := false, ins := [], args := [.agg [sl 5 gi_Terrain r3.1.Rules.Terrains, sl 6 gi_Kind r3.1.Rules.Kinds, I r3.1.Rules.Stack, I r3.1.Rules.River, I r3.1.Rules.Road, I r3.1.Rules.Supply, I r3.1.Rules.Turns, I r3.1.Map.Width, I r3.1.Map.Height, sl 1 I r3.1.Map.Terrain, sl 1 I r3.1.Map.Rivers, sl 1 I r3.1.Map.Roads], I r3.2.2, I r3.2.1], res := Ri_SightCode r7, G' := [] } }]] (by kernel_rfl) (PE ero_153 r3.1.Rules.Terrains <| PL gi_Kind r3.1.Rules.Kinds <| PI (r3.1.Rules.Stack : Int) <| PI (r3.1.Rules.River : Int) <| PI (r3.1.Rules.Road : Int) <| PI (r3.1.Rules.Supply : Int) <| PI (r3.1.Rules.Turns : Int) <| PI (r3.1.Map.Width : Int) <| PI (r3.1.Map.Height : Int) <| PL I r3.1.Map.Terrain <| PL I r3.1.Map.Rivers <| PL I r3.1.Map.Roads <| PI (r3.2.1 : Int) <| PI (r3.2.2 : Int) <| P1 (ci_SightCode hr4) <| P2 (r4.2 = false) (eqF h5) <| PE ero_153 r3.1.Rules.Terrains <| PL gi_Kind r3.1.Rules.Kinds <| PI (r3.1.Rules.Stack : Int) <| PI (r3.1.Rules.River : Int) <| PI (r3.1.Rules.Road : Int) <| PI (r3.1.Rules.Supply : Int) <| PI (r3.1.Rules.Turns : Int) <| PI (r3.1.Map.Width : Int) <| PI (r3.1.Map.Height : Int) <| PL I r3.1.Map.Terrain <| PL I r3.1.Map.Rivers <| PL I r3.1.Map.Roads <| PI (r3.2.1 : Int) <| PI (r3.2.2 : Int) <| P1 (cs_SightCode hr6) <| PE ero_153 r3.1.Rules.Terrains <| PL gi_Kind r3.1.Rules.Kinds <| PI (r3.1.Rules.Stack : Int) <| PI (r3.1.Rules.River : Int) <| PI (r3.1.Rules.Road : Int) <| PI (r3.1.Rules.Supply : Int) <| PI (r3.1.Rules.Turns : Int) <| PI (r3.1.Map.Width : Int) <| PI (r3.1.Map.Height : Int) <| PL I r3.1.Map.Terrain <| PL I r3.1.Map.Rivers <| PL I r3.1.Map.Roads <| PI (r3.2.2 : Int) <| PI (r3.2.1 : Int) <| P1 (ci_SightCode hr7) <| P0) <|
      eIf H (fun h8 H =>
        eW RB (fun _ => []) H <| gE func5 [rg [hT 2], r0] (by kernel_rfl) (P2 ((!(false == r6.2)) = true) (h8) <| P0))
      (fun h8 H =>
        eIf H (fun h9 H =>
          eIf H (fun h10 H =>
            eW RB (fun _ => []) H <| gE func5 [rg [hF 2, hF 6, hT 11], r0] (by kernel_rfl) (P2 ((!(false == r6.2)) = false) (eqF h8) <| P2 (((r4.1 : Int) != r6.1) = false) (bneF h9) <| P2 ((!(r7.2 == false)) = true) (h10) <| P0))
          (fun h10 H =>
            eIf H (fun h11 H =>
              eBind H fun r12 hr12 H =>
              eBind H fun r13 hr13 H =>
              eBind H fun r14 hr14 H =>
              eBind H fun r15 hr15 H =>
              gS [rg [hF 2, hF 6, hF 11, hF 16], rg [{ i := 3, call := some { cl := false, ins := [], args := [.agg [sl 5 gi_Terrain r3.1.Rules.Terrains, sl 6 gi_Kind r3.1.Rules.Kinds, I r3.1.Rules.Stack, I r3.1.Rules.River, I r3.1.Rules.Road, I r3.1.Rules.Supply, I r3.1.Rules.Turns, I r3.1.Map.Width, I r3.1.Map.Height, sl 1 I r3.1.Map.Terrain, sl 1 I r3.1.Map.Rivers, sl 1 I r3.1.Map.Roads], I r3.2.1, I r3.2.2], res := Ri_SightCells r12, G' := [] } }], rg [{ i := 3, call := some { cl := false, ins := [], args := [.agg [sl 5 gi_Terrain r3.1.Rules.Terrains, sl 6 gi_Kind r3.1.Rules.Kinds, I r3.1.Rules.Stack, I r3.1.Rules.River, I r3.1.Rules.Road, I r3.1.Rules.Supply, I r3.1.Rules.Turns, I r3.1.Map.Width, I r3.1.Map.Height, sl 1 I r3.1.Map.Terrain, sl 1 I r3.1.Map.Rivers, sl 1 I r3.1.Map.Roads], I r3.2.1, I r3.2.2], res := Rs_SightCells r13, G' := [] } }], rg [{ i := 3, call := some { cl := false, ins := [], args := [.agg [sl 5 gi_Terrain r3.1.Rules.Terrains, sl 6 gi_Kind r3.1.Rules.Kinds, I r3.1.Rules.Stack, I r3.1.Rules.River, I r3.1.Rules.Road, I r3.1.Rules.Supply, I r3.1.Rules.Turns, I r3.1.Map.Width, I r3.1.Map.Height, sl 1 I r3.1.Map.Terrain, sl 1 I r3.1.Map.Rivers, sl 1 I r3.1.Map.Roads], I r3.2.1, I r3.2.2], res := Ri_FirstBlock r14, G' := [] } }], rg [{ i := 3, call := some { cl := false, ins := [], args := [.agg [sl 5 gi_Terrain r3.1.Rules.Terrains, sl 6 gi_Kind r3.1.Rules.Kinds, I r3.1.Rules.Stack, I r3.1.Rules.River, I r3.1.Rules.Road, I r3.1.Rules.Supply, I r3.1.Rules.Turns, I r3.1.Map.Width, I r3.1.Map.Height, sl 1 I r3.1.Map.Terrain, sl 1 I r3.1.Map.Rivers, sl 1 I r3.1.Map.Roads], I r3.2.1, I r3.2.2], res := Rs_FirstBlock r15, G' := [] } }]] (by kernel_rfl) (P2 ((!(false == r6.2)) = false) (eqF h8) <| P2 (((r4.1 : Int) != r6.1) = false) (bneF h9) <| P2 ((!(r7.2 == false)) = false) (eqF h10) <| P2 (((r7.1 : Int) != r4.1) = false) (bneF h11) <| PE ero_153 r3.1.Rules.Terrains <| PL gi_Kind r3.1.Rules.Kinds <| PI (r3.1.Rules.Stack : Int) <| PI (r3.1.Rules.River : Int) <| PI (r3.1.Rules.Road : Int) <| PI (r3.1.Rules.Supply : Int) <| PI (r3.1.Rules.Turns : Int) <| PI (r3.1.Map.Width : Int) <| PI (r3.1.Map.Height : Int) <| PL I r3.1.Map.Terrain <| PL I r3.1.Map.Rivers <| PL I r3.1.Map.Roads <| PI (r3.2.1 : Int) <| PI (r3.2.2 : Int) <| P2 (nfL (List.flatMap D.cells (Ri_SightCells r12))) ⟨nfL_map nfo_27 _, trivial, trivial⟩ <| P2 (nfG []) trivial <| P1 (ci_SightCells hr12) <| PE ero_153 r3.1.Rules.Terrains <| PL gi_Kind r3.1.Rules.Kinds <| PI (r3.1.Rules.Stack : Int) <| PI (r3.1.Rules.River : Int) <| PI (r3.1.Rules.Road : Int) <| PI (r3.1.Rules.Supply : Int) <| PI (r3.1.Rules.Turns : Int) <| PI (r3.1.Map.Width : Int) <| PI (r3.1.Map.Height : Int) <| PL I r3.1.Map.Terrain <| PL I r3.1.Map.Rivers <| PL I r3.1.Map.Roads <| PI (r3.2.1 : Int) <| PI (r3.2.2 : Int) <| P2 (nfL (List.flatMap D.cells (Rs_SightCells r13))) ⟨nfL_map nfo_27 _, trivial, trivial⟩ <| P2 (nfG []) trivial <| P1 (cs_SightCells hr13) <| PE ero_153 r3.1.Rules.Terrains <| PL gi_Kind r3.1.Rules.Kinds <| PI (r3.1.Rules.Stack : Int) <| PI (r3.1.Rules.River : Int) <| PI (r3.1.Rules.Road : Int) <| PI (r3.1.Rules.Supply : Int) <| PI (r3.1.Rules.Turns : Int) <| PI (r3.1.Map.Width : Int) <| PI (r3.1.Map.Height : Int) <| PL I r3.1.Map.Terrain <| PL I r3.1.Map.Rivers <| PL I r3.1.Map.Roads <| PI (r3.2.1 : Int) <| PI (r3.2.2 : Int) <| P1 (ci_FirstBlock hr14) <| PE ero_153 r3.1.Rules.Terrains <| PL gi_Kind r3.1.Rules.Kinds <| PI (r3.1.Rules.Stack : Int) <| PI (r3.1.Rules.River : Int) <| PI (r3.1.Rules.Road : Int) <| PI (r3.1.Rules.Supply : Int) <| PI (r3.1.Rules.Turns : Int) <| PI (r3.1.Map.Width : Int) <| PI (r3.1.Map.Height : Int) <| PL I r3.1.Map.Terrain <| PL I r3.1.Map.Rivers <| PL I r3.1.Map.Roads <| PI (r3.2.1 : Int) <| PI (r3.2.2 : Int) <| P1 (cs_FirstBlock hr15) <| P0) <|
              eIf H (fun h16 H =>
                eW RB (fun _ => []) H <| gE func5 [rg [hT 2], r0] (by kernel_rfl) (P2 ((!(r12.2 == r13.2)) = true) (h16) <| P0))
              (fun h16 H =>
                eBind H fun r17 hr17 H =>
                eIf H (fun h18 H =>
                  eIf H (fun h19 H =>
                    eW RB (fun _ => []) H <| gE func5 [rg [hF 2, { i := 6, call := some { cl := false, ins := [], args := [sl 1 (sl 1 I) r12.1, sl 1 (sl 1 I) r13.1], res := RB r17, G' := [] }, dec := some true }, hT 12], r0] (by kernel_rfl) (P2 ((!(r12.2 == r13.2)) = false) (eqF h16) <| PE ero_27 r12.1 <| PE ero_27 r13.1 <| P1 (cw_sameLists hr17) <| P2 (r17 = true) (h18) <| P2 ((!(r14.2 == r15.2)) = true) (h19) <| P0))
                  (fun h19 H =>
                    eIf H (fun h20 H =>
                      eBind H fun r21 hr21 H =>
                      eBind H fun r22 hr22 H =>
                      eBind H fun r23 hr23 H =>
                      eBind H fun r24 hr24 H =>
                      eBind H fun r25 hr25 H =>
                      gS [rg [hF 2, { i := 6, call := some { cl := false, ins := [], args := [sl 1 (sl 1 I) r12.1, sl 1 (sl 1 I) r13.1], res := RB r17, G' := [] }, dec := some true }, hF 12, hF 17], rg [hC 1 true [] (Rs_DrawSeenFrom r21) []], rg [{ i := 3, call := some { cl := false, ins := [], args := [.agg [sl 5 gi_Terrain r21.1.Rules.Terrains, sl 6 gi_Kind r21.1.Rules.Kinds, I r21.1.Rules.Stack, I r21.1.Rules.River, I r21.1.Rules.Road, I r21.1.Rules.Supply, I r21.1.Rules.Turns, I r21.1.Map.Width, I r21.1.Map.Height, sl 1 I r21.1.Map.Terrain, sl 1 I r21.1.Map.Rivers, sl 1 I r21.1.Map.Roads], I r21.2.1, I r21.2.2], res := Ri_SeenFrom r22, G' := [] } }], rg [{ i := 3, call := some { cl := false, ins := [], args := [.agg [sl 5 gi_Terrain r21.1.Rules.Terrains, sl 6 gi_Kind r21.1.Rules.Kinds, I r21.1.Rules.Stack, I r21.1.Rules.River, I r21.1.Rules.Road, I r21.1.Rules.Supply, I r21.1.Rules.Turns, I r21.1.Map.Width, I r21.1.Map.Height, sl 1 I r21.1.Map.Terrain, sl 1 I r21.1.Map.Rivers, sl 1 I r21.1.Map.Roads], I r21.2.1, I r21.2.2], res := Rs_SeenFrom r23, G' := [] } }], rg [{ i := 3, call := some { cl := false, ins := [], args := [.agg [sl 5 gi_Terrain r21.1.Rules.Terrains, sl 6 gi_Kind r21.1.Rules.Kinds, I r21.1.Rules.Stack, I r21.1.Rules.River, I r21.1.Rules.Road, I r21.1.Rules.Supply, I r21.1.Rules.Turns, I r21.1.Map.Width, I r21.1.Map.Height, sl 1 I r21.1.Map.Terrain, sl 1 I r21.1.Map.Rivers, sl 1 I r21.1.Map.Roads], I r21.2.1, I r21.2.2], res := Ri_ClearFrom r24, G' := [] } }], rg [{ i := 3, call := some { cl := false, ins := [], args := [.agg [sl 5 gi_Terrain r21.1.Rules.Terrains, sl 6 gi_Kind r21.1.Rules.Kinds, I r21.1.Rules.Stack, I r21.1.Rules.River, I r21.1.Rules.Road, I r21.1.Rules.Supply, I r21.1.Rules.Turns, I r21.1.Map.Width, I r21.1.Map.Height, sl 1 I r21.1.Map.Terrain, sl 1 I r21.1.Map.Rivers, sl 1 I r21.1.Map.Roads], I r21.2.1, I r21.2.2], res := Rs_ClearFrom r25, G' := [] } }]] (by kernel_rfl) (P2 ((!(r12.2 == r13.2)) = false) (eqF h16) <| PE ero_27 r12.1 <| PE ero_27 r13.1 <| P1 (cw_sameLists hr17) <| P2 (r17 = true) (h18) <| P2 ((!(r14.2 == r15.2)) = false) (eqF h19) <| P2 (((r14.1 : Int) != r15.1) = false) (bneF h20) <| P1 (cs_DrawSeenFrom hr21) <| PE ero_153 r21.1.Rules.Terrains <| PL gi_Kind r21.1.Rules.Kinds <| PI (r21.1.Rules.Stack : Int) <| PI (r21.1.Rules.River : Int) <| PI (r21.1.Rules.Road : Int) <| PI (r21.1.Rules.Supply : Int) <| PI (r21.1.Rules.Turns : Int) <| PI (r21.1.Map.Width : Int) <| PI (r21.1.Map.Height : Int) <| PL I r21.1.Map.Terrain <| PL I r21.1.Map.Rivers <| PL I r21.1.Map.Roads <| PI (r21.2.1 : Int) <| PI (r21.2.2 : Int) <| P2 (nfL (List.flatMap D.cells (Ri_SeenFrom r22))) ⟨nfL_map nf_3 _, trivial, trivial⟩ <| P2 (nfG []) trivial <| P1 (ci_SeenFrom hr22) <| PE ero_153 r21.1.Rules.Terrains <| PL gi_Kind r21.1.Rules.Kinds <| PI (r21.1.Rules.Stack : Int) <| PI (r21.1.Rules.River : Int) <| PI (r21.1.Rules.Road : Int) <| PI (r21.1.Rules.Supply : Int) <| PI (r21.1.Rules.Turns : Int) <| PI (r21.1.Map.Width : Int) <| PI (r21.1.Map.Height : Int) <| PL I r21.1.Map.Terrain <| PL I r21.1.Map.Rivers <| PL I r21.1.Map.Roads <| PI (r21.2.1 : Int) <| PI (r21.2.2 : Int) <| P2 (nfL (List.flatMap D.cells (Rs_SeenFrom r23))) ⟨nfL_map nf_3 _, trivial, trivial⟩ <| P2 (nfG []) trivial <| P1 (cs_SeenFrom hr23) <| PE ero_153 r21.1.Rules.Terrains <| PL gi_Kind r21.1.Rules.Kinds <| PI (r21.1.Rules.Stack : Int) <| PI (r21.1.Rules.River : Int) <| PI (r21.1.Rules.Road : Int) <| PI (r21.1.Rules.Supply : Int) <| PI (r21.1.Rules.Turns : Int) <| PI (r21.1.Map.Width : Int) <| PI (r21.1.Map.Height : Int) <| PL I r21.1.Map.Terrain <| PL I r21.1.Map.Rivers <| PL I r21.1.Map.Roads <| PI (r21.2.1 : Int) <| PI (r21.2.2 : Int) <| P2 (nfL (List.flatMap D.cells (Ri_ClearFrom r24))) ⟨nfL_map nf_3 _, trivial, trivial⟩ <| P2 (nfG []) trivial <| P1 (ci_ClearFrom hr24) <| PE ero_153 r21.1.Rules.Terrains <| PL gi_Kind r21.1.Rules.Kinds <| PI (r21.1.Rules.Stack : Int) <| PI (r21.1.Rules.River : Int) <| PI (r21.1.Rules.Road : Int) <| PI (r21.1.Rules.Supply : Int) <| PI (r21.1.Rules.Turns : Int) <| PI (r21.1.Map.Width : Int) <| PI (r21.1.Map.Height : Int) <| PL I r21.1.Map.Terrain <| PL I r21.1.Map.Rivers <| PL I r21.1.Map.Roads <| PI (r21.2.1 : Int) <| PI (r21.2.2 : Int) <| P2 (nfL (List.flatMap D.cells (Rs_ClearFrom r25))) ⟨nfL_map nf_3 _, trivial, trivial⟩ <| P2 (nfG []) trivial <| P1 (cs_ClearFrom hr25) <| P0) <|
                      eIf H (fun h26 H =>
                        eW RB (fun _ => []) H <| gE func5 [rg [hT 2], r0] (by kernel_rfl) (P2 ((!(r22.2 == r23.2)) = true) (h26) <| P0))
                      (fun h26 H =>
                        eBind H fun r27 hr27 H =>
                        eIf H (fun h28 H =>
                          eIf H (fun h29 H =>
                            eW RB (fun _ => []) H <| gE func5 [rg [hF 2, { i := 6, call := some { cl := false, auto := true, ins := [], res := (RB r27), G' := [] }, dec := some true }, hT 12], r0] (by kernel_rfl) (P2 ((!(r22.2 == r23.2)) = false) (eqF h26) <| P1 (cw_sameInts hr27) <| P2 (r27 = true) (h28) <| P2 ((!(r24.2 == r25.2)) = true) (h29) <| P0))
                          (fun h29 H =>
                            eBind H fun r30 hr30 H =>
                            eIf H (fun h31 H =>
                              gO [rg [hF 2, { i := 6, call := some { cl := false, auto := true, ins := [], res := (RB r27), G' := [] }, dec := some true }, hF 12, { i := 17, call := some { cl := false, auto := true, ins := [], res := (RB r30), G' := [] }, dec := some true }], r0, .canon [29, 31] [27, 196, 197, 198]] (by kernel_rfl) (P2 ((!(r22.2 == r23.2)) = false) (eqF h26) <| P1 (cw_sameInts hr27) <| P2 (r27 = true) (h28) <| P2 ((!(r24.2 == r25.2)) = false) (eqF h29) <| P1 (cw_sameInts hr30) <| P2 (r30 = true) (h31) <| P0) (ww_FnSight _ _ H))
                            (fun h31 H =>
                              eW RB (fun _ => []) H <| gE func5 [rg [hF 2, { i := 6, call := some { cl := false, auto := true, ins := [], res := (RB r27), G' := [] }, dec := some true }, hF 12, { i := 17, call := some { cl := false, auto := true, ins := [], res := (RB r30), G' := [] }, dec := some false }], r0] (by kernel_rfl) (P2 ((!(r22.2 == r23.2)) = false) (eqF h26) <| P1 (cw_sameInts hr27) <| P2 (r27 = true) (h28) <| P2 ((!(r24.2 == r25.2)) = false) (eqF h29) <| P1 (cw_sameInts hr30) <| P2 (r30 = false) (eqF h31) <| P0))))
                        (fun h28 H =>
                          eW RB (fun _ => []) H <| gE func5 [rg [hF 2, { i := 6, call := some { cl := false, auto := true, ins := [], res := (RB r27), G' := [] }, dec := some false }], r0] (by kernel_rfl) (P2 ((!(r22.2 == r23.2)) = false) (eqF h26) <| P1 (cw_sameInts hr27) <| P2 (r27 = false) (eqF h28) <| P0))))
                    (fun h20 H =>
                      eW RB (fun _ => []) H <| gE func5 [rg [hF 2, { i := 6, call := some { cl := false, ins := [], args := [sl 1 (sl 1 I) r12.1, sl 1 (sl 1 I) r13.1], res := RB r17, G' := [] }, dec := some true }, hF 12, hT 17], r0] (by kernel_rfl) (P2 ((!(r12.2 == r13.2)) = false) (eqF h16) <| PE ero_27 r12.1 <| PE ero_27 r13.1 <| P1 (cw_sameLists hr17) <| P2 (r17 = true) (h18) <| P2 ((!(r14.2 == r15.2)) = false) (eqF h19) <| P2 (((r14.1 : Int) != r15.1) = true) (bneT h20) <| P0))))
                (fun h18 H =>
                  eW RB (fun _ => []) H <| gE func5 [rg [hF 2, { i := 6, call := some { cl := false, ins := [], args := [sl 1 (sl 1 I) r12.1, sl 1 (sl 1 I) r13.1], res := RB r17, G' := [] }, dec := some false }], r0] (by kernel_rfl) (P2 ((!(r12.2 == r13.2)) = false) (eqF h16) <| PE ero_27 r12.1 <| PE ero_27 r13.1 <| P1 (cw_sameLists hr17) <| P2 (r17 = false) (eqF h18) <| P0))))
            (fun h11 H =>
              eW RB (fun _ => []) H <| gE func5 [rg [hF 2, hF 6, hF 11, hT 16], r0] (by kernel_rfl) (P2 ((!(false == r6.2)) = false) (eqF h8) <| P2 (((r4.1 : Int) != r6.1) = false) (bneF h9) <| P2 ((!(r7.2 == false)) = false) (eqF h10) <| P2 (((r7.1 : Int) != r4.1) = true) (bneT h11) <| P0))))
        (fun h9 H =>
          eW RB (fun _ => []) H <| gE func5 [rg [hF 2, hT 6], r0] (by kernel_rfl) (P2 ((!(false == r6.2)) = false) (eqF h8) <| P2 (((r4.1 : Int) != r6.1) = true) (bneT h9) <| P0)))))
end Go.Proofs.YtpggeanoohlmjaaGreatDoor.Ab
