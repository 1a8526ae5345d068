/- Part of the proof of FnExactNewSaveCard: no condition of its own. -/
import Derived.Test.YtcblbhjbocipbaaGreatDoorD1NC1
set_option linter.unusedVariables false
set_option linter.unusedSimpArgs false
open Go Go.Proofs Go.Proofs.Tryz
namespace Go.Proofs.YtcblbhjbocipbaaGreatDoor.Ab
def Rw_markSavedTurnS (r : Int × (List Gi_SavedTurn)) : List D := [I r.1]
def Nw_markSavedTurnS (r : Int × (List Gi_SavedTurn)) : List Root := [⟨false, false, 5, r.2.length, List.map goi_SavedTurn r.2⟩]
noncomputable def Kw_markSavedTurnS : Sw_markSavedTurnS → List Item
 | .h1 .. => nav 300 2 [] [.code (bdy f61)]
def Zw_markSavedTurnS : Sw_markSavedTurnS → St
 | .h1 k0 i1 l2 => ⟨sts 52 [(0, .ref 0 5 none), (1, I k0), (5, I i1)], [some ⟨false, false, 5, l2.length, List.map goi_SavedTurn l2⟩]⟩
abbrev Qw_markSavedTurnS := Nx X 61 1 Kw_markSavedTurnS Zw_markSavedTurnS Rw_markSavedTurnS Nw_markSavedTurnS
theorem nw_markSavedTurnS : ∀ s o, Bw_markSavedTurnS s = some o → Qw_markSavedTurnS (Kw_markSavedTurnS s) (Zw_markSavedTurnS s) o
 | .h1 k0 i1 l2, o, H =>
  eIf H (fun h1 H =>
  eCk H fun h2 H =>
  eBind H fun x3 hx3 H =>
  eCk H fun h4 H =>
  eBind H fun x5 hx5 H =>
  eCk H fun h6 H =>
  eBind H fun x7 hx7 H =>
  eBind H fun r8 hr8 H =>
  eCk H fun h9 H =>
  eCk H fun h10 H =>
  eBind H fun x11 hx11 H =>
  eCk H fun h12 H =>
  eBind H fun x13 hx13 H =>
  eBind H fun r14 hr14 H =>
  eCk H fun h15 H =>
  eN H fun r hn => gO [rg [hT 3], rg [hA 5 ((List.set l2 (Int.toNat i1) (Gi_SavedTurn.mk k0 x3.First x3.Other)).length) (List.map goi_SavedTurn (List.set l2 (Int.toNat i1) (Gi_SavedTurn.mk k0 x3.First x3.Other)))], r0, rg [hA 6 ((List.set (List.set l2 (Int.toNat i1) (Gi_SavedTurn.mk k0 x3.First x3.Other)) (Int.toNat i1) (Gi_SavedTurn.mk x5.Seed (Gi_Sheet.mk (IntKind.wrap .i64 (k0 + 1)) x5.First.Orders) x5.Other)).length) (List.map goi_SavedTurn (List.set (List.set l2 (Int.toNat i1) (Gi_SavedTurn.mk k0 x3.First x3.Other)) (Int.toNat i1) (Gi_SavedTurn.mk x5.Seed (Gi_Sheet.mk (IntKind.wrap .i64 (k0 + 1)) x5.First.Orders) x5.Other)))], r0, rg [{ i := 5, pre := [.take 0 (Int.toNat i1) 2 3 x7.First.Orders.length (List.map goi_Order x7.First.Orders) (List.set (List.map goi_SavedTurn (List.set (List.set l2 (Int.toNat i1) (Gi_SavedTurn.mk k0 x3.First x3.Other)) (Int.toNat i1) (Gi_SavedTurn.mk x5.Seed (Gi_Sheet.mk (IntKind.wrap .i64 (k0 + 1)) x5.First.Orders) x5.Other))) (Int.toNat i1) (.agg [I x7.Seed, I x7.First.Side, .ref 1 3 none, I x7.Other.Side, ow 3 goi_Order x7.Other.Orders]))], el := some (.agg [I x7.Seed, I x7.First.Side, .ref 1 3 none, I x7.Other.Side, ow 3 goi_Order x7.Other.Orders]) }, { i := 7, call := some { cl := true, ins := [1], args := [.ref 0 3 none, I (IntKind.wrap .i64 ((IntKind.wrap .i64 (k0 + 1)) + 1))], res := Rw_markOrderS r8, G' := Nw_markOrderS r8 }, post := [.put 0 (Int.toNat i1) 2 1 (List.map goi_SavedTurn (List.set (List.set (List.set l2 (Int.toNat i1) (Gi_SavedTurn.mk k0 x3.First x3.Other)) (Int.toNat i1) (Gi_SavedTurn.mk x5.Seed (Gi_Sheet.mk (IntKind.wrap .i64 (k0 + 1)) x5.First.Orders) x5.Other)) (Int.toNat i1) (Gi_SavedTurn.mk x7.Seed (Gi_Sheet.mk x7.First.Side r8.2) x7.Other))), .own 0 (List.set (List.set (List.set l2 (Int.toNat i1) (Gi_SavedTurn.mk k0 x3.First x3.Other)) (Int.toNat i1) (Gi_SavedTurn.mk x5.Seed (Gi_Sheet.mk (IntKind.wrap .i64 (k0 + 1)) x5.First.Orders) x5.Other)) (Int.toNat i1) (Gi_SavedTurn.mk x7.Seed (Gi_Sheet.mk x7.First.Side r8.2) x7.Other)).length], xtra := [0] }], rg [hA 6 ((List.set (List.set (List.set (List.set l2 (Int.toNat i1) (Gi_SavedTurn.mk k0 x3.First x3.Other)) (Int.toNat i1) (Gi_SavedTurn.mk x5.Seed (Gi_Sheet.mk (IntKind.wrap .i64 (k0 + 1)) x5.First.Orders) x5.Other)) (Int.toNat i1) (Gi_SavedTurn.mk x7.Seed (Gi_Sheet.mk x7.First.Side r8.2) x7.Other)) (Int.toNat i1) (Gi_SavedTurn.mk x11.Seed x11.First (Gi_Sheet.mk r8.1 x11.Other.Orders))).length) (List.map goi_SavedTurn (List.set (List.set (List.set (List.set l2 (Int.toNat i1) (Gi_SavedTurn.mk k0 x3.First x3.Other)) (Int.toNat i1) (Gi_SavedTurn.mk x5.Seed (Gi_Sheet.mk (IntKind.wrap .i64 (k0 + 1)) x5.First.Orders) x5.Other)) (Int.toNat i1) (Gi_SavedTurn.mk x7.Seed (Gi_Sheet.mk x7.First.Side r8.2) x7.Other)) (Int.toNat i1) (Gi_SavedTurn.mk x11.Seed x11.First (Gi_Sheet.mk r8.1 x11.Other.Orders))))], r0, rg [{ i := 5, pre := [.take 0 (Int.toNat i1) 4 3 x13.Other.Orders.length (List.map goi_Order x13.Other.Orders) (List.set (List.map goi_SavedTurn (List.set (List.set (List.set (List.set l2 (Int.toNat i1) (Gi_SavedTurn.mk k0 x3.First x3.Other)) (Int.toNat i1) (Gi_SavedTurn.mk x5.Seed (Gi_Sheet.mk (IntKind.wrap .i64 (k0 + 1)) x5.First.Orders) x5.Other)) (Int.toNat i1) (Gi_SavedTurn.mk x7.Seed (Gi_Sheet.mk x7.First.Side r8.2) x7.Other)) (Int.toNat i1) (Gi_SavedTurn.mk x11.Seed x11.First (Gi_Sheet.mk r8.1 x11.Other.Orders)))) (Int.toNat i1) (.agg [I x13.Seed, I x13.First.Side, ow 3 goi_Order x13.First.Orders, I x13.Other.Side, .ref 2 3 none]))], el := some (.agg [I x13.Seed, I x13.First.Side, ow 3 goi_Order x13.First.Orders, I x13.Other.Side, .ref 2 3 none]) }, { i := 7, call := some { cl := true, ins := [2], args := [.ref 0 3 none, I (IntKind.wrap .i64 (r8.1 + 1))], res := Rw_markOrderS r14, G' := Nw_markOrderS r14 }, post := [.put 0 (Int.toNat i1) 4 2 (List.map goi_SavedTurn (List.set (List.set (List.set (List.set (List.set l2 (Int.toNat i1) (Gi_SavedTurn.mk k0 x3.First x3.Other)) (Int.toNat i1) (Gi_SavedTurn.mk x5.Seed (Gi_Sheet.mk (IntKind.wrap .i64 (k0 + 1)) x5.First.Orders) x5.Other)) (Int.toNat i1) (Gi_SavedTurn.mk x7.Seed (Gi_Sheet.mk x7.First.Side r8.2) x7.Other)) (Int.toNat i1) (Gi_SavedTurn.mk x11.Seed x11.First (Gi_Sheet.mk r8.1 x11.Other.Orders))) (Int.toNat i1) (Gi_SavedTurn.mk x13.Seed x13.First (Gi_Sheet.mk x13.Other.Side r14.2)))), .own 0 (List.set (List.set (List.set (List.set (List.set l2 (Int.toNat i1) (Gi_SavedTurn.mk k0 x3.First x3.Other)) (Int.toNat i1) (Gi_SavedTurn.mk x5.Seed (Gi_Sheet.mk (IntKind.wrap .i64 (k0 + 1)) x5.First.Orders) x5.Other)) (Int.toNat i1) (Gi_SavedTurn.mk x7.Seed (Gi_Sheet.mk x7.First.Side r8.2) x7.Other)) (Int.toNat i1) (Gi_SavedTurn.mk x11.Seed x11.First (Gi_Sheet.mk r8.1 x11.Other.Orders))) (Int.toNat i1) (Gi_SavedTurn.mk x13.Seed x13.First (Gi_Sheet.mk x13.Other.Side r14.2))).length], xtra := [0] }], r0, .canon [0] [0, 1, 5]] (by kernel_rfl) (P2 ((decide (i1 < ((l2.length : Nat) : Int))) = true) (decide_eq_true h1)<|P1 h2<|P1 (int_lt_of_at h2 hx3)<|P1 (lt_of_at hx3)<|P2 (setCells (List.map goi_SavedTurn l2) (Int.toNat i1) 0 [I k0] = List.map goi_SavedTurn (List.set l2 (Int.toNat i1) (Gi_SavedTurn.mk k0 x3.First x3.Other))) (setCells_map hx3 rfl)<|P1 (setLen l2 (Int.toNat i1) (Gi_SavedTurn.mk k0 x3.First x3.Other))<|P1 h4<|P1 (int_lt_of_at h4 hx5)<|P1 (lt_of_at hx5)<|P2 (setCells (List.map goi_SavedTurn (List.set l2 (Int.toNat i1) (Gi_SavedTurn.mk k0 x3.First x3.Other))) (Int.toNat i1) 1 [I (IntKind.wrap .i64 (k0 + 1))] = List.map goi_SavedTurn (List.set (List.set l2 (Int.toNat i1) (Gi_SavedTurn.mk k0 x3.First x3.Other)) (Int.toNat i1) (Gi_SavedTurn.mk x5.Seed (Gi_Sheet.mk (IntKind.wrap .i64 (k0 + 1)) x5.First.Orders) x5.Other))) (setCells_map hx5 rfl)<|P1 (setLen (List.set l2 (Int.toNat i1) (Gi_SavedTurn.mk k0 x3.First x3.Other)) (Int.toNat i1) (Gi_SavedTurn.mk x5.Seed (Gi_Sheet.mk (IntKind.wrap .i64 (k0 + 1)) x5.First.Orders) x5.Other))<|P1 h6<|P1 (int_lt_of_at h6 hx7)<|P2 (getCells (List.map goi_SavedTurn (List.set (List.set l2 (Int.toNat i1) (Gi_SavedTurn.mk k0 x3.First x3.Other)) (Int.toNat i1) (Gi_SavedTurn.mk x5.Seed (Gi_Sheet.mk (IntKind.wrap .i64 (k0 + 1)) x5.First.Orders) x5.Other))) (Int.toNat i1) 2 1 = some [ow 3 goi_Order x7.First.Orders]) (getCells_at hx7 rfl)<|P2 (setCells (List.map goi_SavedTurn (List.set (List.set l2 (Int.toNat i1) (Gi_SavedTurn.mk k0 x3.First x3.Other)) (Int.toNat i1) (Gi_SavedTurn.mk x5.Seed (Gi_Sheet.mk (IntKind.wrap .i64 (k0 + 1)) x5.First.Orders) x5.Other))) (Int.toNat i1) 2 [.ref 1 3 none] = List.set (List.map goi_SavedTurn (List.set (List.set l2 (Int.toNat i1) (Gi_SavedTurn.mk k0 x3.First x3.Other)) (Int.toNat i1) (Gi_SavedTurn.mk x5.Seed (Gi_Sheet.mk (IntKind.wrap .i64 (k0 + 1)) x5.First.Orders) x5.Other))) (Int.toNat i1) (.agg [I x7.Seed, I x7.First.Side, .ref 1 3 none, I x7.Other.Side, ow 3 goi_Order x7.Other.Orders])) (setCells_mapD hx7 rfl)<|P1 (at_set (f := goi_SavedTurn) (.agg [I x7.Seed, I x7.First.Side, .ref 1 3 none, I x7.Other.Side, ow 3 goi_Order x7.Other.Orders]) hx7)<|PN<|PI (IntKind.wrap .i64 ((IntKind.wrap .i64 (k0 + 1)) + 1) : Int)<|P1 h9<|P1 (cw_markOrderS hr8)<|P2 (getCells (List.set (List.map goi_SavedTurn (List.set (List.set l2 (Int.toNat i1) (Gi_SavedTurn.mk k0 x3.First x3.Other)) (Int.toNat i1) (Gi_SavedTurn.mk x5.Seed (Gi_Sheet.mk (IntKind.wrap .i64 (k0 + 1)) x5.First.Orders) x5.Other))) (Int.toNat i1) (.agg [I x7.Seed, I x7.First.Side, .ref 1 3 none, I x7.Other.Side, ow 3 goi_Order x7.Other.Orders])) (Int.toNat i1) 2 1 = some [.ref 1 3 none]) (getCells_set hx7 rfl)<|P2 (setCells (List.set (List.map goi_SavedTurn (List.set (List.set l2 (Int.toNat i1) (Gi_SavedTurn.mk k0 x3.First x3.Other)) (Int.toNat i1) (Gi_SavedTurn.mk x5.Seed (Gi_Sheet.mk (IntKind.wrap .i64 (k0 + 1)) x5.First.Orders) x5.Other))) (Int.toNat i1) (.agg [I x7.Seed, I x7.First.Side, .ref 1 3 none, I x7.Other.Side, ow 3 goi_Order x7.Other.Orders])) (Int.toNat i1) 2 [ow 3 goi_Order r8.2] = List.map goi_SavedTurn (List.set (List.set (List.set l2 (Int.toNat i1) (Gi_SavedTurn.mk k0 x3.First x3.Other)) (Int.toNat i1) (Gi_SavedTurn.mk x5.Seed (Gi_Sheet.mk (IntKind.wrap .i64 (k0 + 1)) x5.First.Orders) x5.Other)) (Int.toNat i1) (Gi_SavedTurn.mk x7.Seed (Gi_Sheet.mk x7.First.Side r8.2) x7.Other))) (setCells_set hx7 rfl)<|P1 (allOw_150 (List.set (List.set (List.set l2 (Int.toNat i1) (Gi_SavedTurn.mk k0 x3.First x3.Other)) (Int.toNat i1) (Gi_SavedTurn.mk x5.Seed (Gi_Sheet.mk (IntKind.wrap .i64 (k0 + 1)) x5.First.Orders) x5.Other)) (Int.toNat i1) (Gi_SavedTurn.mk x7.Seed (Gi_Sheet.mk x7.First.Side r8.2) x7.Other)))<|P1 (setLen (List.set (List.set l2 (Int.toNat i1) (Gi_SavedTurn.mk k0 x3.First x3.Other)) (Int.toNat i1) (Gi_SavedTurn.mk x5.Seed (Gi_Sheet.mk (IntKind.wrap .i64 (k0 + 1)) x5.First.Orders) x5.Other)) (Int.toNat i1) (Gi_SavedTurn.mk x7.Seed (Gi_Sheet.mk x7.First.Side r8.2) x7.Other))<|P1 h10<|P1 (int_lt_of_at h10 hx11)<|P1 (lt_of_at hx11)<|P2 (setCells (List.map goi_SavedTurn (List.set (List.set (List.set l2 (Int.toNat i1) (Gi_SavedTurn.mk k0 x3.First x3.Other)) (Int.toNat i1) (Gi_SavedTurn.mk x5.Seed (Gi_Sheet.mk (IntKind.wrap .i64 (k0 + 1)) x5.First.Orders) x5.Other)) (Int.toNat i1) (Gi_SavedTurn.mk x7.Seed (Gi_Sheet.mk x7.First.Side r8.2) x7.Other))) (Int.toNat i1) 3 [I r8.1] = List.map goi_SavedTurn (List.set (List.set (List.set (List.set l2 (Int.toNat i1) (Gi_SavedTurn.mk k0 x3.First x3.Other)) (Int.toNat i1) (Gi_SavedTurn.mk x5.Seed (Gi_Sheet.mk (IntKind.wrap .i64 (k0 + 1)) x5.First.Orders) x5.Other)) (Int.toNat i1) (Gi_SavedTurn.mk x7.Seed (Gi_Sheet.mk x7.First.Side r8.2) x7.Other)) (Int.toNat i1) (Gi_SavedTurn.mk x11.Seed x11.First (Gi_Sheet.mk r8.1 x11.Other.Orders)))) (setCells_map hx11 rfl)<|P1 (setLen (List.set (List.set (List.set l2 (Int.toNat i1) (Gi_SavedTurn.mk k0 x3.First x3.Other)) (Int.toNat i1) (Gi_SavedTurn.mk x5.Seed (Gi_Sheet.mk (IntKind.wrap .i64 (k0 + 1)) x5.First.Orders) x5.Other)) (Int.toNat i1) (Gi_SavedTurn.mk x7.Seed (Gi_Sheet.mk x7.First.Side r8.2) x7.Other)) (Int.toNat i1) (Gi_SavedTurn.mk x11.Seed x11.First (Gi_Sheet.mk r8.1 x11.Other.Orders)))<|P1 h12<|P1 (int_lt_of_at h12 hx13)<|P2 (getCells (List.map goi_SavedTurn (List.set (List.set (List.set (List.set l2 (Int.toNat i1) (Gi_SavedTurn.mk k0 x3.First x3.Other)) (Int.toNat i1) (Gi_SavedTurn.mk x5.Seed (Gi_Sheet.mk (IntKind.wrap .i64 (k0 + 1)) x5.First.Orders) x5.Other)) (Int.toNat i1) (Gi_SavedTurn.mk x7.Seed (Gi_Sheet.mk x7.First.Side r8.2) x7.Other)) (Int.toNat i1) (Gi_SavedTurn.mk x11.Seed x11.First (Gi_Sheet.mk r8.1 x11.Other.Orders)))) (Int.toNat i1) 4 1 = some [ow 3 goi_Order x13.Other.Orders]) (getCells_at hx13 rfl)<|P2 (setCells (List.map goi_SavedTurn (List.set (List.set (List.set (List.set l2 (Int.toNat i1) (Gi_SavedTurn.mk k0 x3.First x3.Other)) (Int.toNat i1) (Gi_SavedTurn.mk x5.Seed (Gi_Sheet.mk (IntKind.wrap .i64 (k0 + 1)) x5.First.Orders) x5.Other)) (Int.toNat i1) (Gi_SavedTurn.mk x7.Seed (Gi_Sheet.mk x7.First.Side r8.2) x7.Other)) (Int.toNat i1) (Gi_SavedTurn.mk x11.Seed x11.First (Gi_Sheet.mk r8.1 x11.Other.Orders)))) (Int.toNat i1) 4 [.ref 2 3 none] = List.set (List.map goi_SavedTurn (List.set (List.set (List.set (List.set l2 (Int.toNat i1) (Gi_SavedTurn.mk k0 x3.First x3.Other)) (Int.toNat i1) (Gi_SavedTurn.mk x5.Seed (Gi_Sheet.mk (IntKind.wrap .i64 (k0 + 1)) x5.First.Orders) x5.Other)) (Int.toNat i1) (Gi_SavedTurn.mk x7.Seed (Gi_Sheet.mk x7.First.Side r8.2) x7.Other)) (Int.toNat i1) (Gi_SavedTurn.mk x11.Seed x11.First (Gi_Sheet.mk r8.1 x11.Other.Orders)))) (Int.toNat i1) (.agg [I x13.Seed, I x13.First.Side, ow 3 goi_Order x13.First.Orders, I x13.Other.Side, .ref 2 3 none])) (setCells_mapD hx13 rfl)<|P1 (at_set (f := goi_SavedTurn) (.agg [I x13.Seed, I x13.First.Side, ow 3 goi_Order x13.First.Orders, I x13.Other.Side, .ref 2 3 none]) hx13)<|PN<|PI (IntKind.wrap .i64 (r8.1 + 1) : Int)<|P1 h15<|P1 (cw_markOrderS hr14)<|P2 (getCells (List.set (List.map goi_SavedTurn (List.set (List.set (List.set (List.set l2 (Int.toNat i1) (Gi_SavedTurn.mk k0 x3.First x3.Other)) (Int.toNat i1) (Gi_SavedTurn.mk x5.Seed (Gi_Sheet.mk (IntKind.wrap .i64 (k0 + 1)) x5.First.Orders) x5.Other)) (Int.toNat i1) (Gi_SavedTurn.mk x7.Seed (Gi_Sheet.mk x7.First.Side r8.2) x7.Other)) (Int.toNat i1) (Gi_SavedTurn.mk x11.Seed x11.First (Gi_Sheet.mk r8.1 x11.Other.Orders)))) (Int.toNat i1) (.agg [I x13.Seed, I x13.First.Side, ow 3 goi_Order x13.First.Orders, I x13.Other.Side, .ref 2 3 none])) (Int.toNat i1) 4 1 = some [.ref 2 3 none]) (getCells_set hx13 rfl)<|P2 (setCells (List.set (List.map goi_SavedTurn (List.set (List.set (List.set (List.set l2 (Int.toNat i1) (Gi_SavedTurn.mk k0 x3.First x3.Other)) (Int.toNat i1) (Gi_SavedTurn.mk x5.Seed (Gi_Sheet.mk (IntKind.wrap .i64 (k0 + 1)) x5.First.Orders) x5.Other)) (Int.toNat i1) (Gi_SavedTurn.mk x7.Seed (Gi_Sheet.mk x7.First.Side r8.2) x7.Other)) (Int.toNat i1) (Gi_SavedTurn.mk x11.Seed x11.First (Gi_Sheet.mk r8.1 x11.Other.Orders)))) (Int.toNat i1) (.agg [I x13.Seed, I x13.First.Side, ow 3 goi_Order x13.First.Orders, I x13.Other.Side, .ref 2 3 none])) (Int.toNat i1) 4 [ow 3 goi_Order r14.2] = List.map goi_SavedTurn (List.set (List.set (List.set (List.set (List.set l2 (Int.toNat i1) (Gi_SavedTurn.mk k0 x3.First x3.Other)) (Int.toNat i1) (Gi_SavedTurn.mk x5.Seed (Gi_Sheet.mk (IntKind.wrap .i64 (k0 + 1)) x5.First.Orders) x5.Other)) (Int.toNat i1) (Gi_SavedTurn.mk x7.Seed (Gi_Sheet.mk x7.First.Side r8.2) x7.Other)) (Int.toNat i1) (Gi_SavedTurn.mk x11.Seed x11.First (Gi_Sheet.mk r8.1 x11.Other.Orders))) (Int.toNat i1) (Gi_SavedTurn.mk x13.Seed x13.First (Gi_Sheet.mk x13.Other.Side r14.2)))) (setCells_set hx13 rfl)<|P1 (allOw_150 (List.set (List.set (List.set (List.set (List.set l2 (Int.toNat i1) (Gi_SavedTurn.mk k0 x3.First x3.Other)) (Int.toNat i1) (Gi_SavedTurn.mk x5.Seed (Gi_Sheet.mk (IntKind.wrap .i64 (k0 + 1)) x5.First.Orders) x5.Other)) (Int.toNat i1) (Gi_SavedTurn.mk x7.Seed (Gi_Sheet.mk x7.First.Side r8.2) x7.Other)) (Int.toNat i1) (Gi_SavedTurn.mk x11.Seed x11.First (Gi_Sheet.mk r8.1 x11.Other.Orders))) (Int.toNat i1) (Gi_SavedTurn.mk x13.Seed x13.First (Gi_Sheet.mk x13.Other.Side r14.2))))<|P1 (setLen (List.set (List.set (List.set (List.set l2 (Int.toNat i1) (Gi_SavedTurn.mk k0 x3.First x3.Other)) (Int.toNat i1) (Gi_SavedTurn.mk x5.Seed (Gi_Sheet.mk (IntKind.wrap .i64 (k0 + 1)) x5.First.Orders) x5.Other)) (Int.toNat i1) (Gi_SavedTurn.mk x7.Seed (Gi_Sheet.mk x7.First.Side r8.2) x7.Other)) (Int.toNat i1) (Gi_SavedTurn.mk x11.Seed x11.First (Gi_Sheet.mk r8.1 x11.Other.Orders))) (Int.toNat i1) (Gi_SavedTurn.mk x13.Seed x13.First (Gi_Sheet.mk x13.Other.Side r14.2)))<|P0) hn)
  (fun h1 H =>
  eN H<|gE func61 [rg [hF 3], r0] (by kernel_rfl) (P2 ((decide (i1 < ((l2.length : Nat) : Int))) = false) (decide_eq_false h1)<|P0))
theorem ww_markSavedTurnS : ∀ s r, loop Bw_markSavedTurnS s = some r → Wc X 61 1 (Kw_markSavedTurnS s) (Zw_markSavedTurnS s) (Rw_markSavedTurnS r) (Nw_markSavedTurnS r) := Nx.all (nw_markSavedTurnS)
theorem cw_markSavedTurnS {a0 : (List Gi_SavedTurn)} {a1 : Int} {r : Int × (List Gi_SavedTurn)} (H : Dw_markSavedTurnS a0 a1 = some r) : Ct X.P X.gl 61 [.ref 0 5 none, I a1] [⟨false, false, 5, a0.length, List.map goi_SavedTurn a0⟩] (Rw_markSavedTurnS r) (Nw_markSavedTurnS r) :=
  Ct.of func61 (c := bdy f61) (by kernel_rfl) (by kernel_rfl) <|
  gO [r0, r0, .canon [0] [0, 1, 5]] (by kernel_rfl) P0 (ww_markSavedTurnS _ _ H)
def Rw_markSave (r : Int × (List Gi_Terrain) × (List Gi_Kind) × (List Int) × (List Int) × (List Int) × (List Gi_Odds) × (List (List Int)) × (List Gi_Unit) × (List Gi_Goal) × (List Int) × (List Int) × (List (List Int)) × (List Gi_SavedTurn)) : List D := [I r.1]
def Nw_markSave (r : Int × (List Gi_Terrain) × (List Gi_Kind) × (List Int) × (List Int) × (List Int) × (List Gi_Odds) × (List (List Int)) × (List Gi_Unit) × (List Gi_Goal) × (List Int) × (List Int) × (List (List Int)) × (List Gi_SavedTurn)) : List Root := [⟨false, false, 5, r.2.1.length, List.map goi_Terrain r.2.1⟩, ⟨false, false, 6, r.2.2.1.length, List.map gi_Kind r.2.2.1⟩, ⟨false, false, 1, r.2.2.2.1.length, List.map I r.2.2.2.1⟩, ⟨false, false, 1, r.2.2.2.2.1.length, List.map I r.2.2.2.2.1⟩, ⟨false, false, 1, r.2.2.2.2.2.1.length, List.map I r.2.2.2.2.2.1⟩, ⟨false, false, 2, r.2.2.2.2.2.2.1.length, List.map gi_Odds r.2.2.2.2.2.2.1⟩, ⟨false, false, 1, r.2.2.2.2.2.2.2.1.length, List.map (ow 1 I) r.2.2.2.2.2.2.2.1⟩, ⟨false, false, 4, r.2.2.2.2.2.2.2.2.1.length, List.map gi_Unit r.2.2.2.2.2.2.2.2.1⟩, ⟨false, false, 2, r.2.2.2.2.2.2.2.2.2.1.length, List.map gi_Goal r.2.2.2.2.2.2.2.2.2.1⟩, ⟨false, false, 1, r.2.2.2.2.2.2.2.2.2.2.1.length, List.map I r.2.2.2.2.2.2.2.2.2.2.1⟩, ⟨false, false, 1, r.2.2.2.2.2.2.2.2.2.2.2.1.length, List.map I r.2.2.2.2.2.2.2.2.2.2.2.1⟩, ⟨false, false, 1, r.2.2.2.2.2.2.2.2.2.2.2.2.1.length, List.map (ow 1 I) r.2.2.2.2.2.2.2.2.2.2.2.2.1⟩, ⟨false, false, 5, r.2.2.2.2.2.2.2.2.2.2.2.2.2.length, List.map goi_SavedTurn r.2.2.2.2.2.2.2.2.2.2.2.2.2⟩]
theorem cw_markSave {a0 : Gi_Save} {a1 : Int} {r : Int × (List Gi_Terrain) × (List Gi_Kind) × (List Int) × (List Int) × (List Int) × (List Gi_Odds) × (List (List Int)) × (List Gi_Unit) × (List Gi_Goal) × (List Int) × (List Int) × (List (List Int)) × (List Gi_SavedTurn)} (H : Dw_markSave a0 a1 = some r) : Ct X.P X.gl 21 [.agg [.str a0.Scenario.Name, .ref 0 5 none, .ref 1 6 none, I a0.Scenario.Board.Rules.Stack, I a0.Scenario.Board.Rules.River, I a0.Scenario.Board.Rules.Road, I a0.Scenario.Board.Rules.Supply, I a0.Scenario.Board.Rules.Turns, I a0.Scenario.Board.Map.Width, I a0.Scenario.Board.Map.Height, .ref 2 1 none, .ref 3 1 none, .ref 4 1 none, .ref 5 2 none, I a0.Scenario.Table.Dice, .ref 6 1 none, I a0.Scenario.Start.Turn, I a0.Scenario.Start.Weather, .ref 7 4 none, .ref 8 2 none, I a0.Scenario.Conditions.Step, I a0.Scenario.Conditions.Margin, .ref 9 1 none, .ref 10 1 none, .ref 11 1 none, .ref 12 5 none], I a1] [⟨false, false, 5, a0.Scenario.Board.Rules.Terrains.length, List.map goi_Terrain a0.Scenario.Board.Rules.Terrains⟩, ⟨false, false, 6, a0.Scenario.Board.Rules.Kinds.length, List.map gi_Kind a0.Scenario.Board.Rules.Kinds⟩, ⟨false, false, 1, a0.Scenario.Board.Map.Terrain.length, List.map I a0.Scenario.Board.Map.Terrain⟩, ⟨false, false, 1, a0.Scenario.Board.Map.Rivers.length, List.map I a0.Scenario.Board.Map.Rivers⟩, ⟨false, false, 1, a0.Scenario.Board.Map.Roads.length, List.map I a0.Scenario.Board.Map.Roads⟩, ⟨false, false, 2, a0.Scenario.Table.Columns.length, List.map gi_Odds a0.Scenario.Table.Columns⟩, ⟨false, false, 1, a0.Scenario.Table.Results.length, List.map (ow 1 I) a0.Scenario.Table.Results⟩, ⟨false, false, 4, a0.Scenario.Start.Units.length, List.map gi_Unit a0.Scenario.Start.Units⟩, ⟨false, false, 2, a0.Scenario.Conditions.Goals.length, List.map gi_Goal a0.Scenario.Conditions.Goals⟩, ⟨false, false, 1, a0.Scenario.First.length, List.map I a0.Scenario.First⟩, ⟨false, false, 1, a0.Scenario.Other.length, List.map I a0.Scenario.Other⟩, ⟨false, false, 1, a0.Climate.Weights.length, List.map (ow 1 I) a0.Climate.Weights⟩, ⟨false, false, 5, a0.Turns.length, List.map goi_SavedTurn a0.Turns⟩] (Rw_markSave r) (Nw_markSave r) :=
  Ct.of func21 (c := bdy f21) (by kernel_rfl) (by kernel_rfl) <|
  eBind H fun r1 hr1 H =>
  eCk H fun h2 H =>
  eCk H fun h3 H =>
  eCk H fun h4 H =>
  eCk H fun h5 H =>
  eCk H fun h6 H =>
  eCk H fun h7 H =>
  eCk H fun h8 H =>
  eCk H fun h9 H =>
  eCk H fun h10 H =>
  eCk H fun h11 H =>
  eCk H fun h12 H =>
  eBind H fun r13 hr13 H =>
  eCk H fun h14 H =>
  eBind H fun r15 hr15 H =>
  eCk H fun h16 H =>
  eW Rw_markSave Nw_markSave H<|gE func21 [r0, rg [{ i := 3, call := some { cl := true, ins := [0, 1, 2, 3, 4, 5, 6, 7, 8, 9, 10], args := [.agg [.str a0.Scenario.Name, .ref 0 5 none, .ref 1 6 none, I a0.Scenario.Board.Rules.Stack, I a0.Scenario.Board.Rules.River, I a0.Scenario.Board.Rules.Road, I a0.Scenario.Board.Rules.Supply, I a0.Scenario.Board.Rules.Turns, I a0.Scenario.Board.Map.Width, I a0.Scenario.Board.Map.Height, .ref 2 1 none, .ref 3 1 none, .ref 4 1 none, .ref 5 2 none, I a0.Scenario.Table.Dice, .ref 6 1 none, I a0.Scenario.Start.Turn, I a0.Scenario.Start.Weather, .ref 7 4 none, .ref 8 2 none, I a0.Scenario.Conditions.Step, I a0.Scenario.Conditions.Margin, .ref 9 1 none, .ref 10 1 none], I a1], res := Rw_markScenario r1, G' := Nw_markScenario r1 } }], rg [{ i := 3, call := some { cl := true, ins := [11], args := [.agg [.ref 0 1 none], I r1.1], res := Rw_markClimate r13, G' := Nw_markClimate r13 } }], rg [{ i := 3, call := some { cl := true, ins := [12], args := [.ref 0 5 none, I r13.1], res := Rw_markSavedTurnS r15, G' := Nw_markSavedTurnS r15 } }], r0] (by kernel_rfl) (PI a0.Scenario.Name<|PN<|PN<|PI a0.Scenario.Board.Rules.Stack<|PI a0.Scenario.Board.Rules.River<|PI a0.Scenario.Board.Rules.Road<|PI a0.Scenario.Board.Rules.Supply<|PI a0.Scenario.Board.Rules.Turns<|PI a0.Scenario.Board.Map.Width<|PI a0.Scenario.Board.Map.Height<|PN<|PN<|PN<|PN<|PI a0.Scenario.Table.Dice<|PN<|PI a0.Scenario.Start.Turn<|PI a0.Scenario.Start.Weather<|PN<|PN<|PI a0.Scenario.Conditions.Step<|PI a0.Scenario.Conditions.Margin<|PN<|PN<|PI a1<|P1 h2<|P1 h3<|P1 h4<|P1 h5<|P1 h6<|P1 h7<|P1 h8<|P1 h9<|P1 h10<|P1 h11<|P1 h12<|P1 (cw_markScenario hr1)<|PN<|PI r1.1<|P1 h14<|P1 (cw_markClimate hr13)<|PN<|PI r13.1<|P1 h16<|P1 (cw_markSavedTurnS hr15)<|P0)
noncomputable def Kw_heldIntS : Sw_heldIntS → List Item
 | .h1 .. => nav 300 2 [] [.code (bdy f101)]
def Zw_heldIntS : Sw_heldIntS → St
 | .h1 va0 k1 i2 => ⟨sts 21 [(0, sl 1 I va0), (1, I k1), (5, I i2)], []⟩
abbrev Qw_heldIntS := Nx X 101 0 Kw_heldIntS Zw_heldIntS RI (fun _ => [])
theorem nw_heldIntS : ∀ s o, Bw_heldIntS s = some o → Qw_heldIntS (Kw_heldIntS s) (Zw_heldIntS s) o
 | .h1 va0 k1 i2, o, H =>
  eIf H (fun h1 H =>
  eCk H fun h2 H =>
  eBind H fun x3 hx3 H =>
  gN [rg [hT 3]] (by kernel_rfl) (P2 ((decide (i2 < ((va0.length : Nat) : Int))) = true) (decide_eq_true h1)<|P0) <|
  eIf H (fun h4 H =>
  eN H fun r hn => gO [rg [hE 3 (I x3), hF 5], r0, r0, .canon [] [0, 1, 5]] (by kernel_rfl) (P1 h2<|P1 (int_lt_of_at h2 hx3)<|P1 (at_map I hx3)<|P2 (((x3 : Int) != k1) = false) (bneF h4)<|P0) hn)
  (fun h4 H =>
  eN H<|gE func101 [rg [hE 3 (I x3), hT 5], r0] (by kernel_rfl) (P1 h2<|P1 (int_lt_of_at h2 hx3)<|P1 (at_map I hx3)<|P2 (((x3 : Int) != k1) = true) (bneT h4)<|P0)))
  (fun h1 H =>
  eN H<|gE func101 [rg [hF 3], r0] (by kernel_rfl) (P2 ((decide (i2 < ((va0.length : Nat) : Int))) = false) (decide_eq_false h1)<|P0))
theorem ww_heldIntS : ∀ s r, loop Bw_heldIntS s = some r → Wc X 101 0 (Kw_heldIntS s) (Zw_heldIntS s) (RI r) ((fun _ => []) r) := Nx.all (nw_heldIntS)
theorem cw_heldIntS {a0 : (List Int)} {a1 : Int} {r : Int} (H : Dw_heldIntS a0 a1 = some r) : Ct X.P X.gl 101 [sl 1 I a0, I a1] [] (RI r) [] :=
  Ct.of func101 (c := bdy f101) (by kernel_rfl) (by kernel_rfl) <|
  gO [r0, r0, .canon [] [0, 1, 5]] (by kernel_rfl) P0 (ww_heldIntS _ _ H)
noncomputable def Kw_heldTerrainS : Sw_heldTerrainS → List Item
 | .h1 .. => nav 300 2 [] [.code (bdy f135)]
def Zw_heldTerrainS : Sw_heldTerrainS → St
 | .h1 va0 k1 i2 => ⟨sts 61 [(0, sl 5 gi_Terrain va0), (1, I k1), (5, I i2)], []⟩
abbrev Qw_heldTerrainS := Nx X 135 0 Kw_heldTerrainS Zw_heldTerrainS RI (fun _ => [])
theorem nw_heldTerrainS : ∀ s o, Bw_heldTerrainS s = some o → Qw_heldTerrainS (Kw_heldTerrainS s) (Zw_heldTerrainS s) o
 | .h1 va0 k1 i2, o, H =>
  eIf H (fun h1 H =>
  eCk H fun h2 H =>
  eBind H fun x3 hx3 H =>
  eBind H fun r4 hr4 H =>
  gN [rg [hT 3]] (by kernel_rfl) (P2 ((decide (i2 < ((va0.length : Nat) : Int))) = true) (decide_eq_true h1)<|P0) <|
  eIf H (fun h5 H =>
  eCk H fun h6 H =>
  eBind H fun x7 hx7 H =>
  eBind H fun r8 hr8 H =>
  gN [rg [hE 4 (gi_Terrain x3), hC 6 true [] (Rw_markText r4) [], hF 7], r0, rg [hE 4 (gi_Terrain x7), hC 6 true [] (RI r8) []]] (by kernel_rfl) (P1 h2<|P1 (int_lt_of_at h2 hx3)<|P1 (at_map gi_Terrain hx3)<|P1 (cw_markText hr4)<|P2 ((!(x3.Name == r4)) = false) (nbeqF h5)<|P1 h6<|P1 (int_lt_of_at h6 hx7)<|P1 (at_map gi_Terrain hx7)<|P1 (cw_heldIntS hr8)<|P0) <|
  eIf H (fun h9 H =>
  eN H<|gE func135 [rg [hT 1], r0] (by kernel_rfl) (P2 ((decide (r8 < 0)) = true) (decide_eq_true h9)<|P0))
  (fun h9 H =>
  eCk H fun h10 H =>
  eBind H fun x11 hx11 H =>
  gN [rg [hF 1]] (by kernel_rfl) (P2 ((decide (r8 < 0)) = false) (decide_eq_false h9)<|P0) <|
  eIf H (fun h12 H =>
  eCk H fun h13 H =>
  eBind H fun x14 hx14 H =>
  gN [rg [hE 4 (gi_Terrain x11), hF 6], r0] (by kernel_rfl) (P1 h10<|P1 (int_lt_of_at h10 hx11)<|P1 (at_map gi_Terrain hx11)<|P2 (((x11.Shift : Int) != r8) = false) (bneF h12)<|P0) <|
  eIf H (fun h15 H =>
  eCk H fun h16 H =>
  eBind H fun x17 hx17 H =>
  gN [rg [hE 4 (gi_Terrain x14), hF 6], r0] (by kernel_rfl) (P1 h13<|P1 (int_lt_of_at h13 hx14)<|P1 (at_map gi_Terrain hx14)<|P2 (((x14.Height : Int) != (IntKind.wrap .i64 (r8 + 1))) = false) (bneF h15)<|P0) <|
  eIf H (fun h18 H =>
  eN H<|gE func135 [rg [hE 4 (gi_Terrain x17), hT 8], r0] (by kernel_rfl) (P1 h16<|P1 (int_lt_of_at h16 hx17)<|P1 (at_map gi_Terrain hx17)<|P2 (¬ (3 : Int) = 0) (by decide)<|P2 ((!(x17.Blocks == (((Int.tmod (IntKind.wrap .i64 ((IntKind.wrap .i64 (r8 + 1)) + 1)) 3) : Int) == 0))) = true) (h18)<|P0))
  (fun h18 H =>
  eN H fun r hn => gO [rg [hE 4 (gi_Terrain x17), hF 8], r0, r0, .canon [] [0, 1, 5]] (by kernel_rfl) (P1 h16<|P1 (int_lt_of_at h16 hx17)<|P1 (at_map gi_Terrain hx17)<|P2 (¬ (3 : Int) = 0) (by decide)<|P2 ((!(x17.Blocks == (((Int.tmod (IntKind.wrap .i64 ((IntKind.wrap .i64 (r8 + 1)) + 1)) 3) : Int) == 0))) = false) (eqF h18)<|P0) hn))
  (fun h15 H =>
  eN H<|gE func135 [rg [hE 4 (gi_Terrain x14), hT 6], r0] (by kernel_rfl) (P1 h13<|P1 (int_lt_of_at h13 hx14)<|P1 (at_map gi_Terrain hx14)<|P2 (((x14.Height : Int) != (IntKind.wrap .i64 (r8 + 1))) = true) (bneT h15)<|P0)))
  (fun h12 H =>
  eN H<|gE func135 [rg [hE 4 (gi_Terrain x11), hT 6], r0] (by kernel_rfl) (P1 h10<|P1 (int_lt_of_at h10 hx11)<|P1 (at_map gi_Terrain hx11)<|P2 (((x11.Shift : Int) != r8) = true) (bneT h12)<|P0))))
  (fun h5 H =>
  eN H<|gE func135 [rg [hE 4 (gi_Terrain x3), hC 6 true [] (Rw_markText r4) [], hT 7], r0] (by kernel_rfl) (P1 h2<|P1 (int_lt_of_at h2 hx3)<|P1 (at_map gi_Terrain hx3)<|P1 (cw_markText hr4)<|P2 ((!(x3.Name == r4)) = true) (nbeqT h5)<|P0)))
  (fun h1 H =>
  eN H<|gE func135 [rg [hF 3], r0] (by kernel_rfl) (P2 ((decide (i2 < ((va0.length : Nat) : Int))) = false) (decide_eq_false h1)<|P0))
theorem ww_heldTerrainS : ∀ s r, loop Bw_heldTerrainS s = some r → Wc X 135 0 (Kw_heldTerrainS s) (Zw_heldTerrainS s) (RI r) ((fun _ => []) r) := Nx.all (nw_heldTerrainS)
theorem cw_heldTerrainS {a0 : (List Gi_Terrain)} {a1 : Int} {r : Int} (H : Dw_heldTerrainS a0 a1 = some r) : Ct X.P X.gl 135 [sl 5 gi_Terrain a0, I a1] [] (RI r) [] :=
  Ct.of func135 (c := bdy f135) (by kernel_rfl) (by kernel_rfl) <|
  gO [r0, r0, .canon [] [0, 1, 5]] (by kernel_rfl) P0 (ww_heldTerrainS _ _ H)
noncomputable def Kw_heldKindS : Sw_heldKindS → List Item
 | .h1 .. => nav 300 2 [] [.code (bdy f136)]
def Zw_heldKindS : Sw_heldKindS → St
 | .h1 va0 k1 i2 => ⟨sts 70 [(0, sl 6 gi_Kind va0), (1, I k1), (5, I i2)], []⟩
abbrev Qw_heldKindS := Nx X 136 0 Kw_heldKindS Zw_heldKindS RI (fun _ => [])
theorem nw_heldKindS : ∀ s o, Bw_heldKindS s = some o → Qw_heldKindS (Kw_heldKindS s) (Zw_heldKindS s) o
 | .h1 va0 k1 i2, o, H =>
  eIf H (fun h1 H =>
  eCk H fun h2 H =>
  eBind H fun x3 hx3 H =>
  eBind H fun r4 hr4 H =>
  gN [rg [hT 3]] (by kernel_rfl) (P2 ((decide (i2 < ((va0.length : Nat) : Int))) = true) (decide_eq_true h1)<|P0) <|
  eIf H (fun h5 H =>
  eCk H fun h6 H =>
  eBind H fun x7 hx7 H =>
  gN [rg [hE 4 (gi_Kind x3), hC 6 true [] (Rw_markText r4) [], hF 7], r0] (by kernel_rfl) (P1 h2<|P1 (int_lt_of_at h2 hx3)<|P1 (at_map gi_Kind hx3)<|P1 (cw_markText hr4)<|P2 ((!(x3.Name == r4)) = false) (nbeqF h5)<|P0) <|
  eIf H (fun h8 H =>
  eCk H fun h9 H =>
  eBind H fun x10 hx10 H =>
  gN [rg [hE 4 (gi_Kind x7), hF 6], r0] (by kernel_rfl) (P1 h6<|P1 (int_lt_of_at h6 hx7)<|P1 (at_map gi_Kind hx7)<|P2 (((x7.Strength : Int) != (IntKind.wrap .i64 (k1 + 1))) = false) (bneF h8)<|P0) <|
  eIf H (fun h11 H =>
  eCk H fun h12 H =>
  eBind H fun x13 hx13 H =>
  gN [rg [hE 4 (gi_Kind x10), hF 6], r0] (by kernel_rfl) (P1 h9<|P1 (int_lt_of_at h9 hx10)<|P1 (at_map gi_Kind hx10)<|P2 (((x10.Moves : Int) != (IntKind.wrap .i64 ((IntKind.wrap .i64 (k1 + 1)) + 1))) = false) (bneF h11)<|P0) <|
  eIf H (fun h14 H =>
  eCk H fun h15 H =>
  eBind H fun x16 hx16 H =>
  gN [rg [hE 4 (gi_Kind x13), hF 6], r0] (by kernel_rfl) (P1 h12<|P1 (int_lt_of_at h12 hx13)<|P1 (at_map gi_Kind hx13)<|P2 (((x13.Steps : Int) != (IntKind.wrap .i64 ((IntKind.wrap .i64 ((IntKind.wrap .i64 (k1 + 1)) + 1)) + 1))) = false) (bneF h14)<|P0) <|
  eIf H (fun h17 H =>
  eN H<|gE func136 [rg [hE 4 (gi_Kind x16), hT 8], r0] (by kernel_rfl) (P1 h15<|P1 (int_lt_of_at h15 hx16)<|P1 (at_map gi_Kind hx16)<|P2 (¬ (3 : Int) = 0) (by decide)<|P2 ((!(x16.Zone == (((Int.tmod (IntKind.wrap .i64 ((IntKind.wrap .i64 ((IntKind.wrap .i64 ((IntKind.wrap .i64 (k1 + 1)) + 1)) + 1)) + 1)) 3) : Int) == 0))) = true) (h17)<|P0))
  (fun h17 H =>
  eCk H fun h18 H =>
  eBind H fun x19 hx19 H =>
  gN [rg [hE 4 (gi_Kind x16), hF 8], r0] (by kernel_rfl) (P1 h15<|P1 (int_lt_of_at h15 hx16)<|P1 (at_map gi_Kind hx16)<|P2 (¬ (3 : Int) = 0) (by decide)<|P2 ((!(x16.Zone == (((Int.tmod (IntKind.wrap .i64 ((IntKind.wrap .i64 ((IntKind.wrap .i64 ((IntKind.wrap .i64 (k1 + 1)) + 1)) + 1)) + 1)) 3) : Int) == 0))) = false) (eqF h17)<|P0) <|
  eIf H (fun h20 H =>
  eN H fun r hn => gO [rg [hE 4 (gi_Kind x19), hF 6], r0, r0, .canon [] [0, 1, 5]] (by kernel_rfl) (P1 h18<|P1 (int_lt_of_at h18 hx19)<|P1 (at_map gi_Kind hx19)<|P2 (((x19.View : Int) != (IntKind.wrap .i64 ((IntKind.wrap .i64 ((IntKind.wrap .i64 ((IntKind.wrap .i64 ((IntKind.wrap .i64 (k1 + 1)) + 1)) + 1)) + 1)) + 1))) = false) (bneF h20)<|P0) hn)
  (fun h20 H =>
  eN H<|gE func136 [rg [hE 4 (gi_Kind x19), hT 6], r0] (by kernel_rfl) (P1 h18<|P1 (int_lt_of_at h18 hx19)<|P1 (at_map gi_Kind hx19)<|P2 (((x19.View : Int) != (IntKind.wrap .i64 ((IntKind.wrap .i64 ((IntKind.wrap .i64 ((IntKind.wrap .i64 ((IntKind.wrap .i64 (k1 + 1)) + 1)) + 1)) + 1)) + 1))) = true) (bneT h20)<|P0))))
  (fun h14 H =>
  eN H<|gE func136 [rg [hE 4 (gi_Kind x13), hT 6], r0] (by kernel_rfl) (P1 h12<|P1 (int_lt_of_at h12 hx13)<|P1 (at_map gi_Kind hx13)<|P2 (((x13.Steps : Int) != (IntKind.wrap .i64 ((IntKind.wrap .i64 ((IntKind.wrap .i64 (k1 + 1)) + 1)) + 1))) = true) (bneT h14)<|P0)))
  (fun h11 H =>
  eN H<|gE func136 [rg [hE 4 (gi_Kind x10), hT 6], r0] (by kernel_rfl) (P1 h9<|P1 (int_lt_of_at h9 hx10)<|P1 (at_map gi_Kind hx10)<|P2 (((x10.Moves : Int) != (IntKind.wrap .i64 ((IntKind.wrap .i64 (k1 + 1)) + 1))) = true) (bneT h11)<|P0)))
  (fun h8 H =>
  eN H<|gE func136 [rg [hE 4 (gi_Kind x7), hT 6], r0] (by kernel_rfl) (P1 h6<|P1 (int_lt_of_at h6 hx7)<|P1 (at_map gi_Kind hx7)<|P2 (((x7.Strength : Int) != (IntKind.wrap .i64 (k1 + 1))) = true) (bneT h8)<|P0)))
  (fun h5 H =>
  eN H<|gE func136 [rg [hE 4 (gi_Kind x3), hC 6 true [] (Rw_markText r4) [], hT 7], r0] (by kernel_rfl) (P1 h2<|P1 (int_lt_of_at h2 hx3)<|P1 (at_map gi_Kind hx3)<|P1 (cw_markText hr4)<|P2 ((!(x3.Name == r4)) = true) (nbeqT h5)<|P0)))
  (fun h1 H =>
  eN H<|gE func136 [rg [hF 3], r0] (by kernel_rfl) (P2 ((decide (i2 < ((va0.length : Nat) : Int))) = false) (decide_eq_false h1)<|P0))
theorem ww_heldKindS : ∀ s r, loop Bw_heldKindS s = some r → Wc X 136 0 (Kw_heldKindS s) (Zw_heldKindS s) (RI r) ((fun _ => []) r) := Nx.all (nw_heldKindS)
theorem cw_heldKindS {a0 : (List Gi_Kind)} {a1 : Int} {r : Int} (H : Dw_heldKindS a0 a1 = some r) : Ct X.P X.gl 136 [sl 6 gi_Kind a0, I a1] [] (RI r) [] :=
  Ct.of func136 (c := bdy f136) (by kernel_rfl) (by kernel_rfl) <|
  gO [r0, r0, .canon [] [0, 1, 5]] (by kernel_rfl) P0 (ww_heldKindS _ _ H)
theorem cw_heldRules {a0 : Gi_Rules} {a1 : Int} {r : Int} (H : Dw_heldRules a0 a1 = some r) : Ct X.P X.gl 98 [gi_Rules a0, I a1] [] (RI r) [] :=
  Ct.of func98 (c := bdy f98) (by kernel_rfl) (by kernel_rfl) <|
  eBind H fun r1 hr1 H =>
  gS [r0, rg [hC 3 true [] (RI r1) []]] (by kernel_rfl) (P1 (cw_heldTerrainS hr1)<|P0) <|
  eIf H (fun h2 H =>
  eW RI (fun _ => []) H<|gE func98 [rg [hT 1], r0] (by kernel_rfl) (P2 ((decide (r1 < 0)) = true) (decide_eq_true h2)<|P0))
  (fun h2 H =>
  eBind H fun r3 hr3 H =>
  gS [rg [hF 1], rg [hC 3 true [] (RI r3) []]] (by kernel_rfl) (P2 ((decide (r1 < 0)) = false) (decide_eq_false h2)<|P1 (cw_heldKindS hr3)<|P0) <|
  eIf H (fun h4 H =>
  eW RI (fun _ => []) H<|gE func98 [rg [hT 1], r0] (by kernel_rfl) (P2 ((decide (r3 < 0)) = true) (decide_eq_true h4)<|P0))
  (fun h4 H =>
  eW RI (fun _ => []) H<|gE func98 [rg [hF 1], r0] (by kernel_rfl) (P2 ((decide (r3 < 0)) = false) (decide_eq_false h4)<|P0)))
theorem cw_heldMap {a0 : Gi_Map} {a1 : Int} {r : Int} (H : Dw_heldMap a0 a1 = some r) : Ct X.P X.gl 99 [gi_Map a0, I a1] [] (RI r) [] :=
  Ct.of func99 (c := bdy f99) (by kernel_rfl) (by kernel_rfl) <|
  eBind H fun r1 hr1 H =>
  gS [r0, rg [hC 3 true [] (RI r1) []]] (by kernel_rfl) (P1 (cw_heldIntS hr1)<|P0) <|
  eIf H (fun h2 H =>
  eW RI (fun _ => []) H<|gE func99 [rg [hT 1], r0] (by kernel_rfl) (P2 ((decide (r1 < 0)) = true) (decide_eq_true h2)<|P0))
  (fun h2 H =>
  eBind H fun r3 hr3 H =>
  gS [rg [hF 1], rg [hC 3 true [] (RI r3) []]] (by kernel_rfl) (P2 ((decide (r1 < 0)) = false) (decide_eq_false h2)<|P1 (cw_heldIntS hr3)<|P0) <|
  eIf H (fun h4 H =>
  eW RI (fun _ => []) H<|gE func99 [rg [hT 1], r0] (by kernel_rfl) (P2 ((decide (r3 < 0)) = true) (decide_eq_true h4)<|P0))
  (fun h4 H =>
  eBind H fun r5 hr5 H =>
  gS [rg [hF 1], rg [hC 3 true [] (RI r5) []]] (by kernel_rfl) (P2 ((decide (r3 < 0)) = false) (decide_eq_false h4)<|P1 (cw_heldIntS hr5)<|P0) <|
  eIf H (fun h6 H =>
  eW RI (fun _ => []) H<|gE func99 [rg [hT 1], r0] (by kernel_rfl) (P2 ((decide (r5 < 0)) = true) (decide_eq_true h6)<|P0))
  (fun h6 H =>
  eW RI (fun _ => []) H<|gE func99 [rg [hF 1], r0] (by kernel_rfl) (P2 ((decide (r5 < 0)) = false) (decide_eq_false h6)<|P0))))
theorem cw_heldBoard {a0 : Gi_Board} {a1 : Int} {r : Int} (H : Dw_heldBoard a0 a1 = some r) : Ct X.P X.gl 54 [gi_Board a0, I a1] [] (RI r) [] :=
  Ct.of func54 (c := bdy f54) (by kernel_rfl) (by kernel_rfl) <|
  eBind H fun r1 hr1 H =>
  gS [r0, rg [hC 3 true [] (RI r1) []]] (by kernel_rfl) (P1 (cw_heldRules hr1)<|P0) <|
  eIf H (fun h2 H =>
  eW RI (fun _ => []) H<|gE func54 [rg [hT 1], r0] (by kernel_rfl) (P2 ((decide (r1 < 0)) = true) (decide_eq_true h2)<|P0))
  (fun h2 H =>
  eBind H fun r3 hr3 H =>
  gS [rg [hF 1], rg [hC 3 true [] (RI r3) []]] (by kernel_rfl) (P2 ((decide (r1 < 0)) = false) (decide_eq_false h2)<|P1 (cw_heldMap hr3)<|P0) <|
  eIf H (fun h4 H =>
  eW RI (fun _ => []) H<|gE func54 [rg [hT 1], r0] (by kernel_rfl) (P2 ((decide (r3 < 0)) = true) (decide_eq_true h4)<|P0))
  (fun h4 H =>
  eW RI (fun _ => []) H<|gE func54 [rg [hF 1], r0] (by kernel_rfl) (P2 ((decide (r3 < 0)) = false) (decide_eq_false h4)<|P0)))
noncomputable def Kw_heldOddsS : Sw_heldOddsS → List Item
 | .h1 .. => nav 300 2 [] [.code (bdy f100)]
def Zw_heldOddsS : Sw_heldOddsS → St
 | .h1 va0 k1 i2 => ⟨sts 31 [(0, sl 2 gi_Odds va0), (1, I k1), (5, I i2)], []⟩
abbrev Qw_heldOddsS := Nx X 100 0 Kw_heldOddsS Zw_heldOddsS RI (fun _ => [])
theorem nw_heldOddsS : ∀ s o, Bw_heldOddsS s = some o → Qw_heldOddsS (Kw_heldOddsS s) (Zw_heldOddsS s) o
 | .h1 va0 k1 i2, o, H =>
  eIf H (fun h1 H =>
  eCk H fun h2 H =>
  eBind H fun x3 hx3 H =>
  gN [rg [hT 3]] (by kernel_rfl) (P2 ((decide (i2 < ((va0.length : Nat) : Int))) = true) (decide_eq_true h1)<|P0) <|
  eIf H (fun h4 H =>
  eCk H fun h5 H =>
  eBind H fun x6 hx6 H =>
  gN [rg [hE 4 (gi_Odds x3), hF 6], r0] (by kernel_rfl) (P1 h2<|P1 (int_lt_of_at h2 hx3)<|P1 (at_map gi_Odds hx3)<|P2 (((x3.Num : Int) != k1) = false) (bneF h4)<|P0) <|
  eIf H (fun h7 H =>
  eN H fun r hn => gO [rg [hE 4 (gi_Odds x6), hF 6], r0, r0, .canon [] [0, 1, 5]] (by kernel_rfl) (P1 h5<|P1 (int_lt_of_at h5 hx6)<|P1 (at_map gi_Odds hx6)<|P2 (((x6.Den : Int) != (IntKind.wrap .i64 (k1 + 1))) = false) (bneF h7)<|P0) hn)
  (fun h7 H =>
  eN H<|gE func100 [rg [hE 4 (gi_Odds x6), hT 6], r0] (by kernel_rfl) (P1 h5<|P1 (int_lt_of_at h5 hx6)<|P1 (at_map gi_Odds hx6)<|P2 (((x6.Den : Int) != (IntKind.wrap .i64 (k1 + 1))) = true) (bneT h7)<|P0)))
  (fun h4 H =>
  eN H<|gE func100 [rg [hE 4 (gi_Odds x3), hT 6], r0] (by kernel_rfl) (P1 h2<|P1 (int_lt_of_at h2 hx3)<|P1 (at_map gi_Odds hx3)<|P2 (((x3.Num : Int) != k1) = true) (bneT h4)<|P0)))
  (fun h1 H =>
  eN H<|gE func100 [rg [hF 3], r0] (by kernel_rfl) (P2 ((decide (i2 < ((va0.length : Nat) : Int))) = false) (decide_eq_false h1)<|P0))
theorem ww_heldOddsS : ∀ s r, loop Bw_heldOddsS s = some r → Wc X 100 0 (Kw_heldOddsS s) (Zw_heldOddsS s) (RI r) ((fun _ => []) r) := Nx.all (nw_heldOddsS)
theorem cw_heldOddsS {a0 : (List Gi_Odds)} {a1 : Int} {r : Int} (H : Dw_heldOddsS a0 a1 = some r) : Ct X.P X.gl 100 [sl 2 gi_Odds a0, I a1] [] (RI r) [] :=
  Ct.of func100 (c := bdy f100) (by kernel_rfl) (by kernel_rfl) <|
  gO [r0, r0, .canon [] [0, 1, 5]] (by kernel_rfl) P0 (ww_heldOddsS _ _ H)
noncomputable def Kw_heldIntSS : Sw_heldIntSS → List Item
 | .h1 .. => nav 300 2 [] [.code (bdy f57)]
def Zw_heldIntSS : Sw_heldIntSS → St
 | .h1 va0 k1 i2 => ⟨sts 21 [(0, sl 1 (sl 1 I) va0), (1, I k1), (5, I i2)], []⟩
abbrev Qw_heldIntSS := Nx X 57 0 Kw_heldIntSS Zw_heldIntSS RI (fun _ => [])
theorem nw_heldIntSS : ∀ s o, Bw_heldIntSS s = some o → Qw_heldIntSS (Kw_heldIntSS s) (Zw_heldIntSS s) o
 | .h1 va0 k1 i2, o, H =>
  eIf H (fun h1 H =>
  eCk H fun h2 H =>
  eBind H fun x3 hx3 H =>
  eBind H fun r4 hr4 H =>
  gN [rg [hT 3], rg [hE 3 ((sl 1 I) x3), hC 5 true [] (RI r4) []]] (by kernel_rfl) (P2 ((decide (i2 < ((va0.length : Nat) : Int))) = true) (decide_eq_true h1)<|P1 h2<|P1 (int_lt_of_at h2 hx3)<|P1 (at_map (sl 1 I) hx3)<|P1 (cw_heldIntS hr4)<|P0) <|
  eIf H (fun h5 H =>
  eN H<|gE func57 [rg [hT 1], r0] (by kernel_rfl) (P2 ((decide (r4 < 0)) = true) (decide_eq_true h5)<|P0))
  (fun h5 H =>
  eN H fun r hn => gO [rg [hF 1], r0, .canon [] [0, 1, 5]] (by kernel_rfl) (P2 ((decide (r4 < 0)) = false) (decide_eq_false h5)<|P0) hn))
  (fun h1 H =>
  eN H<|gE func57 [rg [hF 3], r0] (by kernel_rfl) (P2 ((decide (i2 < ((va0.length : Nat) : Int))) = false) (decide_eq_false h1)<|P0))
theorem ww_heldIntSS : ∀ s r, loop Bw_heldIntSS s = some r → Wc X 57 0 (Kw_heldIntSS s) (Zw_heldIntSS s) (RI r) ((fun _ => []) r) := Nx.all (nw_heldIntSS)
theorem cw_heldIntSS {a0 : (List (List Int))} {a1 : Int} {r : Int} (H : Dw_heldIntSS a0 a1 = some r) : Ct X.P X.gl 57 [sl 1 (sl 1 I) a0, I a1] [] (RI r) [] :=
  Ct.of func57 (c := bdy f57) (by kernel_rfl) (by kernel_rfl) <|
  gO [r0, r0, .canon [] [0, 1, 5]] (by kernel_rfl) P0 (ww_heldIntSS _ _ H)
theorem cw_heldCombatTable {a0 : Gi_CombatTable} {a1 : Int} {r : Int} (H : Dw_heldCombatTable a0 a1 = some r) : Ct X.P X.gl 55 [gi_CombatTable a0, I a1] [] (RI r) [] :=
  Ct.of func55 (c := bdy f55) (by kernel_rfl) (by kernel_rfl) <|
  eBind H fun r1 hr1 H =>
  gS [r0, rg [hC 3 true [] (RI r1) []]] (by kernel_rfl) (P1 (cw_heldOddsS hr1)<|P0) <|
  eIf H (fun h2 H =>
  eW RI (fun _ => []) H<|gE func55 [rg [hT 1], r0] (by kernel_rfl) (P2 ((decide (r1 < 0)) = true) (decide_eq_true h2)<|P0))
  (fun h2 H =>
  eBind H fun r3 hr3 H =>
  gS [rg [hF 1], rg [hC 3 true [] (RI r3) []]] (by kernel_rfl) (P2 ((decide (r1 < 0)) = false) (decide_eq_false h2)<|P1 (cw_heldIntSS hr3)<|P0) <|
  eIf H (fun h4 H =>
  eW RI (fun _ => []) H<|gE func55 [rg [hT 1], r0] (by kernel_rfl) (P2 ((decide (r3 < 0)) = true) (decide_eq_true h4)<|P0))
  (fun h4 H =>
  eW RI (fun _ => []) H<|gE func55 [rg [hF 1], r0] (by kernel_rfl) (P2 ((decide (r3 < 0)) = false) (decide_eq_false h4)<|P0)))
noncomputable def Kw_heldUnitS : Sw_heldUnitS → List Item
 | .h1 .. => nav 300 2 [] [.code (bdy f142)]
def Zw_heldUnitS : Sw_heldUnitS → St
 | .h1 va0 k1 i2 => ⟨sts 49 [(0, sl 4 gi_Unit va0), (1, I k1), (5, I i2)], []⟩
abbrev Qw_heldUnitS := Nx X 142 0 Kw_heldUnitS Zw_heldUnitS RI (fun _ => [])
theorem nw_heldUnitS : ∀ s o, Bw_heldUnitS s = some o → Qw_heldUnitS (Kw_heldUnitS s) (Zw_heldUnitS s) o
 | .h1 va0 k1 i2, o, H =>
  eIf H (fun h1 H =>
  eCk H fun h2 H =>
  eBind H fun x3 hx3 H =>
  gN [rg [hT 3]] (by kernel_rfl) (P2 ((decide (i2 < ((va0.length : Nat) : Int))) = true) (decide_eq_true h1)<|P0) <|
  eIf H (fun h4 H =>
  eCk H fun h5 H =>
  eBind H fun x6 hx6 H =>
  gN [rg [hE 4 (gi_Unit x3), hF 6], r0] (by kernel_rfl) (P1 h2<|P1 (int_lt_of_at h2 hx3)<|P1 (at_map gi_Unit hx3)<|P2 (((x3.Side : Int) != k1) = false) (bneF h4)<|P0) <|
  eIf H (fun h7 H =>
  eCk H fun h8 H =>
  eBind H fun x9 hx9 H =>
  gN [rg [hE 4 (gi_Unit x6), hF 6], r0] (by kernel_rfl) (P1 h5<|P1 (int_lt_of_at h5 hx6)<|P1 (at_map gi_Unit hx6)<|P2 (((x6.Kind : Int) != (IntKind.wrap .i64 (k1 + 1))) = false) (bneF h7)<|P0) <|
  eIf H (fun h10 H =>
  eCk H fun h11 H =>
  eBind H fun x12 hx12 H =>
  gN [rg [hE 4 (gi_Unit x9), hF 6], r0] (by kernel_rfl) (P1 h8<|P1 (int_lt_of_at h8 hx9)<|P1 (at_map gi_Unit hx9)<|P2 (((x9.At : Int) != (IntKind.wrap .i64 ((IntKind.wrap .i64 (k1 + 1)) + 1))) = false) (bneF h10)<|P0) <|
  eIf H (fun h13 H =>
  eN H fun r hn => gO [rg [hE 4 (gi_Unit x12), hF 6], r0, r0, .canon [] [0, 1, 5]] (by kernel_rfl) (P1 h11<|P1 (int_lt_of_at h11 hx12)<|P1 (at_map gi_Unit hx12)<|P2 (((x12.Steps : Int) != (IntKind.wrap .i64 ((IntKind.wrap .i64 ((IntKind.wrap .i64 (k1 + 1)) + 1)) + 1))) = false) (bneF h13)<|P0) hn)
  (fun h13 H =>
  eN H<|gE func142 [rg [hE 4 (gi_Unit x12), hT 6], r0] (by kernel_rfl) (P1 h11<|P1 (int_lt_of_at h11 hx12)<|P1 (at_map gi_Unit hx12)<|P2 (((x12.Steps : Int) != (IntKind.wrap .i64 ((IntKind.wrap .i64 ((IntKind.wrap .i64 (k1 + 1)) + 1)) + 1))) = true) (bneT h13)<|P0)))
  (fun h10 H =>
  eN H<|gE func142 [rg [hE 4 (gi_Unit x9), hT 6], r0] (by kernel_rfl) (P1 h8<|P1 (int_lt_of_at h8 hx9)<|P1 (at_map gi_Unit hx9)<|P2 (((x9.At : Int) != (IntKind.wrap .i64 ((IntKind.wrap .i64 (k1 + 1)) + 1))) = true) (bneT h10)<|P0)))
  (fun h7 H =>
  eN H<|gE func142 [rg [hE 4 (gi_Unit x6), hT 6], r0] (by kernel_rfl) (P1 h5<|P1 (int_lt_of_at h5 hx6)<|P1 (at_map gi_Unit hx6)<|P2 (((x6.Kind : Int) != (IntKind.wrap .i64 (k1 + 1))) = true) (bneT h7)<|P0)))
  (fun h4 H =>
  eN H<|gE func142 [rg [hE 4 (gi_Unit x3), hT 6], r0] (by kernel_rfl) (P1 h2<|P1 (int_lt_of_at h2 hx3)<|P1 (at_map gi_Unit hx3)<|P2 (((x3.Side : Int) != k1) = true) (bneT h4)<|P0)))
  (fun h1 H =>
  eN H<|gE func142 [rg [hF 3], r0] (by kernel_rfl) (P2 ((decide (i2 < ((va0.length : Nat) : Int))) = false) (decide_eq_false h1)<|P0))
theorem ww_heldUnitS : ∀ s r, loop Bw_heldUnitS s = some r → Wc X 142 0 (Kw_heldUnitS s) (Zw_heldUnitS s) (RI r) ((fun _ => []) r) := Nx.all (nw_heldUnitS)
theorem cw_heldUnitS {a0 : (List Gi_Unit)} {a1 : Int} {r : Int} (H : Dw_heldUnitS a0 a1 = some r) : Ct X.P X.gl 142 [sl 4 gi_Unit a0, I a1] [] (RI r) [] :=
  Ct.of func142 (c := bdy f142) (by kernel_rfl) (by kernel_rfl) <|
  gO [r0, r0, .canon [] [0, 1, 5]] (by kernel_rfl) P0 (ww_heldUnitS _ _ H)
theorem cw_heldState {a0 : Gi_State} {a1 : Int} {r : Int} (H : Dw_heldState a0 a1 = some r) : Ct X.P X.gl 107 [gi_State a0, I a1] [] (RI r) [] :=
  Ct.of func107 (c := bdy f107) (by kernel_rfl) (by kernel_rfl) <|
  eBind H fun r1 hr1 H =>
  gS [r0, rg [hC 3 true [] (RI r1) []]] (by kernel_rfl) (P1 (cw_heldUnitS hr1)<|P0) <|
  eIf H (fun h2 H =>
  eW RI (fun _ => []) H<|gE func107 [rg [hT 1], r0] (by kernel_rfl) (P2 ((decide (r1 < 0)) = true) (decide_eq_true h2)<|P0))
  (fun h2 H =>
  eW RI (fun _ => []) H<|gE func107 [rg [hF 1], r0] (by kernel_rfl) (P2 ((decide (r1 < 0)) = false) (decide_eq_false h2)<|P0))
noncomputable def Kw_heldGoalS : Sw_heldGoalS → List Item
 | .h1 .. => nav 300 2 [] [.code (bdy f143)]
def Zw_heldGoalS : Sw_heldGoalS → St
 | .h1 va0 k1 i2 => ⟨sts 31 [(0, sl 2 gi_Goal va0), (1, I k1), (5, I i2)], []⟩
abbrev Qw_heldGoalS := Nx X 143 0 Kw_heldGoalS Zw_heldGoalS RI (fun _ => [])
theorem nw_heldGoalS : ∀ s o, Bw_heldGoalS s = some o → Qw_heldGoalS (Kw_heldGoalS s) (Zw_heldGoalS s) o
 | .h1 va0 k1 i2, o, H =>
  eIf H (fun h1 H =>
  eCk H fun h2 H =>
  eBind H fun x3 hx3 H =>
  gN [rg [hT 3]] (by kernel_rfl) (P2 ((decide (i2 < ((va0.length : Nat) : Int))) = true) (decide_eq_true h1)<|P0) <|
  eIf H (fun h4 H =>
  eCk H fun h5 H =>
  eBind H fun x6 hx6 H =>
  gN [rg [hE 4 (gi_Goal x3), hF 6], r0] (by kernel_rfl) (P1 h2<|P1 (int_lt_of_at h2 hx3)<|P1 (at_map gi_Goal hx3)<|P2 (((x3.At : Int) != k1) = false) (bneF h4)<|P0) <|
  eIf H (fun h7 H =>
  eN H fun r hn => gO [rg [hE 4 (gi_Goal x6), hF 6], r0, r0, .canon [] [0, 1, 5]] (by kernel_rfl) (P1 h5<|P1 (int_lt_of_at h5 hx6)<|P1 (at_map gi_Goal hx6)<|P2 (((x6.Points : Int) != (IntKind.wrap .i64 (k1 + 1))) = false) (bneF h7)<|P0) hn)
  (fun h7 H =>
  eN H<|gE func143 [rg [hE 4 (gi_Goal x6), hT 6], r0] (by kernel_rfl) (P1 h5<|P1 (int_lt_of_at h5 hx6)<|P1 (at_map gi_Goal hx6)<|P2 (((x6.Points : Int) != (IntKind.wrap .i64 (k1 + 1))) = true) (bneT h7)<|P0)))
  (fun h4 H =>
  eN H<|gE func143 [rg [hE 4 (gi_Goal x3), hT 6], r0] (by kernel_rfl) (P1 h2<|P1 (int_lt_of_at h2 hx3)<|P1 (at_map gi_Goal hx3)<|P2 (((x3.At : Int) != k1) = true) (bneT h4)<|P0)))
  (fun h1 H =>
  eN H<|gE func143 [rg [hF 3], r0] (by kernel_rfl) (P2 ((decide (i2 < ((va0.length : Nat) : Int))) = false) (decide_eq_false h1)<|P0))
theorem ww_heldGoalS : ∀ s r, loop Bw_heldGoalS s = some r → Wc X 143 0 (Kw_heldGoalS s) (Zw_heldGoalS s) (RI r) ((fun _ => []) r) := Nx.all (nw_heldGoalS)
theorem cw_heldGoalS {a0 : (List Gi_Goal)} {a1 : Int} {r : Int} (H : Dw_heldGoalS a0 a1 = some r) : Ct X.P X.gl 143 [sl 2 gi_Goal a0, I a1] [] (RI r) [] :=
  Ct.of func143 (c := bdy f143) (by kernel_rfl) (by kernel_rfl) <|
  gO [r0, r0, .canon [] [0, 1, 5]] (by kernel_rfl) P0 (ww_heldGoalS _ _ H)
theorem cw_heldConditions {a0 : Gi_Conditions} {a1 : Int} {r : Int} (H : Dw_heldConditions a0 a1 = some r) : Ct X.P X.gl 108 [gi_Conditions a0, I a1] [] (RI r) [] :=
  Ct.of func108 (c := bdy f108) (by kernel_rfl) (by kernel_rfl) <|
  eBind H fun r1 hr1 H =>
  gS [r0, rg [hC 3 true [] (RI r1) []]] (by kernel_rfl) (P1 (cw_heldGoalS hr1)<|P0) <|
  eIf H (fun h2 H =>
  eW RI (fun _ => []) H<|gE func108 [rg [hT 1], r0] (by kernel_rfl) (P2 ((decide (r1 < 0)) = true) (decide_eq_true h2)<|P0))
  (fun h2 H =>
  eW RI (fun _ => []) H<|gE func108 [rg [hF 1], r0] (by kernel_rfl) (P2 ((decide (r1 < 0)) = false) (decide_eq_false h2)<|P0))
theorem cw_heldScenario {a0 : Gi_Scenario} {a1 : Int} {r : Int} (H : Dw_heldScenario a0 a1 = some r) : Ct X.P X.gl 62 [gi_Scenario a0, I a1] [] (RI r) [] :=
  Ct.of func62 (c := bdy f62) (by kernel_rfl) (by kernel_rfl) <|
  eBind H fun r1 hr1 H =>
  gS [r0, rg [hC 3 true [] (RI r1) []]] (by kernel_rfl) (P1 (cw_heldBoard hr1)<|P0) <|
  eIf H (fun h2 H =>
  eW RI (fun _ => []) H<|gE func62 [rg [hT 1], r0] (by kernel_rfl) (P2 ((decide (r1 < 0)) = true) (decide_eq_true h2)<|P0))
  (fun h2 H =>
  eBind H fun r3 hr3 H =>
  gS [rg [hF 1], rg [hC 3 true [] (RI r3) []]] (by kernel_rfl) (P2 ((decide (r1 < 0)) = false) (decide_eq_false h2)<|P1 (cw_heldCombatTable hr3)<|P0) <|
  eIf H (fun h4 H =>
  eW RI (fun _ => []) H<|gE func62 [rg [hT 1], r0] (by kernel_rfl) (P2 ((decide (r3 < 0)) = true) (decide_eq_true h4)<|P0))
  (fun h4 H =>
  eBind H fun r5 hr5 H =>
  gS [rg [hF 1], rg [hC 3 true [] (RI r5) []]] (by kernel_rfl) (P2 ((decide (r3 < 0)) = false) (decide_eq_false h4)<|P1 (cw_heldState hr5)<|P0) <|
  eIf H (fun h6 H =>
  eW RI (fun _ => []) H<|gE func62 [rg [hT 1], r0] (by kernel_rfl) (P2 ((decide (r5 < 0)) = true) (decide_eq_true h6)<|P0))
  (fun h6 H =>
  eBind H fun r7 hr7 H =>
  gS [rg [hF 1], rg [hC 3 true [] (RI r7) []]] (by kernel_rfl) (P2 ((decide (r5 < 0)) = false) (decide_eq_false h6)<|P1 (cw_heldConditions hr7)<|P0) <|
  eIf H (fun h8 H =>
  eW RI (fun _ => []) H<|gE func62 [rg [hT 1], r0] (by kernel_rfl) (P2 ((decide (r7 < 0)) = true) (decide_eq_true h8)<|P0))
  (fun h8 H =>
  eBind H fun r9 hr9 H =>
  gS [rg [hF 1], rg [hC 3 true [] (RI r9) []]] (by kernel_rfl) (P2 ((decide (r7 < 0)) = false) (decide_eq_false h8)<|P1 (cw_heldIntS hr9)<|P0) <|
  eIf H (fun h10 H =>
  eW RI (fun _ => []) H<|gE func62 [rg [hT 1], r0] (by kernel_rfl) (P2 ((decide (r9 < 0)) = true) (decide_eq_true h10)<|P0))
  (fun h10 H =>
  eBind H fun r11 hr11 H =>
  gS [rg [hF 1], rg [hC 3 true [] (RI r11) []]] (by kernel_rfl) (P2 ((decide (r9 < 0)) = false) (decide_eq_false h10)<|P1 (cw_heldIntS hr11)<|P0) <|
  eIf H (fun h12 H =>
  eW RI (fun _ => []) H<|gE func62 [rg [hT 1], r0] (by kernel_rfl) (P2 ((decide (r11 < 0)) = true) (decide_eq_true h12)<|P0))
  (fun h12 H =>
  eW RI (fun _ => []) H<|gE func62 [rg [hF 1], r0] (by kernel_rfl) (P2 ((decide (r11 < 0)) = false) (decide_eq_false h12)<|P0)))))))
theorem cw_heldClimate {a0 : Gi_Climate} {a1 : Int} {r : Int} (H : Dw_heldClimate a0 a1 = some r) : Ct X.P X.gl 56 [.agg [sl 1 (sl 1 I) a0.Weights], I a1] [] (RI r) [] :=
  Ct.of func56 (c := bdy f56) (by kernel_rfl) (by kernel_rfl) <|
  eBind H fun r1 hr1 H =>
  gS [r0, rg [hC 3 true [] (RI r1) []]] (by kernel_rfl) (P1 (cw_heldIntSS hr1)<|P0) <|
  eIf H (fun h2 H =>
  eW RI (fun _ => []) H<|gE func56 [rg [hT 1], r0] (by kernel_rfl) (P2 ((decide (r1 < 0)) = true) (decide_eq_true h2)<|P0))
  (fun h2 H =>
  eW RI (fun _ => []) H<|gE func56 [rg [hF 1], r0] (by kernel_rfl) (P2 ((decide (r1 < 0)) = false) (decide_eq_false h2)<|P0))
noncomputable def Kw_heldOrderS : Sw_heldOrderS → List Item
 | .h1 .. => nav 300 2 [] [.code (bdy f109)]
def Zw_heldOrderS : Sw_heldOrderS → St
 | .h1 va0 k1 i2 => ⟨sts 40 [(0, sl 3 gi_Order va0), (1, I k1), (5, I i2)], []⟩
abbrev Qw_heldOrderS := Nx X 109 0 Kw_heldOrderS Zw_heldOrderS RI (fun _ => [])
theorem nw_heldOrderS : ∀ s o, Bw_heldOrderS s = some o → Qw_heldOrderS (Kw_heldOrderS s) (Zw_heldOrderS s) o
 | .h1 va0 k1 i2, o, H =>
  eIf H (fun h1 H =>
  eCk H fun h2 H =>
  eBind H fun x3 hx3 H =>
  gN [rg [hT 3]] (by kernel_rfl) (P2 ((decide (i2 < ((va0.length : Nat) : Int))) = true) (decide_eq_true h1)<|P0) <|
  eIf H (fun h4 H =>
  eCk H fun h5 H =>
  eBind H fun x6 hx6 H =>
  eBind H fun r7 hr7 H =>
  gN [rg [hE 4 (gi_Order x3), hF 6], r0, rg [hE 4 (gi_Order x6), hC 6 true [] (RI r7) []]] (by kernel_rfl) (P1 h2<|P1 (int_lt_of_at h2 hx3)<|P1 (at_map gi_Order hx3)<|P2 (((x3.Unit : Int) != k1) = false) (bneF h4)<|P1 h5<|P1 (int_lt_of_at h5 hx6)<|P1 (at_map gi_Order hx6)<|P1 (cw_heldIntS hr7)<|P0) <|
  eIf H (fun h8 H =>
  eN H<|gE func109 [rg [hT 1], r0] (by kernel_rfl) (P2 ((decide (r7 < 0)) = true) (decide_eq_true h8)<|P0))
  (fun h8 H =>
  eCk H fun h9 H =>
  eBind H fun x10 hx10 H =>
  gN [rg [hF 1]] (by kernel_rfl) (P2 ((decide (r7 < 0)) = false) (decide_eq_false h8)<|P0) <|
  eIf H (fun h11 H =>
  eN H fun r hn => gO [rg [hE 4 (gi_Order x10), hF 6], r0, r0, .canon [] [0, 1, 5]] (by kernel_rfl) (P1 h9<|P1 (int_lt_of_at h9 hx10)<|P1 (at_map gi_Order hx10)<|P2 (((x10.Attack : Int) != r7) = false) (bneF h11)<|P0) hn)
  (fun h11 H =>
  eN H<|gE func109 [rg [hE 4 (gi_Order x10), hT 6], r0] (by kernel_rfl) (P1 h9<|P1 (int_lt_of_at h9 hx10)<|P1 (at_map gi_Order hx10)<|P2 (((x10.Attack : Int) != r7) = true) (bneT h11)<|P0))))
  (fun h4 H =>
  eN H<|gE func109 [rg [hE 4 (gi_Order x3), hT 6], r0] (by kernel_rfl) (P1 h2<|P1 (int_lt_of_at h2 hx3)<|P1 (at_map gi_Order hx3)<|P2 (((x3.Unit : Int) != k1) = true) (bneT h4)<|P0)))
  (fun h1 H =>
  eN H<|gE func109 [rg [hF 3], r0] (by kernel_rfl) (P2 ((decide (i2 < ((va0.length : Nat) : Int))) = false) (decide_eq_false h1)<|P0))
theorem ww_heldOrderS : ∀ s r, loop Bw_heldOrderS s = some r → Wc X 109 0 (Kw_heldOrderS s) (Zw_heldOrderS s) (RI r) ((fun _ => []) r) := Nx.all (nw_heldOrderS)
theorem cw_heldOrderS {a0 : (List Gi_Order)} {a1 : Int} {r : Int} (H : Dw_heldOrderS a0 a1 = some r) : Ct X.P X.gl 109 [sl 3 gi_Order a0, I a1] [] (RI r) [] :=
  Ct.of func109 (c := bdy f109) (by kernel_rfl) (by kernel_rfl) <|
  gO [r0, r0, .canon [] [0, 1, 5]] (by kernel_rfl) P0 (ww_heldOrderS _ _ H)
noncomputable def Kw_heldSavedTurnS : Sw_heldSavedTurnS → List Item
 | .h1 .. => nav 300 2 [] [.code (bdy f63)]
def Zw_heldSavedTurnS : Sw_heldSavedTurnS → St
 | .h1 va0 k1 i2 => ⟨sts 62 [(0, sl 5 gi_SavedTurn va0), (1, I k1), (5, I i2)], []⟩
abbrev Qw_heldSavedTurnS := Nx X 63 0 Kw_heldSavedTurnS Zw_heldSavedTurnS RI (fun _ => [])
theorem nw_heldSavedTurnS : ∀ s o, Bw_heldSavedTurnS s = some o → Qw_heldSavedTurnS (Kw_heldSavedTurnS s) (Zw_heldSavedTurnS s) o
 | .h1 va0 k1 i2, o, H =>
  eIf H (fun h1 H =>
  eCk H fun h2 H =>
  eBind H fun x3 hx3 H =>
  gN [rg [hT 3]] (by kernel_rfl) (P2 ((decide (i2 < ((va0.length : Nat) : Int))) = true) (decide_eq_true h1)<|P0) <|
  eIf H (fun h4 H =>
  eCk H fun h5 H =>
  eBind H fun x6 hx6 H =>
  gN [rg [hE 4 (gi_SavedTurn x3), hF 6], r0] (by kernel_rfl) (P1 h2<|P1 (int_lt_of_at h2 hx3)<|P1 (at_map gi_SavedTurn hx3)<|P2 (((x3.Seed : Int) != k1) = false) (bneF h4)<|P0) <|
  eIf H (fun h7 H =>
  eCk H fun h8 H =>
  eBind H fun x9 hx9 H =>
  eBind H fun r10 hr10 H =>
  gN [rg [hE 5 (gi_SavedTurn x6), hF 7], r0, rg [hE 5 (gi_SavedTurn x9), hC 7 true [] (RI r10) []]] (by kernel_rfl) (P1 h5<|P1 (int_lt_of_at h5 hx6)<|P1 (at_map gi_SavedTurn hx6)<|P2 (((x6.First.Side : Int) != (IntKind.wrap .i64 (k1 + 1))) = false) (bneF h7)<|P1 h8<|P1 (int_lt_of_at h8 hx9)<|P1 (at_map gi_SavedTurn hx9)<|P1 (cw_heldOrderS hr10)<|P0) <|
  eIf H (fun h11 H =>
  eN H<|gE func63 [rg [hT 1], r0] (by kernel_rfl) (P2 ((decide (r10 < 0)) = true) (decide_eq_true h11)<|P0))
  (fun h11 H =>
  eCk H fun h12 H =>
  eBind H fun x13 hx13 H =>
  gN [rg [hF 1]] (by kernel_rfl) (P2 ((decide (r10 < 0)) = false) (decide_eq_false h11)<|P0) <|
  eIf H (fun h14 H =>
  eCk H fun h15 H =>
  eBind H fun x16 hx16 H =>
  eBind H fun r17 hr17 H =>
  gN [rg [hE 5 (gi_SavedTurn x13), hF 7], r0, rg [hE 5 (gi_SavedTurn x16), hC 7 true [] (RI r17) []]] (by kernel_rfl) (P1 h12<|P1 (int_lt_of_at h12 hx13)<|P1 (at_map gi_SavedTurn hx13)<|P2 (((x13.Other.Side : Int) != r10) = false) (bneF h14)<|P1 h15<|P1 (int_lt_of_at h15 hx16)<|P1 (at_map gi_SavedTurn hx16)<|P1 (cw_heldOrderS hr17)<|P0) <|
  eIf H (fun h18 H =>
  eN H<|gE func63 [rg [hT 1], r0] (by kernel_rfl) (P2 ((decide (r17 < 0)) = true) (decide_eq_true h18)<|P0))
  (fun h18 H =>
  eN H fun r hn => gO [rg [hF 1], r0, .canon [] [0, 1, 5]] (by kernel_rfl) (P2 ((decide (r17 < 0)) = false) (decide_eq_false h18)<|P0) hn))
  (fun h14 H =>
  eN H<|gE func63 [rg [hE 5 (gi_SavedTurn x13), hT 7], r0] (by kernel_rfl) (P1 h12<|P1 (int_lt_of_at h12 hx13)<|P1 (at_map gi_SavedTurn hx13)<|P2 (((x13.Other.Side : Int) != r10) = true) (bneT h14)<|P0))))
  (fun h7 H =>
  eN H<|gE func63 [rg [hE 5 (gi_SavedTurn x6), hT 7], r0] (by kernel_rfl) (P1 h5<|P1 (int_lt_of_at h5 hx6)<|P1 (at_map gi_SavedTurn hx6)<|P2 (((x6.First.Side : Int) != (IntKind.wrap .i64 (k1 + 1))) = true) (bneT h7)<|P0)))
  (fun h4 H =>
  eN H<|gE func63 [rg [hE 4 (gi_SavedTurn x3), hT 6], r0] (by kernel_rfl) (P1 h2<|P1 (int_lt_of_at h2 hx3)<|P1 (at_map gi_SavedTurn hx3)<|P2 (((x3.Seed : Int) != k1) = true) (bneT h4)<|P0)))
  (fun h1 H =>
  eN H<|gE func63 [rg [hF 3], r0] (by kernel_rfl) (P2 ((decide (i2 < ((va0.length : Nat) : Int))) = false) (decide_eq_false h1)<|P0))
theorem ww_heldSavedTurnS : ∀ s r, loop Bw_heldSavedTurnS s = some r → Wc X 63 0 (Kw_heldSavedTurnS s) (Zw_heldSavedTurnS s) (RI r) ((fun _ => []) r) := Nx.all (nw_heldSavedTurnS)
theorem cw_heldSavedTurnS {a0 : (List Gi_SavedTurn)} {a1 : Int} {r : Int} (H : Dw_heldSavedTurnS a0 a1 = some r) : Ct X.P X.gl 63 [sl 5 gi_SavedTurn a0, I a1] [] (RI r) [] :=
  Ct.of func63 (c := bdy f63) (by kernel_rfl) (by kernel_rfl) <|
  gO [r0, r0, .canon [] [0, 1, 5]] (by kernel_rfl) P0 (ww_heldSavedTurnS _ _ H)
theorem cw_heldSave {a0 : Gi_Save} {a1 : Int} {r : Int} (H : Dw_heldSave a0 a1 = some r) : Ct X.P X.gl 22 [gi_Save a0, I a1] [] (RI r) [] :=
  Ct.of func22 (c := bdy f22) (by kernel_rfl) (by kernel_rfl) <|
  eBind H fun r1 hr1 H =>
  gS [r0, rg [hC 3 true [] (RI r1) []]] (by kernel_rfl) (P1 (cw_heldScenario hr1)<|P0) <|
  eIf H (fun h2 H =>
  eW RI (fun _ => []) H<|gE func22 [rg [hT 1], r0] (by kernel_rfl) (P2 ((decide (r1 < 0)) = true) (decide_eq_true h2)<|P0))
  (fun h2 H =>
  eBind H fun r3 hr3 H =>
  gS [rg [hF 1], rg [hC 3 true [] (RI r3) []]] (by kernel_rfl) (P2 ((decide (r1 < 0)) = false) (decide_eq_false h2)<|P1 (cw_heldClimate hr3)<|P0) <|
  eIf H (fun h4 H =>
  eW RI (fun _ => []) H<|gE func22 [rg [hT 1], r0] (by kernel_rfl) (P2 ((decide (r3 < 0)) = true) (decide_eq_true h4)<|P0))
  (fun h4 H =>
  eBind H fun r5 hr5 H =>
  gS [rg [hF 1], rg [hC 3 true [] (RI r5) []]] (by kernel_rfl) (P2 ((decide (r3 < 0)) = false) (decide_eq_false h4)<|P1 (cw_heldSavedTurnS hr5)<|P0) <|
  eIf H (fun h6 H =>
  eW RI (fun _ => []) H<|gE func22 [rg [hT 1], r0] (by kernel_rfl) (P2 ((decide (r5 < 0)) = true) (decide_eq_true h6)<|P0))
  (fun h6 H =>
  eW RI (fun _ => []) H<|gE func22 [rg [hF 1], r0] (by kernel_rfl) (P2 ((decide (r5 < 0)) = false) (decide_eq_false h6)<|P0))))
theorem cw_FnExactNewSave {a0 : Gw_Scenario} {a1 : Gw_Climate} {r : Bool} (H : Dw_FnExactNewSave a0 a1 = some r) : Ct X.P X.gl 4 [gw_Scenario a0, .agg [sl 1 (sl 1 I) a1.Weights]] [] (RB r) [] :=
  Ct.of func4 (c := bdy f4) (by kernel_rfl) (by kernel_rfl) <|
  eBind H fun r1 hr1 H =>
  gS [r0, r0, rg [hC 2 true [] (RI r1) []]] (by kernel_rfl) (P1 (cw_szScenario hr1)<|P0) <|
  eIf H (fun h2 H =>
  eW RB (fun _ => []) H<|gE func4 [rg [hT 1], r0] (by kernel_rfl) (P2 ((decide (r1 < 0)) = true) (decide_eq_true h2)<|P0))
  (fun h2 H =>
  eBind H fun r3 hr3 H =>
  gS [rg [hF 1], rg [hC 2 true [] (RI r3) []]] (by kernel_rfl) (P2 ((decide (r1 < 0)) = false) (decide_eq_false h2)<|P1 (cw_szClimate hr3)<|P0) <|
  eIf H (fun h4 H =>
  eW RB (fun _ => []) H<|gE func4 [rg [hT 1], r0] (by kernel_rfl) (P2 ((decide (r3 < 0)) = true) (decide_eq_true h4)<|P0))
  (fun h4 H =>
  eBind H fun r5 hr5 H =>
  eBind H fun r6 hr6 H =>
  eBind H fun r7 hr7 H =>
  eBind H fun r8 hr8 H =>
  eBind H fun r9 hr9 H =>
  eBind H fun r10 hr10 H =>
  eBind H fun r11 hr11 H =>
  gS [rg [hF 1], rg [hC 1 true [] (Rw_toScenario r5) [], hC 3 true [] (Rw_toClimate r6) [], { i := 4, call := some { cl := false, ins := [], args := [gi_Scenario r5, .agg [sl 1 (sl 1 I) r6.Weights]], res := Rs_NewSave r7, G' := [] } }], rg [hC 1 true [] (Rw_toScenario r8) []], rg [hC 1 true [] (Rw_toClimate r9) []], rg [{ i := 2, call := some { cl := false, ins := [], args := [gi_Scenario r8, .agg [sl 1 (sl 1 I) r9.Weights]], res := Ri_NewSave r10, G' := [] } }]] (by kernel_rfl) (P2 ((decide (r3 < 0)) = false) (decide_eq_false h4)<|P1 (cw_toScenario hr5)<|P1 (cw_toClimate hr6)<|PI r5.Name<|PE ero_159 r5.Board.Rules.Terrains<|PL gi_Kind r5.Board.Rules.Kinds<|PI r5.Board.Rules.Stack<|PI r5.Board.Rules.River<|PI r5.Board.Rules.Road<|PI r5.Board.Rules.Supply<|PI r5.Board.Rules.Turns<|PI r5.Board.Map.Width<|PI r5.Board.Map.Height<|PL I r5.Board.Map.Terrain<|PL I r5.Board.Map.Rivers<|PL I r5.Board.Map.Roads<|PL gi_Odds r5.Table.Columns<|PI r5.Table.Dice<|PE ero_26 r5.Table.Results<|PI r5.Start.Turn<|PI r5.Start.Weather<|PL gi_Unit r5.Start.Units<|PL gi_Goal r5.Conditions.Goals<|PI r5.Conditions.Step<|PI r5.Conditions.Margin<|PL I r5.First<|PL I r5.Other<|PE ero_26 r6.Weights<|P2 (nfL (List.flatMap D.cells (Rs_NewSave r7))) ⟨trivial, nfL_map nfo_159 _, nfL_map nf_199 _, trivial, trivial, trivial, trivial, trivial, trivial, trivial, nfL_map nf_3 _, nfL_map nf_3 _, nfL_map nf_3 _, nfL_map nf_163 _, trivial, nfL_map nfo_26 _, trivial, trivial, nfL_map nf_167 _, nfL_map nf_171 _, trivial, trivial, nfL_map nf_3 _, nfL_map nf_3 _, nfL_map nfo_26 _, nfL_map nfo_150 _, trivial, trivial⟩<|P2 (nfG []) trivial<|P1 (cs_NewSave hr7)<|P1 (cw_toScenario hr8)<|P1 (cw_toClimate hr9)<|PI r8.Name<|PE ero_159 r8.Board.Rules.Terrains<|PL gi_Kind r8.Board.Rules.Kinds<|PI r8.Board.Rules.Stack<|PI r8.Board.Rules.River<|PI r8.Board.Rules.Road<|PI r8.Board.Rules.Supply<|PI r8.Board.Rules.Turns<|PI r8.Board.Map.Width<|PI r8.Board.Map.Height<|PL I r8.Board.Map.Terrain<|PL I r8.Board.Map.Rivers<|PL I r8.Board.Map.Roads<|PL gi_Odds r8.Table.Columns<|PI r8.Table.Dice<|PE ero_26 r8.Table.Results<|PI r8.Start.Turn<|PI r8.Start.Weather<|PL gi_Unit r8.Start.Units<|PL gi_Goal r8.Conditions.Goals<|PI r8.Conditions.Step<|PI r8.Conditions.Margin<|PL I r8.First<|PL I r8.Other<|PE ero_26 r9.Weights<|P2 (nfL (List.flatMap D.cells (Ri_NewSave r10))) ⟨trivial, nfL_map nfo_159 _, nfL_map nf_199 _, trivial, trivial, trivial, trivial, trivial, trivial, trivial, nfL_map nf_3 _, nfL_map nf_3 _, nfL_map nf_3 _, nfL_map nf_163 _, trivial, nfL_map nfo_26 _, trivial, trivial, nfL_map nf_167 _, nfL_map nf_171 _, trivial, trivial, nfL_map nf_3 _, nfL_map nf_3 _, nfL_map nfo_26 _, nfL_map nfo_150 _, trivial, trivial⟩<|P2 (nfG []) trivial<|P1 (ci_NewSave hr10)<|P0) <|
  eIf H (fun h12 H =>
  eIf H (fun h13 H =>
  eW RB (fun _ => []) H<|gE func4 [rg [{ i := 2, call := some { cl := false, ins := [], args := [gi_Save r10.1, gi_Save r7.1], res := RB r11, G' := [] }, dec := some true }, hT 7], r0] (by kernel_rfl) (PI r10.1.Scenario.Name<|PE ero_159 r10.1.Scenario.Board.Rules.Terrains<|PL gi_Kind r10.1.Scenario.Board.Rules.Kinds<|PI r10.1.Scenario.Board.Rules.Stack<|PI r10.1.Scenario.Board.Rules.River<|PI r10.1.Scenario.Board.Rules.Road<|PI r10.1.Scenario.Board.Rules.Supply<|PI r10.1.Scenario.Board.Rules.Turns<|PI r10.1.Scenario.Board.Map.Width<|PI r10.1.Scenario.Board.Map.Height<|PL I r10.1.Scenario.Board.Map.Terrain<|PL I r10.1.Scenario.Board.Map.Rivers<|PL I r10.1.Scenario.Board.Map.Roads<|PL gi_Odds r10.1.Scenario.Table.Columns<|PI r10.1.Scenario.Table.Dice<|PE ero_26 r10.1.Scenario.Table.Results<|PI r10.1.Scenario.Start.Turn<|PI r10.1.Scenario.Start.Weather<|PL gi_Unit r10.1.Scenario.Start.Units<|PL gi_Goal r10.1.Scenario.Conditions.Goals<|PI r10.1.Scenario.Conditions.Step<|PI r10.1.Scenario.Conditions.Margin<|PL I r10.1.Scenario.First<|PL I r10.1.Scenario.Other<|PE ero_26 r10.1.Climate.Weights<|PE ero_150 r10.1.Turns<|PI r7.1.Scenario.Name<|PE ero_159 r7.1.Scenario.Board.Rules.Terrains<|PL gi_Kind r7.1.Scenario.Board.Rules.Kinds<|PI r7.1.Scenario.Board.Rules.Stack<|PI r7.1.Scenario.Board.Rules.River<|PI r7.1.Scenario.Board.Rules.Road<|PI r7.1.Scenario.Board.Rules.Supply<|PI r7.1.Scenario.Board.Rules.Turns<|PI r7.1.Scenario.Board.Map.Width<|PI r7.1.Scenario.Board.Map.Height<|PL I r7.1.Scenario.Board.Map.Terrain<|PL I r7.1.Scenario.Board.Map.Rivers<|PL I r7.1.Scenario.Board.Map.Roads<|PL gi_Odds r7.1.Scenario.Table.Columns<|PI r7.1.Scenario.Table.Dice<|PE ero_26 r7.1.Scenario.Table.Results<|PI r7.1.Scenario.Start.Turn<|PI r7.1.Scenario.Start.Weather<|PL gi_Unit r7.1.Scenario.Start.Units<|PL gi_Goal r7.1.Scenario.Conditions.Goals<|PI r7.1.Scenario.Conditions.Step<|PI r7.1.Scenario.Conditions.Margin<|PL I r7.1.Scenario.First<|PL I r7.1.Scenario.Other<|PE ero_26 r7.1.Climate.Weights<|PE ero_150 r7.1.Turns<|P1 (cw_eqSave hr11)<|P2 (r11 = true) (h12)<|P2 ((!(r10.2 == r7.2)) = true) (h13)<|P0))
  (fun h13 H =>
  eBind H fun r14 hr14 H =>
  eBind H fun r15 hr15 H =>
  gS [rg [{ i := 2, call := some { cl := false, ins := [], args := [gi_Save r10.1, gi_Save r7.1], res := RB r11, G' := [] }, dec := some true }, hF 7]] (by kernel_rfl) (PI r10.1.Scenario.Name<|PE ero_159 r10.1.Scenario.Board.Rules.Terrains<|PL gi_Kind r10.1.Scenario.Board.Rules.Kinds<|PI r10.1.Scenario.Board.Rules.Stack<|PI r10.1.Scenario.Board.Rules.River<|PI r10.1.Scenario.Board.Rules.Road<|PI r10.1.Scenario.Board.Rules.Supply<|PI r10.1.Scenario.Board.Rules.Turns<|PI r10.1.Scenario.Board.Map.Width<|PI r10.1.Scenario.Board.Map.Height<|PL I r10.1.Scenario.Board.Map.Terrain<|PL I r10.1.Scenario.Board.Map.Rivers<|PL I r10.1.Scenario.Board.Map.Roads<|PL gi_Odds r10.1.Scenario.Table.Columns<|PI r10.1.Scenario.Table.Dice<|PE ero_26 r10.1.Scenario.Table.Results<|PI r10.1.Scenario.Start.Turn<|PI r10.1.Scenario.Start.Weather<|PL gi_Unit r10.1.Scenario.Start.Units<|PL gi_Goal r10.1.Scenario.Conditions.Goals<|PI r10.1.Scenario.Conditions.Step<|PI r10.1.Scenario.Conditions.Margin<|PL I r10.1.Scenario.First<|PL I r10.1.Scenario.Other<|PE ero_26 r10.1.Climate.Weights<|PE ero_150 r10.1.Turns<|PI r7.1.Scenario.Name<|PE ero_159 r7.1.Scenario.Board.Rules.Terrains<|PL gi_Kind r7.1.Scenario.Board.Rules.Kinds<|PI r7.1.Scenario.Board.Rules.Stack<|PI r7.1.Scenario.Board.Rules.River<|PI r7.1.Scenario.Board.Rules.Road<|PI r7.1.Scenario.Board.Rules.Supply<|PI r7.1.Scenario.Board.Rules.Turns<|PI r7.1.Scenario.Board.Map.Width<|PI r7.1.Scenario.Board.Map.Height<|PL I r7.1.Scenario.Board.Map.Terrain<|PL I r7.1.Scenario.Board.Map.Rivers<|PL I r7.1.Scenario.Board.Map.Roads<|PL gi_Odds r7.1.Scenario.Table.Columns<|PI r7.1.Scenario.Table.Dice<|PE ero_26 r7.1.Scenario.Table.Results<|PI r7.1.Scenario.Start.Turn<|PI r7.1.Scenario.Start.Weather<|PL gi_Unit r7.1.Scenario.Start.Units<|PL gi_Goal r7.1.Scenario.Conditions.Goals<|PI r7.1.Scenario.Conditions.Step<|PI r7.1.Scenario.Conditions.Margin<|PL I r7.1.Scenario.First<|PL I r7.1.Scenario.Other<|PE ero_26 r7.1.Climate.Weights<|PE ero_150 r7.1.Turns<|P1 (cw_eqSave hr11)<|P2 (r11 = true) (h12)<|P2 ((!(r10.2 == r7.2)) = false) (eqF h13)<|P0) <|
  eIf H (fun h16 H =>
  eBind H fun r17 hr17 H =>
  eBind H fun r18 hr18 H =>
  gS [rg [hC 2 true [] (Rw_toScenario r14) [], { i := 3, call := some { cl := false, ins := [], args := [gi_Scenario r8, gi_Scenario r14], res := RB r15, G' := [] }, dec := some true }]] (by kernel_rfl) (P1 (cw_toScenario hr14)<|PI r8.Name<|PE ero_159 r8.Board.Rules.Terrains<|PL gi_Kind r8.Board.Rules.Kinds<|PI r8.Board.Rules.Stack<|PI r8.Board.Rules.River<|PI r8.Board.Rules.Road<|PI r8.Board.Rules.Supply<|PI r8.Board.Rules.Turns<|PI r8.Board.Map.Width<|PI r8.Board.Map.Height<|PL I r8.Board.Map.Terrain<|PL I r8.Board.Map.Rivers<|PL I r8.Board.Map.Roads<|PL gi_Odds r8.Table.Columns<|PI r8.Table.Dice<|PE ero_26 r8.Table.Results<|PI r8.Start.Turn<|PI r8.Start.Weather<|PL gi_Unit r8.Start.Units<|PL gi_Goal r8.Conditions.Goals<|PI r8.Conditions.Step<|PI r8.Conditions.Margin<|PL I r8.First<|PL I r8.Other<|PI r14.Name<|PE ero_159 r14.Board.Rules.Terrains<|PL gi_Kind r14.Board.Rules.Kinds<|PI r14.Board.Rules.Stack<|PI r14.Board.Rules.River<|PI r14.Board.Rules.Road<|PI r14.Board.Rules.Supply<|PI r14.Board.Rules.Turns<|PI r14.Board.Map.Width<|PI r14.Board.Map.Height<|PL I r14.Board.Map.Terrain<|PL I r14.Board.Map.Rivers<|PL I r14.Board.Map.Roads<|PL gi_Odds r14.Table.Columns<|PI r14.Table.Dice<|PE ero_26 r14.Table.Results<|PI r14.Start.Turn<|PI r14.Start.Weather<|PL gi_Unit r14.Start.Units<|PL gi_Goal r14.Conditions.Goals<|PI r14.Conditions.Step<|PI r14.Conditions.Margin<|PL I r14.First<|PL I r14.Other<|P1 (cw_eqScenario hr15)<|P2 (r15 = true) (h16)<|P0) <|
  eIf H (fun h19 H =>
  eBind H fun r20 hr20 H =>
  eCk H fun h21 H =>
  eCk H fun h22 H =>
  eCk H fun h23 H =>
  eCk H fun h24 H =>
  eCk H fun h25 H =>
  eCk H fun h26 H =>
  eCk H fun h27 H =>
  eCk H fun h28 H =>
  eCk H fun h29 H =>
  eCk H fun h30 H =>
  eCk H fun h31 H =>
  eBind H fun r32 hr32 H =>
  eCk H fun h33 H =>
  gS [rg [hC 2 true [] (Rw_toClimate r17) [], { i := 3, call := some { cl := false, ins := [], args := [.agg [sl 1 (sl 1 I) r9.Weights], .agg [sl 1 (sl 1 I) r17.Weights]], res := RB r18, G' := [] }, dec := some true }], r0, rg [{ i := 2, call := some { cl := true, ins := [55, 56, 64, 65, 66, 67, 69, 72, 73, 76, 77], args := [.agg [.str r8.Name, .ref 0 5 none, .ref 1 6 none, I r8.Board.Rules.Stack, I r8.Board.Rules.River, I r8.Board.Rules.Road, I r8.Board.Rules.Supply, I r8.Board.Rules.Turns, I r8.Board.Map.Width, I r8.Board.Map.Height, .ref 2 1 none, .ref 3 1 none, .ref 4 1 none, .ref 5 2 none, I r8.Table.Dice, .ref 6 1 none, I r8.Start.Turn, I r8.Start.Weather, .ref 7 4 none, .ref 8 2 none, I r8.Conditions.Step, I r8.Conditions.Margin, .ref 9 1 none, .ref 10 1 none], I 1], res := Rw_markScenario r20, G' := Nw_markScenario r20 } }], rg [{ i := 2, call := some { cl := true, ins := [79], args := [.agg [.ref 0 1 none], I r20.1], res := Rw_markClimate r32, G' := Nw_markClimate r32 } }]] (by kernel_rfl) (P1 (cw_toClimate hr17)<|PE ero_26 r9.Weights<|PE ero_26 r17.Weights<|P1 (cw_eqClimate hr18)<|P2 (r18 = true) (h19)<|PI r8.Name<|PN<|PN<|PI r8.Board.Rules.Stack<|PI r8.Board.Rules.River<|PI r8.Board.Rules.Road<|PI r8.Board.Rules.Supply<|PI r8.Board.Rules.Turns<|PI r8.Board.Map.Width<|PI r8.Board.Map.Height<|PN<|PN<|PN<|PN<|PI r8.Table.Dice<|PN<|PI r8.Start.Turn<|PI r8.Start.Weather<|PN<|PN<|PI r8.Conditions.Step<|PI r8.Conditions.Margin<|PN<|PN<|PI (1 : Int)<|P1 h21<|P1 h22<|P1 h23<|P1 h24<|P1 h25<|P1 h26<|P1 h27<|P1 h28<|P1 h29<|P1 h30<|P1 h31<|P1 (cw_markScenario hr20)<|PN<|PI r20.1<|P1 h33<|P1 (cw_markClimate hr32)<|P0) <|
  eIf H (fun h34 H =>
  eW RB (fun _ => []) H<|gE func4 [rg [hT 1], r0] (by kernel_rfl) (P2 ((decide (r32.1 < 0)) = true) (decide_eq_true h34)<|P0))
  (fun h34 H =>
  eBind H fun r35 hr35 H =>
  eIf H (fun h36 H =>
  eIf H (fun h37 H =>
  eW RB (fun _ => []) H<|gE func4 [rg [hF 1, { i := 5, call := some { cl := false, ins := [], args := [gi_Save r10.1, gi_Save r7.1], res := RB r35, G' := [] }, dec := some true }, hT 11], r0] (by kernel_rfl) (P2 ((decide (r32.1 < 0)) = false) (decide_eq_false h34)<|PI r10.1.Scenario.Name<|PE ero_159 r10.1.Scenario.Board.Rules.Terrains<|PL gi_Kind r10.1.Scenario.Board.Rules.Kinds<|PI r10.1.Scenario.Board.Rules.Stack<|PI r10.1.Scenario.Board.Rules.River<|PI r10.1.Scenario.Board.Rules.Road<|PI r10.1.Scenario.Board.Rules.Supply<|PI r10.1.Scenario.Board.Rules.Turns<|PI r10.1.Scenario.Board.Map.Width<|PI r10.1.Scenario.Board.Map.Height<|PL I r10.1.Scenario.Board.Map.Terrain<|PL I r10.1.Scenario.Board.Map.Rivers<|PL I r10.1.Scenario.Board.Map.Roads<|PL gi_Odds r10.1.Scenario.Table.Columns<|PI r10.1.Scenario.Table.Dice<|PE ero_26 r10.1.Scenario.Table.Results<|PI r10.1.Scenario.Start.Turn<|PI r10.1.Scenario.Start.Weather<|PL gi_Unit r10.1.Scenario.Start.Units<|PL gi_Goal r10.1.Scenario.Conditions.Goals<|PI r10.1.Scenario.Conditions.Step<|PI r10.1.Scenario.Conditions.Margin<|PL I r10.1.Scenario.First<|PL I r10.1.Scenario.Other<|PE ero_26 r10.1.Climate.Weights<|PE ero_150 r10.1.Turns<|PI r7.1.Scenario.Name<|PE ero_159 r7.1.Scenario.Board.Rules.Terrains<|PL gi_Kind r7.1.Scenario.Board.Rules.Kinds<|PI r7.1.Scenario.Board.Rules.Stack<|PI r7.1.Scenario.Board.Rules.River<|PI r7.1.Scenario.Board.Rules.Road<|PI r7.1.Scenario.Board.Rules.Supply<|PI r7.1.Scenario.Board.Rules.Turns<|PI r7.1.Scenario.Board.Map.Width<|PI r7.1.Scenario.Board.Map.Height<|PL I r7.1.Scenario.Board.Map.Terrain<|PL I r7.1.Scenario.Board.Map.Rivers<|PL I r7.1.Scenario.Board.Map.Roads<|PL gi_Odds r7.1.Scenario.Table.Columns<|PI r7.1.Scenario.Table.Dice<|PE ero_26 r7.1.Scenario.Table.Results<|PI r7.1.Scenario.Start.Turn<|PI r7.1.Scenario.Start.Weather<|PL gi_Unit r7.1.Scenario.Start.Units<|PL gi_Goal r7.1.Scenario.Conditions.Goals<|PI r7.1.Scenario.Conditions.Step<|PI r7.1.Scenario.Conditions.Margin<|PL I r7.1.Scenario.First<|PL I r7.1.Scenario.Other<|PE ero_26 r7.1.Climate.Weights<|PE ero_150 r7.1.Turns<|P1 (cw_eqSave hr35)<|P2 (r35 = true) (h36)<|P2 ((!(r10.2 == r7.2)) = true) (h37)<|P0))
  (fun h37 H =>
  eBind H fun r38 hr38 H =>
  eCk H fun h39 H =>
  eCk H fun h40 H =>
  eCk H fun h41 H =>
  eCk H fun h42 H =>
  eCk H fun h43 H =>
  eCk H fun h44 H =>
  eCk H fun h45 H =>
  eCk H fun h46 H =>
  eCk H fun h47 H =>
  eCk H fun h48 H =>
  eCk H fun h49 H =>
  eCk H fun h50 H =>
  eCk H fun h51 H =>
  eBind H fun r52 hr52 H =>
  gS [rg [hF 1, { i := 5, call := some { cl := false, ins := [], args := [gi_Save r10.1, gi_Save r7.1], res := RB r35, G' := [] }, dec := some true }, hF 11], r0, rg [{ i := 2, call := some { cl := true, ins := [82, 83, 91, 92, 93, 94, 96, 99, 100, 103, 104, 105, 106], args := [.agg [.str r10.1.Scenario.Name, .ref 0 5 none, .ref 1 6 none, I r10.1.Scenario.Board.Rules.Stack, I r10.1.Scenario.Board.Rules.River, I r10.1.Scenario.Board.Rules.Road, I r10.1.Scenario.Board.Rules.Supply, I r10.1.Scenario.Board.Rules.Turns, I r10.1.Scenario.Board.Map.Width, I r10.1.Scenario.Board.Map.Height, .ref 2 1 none, .ref 3 1 none, .ref 4 1 none, .ref 5 2 none, I r10.1.Scenario.Table.Dice, .ref 6 1 none, I r10.1.Scenario.Start.Turn, I r10.1.Scenario.Start.Weather, .ref 7 4 none, .ref 8 2 none, I r10.1.Scenario.Conditions.Step, I r10.1.Scenario.Conditions.Margin, .ref 9 1 none, .ref 10 1 none, .ref 11 1 none, .ref 12 5 none], I 1], res := Rw_markSave r38, G' := Nw_markSave r38 } }], r0, rg [{ i := 2, call := some { cl := false, ins := [], args := [.agg [.str r10.1.Scenario.Name, sl 5 gi_Terrain r38.2.1, sl 6 gi_Kind r38.2.2.1, I r10.1.Scenario.Board.Rules.Stack, I r10.1.Scenario.Board.Rules.River, I r10.1.Scenario.Board.Rules.Road, I r10.1.Scenario.Board.Rules.Supply, I r10.1.Scenario.Board.Rules.Turns, I r10.1.Scenario.Board.Map.Width, I r10.1.Scenario.Board.Map.Height, sl 1 I r38.2.2.2.1, sl 1 I r38.2.2.2.2.1, sl 1 I r38.2.2.2.2.2.1, sl 2 gi_Odds r38.2.2.2.2.2.2.1, I r10.1.Scenario.Table.Dice, sl 1 (sl 1 I) r38.2.2.2.2.2.2.2.1, I r10.1.Scenario.Start.Turn, I r10.1.Scenario.Start.Weather, sl 4 gi_Unit r38.2.2.2.2.2.2.2.2.1, sl 2 gi_Goal r38.2.2.2.2.2.2.2.2.2.1, I r10.1.Scenario.Conditions.Step, I r10.1.Scenario.Conditions.Margin, sl 1 I r38.2.2.2.2.2.2.2.2.2.2.1, sl 1 I r38.2.2.2.2.2.2.2.2.2.2.2.1, sl 1 (sl 1 I) r38.2.2.2.2.2.2.2.2.2.2.2.2.1, sl 5 gi_SavedTurn r38.2.2.2.2.2.2.2.2.2.2.2.2.2], I 1], res := RI r52, G' := [] } }]] (by kernel_rfl) (P2 ((decide (r32.1 < 0)) = false) (decide_eq_false h34)<|PI r10.1.Scenario.Name<|PE ero_159 r10.1.Scenario.Board.Rules.Terrains<|PL gi_Kind r10.1.Scenario.Board.Rules.Kinds<|PI r10.1.Scenario.Board.Rules.Stack<|PI r10.1.Scenario.Board.Rules.River<|PI r10.1.Scenario.Board.Rules.Road<|PI r10.1.Scenario.Board.Rules.Supply<|PI r10.1.Scenario.Board.Rules.Turns<|PI r10.1.Scenario.Board.Map.Width<|PI r10.1.Scenario.Board.Map.Height<|PL I r10.1.Scenario.Board.Map.Terrain<|PL I r10.1.Scenario.Board.Map.Rivers<|PL I r10.1.Scenario.Board.Map.Roads<|PL gi_Odds r10.1.Scenario.Table.Columns<|PI r10.1.Scenario.Table.Dice<|PE ero_26 r10.1.Scenario.Table.Results<|PI r10.1.Scenario.Start.Turn<|PI r10.1.Scenario.Start.Weather<|PL gi_Unit r10.1.Scenario.Start.Units<|PL gi_Goal r10.1.Scenario.Conditions.Goals<|PI r10.1.Scenario.Conditions.Step<|PI r10.1.Scenario.Conditions.Margin<|PL I r10.1.Scenario.First<|PL I r10.1.Scenario.Other<|PE ero_26 r10.1.Climate.Weights<|PE ero_150 r10.1.Turns<|PI r7.1.Scenario.Name<|PE ero_159 r7.1.Scenario.Board.Rules.Terrains<|PL gi_Kind r7.1.Scenario.Board.Rules.Kinds<|PI r7.1.Scenario.Board.Rules.Stack<|PI r7.1.Scenario.Board.Rules.River<|PI r7.1.Scenario.Board.Rules.Road<|PI r7.1.Scenario.Board.Rules.Supply<|PI r7.1.Scenario.Board.Rules.Turns<|PI r7.1.Scenario.Board.Map.Width<|PI r7.1.Scenario.Board.Map.Height<|PL I r7.1.Scenario.Board.Map.Terrain<|PL I r7.1.Scenario.Board.Map.Rivers<|PL I r7.1.Scenario.Board.Map.Roads<|PL gi_Odds r7.1.Scenario.Table.Columns<|PI r7.1.Scenario.Table.Dice<|PE ero_26 r7.1.Scenario.Table.Results<|PI r7.1.Scenario.Start.Turn<|PI r7.1.Scenario.Start.Weather<|PL gi_Unit r7.1.Scenario.Start.Units<|PL gi_Goal r7.1.Scenario.Conditions.Goals<|PI r7.1.Scenario.Conditions.Step<|PI r7.1.Scenario.Conditions.Margin<|PL I r7.1.Scenario.First<|PL I r7.1.Scenario.Other<|PE ero_26 r7.1.Climate.Weights<|PE ero_150 r7.1.Turns<|P1 (cw_eqSave hr35)<|P2 (r35 = true) (h36)<|P2 ((!(r10.2 == r7.2)) = false) (eqF h37)<|PI r10.1.Scenario.Name<|PN<|PN<|PI r10.1.Scenario.Board.Rules.Stack<|PI r10.1.Scenario.Board.Rules.River<|PI r10.1.Scenario.Board.Rules.Road<|PI r10.1.Scenario.Board.Rules.Supply<|PI r10.1.Scenario.Board.Rules.Turns<|PI r10.1.Scenario.Board.Map.Width<|PI r10.1.Scenario.Board.Map.Height<|PN<|PN<|PN<|PN<|PI r10.1.Scenario.Table.Dice<|PN<|PI r10.1.Scenario.Start.Turn<|PI r10.1.Scenario.Start.Weather<|PN<|PN<|PI r10.1.Scenario.Conditions.Step<|PI r10.1.Scenario.Conditions.Margin<|PN<|PN<|PN<|PN<|PI (1 : Int)<|P1 h39<|P1 h40<|P1 h41<|P1 h42<|P1 h43<|P1 h44<|P1 h45<|P1 h46<|P1 h47<|P1 h48<|P1 h49<|P1 h50<|P1 h51<|P1 (cw_markSave hr38)<|PI r10.1.Scenario.Name<|PE ero_159 r38.2.1<|PL gi_Kind r38.2.2.1<|PI r10.1.Scenario.Board.Rules.Stack<|PI r10.1.Scenario.Board.Rules.River<|PI r10.1.Scenario.Board.Rules.Road<|PI r10.1.Scenario.Board.Rules.Supply<|PI r10.1.Scenario.Board.Rules.Turns<|PI r10.1.Scenario.Board.Map.Width<|PI r10.1.Scenario.Board.Map.Height<|PL I r38.2.2.2.1<|PL I r38.2.2.2.2.1<|PL I r38.2.2.2.2.2.1<|PL gi_Odds r38.2.2.2.2.2.2.1<|PI r10.1.Scenario.Table.Dice<|PE ero_26 r38.2.2.2.2.2.2.2.1<|PI r10.1.Scenario.Start.Turn<|PI r10.1.Scenario.Start.Weather<|PL gi_Unit r38.2.2.2.2.2.2.2.2.1<|PL gi_Goal r38.2.2.2.2.2.2.2.2.2.1<|PI r10.1.Scenario.Conditions.Step<|PI r10.1.Scenario.Conditions.Margin<|PL I r38.2.2.2.2.2.2.2.2.2.2.1<|PL I r38.2.2.2.2.2.2.2.2.2.2.2.1<|PE ero_26 r38.2.2.2.2.2.2.2.2.2.2.2.2.1<|PE ero_150 r38.2.2.2.2.2.2.2.2.2.2.2.2.2<|PI (1 : Int)<|P1 (cw_heldSave hr52)<|P0) <|
  eIf H (fun h53 H =>
  eW RB (fun _ => []) H<|gE func4 [rg [hT 1], r0] (by kernel_rfl) (P2 ((decide (r52 < 0)) = true) (decide_eq_true h53)<|P0))
  (fun h53 H =>
  gS [rg [hF 1]] (by kernel_rfl) (P2 ((decide (r52 < 0)) = false) (decide_eq_false h53)<|P0) <|
  eIf H (fun h54 H =>
  eBind H fun r55 hr55 H =>
  eBind H fun r56 hr56 H =>
  eBind H fun r57 hr57 H =>
  eBind H fun r58 hr58 H =>
  gS [rg [hF 2], rg [hC 1 true [] (Rw_toScenario r55) [], hC 3 true [] (Rw_toClimate r56) [], { i := 4, call := some { cl := false, ins := [], args := [gi_Scenario r55, .agg [sl 1 (sl 1 I) r56.Weights]], res := Ri_NewSave r57, G' := [] } }]] (by kernel_rfl) (P2 (((r52 : Int) != r38.1) = false) (bneF h54)<|P1 (cw_toScenario hr55)<|P1 (cw_toClimate hr56)<|PI r55.Name<|PE ero_159 r55.Board.Rules.Terrains<|PL gi_Kind r55.Board.Rules.Kinds<|PI r55.Board.Rules.Stack<|PI r55.Board.Rules.River<|PI r55.Board.Rules.Road<|PI r55.Board.Rules.Supply<|PI r55.Board.Rules.Turns<|PI r55.Board.Map.Width<|PI r55.Board.Map.Height<|PL I r55.Board.Map.Terrain<|PL I r55.Board.Map.Rivers<|PL I r55.Board.Map.Roads<|PL gi_Odds r55.Table.Columns<|PI r55.Table.Dice<|PE ero_26 r55.Table.Results<|PI r55.Start.Turn<|PI r55.Start.Weather<|PL gi_Unit r55.Start.Units<|PL gi_Goal r55.Conditions.Goals<|PI r55.Conditions.Step<|PI r55.Conditions.Margin<|PL I r55.First<|PL I r55.Other<|PE ero_26 r56.Weights<|P2 (nfL (List.flatMap D.cells (Ri_NewSave r57))) ⟨trivial, nfL_map nfo_159 _, nfL_map nf_199 _, trivial, trivial, trivial, trivial, trivial, trivial, trivial, nfL_map nf_3 _, nfL_map nf_3 _, nfL_map nf_3 _, nfL_map nf_163 _, trivial, nfL_map nfo_26 _, trivial, trivial, nfL_map nf_167 _, nfL_map nf_171 _, trivial, trivial, nfL_map nf_3 _, nfL_map nf_3 _, nfL_map nfo_26 _, nfL_map nfo_150 _, trivial, trivial⟩<|P2 (nfG []) trivial<|P1 (ci_NewSave hr57)<|P0) <|
  eIf H (fun h59 H =>
  eIf H (fun h60 H =>
  eW RB (fun _ => []) H<|gE func4 [rg [{ i := 2, call := some { cl := false, ins := [], args := [gi_Save r57.1, gi_Save r7.1], res := RB r58, G' := [] }, dec := some true }, hT 7], r0] (by kernel_rfl) (PI r57.1.Scenario.Name<|PE ero_159 r57.1.Scenario.Board.Rules.Terrains<|PL gi_Kind r57.1.Scenario.Board.Rules.Kinds<|PI r57.1.Scenario.Board.Rules.Stack<|PI r57.1.Scenario.Board.Rules.River<|PI r57.1.Scenario.Board.Rules.Road<|PI r57.1.Scenario.Board.Rules.Supply<|PI r57.1.Scenario.Board.Rules.Turns<|PI r57.1.Scenario.Board.Map.Width<|PI r57.1.Scenario.Board.Map.Height<|PL I r57.1.Scenario.Board.Map.Terrain<|PL I r57.1.Scenario.Board.Map.Rivers<|PL I r57.1.Scenario.Board.Map.Roads<|PL gi_Odds r57.1.Scenario.Table.Columns<|PI r57.1.Scenario.Table.Dice<|PE ero_26 r57.1.Scenario.Table.Results<|PI r57.1.Scenario.Start.Turn<|PI r57.1.Scenario.Start.Weather<|PL gi_Unit r57.1.Scenario.Start.Units<|PL gi_Goal r57.1.Scenario.Conditions.Goals<|PI r57.1.Scenario.Conditions.Step<|PI r57.1.Scenario.Conditions.Margin<|PL I r57.1.Scenario.First<|PL I r57.1.Scenario.Other<|PE ero_26 r57.1.Climate.Weights<|PE ero_150 r57.1.Turns<|PI r7.1.Scenario.Name<|PE ero_159 r7.1.Scenario.Board.Rules.Terrains<|PL gi_Kind r7.1.Scenario.Board.Rules.Kinds<|PI r7.1.Scenario.Board.Rules.Stack<|PI r7.1.Scenario.Board.Rules.River<|PI r7.1.Scenario.Board.Rules.Road<|PI r7.1.Scenario.Board.Rules.Supply<|PI r7.1.Scenario.Board.Rules.Turns<|PI r7.1.Scenario.Board.Map.Width<|PI r7.1.Scenario.Board.Map.Height<|PL I r7.1.Scenario.Board.Map.Terrain<|PL I r7.1.Scenario.Board.Map.Rivers<|PL I r7.1.Scenario.Board.Map.Roads<|PL gi_Odds r7.1.Scenario.Table.Columns<|PI r7.1.Scenario.Table.Dice<|PE ero_26 r7.1.Scenario.Table.Results<|PI r7.1.Scenario.Start.Turn<|PI r7.1.Scenario.Start.Weather<|PL gi_Unit r7.1.Scenario.Start.Units<|PL gi_Goal r7.1.Scenario.Conditions.Goals<|PI r7.1.Scenario.Conditions.Step<|PI r7.1.Scenario.Conditions.Margin<|PL I r7.1.Scenario.First<|PL I r7.1.Scenario.Other<|PE ero_26 r7.1.Climate.Weights<|PE ero_150 r7.1.Turns<|P1 (cw_eqSave hr58)<|P2 (r58 = true) (h59)<|P2 ((!(r57.2 == r7.2)) = true) (h60)<|P0))
  (fun h60 H =>
  eBind H fun r61 hr61 H =>
  gS [rg [{ i := 2, call := some { cl := false, ins := [], args := [gi_Save r57.1, gi_Save r7.1], res := RB r58, G' := [] }, dec := some true }, hF 7], r0, rg [{ i := 2, call := some { cl := false, ins := [], args := [.agg [.str r10.1.Scenario.Name, sl 5 gi_Terrain r38.2.1, sl 6 gi_Kind r38.2.2.1, I r10.1.Scenario.Board.Rules.Stack, I r10.1.Scenario.Board.Rules.River, I r10.1.Scenario.Board.Rules.Road, I r10.1.Scenario.Board.Rules.Supply, I r10.1.Scenario.Board.Rules.Turns, I r10.1.Scenario.Board.Map.Width, I r10.1.Scenario.Board.Map.Height, sl 1 I r38.2.2.2.1, sl 1 I r38.2.2.2.2.1, sl 1 I r38.2.2.2.2.2.1, sl 2 gi_Odds r38.2.2.2.2.2.2.1, I r10.1.Scenario.Table.Dice, sl 1 (sl 1 I) r38.2.2.2.2.2.2.2.1, I r10.1.Scenario.Start.Turn, I r10.1.Scenario.Start.Weather, sl 4 gi_Unit r38.2.2.2.2.2.2.2.2.1, sl 2 gi_Goal r38.2.2.2.2.2.2.2.2.2.1, I r10.1.Scenario.Conditions.Step, I r10.1.Scenario.Conditions.Margin, sl 1 I r38.2.2.2.2.2.2.2.2.2.2.1, sl 1 I r38.2.2.2.2.2.2.2.2.2.2.2.1, sl 1 (sl 1 I) r38.2.2.2.2.2.2.2.2.2.2.2.2.1, sl 5 gi_SavedTurn r38.2.2.2.2.2.2.2.2.2.2.2.2.2], I 1], res := RI r61, G' := [] } }]] (by kernel_rfl) (PI r57.1.Scenario.Name<|PE ero_159 r57.1.Scenario.Board.Rules.Terrains<|PL gi_Kind r57.1.Scenario.Board.Rules.Kinds<|PI r57.1.Scenario.Board.Rules.Stack<|PI r57.1.Scenario.Board.Rules.River<|PI r57.1.Scenario.Board.Rules.Road<|PI r57.1.Scenario.Board.Rules.Supply<|PI r57.1.Scenario.Board.Rules.Turns<|PI r57.1.Scenario.Board.Map.Width<|PI r57.1.Scenario.Board.Map.Height<|PL I r57.1.Scenario.Board.Map.Terrain<|PL I r57.1.Scenario.Board.Map.Rivers<|PL I r57.1.Scenario.Board.Map.Roads<|PL gi_Odds r57.1.Scenario.Table.Columns<|PI r57.1.Scenario.Table.Dice<|PE ero_26 r57.1.Scenario.Table.Results<|PI r57.1.Scenario.Start.Turn<|PI r57.1.Scenario.Start.Weather<|PL gi_Unit r57.1.Scenario.Start.Units<|PL gi_Goal r57.1.Scenario.Conditions.Goals<|PI r57.1.Scenario.Conditions.Step<|PI r57.1.Scenario.Conditions.Margin<|PL I r57.1.Scenario.First<|PL I r57.1.Scenario.Other<|PE ero_26 r57.1.Climate.Weights<|PE ero_150 r57.1.Turns<|PI r7.1.Scenario.Name<|PE ero_159 r7.1.Scenario.Board.Rules.Terrains<|PL gi_Kind r7.1.Scenario.Board.Rules.Kinds<|PI r7.1.Scenario.Board.Rules.Stack<|PI r7.1.Scenario.Board.Rules.River<|PI r7.1.Scenario.Board.Rules.Road<|PI r7.1.Scenario.Board.Rules.Supply<|PI r7.1.Scenario.Board.Rules.Turns<|PI r7.1.Scenario.Board.Map.Width<|PI r7.1.Scenario.Board.Map.Height<|PL I r7.1.Scenario.Board.Map.Terrain<|PL I r7.1.Scenario.Board.Map.Rivers<|PL I r7.1.Scenario.Board.Map.Roads<|PL gi_Odds r7.1.Scenario.Table.Columns<|PI r7.1.Scenario.Table.Dice<|PE ero_26 r7.1.Scenario.Table.Results<|PI r7.1.Scenario.Start.Turn<|PI r7.1.Scenario.Start.Weather<|PL gi_Unit r7.1.Scenario.Start.Units<|PL gi_Goal r7.1.Scenario.Conditions.Goals<|PI r7.1.Scenario.Conditions.Step<|PI r7.1.Scenario.Conditions.Margin<|PL I r7.1.Scenario.First<|PL I r7.1.Scenario.Other<|PE ero_26 r7.1.Climate.Weights<|PE ero_150 r7.1.Turns<|P1 (cw_eqSave hr58)<|P2 (r58 = true) (h59)<|P2 ((!(r57.2 == r7.2)) = false) (eqF h60)<|PI r10.1.Scenario.Name<|PE ero_159 r38.2.1<|PL gi_Kind r38.2.2.1<|PI r10.1.Scenario.Board.Rules.Stack<|PI r10.1.Scenario.Board.Rules.River<|PI r10.1.Scenario.Board.Rules.Road<|PI r10.1.Scenario.Board.Rules.Supply<|PI r10.1.Scenario.Board.Rules.Turns<|PI r10.1.Scenario.Board.Map.Width<|PI r10.1.Scenario.Board.Map.Height<|PL I r38.2.2.2.1<|PL I r38.2.2.2.2.1<|PL I r38.2.2.2.2.2.1<|PL gi_Odds r38.2.2.2.2.2.2.1<|PI r10.1.Scenario.Table.Dice<|PE ero_26 r38.2.2.2.2.2.2.2.1<|PI r10.1.Scenario.Start.Turn<|PI r10.1.Scenario.Start.Weather<|PL gi_Unit r38.2.2.2.2.2.2.2.2.1<|PL gi_Goal r38.2.2.2.2.2.2.2.2.2.1<|PI r10.1.Scenario.Conditions.Step<|PI r10.1.Scenario.Conditions.Margin<|PL I r38.2.2.2.2.2.2.2.2.2.2.1<|PL I r38.2.2.2.2.2.2.2.2.2.2.2.1<|PE ero_26 r38.2.2.2.2.2.2.2.2.2.2.2.2.1<|PE ero_150 r38.2.2.2.2.2.2.2.2.2.2.2.2.2<|PI (1 : Int)<|P1 (cw_heldSave hr61)<|P0) <|
  eIf H (fun h62 H =>
  eW RB (fun _ => []) H<|gE func4 [rg [hT 1], r0] (by kernel_rfl) (P2 ((decide (r61 < 0)) = true) (decide_eq_true h62)<|P0))
  (fun h62 H =>
  gS [rg [hF 1]] (by kernel_rfl) (P2 ((decide (r61 < 0)) = false) (decide_eq_false h62)<|P0) <|
  eIf H (fun h63 H =>
  eW RB (fun _ => []) H<|gE func4 [rg [hF 2], r0] (by kernel_rfl) (P2 (((r61 : Int) != r38.1) = false) (bneF h63)<|P0))
  (fun h63 H =>
  eW RB (fun _ => []) H<|gE func4 [rg [hT 2], r0] (by kernel_rfl) (P2 (((r61 : Int) != r38.1) = true) (bneT h63)<|P0)))))
  (fun h59 H =>
  eW RB (fun _ => []) H<|gE func4 [rg [{ i := 2, call := some { cl := false, ins := [], args := [gi_Save r57.1, gi_Save r7.1], res := RB r58, G' := [] }, dec := some false }], r0] (by kernel_rfl) (PI r57.1.Scenario.Name<|PE ero_159 r57.1.Scenario.Board.Rules.Terrains<|PL gi_Kind r57.1.Scenario.Board.Rules.Kinds<|PI r57.1.Scenario.Board.Rules.Stack<|PI r57.1.Scenario.Board.Rules.River<|PI r57.1.Scenario.Board.Rules.Road<|PI r57.1.Scenario.Board.Rules.Supply<|PI r57.1.Scenario.Board.Rules.Turns<|PI r57.1.Scenario.Board.Map.Width<|PI r57.1.Scenario.Board.Map.Height<|PL I r57.1.Scenario.Board.Map.Terrain<|PL I r57.1.Scenario.Board.Map.Rivers<|PL I r57.1.Scenario.Board.Map.Roads<|PL gi_Odds r57.1.Scenario.Table.Columns<|PI r57.1.Scenario.Table.Dice<|PE ero_26 r57.1.Scenario.Table.Results<|PI r57.1.Scenario.Start.Turn<|PI r57.1.Scenario.Start.Weather<|PL gi_Unit r57.1.Scenario.Start.Units<|PL gi_Goal r57.1.Scenario.Conditions.Goals<|PI r57.1.Scenario.Conditions.Step<|PI r57.1.Scenario.Conditions.Margin<|PL I r57.1.Scenario.First<|PL I r57.1.Scenario.Other<|PE ero_26 r57.1.Climate.Weights<|PE ero_150 r57.1.Turns<|PI r7.1.Scenario.Name<|PE ero_159 r7.1.Scenario.Board.Rules.Terrains<|PL gi_Kind r7.1.Scenario.Board.Rules.Kinds<|PI r7.1.Scenario.Board.Rules.Stack<|PI r7.1.Scenario.Board.Rules.River<|PI r7.1.Scenario.Board.Rules.Road<|PI r7.1.Scenario.Board.Rules.Supply<|PI r7.1.Scenario.Board.Rules.Turns<|PI r7.1.Scenario.Board.Map.Width<|PI r7.1.Scenario.Board.Map.Height<|PL I r7.1.Scenario.Board.Map.Terrain<|PL I r7.1.Scenario.Board.Map.Rivers<|PL I r7.1.Scenario.Board.Map.Roads<|PL gi_Odds r7.1.Scenario.Table.Columns<|PI r7.1.Scenario.Table.Dice<|PE ero_26 r7.1.Scenario.Table.Results<|PI r7.1.Scenario.Start.Turn<|PI r7.1.Scenario.Start.Weather<|PL gi_Unit r7.1.Scenario.Start.Units<|PL gi_Goal r7.1.Scenario.Conditions.Goals<|PI r7.1.Scenario.Conditions.Step<|PI r7.1.Scenario.Conditions.Margin<|PL I r7.1.Scenario.First<|PL I r7.1.Scenario.Other<|PE ero_26 r7.1.Climate.Weights<|PE ero_150 r7.1.Turns<|P1 (cw_eqSave hr58)<|P2 (r58 = false) (eqF h59)<|P0)))
  (fun h54 H =>
  eW RB (fun _ => []) H<|gE func4 [rg [hT 2], r0] (by kernel_rfl) (P2 (((r52 : Int) != r38.1) = true) (bneT h54)<|P0)))))
  (fun h36 H =>
  eW RB (fun _ => []) H<|gE func4 [rg [hF 1, { i := 5, call := some { cl := false, ins := [], args := [gi_Save r10.1, gi_Save r7.1], res := RB r35, G' := [] }, dec := some false }], r0] (by kernel_rfl) (P2 ((decide (r32.1 < 0)) = false) (decide_eq_false h34)<|PI r10.1.Scenario.Name<|PE ero_159 r10.1.Scenario.Board.Rules.Terrains<|PL gi_Kind r10.1.Scenario.Board.Rules.Kinds<|PI r10.1.Scenario.Board.Rules.Stack<|PI r10.1.Scenario.Board.Rules.River<|PI r10.1.Scenario.Board.Rules.Road<|PI r10.1.Scenario.Board.Rules.Supply<|PI r10.1.Scenario.Board.Rules.Turns<|PI r10.1.Scenario.Board.Map.Width<|PI r10.1.Scenario.Board.Map.Height<|PL I r10.1.Scenario.Board.Map.Terrain<|PL I r10.1.Scenario.Board.Map.Rivers<|PL I r10.1.Scenario.Board.Map.Roads<|PL gi_Odds r10.1.Scenario.Table.Columns<|PI r10.1.Scenario.Table.Dice<|PE ero_26 r10.1.Scenario.Table.Results<|PI r10.1.Scenario.Start.Turn<|PI r10.1.Scenario.Start.Weather<|PL gi_Unit r10.1.Scenario.Start.Units<|PL gi_Goal r10.1.Scenario.Conditions.Goals<|PI r10.1.Scenario.Conditions.Step<|PI r10.1.Scenario.Conditions.Margin<|PL I r10.1.Scenario.First<|PL I r10.1.Scenario.Other<|PE ero_26 r10.1.Climate.Weights<|PE ero_150 r10.1.Turns<|PI r7.1.Scenario.Name<|PE ero_159 r7.1.Scenario.Board.Rules.Terrains<|PL gi_Kind r7.1.Scenario.Board.Rules.Kinds<|PI r7.1.Scenario.Board.Rules.Stack<|PI r7.1.Scenario.Board.Rules.River<|PI r7.1.Scenario.Board.Rules.Road<|PI r7.1.Scenario.Board.Rules.Supply<|PI r7.1.Scenario.Board.Rules.Turns<|PI r7.1.Scenario.Board.Map.Width<|PI r7.1.Scenario.Board.Map.Height<|PL I r7.1.Scenario.Board.Map.Terrain<|PL I r7.1.Scenario.Board.Map.Rivers<|PL I r7.1.Scenario.Board.Map.Roads<|PL gi_Odds r7.1.Scenario.Table.Columns<|PI r7.1.Scenario.Table.Dice<|PE ero_26 r7.1.Scenario.Table.Results<|PI r7.1.Scenario.Start.Turn<|PI r7.1.Scenario.Start.Weather<|PL gi_Unit r7.1.Scenario.Start.Units<|PL gi_Goal r7.1.Scenario.Conditions.Goals<|PI r7.1.Scenario.Conditions.Step<|PI r7.1.Scenario.Conditions.Margin<|PL I r7.1.Scenario.First<|PL I r7.1.Scenario.Other<|PE ero_26 r7.1.Climate.Weights<|PE ero_150 r7.1.Turns<|P1 (cw_eqSave hr35)<|P2 (r35 = false) (eqF h36)<|P0))))
  (fun h19 H =>
  eW RB (fun _ => []) H<|gE func4 [rg [hC 2 true [] (Rw_toClimate r17) [], { i := 3, call := some { cl := false, ins := [], args := [.agg [sl 1 (sl 1 I) r9.Weights], .agg [sl 1 (sl 1 I) r17.Weights]], res := RB r18, G' := [] }, dec := some false }], r0] (by kernel_rfl) (P1 (cw_toClimate hr17)<|PE ero_26 r9.Weights<|PE ero_26 r17.Weights<|P1 (cw_eqClimate hr18)<|P2 (r18 = false) (eqF h19)<|P0)))
  (fun h16 H =>
  eW RB (fun _ => []) H<|gE func4 [rg [hC 2 true [] (Rw_toScenario r14) [], { i := 3, call := some { cl := false, ins := [], args := [gi_Scenario r8, gi_Scenario r14], res := RB r15, G' := [] }, dec := some false }], r0] (by kernel_rfl) (P1 (cw_toScenario hr14)<|PI r8.Name<|PE ero_159 r8.Board.Rules.Terrains<|PL gi_Kind r8.Board.Rules.Kinds<|PI r8.Board.Rules.Stack<|PI r8.Board.Rules.River<|PI r8.Board.Rules.Road<|PI r8.Board.Rules.Supply<|PI r8.Board.Rules.Turns<|PI r8.Board.Map.Width<|PI r8.Board.Map.Height<|PL I r8.Board.Map.Terrain<|PL I r8.Board.Map.Rivers<|PL I r8.Board.Map.Roads<|PL gi_Odds r8.Table.Columns<|PI r8.Table.Dice<|PE ero_26 r8.Table.Results<|PI r8.Start.Turn<|PI r8.Start.Weather<|PL gi_Unit r8.Start.Units<|PL gi_Goal r8.Conditions.Goals<|PI r8.Conditions.Step<|PI r8.Conditions.Margin<|PL I r8.First<|PL I r8.Other<|PI r14.Name<|PE ero_159 r14.Board.Rules.Terrains<|PL gi_Kind r14.Board.Rules.Kinds<|PI r14.Board.Rules.Stack<|PI r14.Board.Rules.River<|PI r14.Board.Rules.Road<|PI r14.Board.Rules.Supply<|PI r14.Board.Rules.Turns<|PI r14.Board.Map.Width<|PI r14.Board.Map.Height<|PL I r14.Board.Map.Terrain<|PL I r14.Board.Map.Rivers<|PL I r14.Board.Map.Roads<|PL gi_Odds r14.Table.Columns<|PI r14.Table.Dice<|PE ero_26 r14.Table.Results<|PI r14.Start.Turn<|PI r14.Start.Weather<|PL gi_Unit r14.Start.Units<|PL gi_Goal r14.Conditions.Goals<|PI r14.Conditions.Step<|PI r14.Conditions.Margin<|PL I r14.First<|PL I r14.Other<|P1 (cw_eqScenario hr15)<|P2 (r15 = false) (eqF h16)<|P0))))
  (fun h12 H =>
  eW RB (fun _ => []) H<|gE func4 [rg [{ i := 2, call := some { cl := false, ins := [], args := [gi_Save r10.1, gi_Save r7.1], res := RB r11, G' := [] }, dec := some false }], r0] (by kernel_rfl) (PI r10.1.Scenario.Name<|PE ero_159 r10.1.Scenario.Board.Rules.Terrains<|PL gi_Kind r10.1.Scenario.Board.Rules.Kinds<|PI r10.1.Scenario.Board.Rules.Stack<|PI r10.1.Scenario.Board.Rules.River<|PI r10.1.Scenario.Board.Rules.Road<|PI r10.1.Scenario.Board.Rules.Supply<|PI r10.1.Scenario.Board.Rules.Turns<|PI r10.1.Scenario.Board.Map.Width<|PI r10.1.Scenario.Board.Map.Height<|PL I r10.1.Scenario.Board.Map.Terrain<|PL I r10.1.Scenario.Board.Map.Rivers<|PL I r10.1.Scenario.Board.Map.Roads<|PL gi_Odds r10.1.Scenario.Table.Columns<|PI r10.1.Scenario.Table.Dice<|PE ero_26 r10.1.Scenario.Table.Results<|PI r10.1.Scenario.Start.Turn<|PI r10.1.Scenario.Start.Weather<|PL gi_Unit r10.1.Scenario.Start.Units<|PL gi_Goal r10.1.Scenario.Conditions.Goals<|PI r10.1.Scenario.Conditions.Step<|PI r10.1.Scenario.Conditions.Margin<|PL I r10.1.Scenario.First<|PL I r10.1.Scenario.Other<|PE ero_26 r10.1.Climate.Weights<|PE ero_150 r10.1.Turns<|PI r7.1.Scenario.Name<|PE ero_159 r7.1.Scenario.Board.Rules.Terrains<|PL gi_Kind r7.1.Scenario.Board.Rules.Kinds<|PI r7.1.Scenario.Board.Rules.Stack<|PI r7.1.Scenario.Board.Rules.River<|PI r7.1.Scenario.Board.Rules.Road<|PI r7.1.Scenario.Board.Rules.Supply<|PI r7.1.Scenario.Board.Rules.Turns<|PI r7.1.Scenario.Board.Map.Width<|PI r7.1.Scenario.Board.Map.Height<|PL I r7.1.Scenario.Board.Map.Terrain<|PL I r7.1.Scenario.Board.Map.Rivers<|PL I r7.1.Scenario.Board.Map.Roads<|PL gi_Odds r7.1.Scenario.Table.Columns<|PI r7.1.Scenario.Table.Dice<|PE ero_26 r7.1.Scenario.Table.Results<|PI r7.1.Scenario.Start.Turn<|PI r7.1.Scenario.Start.Weather<|PL gi_Unit r7.1.Scenario.Start.Units<|PL gi_Goal r7.1.Scenario.Conditions.Goals<|PI r7.1.Scenario.Conditions.Step<|PI r7.1.Scenario.Conditions.Margin<|PL I r7.1.Scenario.First<|PL I r7.1.Scenario.Other<|PE ero_26 r7.1.Climate.Weights<|PE ero_150 r7.1.Turns<|P1 (cw_eqSave hr11)<|P2 (r11 = false) (eqF h12)<|P0))))
end Go.Proofs.YtcblbhjbocipbaaGreatDoor.Ab
