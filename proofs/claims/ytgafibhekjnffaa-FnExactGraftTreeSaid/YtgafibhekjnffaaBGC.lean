/- Part of the proof of FnExactGraftTree: no condition of its own. -/
import Derived.Test.YtgafibhekjnffaaChecked
import Derived.Test.YtgafibhekjnffaaBGD
set_option linter.unusedVariables false
set_option linter.unusedSimpArgs false
open Go Go.Proofs Go.Proofs.Try
namespace Go.Proofs.Ytgafibhekjnffaa.Ab
def T : Tab := [(3, ⟨(Ab.TK.int IntKind.i64), 1, 8, (Ab.D.int IntKind.i64 (Int.ofNat 0))⟩),
  (4, ⟨Ab.TK.bool, 1, 1, (Ab.D.bool Bool.false)⟩),
  (22, ⟨(Ab.TK.slice 53), 1, 24, Ab.D.nil⟩),
  (24, ⟨(Ab.TK.slice 3), 1, 24, Ab.D.nil⟩),
  (27, ⟨(Ab.TK.slice 51), 1, 24, Ab.D.nil⟩),
  (51, ⟨(Ab.TK.strct [(Ab.FI.mk 0 1 Bool.false), (Ab.FI.mk 1 1 Bool.false), (Ab.FI.mk 2 1 Bool.false)] (Option.some [(Ab.LK.int IntKind.i64), (Ab.LK.int IntKind.i64), (Ab.LK.int IntKind.i64)])), 3, 24, (Ab.D.agg [(Ab.D.int IntKind.i64 (Int.ofNat 0)), (Ab.D.int IntKind.i64 (Int.ofNat 0)), (Ab.D.int IntKind.i64 (Int.ofNat 0))])⟩),
  (53, ⟨(Ab.TK.strct [(Ab.FI.mk 0 1 Bool.false), (Ab.FI.mk 1 1 Bool.false), (Ab.FI.mk 2 1 Bool.false)] (Option.some [(Ab.LK.int IntKind.i64), (Ab.LK.int IntKind.i64), (Ab.LK.int IntKind.i64)])), 3, 24, (Ab.D.agg [(Ab.D.int IntKind.i64 (Int.ofNat 0)), (Ab.D.int IntKind.i64 (Int.ofNat 0)), (Ab.D.int IntKind.i64 (Int.ofNat 0))])⟩)]
noncomputable def X : Ctx := ⟨Go.Proofs.Try.prog, T, []⟩
theorem T_ok : TabOK X.P X.T := ⟨by kernel_rfl, by kernel_rfl, by kernel_rfl, by kernel_rfl, by kernel_rfl, by kernel_rfl, by kernel_rfl, trivial⟩
theorem mixed : X.P.follows .mixedOrders = true := Go.Proofs.Try.checked.mixed
theorem gO {f : FuncId} {M : Nat} {k k' : List Item} {σ σ' : St} {res : List D} {G' : List Root} (cmds : List Cmd) {ps : List Prop} (h : run X M cmds k σ = some (ps, k', σ')) (hp : AllP ps) (hk : Wc X f M k' σ' res G') : Wc X f M k σ res G' := run_ok T_ok mixed h hp hk
theorem gE {f : FuncId} {M : Nat} {k : List Item} {σ : St} {res : List D} {G' : List Root} {fn : Func} (hf : X.P.funcs[f]? = some fn) (cmds : List Cmd) {ps : List Prop} (h : runFinC X M cmds k σ fn.results.toList res = some (ps, res, G')) (hp : AllP ps) : Wc X f M k σ res G' := runFinC_ok T_ok mixed hf h hp
theorem gS {f : FuncId} {M : Nat} {k : List Item} {σ : St} {res : List D} {G' : List Root} (cmds : List Cmd) {ps : List Prop} (h : runP X M cmds k σ = some ps) (hp : AllP ps) (hk : Wc X f M (runK X M cmds k σ) (runS X M cmds k σ) res G') : Wc X f M k σ res G' := seg_ok T_ok mixed cmds h hp hk
theorem gN {ς ρ : Type} {f : FuncId} {M : Nat} {K : ς → List Item} {Z : ς → St} {R : ρ → List D} {G : ρ → List Root} {k : List Item} {σ : St} {o : ς ⊕ ρ} (cmds : List Cmd) {ps : List Prop} (h : runP X M cmds k σ = some ps) (hp : AllP ps) (hk : Nx X f M K Z R G (runK X M cmds k σ) (runS X M cmds k σ) o) : Nx X f M K Z R G k σ o := segN_ok T_ok mixed cmds h hp hk
theorem nf_3 : ∀ x, (I x).nf := fun x => by simp [D.nf, nfL]
theorem nf_51 : ∀ x, (gi_Node x).nf := fun x => by simp [gi_Node, D.nf, nfL]
theorem allFl_51 (l : List Gi_Node) : AllFl (List.map gi_Node l) := allFl_map (fun x c hc => by simp [gi_Node, D.cells] at hc; rcases hc with rfl | rfl | rfl <;> rfl) l
/-! loop example/g00886/laws szNodeS -/
theorem cw_szNodeS {a0 : (List Gw_Node)} {a1 : Int} {r : Int} (H : Dw_szNodeS a0 a1 = some r) : Ct X.P X.gl 7 [sl 3 gw_Node a0, I a1] [] (RI r) [] :=
  Ct.of func7 (c := bdy f7) (by kernel_rfl) (by kernel_rfl) <|
  gS [r0, r0] (by kernel_rfl) P0 <|
  eIf H (fun h1 H =>
    eW RI (fun _ => []) H <| gE func7 [rg [hT 1], r0] (by kernel_rfl) (P2 ((decide ((IntKind.wrap .i64 (a1 - ((a0.length : Nat) : Int))) < 0)) = true) (decide_eq_true h1) <| P0))
  (fun h1 H =>
    eW RI (fun _ => []) H <| gE func7 [rg [hF 1], r0] (by kernel_rfl) (P2 ((decide ((IntKind.wrap .i64 (a1 - ((a0.length : Nat) : Int))) < 0)) = false) (decide_eq_false h1) <| P0))
/-! loop example/g00886/laws toNode -/
def Rw_toNode (r : Gi_Node) : List D := [.agg [I r.Parent, I r.Turn, I r.Hash]]
theorem cw_toNode {a0 : Gw_Node} {r : Gi_Node} (H : Dw_toNode a0 = some r) : Ct X.P X.gl 30 [.agg [I a0.Parent, I a0.Turn, I a0.Hash]] [] (Rw_toNode r) [] :=
  Ct.of func30 (c := bdy f30) (by kernel_rfl) (by kernel_rfl) <|
  eW Rw_toNode (fun _ => []) H <| gE func30 [r0, r0, r0, r0, r0, r0] (by kernel_rfl) P0
/-! loop example/g00886/laws toNodeS -/
def Rw_toNodeS (r : (List Gi_Node)) : List D := [ow 3 gi_Node r]
noncomputable def Kw_toNodeS : Sw_toNodeS → List Item
  | .h1 .. => nav 300 3 [] [.code (bdy f9)]
def Zw_toNodeS : Sw_toNodeS → St
  | .h1 va0 i1 l2 => ⟨sts 23 [(0, sl 3 gw_Node va0), (3, .ref 0 3 none), (4, I i1)], [some ⟨false, false, 3, l2.length, List.map gi_Node l2⟩]⟩
abbrev Qw_toNodeS := Nx X 9 0 Kw_toNodeS Zw_toNodeS Rw_toNodeS (fun _ => [])
theorem nw_toNodeS : ∀ s o, Bw_toNodeS s = some o → Qw_toNodeS (Kw_toNodeS s) (Zw_toNodeS s) o
  | .h1 va0 i1 l2, o, H =>
    eIf H (fun h1 H =>
      eCk H fun h2 H =>
      eBind H fun x3 hx3 H =>
      eBind H fun r4 hr4 H =>
      eCk H fun h5 H =>
      eBind H fun x6 hx6 H =>
      eN H fun r hn => gO [rg [hT 3], rg [hE 5 (gw_Node x3), hC 6 true [] (Rw_toNode r4) [], hA 8 ((List.set l2 (Int.toNat i1) r4).length) (List.map gi_Node (List.set l2 (Int.toNat i1) r4))], r0, .canon [0] [0, 3, 4]] (by kernel_rfl) (P2 ((decide (i1 < ((va0.length : Nat) : Int))) = true) (decide_eq_true h1) <| P1 h2 <| P1 (int_lt_of_at h2 hx3) <| P1 (at_map gw_Node hx3) <| P1 (cw_toNode hr4) <| P1 h5 <| P1 (int_lt_of_at h5 hx6) <| P1 (lt_of_at hx6) <| P2 (setCells (List.map gi_Node l2) (Int.toNat i1) 0 [I r4.Parent, I r4.Turn, I r4.Hash] = List.map gi_Node (List.set l2 (Int.toNat i1) r4)) (setCells_map hx6 rfl) <| P1 (setLen l2 (Int.toNat i1) r4) <| P0) hn)
    (fun h1 H =>
      eN H <| gE func9 [rg [hF 3], r0] (by kernel_rfl) (P2 ((decide (i1 < ((va0.length : Nat) : Int))) = false) (decide_eq_false h1) <| P0))
theorem ww_toNodeS : ∀ s r, loop Bw_toNodeS s = some r → Wc X 9 0 (Kw_toNodeS s) (Zw_toNodeS s) (Rw_toNodeS r) ((fun _ => []) r) := Nx.all nw_toNodeS
theorem cw_toNodeS {a0 : (List Gw_Node)} {r : (List Gi_Node)} (H : Dw_toNodeS a0 = some r) : Ct X.P X.gl 9 [sl 3 gw_Node a0] [] (Rw_toNodeS r) [] :=
  Ct.of func9 (c := bdy f9) (by kernel_rfl) (by kernel_rfl) <|
  eCk H fun h1 H =>
  gO [r0, rg [hA 2 ((List.replicate (Int.toNat ((a0.length : Nat) : Int)) (Gi_Node.mk 0 0 0)).length) (List.map gi_Node (List.replicate (Int.toNat ((a0.length : Nat) : Int)) (Gi_Node.mk 0 0 0)))], r0, .canon [0] [0, 3, 4]] (by kernel_rfl) (PI (((a0.length : Nat) : Int) : Int) <| P2 ((0 : Int) ≤ ((a0.length : Nat) : Int)) (by omega) <| P2 (Int.toNat ((a0.length : Nat) : Int) * 24 ≤ 140737488355328) h1 <| P2 ((List.replicate (Int.toNat ((a0.length : Nat) : Int)) (Gi_Node.mk 0 0 0)).length = Int.toNat ((a0.length : Nat) : Int)) (by simp) <| P2 (List.replicate (Int.toNat ((a0.length : Nat) : Int)) (.agg [I 0, I 0, I 0]) = List.map gi_Node (List.replicate (Int.toNat ((a0.length : Nat) : Int)) (Gi_Node.mk 0 0 0))) (by rw [List.map_replicate]; rfl) <| P0) (ww_toNodeS _ _ H)
/-! loop example/g00886/spec l1In -/
theorem cs_l1In {a0 : Int} {a1 : Int} {a2 : Int} {r : Bool} (H : Ds_l1In a0 a1 a2 = some r) : Ct X.P X.gl 51 [I a0, I a1, I a2] [] (RB r) [] :=
  Ct.of func51 (c := bdy f51) (by kernel_rfl) (by kernel_rfl) <|
  gS [r0] (by kernel_rfl) P0 <|
  eIf H (fun h1 H =>
    eW RB (fun _ => []) H <| gE func51 [rg [hT 2]] (by kernel_rfl) (P2 ((decide (a0 ≥ a1)) = true) (decide_eq_true h1) <| P0))
  (fun h1 H =>
    eW RB (fun _ => []) H <| gE func51 [rg [hF 2]] (by kernel_rfl) (P2 ((decide (a0 ≥ a1)) = false) (decide_eq_false h1) <| P0))
/-! loop example/g00886/spec dSeed -/
theorem cs_dSeed {a0 : Int} {r : Bool} (H : Ds_dSeed a0 = some r) : Ct X.P X.gl 57 [I a0] [] (RB r) [] :=
  Ct.of func57 (c := bdy f57) (by kernel_rfl) (by kernel_rfl) <|
  eBind H fun r1 hr1 H =>
  eW RB (fun _ => []) H <| gE func57 [r0, rg [hC 1 true [] (RB r1) []]] (by kernel_rfl) (P1 (cs_l1In hr1) <| P0)
/-! loop example/g00886/spec nChild -/
noncomputable def Ks_nChild : Ss_nChild → List Item
  | .h1 .. => nav 300 2 [] [.code (bdy f58)]
def Zs_nChild : Ss_nChild → St
  | .h1 parent0 vhash1 t2 t3 t4 => ⟨sts 28 [(1, I parent0), (2, I vhash1), (9, sl 3 gi_Node t2), (10, I t3), (11, I t4)], []⟩
abbrev Qs_nChild := Nx X 58 0 Ks_nChild Zs_nChild RI (fun _ => [])
theorem ns_nChild : ∀ s o, Bs_nChild s = some o → Qs_nChild (Ks_nChild s) (Zs_nChild s) o
  | .h1 parent0 vhash1 t2 t3 t4, o, H =>
    eIf H (fun h1 H =>
      eCk H fun h2 H =>
      eBind H fun x3 hx3 H =>
      gN [rg [hT 0], rg [hE 2 (gi_Node x3)]] (by kernel_rfl) (P2 ((decide (t4 < t3)) = true) (decide_eq_true h1) <| P1 h2 <| P1 (int_lt_of_at h2 hx3) <| P1 (at_map gi_Node hx3) <| P0) <|
      eIf H (fun h4 H =>
        eIf H (fun h5 H =>
          eN H <| gE func58 [rg [hT 3, hT 8], r0] (by kernel_rfl) (P2 (((x3.Parent : Int) == parent0) = true) (beqT h4) <| P2 (((x3.Hash : Int) == vhash1) = true) (beqT h5) <| P0))
        (fun h5 H =>
          eN H fun r hn => gO [rg [hT 3, hF 8], r0, .canon [] [1, 2, 9, 10, 11]] (by kernel_rfl) (P2 (((x3.Parent : Int) == parent0) = true) (beqT h4) <| P2 (((x3.Hash : Int) == vhash1) = false) (beqF h5) <| P0) hn))
      (fun h4 H =>
        eN H fun r hn => gO [rg [hF 3], r0, .canon [] [1, 2, 9, 10, 11]] (by kernel_rfl) (P2 (((x3.Parent : Int) == parent0) = false) (beqF h4) <| P0) hn))
    (fun h1 H =>
      eN H <| gE func58 [rg [hF 0], r0] (by kernel_rfl) (P2 ((decide (t4 < t3)) = false) (decide_eq_false h1) <| P0))
theorem ws_nChild : ∀ s r, loop Bs_nChild s = some r → Wc X 58 0 (Ks_nChild s) (Zs_nChild s) (RI r) ((fun _ => []) r) := Nx.all ns_nChild
theorem cs_nChild {a0 : (List Gi_Node)} {a1 : Int} {a2 : Int} {r : Int} (H : Ds_nChild a0 a1 a2 = some r) : Ct X.P X.gl 58 [sl 3 gi_Node a0, I a1, I a2] [] (RI r) [] :=
  Ct.of func58 (c := bdy f58) (by kernel_rfl) (by kernel_rfl) <|
  gO [r0, r0, .canon [] [1, 2, 9, 10, 11]] (by kernel_rfl) P0 (ws_nChild _ _ H)
/-! loop example/g00886/spec nGood -/
noncomputable def Ks_nGood : Ss_nGood → List Item
  | .h1 .. => nav 300 3 [false] [.code (bdy f35)]
def Zs_nGood : Ss_nGood → St
  | .h1 i0 t1 t2 t3 => ⟨sts 65 [(0, sl 3 gi_Node i0), (9, sl 3 gi_Node t1), (10, I t2), (11, I t3)], []⟩
abbrev Qs_nGood := Nx X 35 0 Ks_nGood Zs_nGood RB (fun _ => [])
theorem ns_nGood : ∀ s o, Bs_nGood s = some o → Qs_nGood (Ks_nGood s) (Zs_nGood s) o
  | .h1 i0 t1 t2 t3, o, H =>
    eIf H (fun h1 H =>
      eCk H fun h2 H =>
      eBind H fun x3 hx3 H =>
      eBind H fun r4 hr4 H =>
      gN [rg [hT 0], rg [hE 2 (gi_Node x3)]] (by kernel_rfl) (P2 ((decide (t3 < t2)) = true) (decide_eq_true h1) <| P1 h2 <| P1 (int_lt_of_at h2 hx3) <| P1 (at_map gi_Node hx3) <| P0) <|
      eIf H (fun h5 H =>
        gN [rg [{ i := 2, call := some { cl := true, auto := true, ins := [], res := (RB r4), G' := [] }, dec := some true }]] (by kernel_rfl) (P1 (cs_dSeed hr4) <| P2 (r4 = true) (h5) <| P0) <|
        eIf H (fun h6 H =>
          gN [rg [hT 1]] (by kernel_rfl) (P2 (((t3 : Int) == 0) = true) (beqT h6) <| P0) <|
          eIf H (fun h7 H =>
            eIf H (fun h8 H =>
              eN H fun r hn => gO [rg [hF 2, hF 6], r0, .canon [] [0, 9, 10, 11]] (by kernel_rfl) (P2 (((x3.Parent : Int) != (-1)) = false) (bneF h7) <| P2 (((x3.Turn : Int) != 0) = false) (bneF h8) <| P0) hn)
            (fun h8 H =>
              eN H <| gE func35 [rg [hF 2, hT 6], r0] (by kernel_rfl) (P2 (((x3.Parent : Int) != (-1)) = false) (bneF h7) <| P2 (((x3.Turn : Int) != 0) = true) (bneT h8) <| P0)))
          (fun h7 H =>
            eN H <| gE func35 [rg [hT 2], r0] (by kernel_rfl) (P2 (((x3.Parent : Int) != (-1)) = true) (bneT h7) <| P0)))
        (fun h6 H =>
          eBind H fun r7 hr7 H =>
          gN [rg [hF 1]] (by kernel_rfl) (P2 (((t3 : Int) == 0) = false) (beqF h6) <| P0) <|
          eIf H (fun h8 H =>
            eCk H fun h9 H =>
            eBind H fun x10 hx10 H =>
            eIf H (fun h11 H =>
              eIf H (fun h12 H =>
                eN H <| gE func35 [rg [{ i := 4, call := some { cl := true, auto := true, ins := [], res := (RB r7), G' := [] }, dec := some true }, hE 14 (gi_Node x10), hF 16, hT 21], r0] (by kernel_rfl) (P1 (cs_l1In hr7) <| P2 (r7 = true) (h8) <| P1 h9 <| P1 (int_lt_of_at h9 hx10) <| P1 (at_map gi_Node hx10) <| P2 (((x3.Turn : Int) != (IntKind.wrap .i64 (x10.Turn + 1))) = false) (bneF h11) <| P2 ((decide (x3.Turn > 30)) = true) (decide_eq_true h12) <| P0))
              (fun h12 H =>
                eCk H fun h13 H =>
                eCk H fun h14 H =>
                eBind H fun r15 hr15 H =>
                eIf H (fun h16 H =>
                  eN H <| gE func35 [rg [{ i := 4, call := some { cl := true, auto := true, ins := [], res := (RB r7), G' := [] }, dec := some true }, hE 14 (gi_Node x10), hF 16, hF 21, hA 26 ((List.take ((Int.toNat t3) - 0) (List.drop 0 i0)).length) (List.map gi_Node (List.take ((Int.toNat t3) - 0) (List.drop 0 i0))), hC 31 true [] (RI r15) [], hT 32], r0] (by kernel_rfl) (P1 (cs_l1In hr7) <| P2 (r7 = true) (h8) <| P1 h9 <| P1 (int_lt_of_at h9 hx10) <| P1 (at_map gi_Node hx10) <| P2 (((x3.Turn : Int) != (IntKind.wrap .i64 (x10.Turn + 1))) = false) (bneF h11) <| P2 ((decide (x3.Turn > 30)) = false) (decide_eq_false h12) <| P2 ((0 : Int) ≤ t3) h13 <| P2 ((t3 : Int) ≤ ((i0.length : Nat) : Int)) h14 <| P2 ((List.take ((Int.toNat t3) - 0) (List.drop 0 i0)).length = (Int.toNat t3) - 0) (by simp <;> omega) <| P2 (List.take ((Int.toNat t3) - 0) (List.drop 0 (List.map gi_Node i0)) = List.map gi_Node (List.take ((Int.toNat t3) - 0) (List.drop 0 i0))) (by simp [List.map_drop, List.map_take]) <| P1 (cs_nChild hr15) <| P2 ((decide (r15 ≥ 0)) = true) (decide_eq_true h16) <| P0))
                (fun h16 H =>
                  eN H fun r hn => gO [rg [{ i := 4, call := some { cl := true, auto := true, ins := [], res := (RB r7), G' := [] }, dec := some true }, hE 14 (gi_Node x10), hF 16, hF 21, hA 26 ((List.take ((Int.toNat t3) - 0) (List.drop 0 i0)).length) (List.map gi_Node (List.take ((Int.toNat t3) - 0) (List.drop 0 i0))), hC 31 true [] (RI r15) [], hF 32], r0, .canon [] [0, 9, 10, 11]] (by kernel_rfl) (P1 (cs_l1In hr7) <| P2 (r7 = true) (h8) <| P1 h9 <| P1 (int_lt_of_at h9 hx10) <| P1 (at_map gi_Node hx10) <| P2 (((x3.Turn : Int) != (IntKind.wrap .i64 (x10.Turn + 1))) = false) (bneF h11) <| P2 ((decide (x3.Turn > 30)) = false) (decide_eq_false h12) <| P2 ((0 : Int) ≤ t3) h13 <| P2 ((t3 : Int) ≤ ((i0.length : Nat) : Int)) h14 <| P2 ((List.take ((Int.toNat t3) - 0) (List.drop 0 i0)).length = (Int.toNat t3) - 0) (by simp <;> omega) <| P2 (List.take ((Int.toNat t3) - 0) (List.drop 0 (List.map gi_Node i0)) = List.map gi_Node (List.take ((Int.toNat t3) - 0) (List.drop 0 i0))) (by simp [List.map_drop, List.map_take]) <| P1 (cs_nChild hr15) <| P2 ((decide (r15 ≥ 0)) = false) (decide_eq_false h16) <| P0) hn)))
            (fun h11 H =>
              eN H <| gE func35 [rg [{ i := 4, call := some { cl := true, auto := true, ins := [], res := (RB r7), G' := [] }, dec := some true }, hE 14 (gi_Node x10), hT 16], r0] (by kernel_rfl) (P1 (cs_l1In hr7) <| P2 (r7 = true) (h8) <| P1 h9 <| P1 (int_lt_of_at h9 hx10) <| P1 (at_map gi_Node hx10) <| P2 (((x3.Turn : Int) != (IntKind.wrap .i64 (x10.Turn + 1))) = true) (bneT h11) <| P0)))
          (fun h8 H =>
            eN H <| gE func35 [rg [{ i := 4, call := some { cl := true, auto := true, ins := [], res := (RB r7), G' := [] }, dec := some false }], r0] (by kernel_rfl) (P1 (cs_l1In hr7) <| P2 (r7 = false) (eqF h8) <| P0))))
      (fun h5 H =>
        eN H <| gE func35 [rg [{ i := 2, call := some { cl := true, auto := true, ins := [], res := (RB r4), G' := [] }, dec := some false }], r0] (by kernel_rfl) (P1 (cs_dSeed hr4) <| P2 (r4 = false) (eqF h5) <| P0)))
    (fun h1 H =>
      eN H <| gE func35 [rg [hF 0], r0] (by kernel_rfl) (P2 ((decide (t3 < t2)) = false) (decide_eq_false h1) <| P0))
theorem ws_nGood : ∀ s r, loop Bs_nGood s = some r → Wc X 35 0 (Ks_nGood s) (Zs_nGood s) (RB r) ((fun _ => []) r) := Nx.all ns_nGood
theorem cs_nGood {a0 : (List Gi_Node)} {r : Bool} (H : Ds_nGood a0 = some r) : Ct X.P X.gl 35 [sl 3 gi_Node a0] [] (RB r) [] :=
  Ct.of func35 (c := bdy f35) (by kernel_rfl) (by kernel_rfl) <|
  eBind H fun r1 hr1 H =>
  gS [r0] (by kernel_rfl) P0 <|
  eIf H (fun h2 H =>
    gO [rg [{ i := 2, call := some { cl := true, auto := true, ins := [], res := (RB r1), G' := [] }, dec := some true }], r0, .canon [] [0, 9, 10, 11]] (by kernel_rfl) (P1 (cs_l1In hr1) <| P2 (r1 = true) (h2) <| P0) (ws_nGood _ _ H))
  (fun h2 H =>
    eW RB (fun _ => []) H <| gE func35 [rg [{ i := 2, call := some { cl := true, auto := true, ins := [], res := (RB r1), G' := [] }, dec := some false }], r0] (by kernel_rfl) (P1 (cs_l1In hr1) <| P2 (r1 = false) (eqF h2) <| P0))
/-! loop example/g00886/spec nAdd -/
def Rs_nAdd (r : (List Gi_Node) × Int × Bool) : List D := [ow 3 gi_Node r.1, I r.2.1, .bool r.2.2]
theorem cs_nAdd {a0 : (List Gi_Node)} {a1 : Int} {a2 : Int} {r : (List Gi_Node) × Int × Bool} (H : Ds_nAdd a0 a1 a2 = some r) : Ct X.P X.gl 38 [sl 3 gi_Node a0, I a1, I a2] [] (Rs_nAdd r) [] :=
  Ct.of func38 (c := bdy f38) (by kernel_rfl) (by kernel_rfl) <|
  eBind H fun r1 hr1 H =>
  gS [r0, rg [hC 3 true [] (RI r1) []]] (by kernel_rfl) (P1 (cs_nChild hr1) <| P0) <|
  eIf H (fun h2 H =>
    eCk H fun h3 H =>
    eW Rs_nAdd (fun _ => []) H <| gE func38 [rg [hT 1], rg [hA 2 a0.length (List.map gi_Node a0)]] (by kernel_rfl) (P2 ((decide (r1 ≥ 0)) = true) (decide_eq_true h2) <| P2 (AllFl (List.map gi_Node a0)) (allFl_51 _) <| P2 (a0.length = ([] : List Gi_Node).length + a0.length) (by simp <;> omega) <| P2 ((([] : List Gi_Node).length + a0.length) * 24 ≤ 70368744177664) (by have := h3; simp at this ⊢ <;> omega) <| P2 (List.map gi_Node ([] : List Gi_Node) ++ List.map gi_Node a0 = List.map gi_Node a0) (by simp) <| P0))
  (fun h2 H =>
    gS [rg [hF 1]] (by kernel_rfl) (P2 ((decide (r1 ≥ 0)) = false) (decide_eq_false h2) <| P0) <|
    eIf H (fun h3 H =>
      eW Rs_nAdd (fun _ => []) H <| gE func38 [rg [hT 2], r0] (by kernel_rfl) (P2 (((((a0.length : Nat) : Int) : Int) == 40) = true) (beqT h3) <| P0))
    (fun h3 H =>
      eCk H fun h4 H =>
      eBind H fun x5 hx5 H =>
      eIf H (fun h6 H =>
        eW Rs_nAdd (fun _ => []) H <| gE func38 [rg [hF 2, hE 8 (gi_Node x5), hT 9], r0] (by kernel_rfl) (P2 (((((a0.length : Nat) : Int) : Int) == 40) = false) (beqF h3) <| P1 h4 <| P1 (int_lt_of_at h4 hx5) <| P1 (at_map gi_Node hx5) <| P2 (((x5.Turn : Int) == 30) = true) (beqT h6) <| P0))
      (fun h6 H =>
        eCk H fun h7 H =>
        eCk H fun h8 H =>
        eBind H fun x9 hx9 H =>
        eCk H fun h10 H =>
        eW Rs_nAdd (fun _ => []) H <| gE func38 [rg [hF 2, hE 8 (gi_Node x5), hF 9], rg [hA 2 a0.length (List.map gi_Node a0)], rg [hE 6 (gi_Node x9), hA 11 ((a0 ++ [(Gi_Node.mk a1 (IntKind.wrap .i64 (x9.Turn + 1)) a2)]).length) (List.map gi_Node (a0 ++ [(Gi_Node.mk a1 (IntKind.wrap .i64 (x9.Turn + 1)) a2)]))]] (by kernel_rfl) (P2 (((((a0.length : Nat) : Int) : Int) == 40) = false) (beqF h3) <| P1 h4 <| P1 (int_lt_of_at h4 hx5) <| P1 (at_map gi_Node hx5) <| P2 (((x5.Turn : Int) == 30) = false) (beqF h6) <| P2 (AllFl (List.map gi_Node a0)) (allFl_51 _) <| P2 (a0.length = ([] : List Gi_Node).length + a0.length) (by simp <;> omega) <| P2 ((([] : List Gi_Node).length + a0.length) * 24 ≤ 70368744177664) (by have := h7; simp at this ⊢ <;> omega) <| P2 (List.map gi_Node ([] : List Gi_Node) ++ List.map gi_Node a0 = List.map gi_Node a0) (by simp) <| P1 h8 <| P1 (int_lt_of_at h8 hx9) <| P1 (at_map gi_Node hx9) <| P1 (apL a0 [(Gi_Node.mk a1 (IntKind.wrap .i64 (x9.Turn + 1)) a2)]) <| P1 (apB h10) <| P1 (apM gi_Node a0 [(Gi_Node.mk a1 (IntKind.wrap .i64 (x9.Turn + 1)) a2)]) <| P0))))
/-! loop example/g00886/spec GraftTree -/
def Rs_GraftTree (r : (List Gi_Node) × (List Int) × Bool) : List D := [ow 3 gi_Node r.1, ow 1 I r.2.1, .bool r.2.2]
noncomputable def Ks_GraftTree : Ss_GraftTree → List Item
  | .h1 .. => nav 300 5 [false] [.code (bdy f18)]
def Zs_GraftTree : Ss_GraftTree → St
  | .h1 t0 t1 t2 l3 l4 => ⟨sts 67 [(7, .ref 0 3 none), (8, .ref 1 1 none), (38, sl 3 gi_Node t0), (39, I t1), (40, I t2)], [some ⟨false, false, 3, l3.length, List.map gi_Node l3⟩, some ⟨false, false, 1, l4.length, List.map I l4⟩]⟩
abbrev Qs_GraftTree := Nx X 18 0 Ks_GraftTree Zs_GraftTree Rs_GraftTree (fun _ => [])
theorem ns_GraftTree : ∀ s o, Bs_GraftTree s = some o → Qs_GraftTree (Ks_GraftTree s) (Zs_GraftTree s) o
  | .h1 t0 t1 t2 l3 l4, o, H =>
    eIf H (fun h1 H =>
      eCk H fun h2 H =>
      eBind H fun x3 hx3 H =>
      eCk H fun h4 H =>
      eBind H fun x5 hx5 H =>
      eBind H fun r6 hr6 H =>
      gN [rg [hT 0], rg [hE 1 (gi_Node x3)]] (by kernel_rfl) (P2 ((decide (t2 < t1)) = true) (decide_eq_true h1) <| P1 h2 <| P1 (int_lt_of_at h2 hx3) <| P1 (at_map gi_Node hx3) <| P0) <|
      eIf H (fun h7 H =>
        eCk H fun h8 H =>
        eN H fun r hn => gO [rg [hE 5 (I x5), hC 8 false [] (Rs_nAdd r6) [], hT 12], r0, r0, rg [hA 3 ((l4 ++ [r6.2.1]).length) (List.map I (l4 ++ [r6.2.1]))], r0, .canon [3, 5] [7, 8, 38, 39, 40]] (by kernel_rfl) (P1 h4 <| P1 (int_lt_of_at h4 hx5) <| P1 (at_map I hx5) <| P2 (nfL (List.flatMap D.cells (Rs_nAdd r6))) ⟨nfL_map nf_51 _, trivial, trivial, trivial⟩ <| P2 (nfG []) trivial <| P1 (cs_nAdd hr6) <| P2 (r6.2.2 = true) (h7) <| P1 (apL l4 [r6.2.1]) <| P1 (apB h8) <| P1 (apM I l4 [r6.2.1]) <| P0) hn)
      (fun h7 H =>
        eN H <| gE func18 [rg [hE 5 (I x5), hC 8 false [] (Rs_nAdd r6) [], hF 12], r0, r0] (by kernel_rfl) (P1 h4 <| P1 (int_lt_of_at h4 hx5) <| P1 (at_map I hx5) <| P2 (nfL (List.flatMap D.cells (Rs_nAdd r6))) ⟨nfL_map nf_51 _, trivial, trivial, trivial⟩ <| P2 (nfG []) trivial <| P1 (cs_nAdd hr6) <| P2 (r6.2.2 = false) (eqF h7) <| P0)))
    (fun h1 H =>
      eN H <| gE func18 [rg [hF 0], r0] (by kernel_rfl) (P2 ((decide (t2 < t1)) = false) (decide_eq_false h1) <| P0))
theorem ws_GraftTree : ∀ s r, loop Bs_GraftTree s = some r → Wc X 18 0 (Ks_GraftTree s) (Zs_GraftTree s) (Rs_GraftTree r) ((fun _ => []) r) := Nx.all ns_GraftTree
theorem cs_GraftTree {a0 : (List Gi_Node)} {a1 : (List Gi_Node)} {r : (List Gi_Node) × (List Int) × Bool} (H : Ds_GraftTree a0 a1 = some r) : Ct X.P X.gl 18 [sl 3 gi_Node a0, sl 3 gi_Node a1] [] (Rs_GraftTree r) [] :=
  Ct.of func18 (c := bdy f18) (by kernel_rfl) (by kernel_rfl) <|
  eBind H fun r1 hr1 H =>
  gS [r0] (by kernel_rfl) P0 <|
  eIf H (fun h2 H =>
    eBind H fun r3 hr3 H =>
    eIf H (fun h4 H =>
      eBind H fun x5 hx5 H =>
      eBind H fun x6 hx6 H =>
      eIf H (fun h7 H =>
        eCk H fun h8 H =>
        eCk H fun h9 H =>
        gO [rg [{ i := 1, call := some { cl := true, auto := true, ins := [], res := (RB r1), G' := [] }, dec := some true }, { i := 5, call := some { cl := true, auto := true, ins := [], res := (RB r3), G' := [] }, dec := some true }, hE 12 (gi_Node x5), hE 16 (gi_Node x6), hF 17], rg [hA 2 a0.length (List.map gi_Node a0)], r0, rg [hA 1 ((List.take (a1.length - (Int.toNat 1)) (List.drop (Int.toNat 1) a1)).length) (List.map gi_Node (List.take (a1.length - (Int.toNat 1)) (List.drop (Int.toNat 1) a1)))], .canon [1, 2] [7, 8, 38, 39, 40]] (by kernel_rfl) (P1 (cs_nGood hr1) <| P2 (r1 = true) (h2) <| P1 (cs_nGood hr3) <| P2 (r3 = true) (h4) <| P2 ((0 : Int) ≤ 0) (by decide) <| P1 (int_lt_of_at (by decide : (0 : Int) ≤ 0) hx5) <| P1 (at_map gi_Node hx5) <| P2 ((0 : Int) ≤ 0) (by decide) <| P1 (int_lt_of_at (by decide : (0 : Int) ≤ 0) hx6) <| P1 (at_map gi_Node hx6) <| P2 (((x5.Hash : Int) != x6.Hash) = false) (bneF h7) <| P2 (AllFl (List.map gi_Node a0)) (allFl_51 _) <| P2 (a0.length = ([] : List Gi_Node).length + a0.length) (by simp <;> omega) <| P2 ((([] : List Gi_Node).length + a0.length) * 24 ≤ 70368744177664) (by have := h8; simp at this ⊢ <;> omega) <| P2 (List.map gi_Node ([] : List Gi_Node) ++ List.map gi_Node a0 = List.map gi_Node a0) (by simp) <| P2 ((0 : Int) ≤ 1) (by decide) <| P2 ((1 : Int) ≤ ((a1.length : Nat) : Int)) h9 <| P2 ((List.take (a1.length - (Int.toNat 1)) (List.drop (Int.toNat 1) a1)).length = a1.length - (Int.toNat 1)) (by simp <;> omega) <| P2 (List.take (a1.length - (Int.toNat 1)) (List.drop (Int.toNat 1) (List.map gi_Node a1)) = List.map gi_Node (List.take (a1.length - (Int.toNat 1)) (List.drop (Int.toNat 1) a1))) (by simp [List.map_drop, List.map_take]) <| P0) (ws_GraftTree _ _ H))
      (fun h7 H =>
        eW Rs_GraftTree (fun _ => []) H <| gE func18 [rg [{ i := 1, call := some { cl := true, auto := true, ins := [], res := (RB r1), G' := [] }, dec := some true }, { i := 5, call := some { cl := true, auto := true, ins := [], res := (RB r3), G' := [] }, dec := some true }, hE 12 (gi_Node x5), hE 16 (gi_Node x6), hT 17], r0] (by kernel_rfl) (P1 (cs_nGood hr1) <| P2 (r1 = true) (h2) <| P1 (cs_nGood hr3) <| P2 (r3 = true) (h4) <| P2 ((0 : Int) ≤ 0) (by decide) <| P1 (int_lt_of_at (by decide : (0 : Int) ≤ 0) hx5) <| P1 (at_map gi_Node hx5) <| P2 ((0 : Int) ≤ 0) (by decide) <| P1 (int_lt_of_at (by decide : (0 : Int) ≤ 0) hx6) <| P1 (at_map gi_Node hx6) <| P2 (((x5.Hash : Int) != x6.Hash) = true) (bneT h7) <| P0)))
    (fun h4 H =>
      eW Rs_GraftTree (fun _ => []) H <| gE func18 [rg [{ i := 1, call := some { cl := true, auto := true, ins := [], res := (RB r1), G' := [] }, dec := some true }, { i := 5, call := some { cl := true, auto := true, ins := [], res := (RB r3), G' := [] }, dec := some false }], r0] (by kernel_rfl) (P1 (cs_nGood hr1) <| P2 (r1 = true) (h2) <| P1 (cs_nGood hr3) <| P2 (r3 = false) (eqF h4) <| P0)))
  (fun h2 H =>
    eW Rs_GraftTree (fun _ => []) H <| gE func18 [rg [{ i := 1, call := some { cl := true, auto := true, ins := [], res := (RB r1), G' := [] }, dec := some false }], r0] (by kernel_rfl) (P1 (cs_nGood hr1) <| P2 (r1 = false) (eqF h2) <| P0))
/-! loop example/g00886/impl inRange -/
theorem ci_inRange {a0 : Int} {a1 : Int} {a2 : Int} {r : Bool} (H : Di_inRange a0 a1 a2 = some r) : Ct X.P X.gl 52 [I a0, I a1, I a2] [] (RB r) [] :=
  Ct.of func52 (c := bdy f52) (by kernel_rfl) (by kernel_rfl) <|
  gS [r0] (by kernel_rfl) P0 <|
  eIf H (fun h1 H =>
    eW RB (fun _ => []) H <| gE func52 [rg [hT 2]] (by kernel_rfl) (P2 ((decide (a1 ≤ a0)) = true) (decide_eq_true h1) <| P0))
  (fun h1 H =>
    eW RB (fun _ => []) H <| gE func52 [rg [hF 2]] (by kernel_rfl) (P2 ((decide (a1 ≤ a0)) = false) (decide_eq_false h1) <| P0))
/-! loop example/g00886/impl isSeed -/
theorem ci_isSeed {a0 : Int} {r : Bool} (H : Di_isSeed a0 = some r) : Ct X.P X.gl 53 [I a0] [] (RB r) [] :=
  Ct.of func53 (c := bdy f53) (by kernel_rfl) (by kernel_rfl) <|
  eBind H fun r1 hr1 H =>
  eW RB (fun _ => []) H <| gE func53 [r0, rg [hC 1 true [] (RB r1) []]] (by kernel_rfl) (P1 (ci_inRange hr1) <| P0)
/-! loop example/g00886/impl isIndex -/
theorem ci_isIndex {a0 : Int} {a1 : Int} {r : Bool} (H : Di_isIndex a0 a1 = some r) : Ct X.P X.gl 32 [I a0, I a1] [] (RB r) [] :=
  Ct.of func32 (c := bdy f32) (by kernel_rfl) (by kernel_rfl) <|
  eBind H fun r1 hr1 H =>
  eW RB (fun _ => []) H <| gE func32 [r0, rg [hC 3 true [] (RB r1) []]] (by kernel_rfl) (P1 (ci_inRange hr1) <| P0)
/-! loop example/g00886/impl isTurn -/
theorem ci_isTurn {a0 : Int} {r : Bool} (H : Di_isTurn a0 = some r) : Ct X.P X.gl 54 [I a0] [] (RB r) [] :=
  Ct.of func54 (c := bdy f54) (by kernel_rfl) (by kernel_rfl) <|
  eBind H fun r1 hr1 H =>
  eW RB (fun _ => []) H <| gE func54 [r0, rg [hC 1 true [] (RB r1) []]] (by kernel_rfl) (P1 (ci_inRange hr1) <| P0)
/-! loop example/g00886/impl childWith 1 -/
theorem ci_childWith_1 {a0 : Gi_Node} {a1 : Int} {a2 : Int} {r : Bool} (H : Di_childWith_1 a0 a1 a2 = some r) : Ct X.P X.gl 66 [.agg [I a0.Parent, I a0.Turn, I a0.Hash], .fptr 1 [.agg [I a1]] 0 0, .fptr 1 [.agg [I a2]] 0 0] [] (RB r) [] :=
  Ct.of func66 (c := bdy f66) (by kernel_rfl) (by kernel_rfl) <|
  gS [r0] (by kernel_rfl) P0 <|
  eIf H (fun h1 H =>
    eW RB (fun _ => []) H <| gE func66 [rg [hT 3]] (by kernel_rfl) (P2 (((a0.Parent : Int) == a1) = true) (beqT h1) <| P0))
  (fun h1 H =>
    eW RB (fun _ => []) H <| gE func66 [rg [hF 3]] (by kernel_rfl) (P2 (((a0.Parent : Int) == a1) = false) (beqF h1) <| P0))
/-! slices IndexFunc   loop example/g00886/impl Node loop example/g00886/impl Node  -/
noncomputable def Kslices_IndexFunc_i_Node_i_childWith_1 : Sslices_IndexFunc_i_Node_i_childWith_1 → List Item
  | .h1 .. => nav 300 2 [] [.code (bdy f65)]
def Zslices_IndexFunc_i_Node_i_childWith_1 : Sslices_IndexFunc_i_Node_i_childWith_1 → St
  | .h1 s0 f1 f2 t3 t4 => ⟨sts 19 [(0, sl 3 gi_Node s0), (1, .fn 66 [.fptr 1 [.agg [I f1]] 0 0, .fptr 1 [.agg [I f2]] 0 0]), (7, I t3), (8, I t4)], []⟩
abbrev Qslices_IndexFunc_i_Node_i_childWith_1 := Nx X 65 0 Kslices_IndexFunc_i_Node_i_childWith_1 Zslices_IndexFunc_i_Node_i_childWith_1 RI (fun _ => [])
theorem nslices_IndexFunc_i_Node_i_childWith_1 : ∀ s o, Bslices_IndexFunc_i_Node_i_childWith_1 s = some o → Qslices_IndexFunc_i_Node_i_childWith_1 (Kslices_IndexFunc_i_Node_i_childWith_1 s) (Zslices_IndexFunc_i_Node_i_childWith_1 s) o
  | .h1 s0 f1 f2 t3 t4, o, H =>
    eIf H (fun h1 H =>
      eCk H fun h2 H =>
      eBind H fun x3 hx3 H =>
      eBind H fun r4 hr4 H =>
      gN [rg [hT 0], r0] (by kernel_rfl) (P2 ((decide (t4 < t3)) = true) (decide_eq_true h1) <| P0) <|
      eIf H (fun h5 H =>
        eN H <| gE func65 [rg [hE 4 (gi_Node x3), { i := 5, call := some { cl := true, auto := true, ins := [], res := (RB r4), G' := [] }, dec := some true }], r0] (by kernel_rfl) (P1 h2 <| P1 (int_lt_of_at h2 hx3) <| P1 (at_map gi_Node hx3) <| P1 (ci_childWith_1 hr4) <| P2 (r4 = true) (h5) <| P0))
      (fun h5 H =>
        eN H fun r hn => gO [rg [hE 4 (gi_Node x3), { i := 5, call := some { cl := true, auto := true, ins := [], res := (RB r4), G' := [] }, dec := some false }], r0, .canon [] [0, 1, 7, 8]] (by kernel_rfl) (P1 h2 <| P1 (int_lt_of_at h2 hx3) <| P1 (at_map gi_Node hx3) <| P1 (ci_childWith_1 hr4) <| P2 (r4 = false) (eqF h5) <| P0) hn))
    (fun h1 H =>
      eN H <| gE func65 [rg [hF 0], r0] (by kernel_rfl) (P2 ((decide (t4 < t3)) = false) (decide_eq_false h1) <| P0))
theorem wslices_IndexFunc_i_Node_i_childWith_1 : ∀ s r, loop Bslices_IndexFunc_i_Node_i_childWith_1 s = some r → Wc X 65 0 (Kslices_IndexFunc_i_Node_i_childWith_1 s) (Zslices_IndexFunc_i_Node_i_childWith_1 s) (RI r) ((fun _ => []) r) := Nx.all nslices_IndexFunc_i_Node_i_childWith_1
theorem cslices_IndexFunc_i_Node_i_childWith_1 {a0 : (List Gi_Node)} {a100 : Int} {a101 : Int} {r : Int} (H : Dslices_IndexFunc_i_Node_i_childWith_1 a0 a100 a101 = some r) : Ct X.P X.gl 65 [sl 3 gi_Node a0, .fn 66 [.fptr 1 [.agg [I a100]] 0 0, .fptr 1 [.agg [I a101]] 0 0]] [] (RI r) [] :=
  Ct.of func65 (c := bdy f65) (by kernel_rfl) (by kernel_rfl) <|
  gO [r0, r0, .canon [] [0, 1, 7, 8]] (by kernel_rfl) P0 (wslices_IndexFunc_i_Node_i_childWith_1 _ _ H)
/-! loop example/g00886/impl childWith -/
theorem ci_childWith {a0 : (List Gi_Node)} {a1 : Int} {a2 : Int} {r : Int} (H : Di_childWith a0 a1 a2 = some r) : Ct X.P X.gl 55 [sl 3 gi_Node a0, I a1, I a2] [] (RI r) [] :=
  Ct.of func55 (c := bdy f55) (by kernel_rfl) (by kernel_rfl) <|
  eBind H fun r1 hr1 H =>
  eW RI (fun _ => []) H <| gE func55 [r0, rg [hC 2 false [] (RI r1) []]] (by kernel_rfl) (P1 (cslices_IndexFunc_i_Node_i_childWith_1 hr1) <| P0)
/-! loop example/g00886/impl IsTree -/
noncomputable def Ki_IsTree : Si_IsTree → List Item
  | .h1 .. => nav 300 3 [false] [.code (bdy f31)]
def Zi_IsTree : Si_IsTree → St
  | .h1 i0 t1 t2 t3 => ⟨sts 72 [(0, sl 3 gi_Node i0), (23, sl 3 gi_Node t1), (24, I t2), (25, I t3)], []⟩
abbrev Qi_IsTree := Nx X 31 0 Ki_IsTree Zi_IsTree RB (fun _ => [])
theorem ni_IsTree : ∀ s o, Bi_IsTree s = some o → Qi_IsTree (Ki_IsTree s) (Zi_IsTree s) o
  | .h1 i0 t1 t2 t3, o, H =>
    eIf H (fun h1 H =>
      eCk H fun h2 H =>
      eBind H fun x3 hx3 H =>
      eBind H fun r4 hr4 H =>
      gN [rg [hT 0], rg [hE 2 (gi_Node x3)]] (by kernel_rfl) (P2 ((decide (t3 < t2)) = true) (decide_eq_true h1) <| P1 h2 <| P1 (int_lt_of_at h2 hx3) <| P1 (at_map gi_Node hx3) <| P0) <|
      eIf H (fun h5 H =>
        gN [rg [{ i := 2, call := some { cl := true, auto := true, ins := [], res := (RB r4), G' := [] }, dec := some true }]] (by kernel_rfl) (P1 (ci_isSeed hr4) <| P2 (r4 = true) (h5) <| P0) <|
        eIf H (fun h6 H =>
          eBind H fun r7 hr7 H =>
          eIf H (fun h8 H =>
            eCk H fun h9 H =>
            eBind H fun x10 hx10 H =>
            eIf H (fun h11 H =>
              eBind H fun r12 hr12 H =>
              eIf H (fun h13 H =>
                eBind H fun r14 hr14 H =>
                eIf H (fun h15 H =>
                  eN H fun r hn => gO [rg [hT 1, { i := 6, call := some { cl := true, auto := true, ins := [], res := (RB r7), G' := [] }, dec := some true }, hE 16 (gi_Node x10), hF 18, { i := 23, call := some { cl := true, auto := true, ins := [], res := (RB r12), G' := [] }, dec := some true }, hC 32 true [] (RI r14) [], hF 34], r0, .canon [] [0, 23, 24, 25]] (by kernel_rfl) (P2 ((decide (t3 > 0)) = true) (decide_eq_true h6) <| P1 (ci_isIndex hr7) <| P2 (r7 = true) (h8) <| P1 h9 <| P1 (int_lt_of_at h9 hx10) <| P1 (at_map gi_Node hx10) <| P2 (((x3.Turn : Int) != (IntKind.wrap .i64 (x10.Turn + 1))) = false) (bneF h11) <| P1 (ci_isTurn hr12) <| P2 (r12 = true) (h13) <| P1 (ci_childWith hr14) <| P2 (((r14 : Int) != t3) = false) (bneF h15) <| P0) hn)
                (fun h15 H =>
                  eN H <| gE func31 [rg [hT 1, { i := 6, call := some { cl := true, auto := true, ins := [], res := (RB r7), G' := [] }, dec := some true }, hE 16 (gi_Node x10), hF 18, { i := 23, call := some { cl := true, auto := true, ins := [], res := (RB r12), G' := [] }, dec := some true }, hC 32 true [] (RI r14) [], hT 34], r0] (by kernel_rfl) (P2 ((decide (t3 > 0)) = true) (decide_eq_true h6) <| P1 (ci_isIndex hr7) <| P2 (r7 = true) (h8) <| P1 h9 <| P1 (int_lt_of_at h9 hx10) <| P1 (at_map gi_Node hx10) <| P2 (((x3.Turn : Int) != (IntKind.wrap .i64 (x10.Turn + 1))) = false) (bneF h11) <| P1 (ci_isTurn hr12) <| P2 (r12 = true) (h13) <| P1 (ci_childWith hr14) <| P2 (((r14 : Int) != t3) = true) (bneT h15) <| P0)))
              (fun h13 H =>
                eN H <| gE func31 [rg [hT 1, { i := 6, call := some { cl := true, auto := true, ins := [], res := (RB r7), G' := [] }, dec := some true }, hE 16 (gi_Node x10), hF 18, { i := 23, call := some { cl := true, auto := true, ins := [], res := (RB r12), G' := [] }, dec := some false }], r0] (by kernel_rfl) (P2 ((decide (t3 > 0)) = true) (decide_eq_true h6) <| P1 (ci_isIndex hr7) <| P2 (r7 = true) (h8) <| P1 h9 <| P1 (int_lt_of_at h9 hx10) <| P1 (at_map gi_Node hx10) <| P2 (((x3.Turn : Int) != (IntKind.wrap .i64 (x10.Turn + 1))) = false) (bneF h11) <| P1 (ci_isTurn hr12) <| P2 (r12 = false) (eqF h13) <| P0)))
            (fun h11 H =>
              eN H <| gE func31 [rg [hT 1, { i := 6, call := some { cl := true, auto := true, ins := [], res := (RB r7), G' := [] }, dec := some true }, hE 16 (gi_Node x10), hT 18], r0] (by kernel_rfl) (P2 ((decide (t3 > 0)) = true) (decide_eq_true h6) <| P1 (ci_isIndex hr7) <| P2 (r7 = true) (h8) <| P1 h9 <| P1 (int_lt_of_at h9 hx10) <| P1 (at_map gi_Node hx10) <| P2 (((x3.Turn : Int) != (IntKind.wrap .i64 (x10.Turn + 1))) = true) (bneT h11) <| P0)))
          (fun h8 H =>
            eN H <| gE func31 [rg [hT 1, { i := 6, call := some { cl := true, auto := true, ins := [], res := (RB r7), G' := [] }, dec := some false }], r0] (by kernel_rfl) (P2 ((decide (t3 > 0)) = true) (decide_eq_true h6) <| P1 (ci_isIndex hr7) <| P2 (r7 = false) (eqF h8) <| P0)))
        (fun h6 H =>
          eN H fun r hn => gO [rg [hF 1], r0, .canon [] [0, 23, 24, 25]] (by kernel_rfl) (P2 ((decide (t3 > 0)) = false) (decide_eq_false h6) <| P0) hn))
      (fun h5 H =>
        eN H <| gE func31 [rg [{ i := 2, call := some { cl := true, auto := true, ins := [], res := (RB r4), G' := [] }, dec := some false }], r0] (by kernel_rfl) (P1 (ci_isSeed hr4) <| P2 (r4 = false) (eqF h5) <| P0)))
    (fun h1 H =>
      eN H <| gE func31 [rg [hF 0], r0] (by kernel_rfl) (P2 ((decide (t3 < t2)) = false) (decide_eq_false h1) <| P0))
theorem wi_IsTree : ∀ s r, loop Bi_IsTree s = some r → Wc X 31 0 (Ki_IsTree s) (Zi_IsTree s) (RB r) ((fun _ => []) r) := Nx.all ni_IsTree
theorem ci_IsTree {a0 : (List Gi_Node)} {r : Bool} (H : Di_IsTree a0 = some r) : Ct X.P X.gl 31 [sl 3 gi_Node a0] [] (RB r) [] :=
  Ct.of func31 (c := bdy f31) (by kernel_rfl) (by kernel_rfl) <|
  eBind H fun r1 hr1 H =>
  gS [r0] (by kernel_rfl) P0 <|
  eIf H (fun h2 H =>
    eBind H fun x3 hx3 H =>
    eIf H (fun h4 H =>
      eBind H fun x5 hx5 H =>
      eIf H (fun h6 H =>
        gO [rg [{ i := 2, call := some { cl := true, auto := true, ins := [], res := (RB r1), G' := [] }, dec := some true }, hE 8 (gi_Node x3), hF 9, hE 15 (gi_Node x5), hF 16], r0, .canon [] [0, 23, 24, 25]] (by kernel_rfl) (P1 (ci_inRange hr1) <| P2 (r1 = true) (h2) <| P2 ((0 : Int) ≤ 0) (by decide) <| P1 (int_lt_of_at (by decide : (0 : Int) ≤ 0) hx3) <| P1 (at_map gi_Node hx3) <| P2 (((x3.Parent : Int) != (-1)) = false) (bneF h4) <| P2 ((0 : Int) ≤ 0) (by decide) <| P1 (int_lt_of_at (by decide : (0 : Int) ≤ 0) hx5) <| P1 (at_map gi_Node hx5) <| P2 (((x5.Turn : Int) != 0) = false) (bneF h6) <| P0) (wi_IsTree _ _ H))
      (fun h6 H =>
        eW RB (fun _ => []) H <| gE func31 [rg [{ i := 2, call := some { cl := true, auto := true, ins := [], res := (RB r1), G' := [] }, dec := some true }, hE 8 (gi_Node x3), hF 9, hE 15 (gi_Node x5), hT 16], r0] (by kernel_rfl) (P1 (ci_inRange hr1) <| P2 (r1 = true) (h2) <| P2 ((0 : Int) ≤ 0) (by decide) <| P1 (int_lt_of_at (by decide : (0 : Int) ≤ 0) hx3) <| P1 (at_map gi_Node hx3) <| P2 (((x3.Parent : Int) != (-1)) = false) (bneF h4) <| P2 ((0 : Int) ≤ 0) (by decide) <| P1 (int_lt_of_at (by decide : (0 : Int) ≤ 0) hx5) <| P1 (at_map gi_Node hx5) <| P2 (((x5.Turn : Int) != 0) = true) (bneT h6) <| P0)))
    (fun h4 H =>
      eW RB (fun _ => []) H <| gE func31 [rg [{ i := 2, call := some { cl := true, auto := true, ins := [], res := (RB r1), G' := [] }, dec := some true }, hE 8 (gi_Node x3), hT 9], r0] (by kernel_rfl) (P1 (ci_inRange hr1) <| P2 (r1 = true) (h2) <| P2 ((0 : Int) ≤ 0) (by decide) <| P1 (int_lt_of_at (by decide : (0 : Int) ≤ 0) hx3) <| P1 (at_map gi_Node hx3) <| P2 (((x3.Parent : Int) != (-1)) = true) (bneT h4) <| P0)))
  (fun h2 H =>
    eW RB (fun _ => []) H <| gE func31 [rg [{ i := 2, call := some { cl := true, auto := true, ins := [], res := (RB r1), G' := [] }, dec := some false }], r0] (by kernel_rfl) (P1 (ci_inRange hr1) <| P2 (r1 = false) (eqF h2) <| P0))
/-! slices Clone -/
def Rslices_Clone_i_Node (r : List Gi_Node) : List D := [ow 3 gi_Node r]
theorem cslices_Clone_i_Node {l r : List Gi_Node} (H : Dslices_Clone_i_Node l = some r) : Ct X.P X.gl 39 [sl 3 gi_Node l] [] (Rslices_Clone_i_Node r) [] :=
  eCk H fun h H => eRet (P := fun r => Ct X.P X.gl 39 [sl 3 gi_Node l] [] (Rslices_Clone_i_Node r) []) H <|
    Ct.of func39 (c := bdy f39) (by kernel_rfl) (by kernel_rfl) <| by
      by_cases h0 : 0 < l.length
      · exact gE func39 [r0, rg [{ i := 1, keep := true }], rg [{ i := 2, n := l.length, xs := List.map gi_Node l }]] (by kernel_rfl) (P1 h0 <| P1 (allFl_51 l) <| P2 (l.length = 0 + l.length) (by simp) <| P2 ((0 + l.length) * 24 ≤ 70368744177664) (by simpa using h) <| P2 (([] : List D) ++ List.map gi_Node l = List.map gi_Node l) rfl P0)
      · have e : l = [] := by cases l with | nil => rfl | cons x l => exact absurd (Nat.succ_pos _) h0
        subst e
        refine gO [r0, r0, .stop] (k' := nav 300 2 [] [.code (bdy f39)]) (σ' := ⟨sts 8 [(0, sl 3 gi_Node []), (2, .nil), (3, sl 3 gi_Node []), (4, .anyb)], []⟩) (by kernel_rfl) P0 (Wc.anyb 4 (by kernel_rfl) fun b => ?_)
        cases b with
        | true => exact gE func39 [r0] (by kernel_rfl) P0
        | false =>
          have h : ([] : List Gi_Node).length * 24 ≤ 70368744177664 := by decide
          have : Wc X 39 0 (nav 300 2 [] [.code (bdy f39)]) ⟨sts 8 [(0, sl 3 gi_Node []), (2, .nil), (3, sl 3 gi_Node []), (4, .bool false)], []⟩ (Rslices_Clone_i_Node []) [] := by
            generalize hl : ([] : List Gi_Node) = l at h ⊢
            exact gE func39 [ rg [{ i := 2, n := l.length, xs := List.map gi_Node l }]] (by kernel_rfl) ( P1 (allFl_51 l) <| P2 (l.length = 0 + l.length) (by simp) <| P2 ((0 + l.length) * 24 ≤ 70368744177664) (by simpa using h) <| P2 (([] : List D) ++ List.map gi_Node l = List.map gi_Node l) rfl P0)
          exact this
/-! loop example/g00886/impl childOf -/
def Ri_childOf (r : (List Gi_Node) × Int × Bool) : List D := [ow 3 gi_Node r.1, I r.2.1, .bool r.2.2]
theorem ci_childOf {a0 : (List Gi_Node)} {a1 : Int} {a2 : Int} {r : (List Gi_Node) × Int × Bool} (H : Di_childOf a0 a1 a2 = some r) : Ct X.P X.gl 40 [sl 3 gi_Node a0, I a1, I a2] [] (Ri_childOf r) [] :=
  Ct.of func40 (c := bdy f40) (by kernel_rfl) (by kernel_rfl) <|
  eBind H fun r1 hr1 H =>
  gS [r0, rg [hC 3 true [] (RI r1) []]] (by kernel_rfl) (P1 (ci_childWith hr1) <| P0) <|
  eIf H (fun h2 H =>
    eBind H fun r3 hr3 H =>
    eW Ri_childOf (fun _ => []) H <| gE func40 [rg [hT 1], rg [hC 1 true [] (Rslices_Clone_i_Node r3) []]] (by kernel_rfl) (P2 ((decide (r1 ≥ 0)) = true) (decide_eq_true h2) <| P1 (cslices_Clone_i_Node hr3) <| P0))
  (fun h2 H =>
    gS [rg [hF 1]] (by kernel_rfl) (P2 ((decide (r1 ≥ 0)) = false) (decide_eq_false h2) <| P0) <|
    eIf H (fun h3 H =>
      eW Ri_childOf (fun _ => []) H <| gE func40 [rg [hT 2], r0] (by kernel_rfl) (P2 (((((a0.length : Nat) : Int) : Int) == 40) = true) (beqT h3) <| P0))
    (fun h3 H =>
      eCk H fun h4 H =>
      eBind H fun x5 hx5 H =>
      eIf H (fun h6 H =>
        eW Ri_childOf (fun _ => []) H <| gE func40 [rg [hF 2, hE 8 (gi_Node x5), hT 9], r0] (by kernel_rfl) (P2 (((((a0.length : Nat) : Int) : Int) == 40) = false) (beqF h3) <| P1 h4 <| P1 (int_lt_of_at h4 hx5) <| P1 (at_map gi_Node hx5) <| P2 (((x5.Turn : Int) == 30) = true) (beqT h6) <| P0))
      (fun h6 H =>
        eBind H fun r7 hr7 H =>
        eCk H fun h8 H =>
        eBind H fun x9 hx9 H =>
        eCk H fun h10 H =>
        eW Ri_childOf (fun _ => []) H <| gE func40 [rg [hF 2, hE 8 (gi_Node x5), hF 9], rg [hC 1 true [] (Rslices_Clone_i_Node r7) [], hE 7 (gi_Node x9), hA 12 ((r7 ++ [(Gi_Node.mk a1 (IntKind.wrap .i64 (x9.Turn + 1)) a2)]).length) (List.map gi_Node (r7 ++ [(Gi_Node.mk a1 (IntKind.wrap .i64 (x9.Turn + 1)) a2)]))]] (by kernel_rfl) (P2 (((((a0.length : Nat) : Int) : Int) == 40) = false) (beqF h3) <| P1 h4 <| P1 (int_lt_of_at h4 hx5) <| P1 (at_map gi_Node hx5) <| P2 (((x5.Turn : Int) == 30) = false) (beqF h6) <| P1 (cslices_Clone_i_Node hr7) <| P1 h8 <| P1 (int_lt_of_at h8 hx9) <| P1 (at_map gi_Node hx9) <| P1 (apL r7 [(Gi_Node.mk a1 (IntKind.wrap .i64 (x9.Turn + 1)) a2)]) <| P1 (apB h10) <| P1 (apM gi_Node r7 [(Gi_Node.mk a1 (IntKind.wrap .i64 (x9.Turn + 1)) a2)]) <| P0))))
/-! loop example/g00886/impl GraftTree -/
def Ri_GraftTree (r : (List Gi_Node) × (List Int) × Bool) : List D := [ow 3 gi_Node r.1, ow 1 I r.2.1, .bool r.2.2]
noncomputable def Ki_GraftTree : Si_GraftTree → List Item
  | .h1 .. => nav 300 4 [false] [.code (bdy f19)]
def Zi_GraftTree : Si_GraftTree → St
  | .h1 t0 t1 t2 l3 l4 => ⟨sts 66 [(7, .ref 0 3 none), (8, .ref 1 1 none), (37, sl 3 gi_Node t0), (38, I t1), (39, I t2)], [some ⟨false, false, 3, l3.length, List.map gi_Node l3⟩, some ⟨false, false, 1, l4.length, List.map I l4⟩]⟩
abbrev Qi_GraftTree := Nx X 19 0 Ki_GraftTree Zi_GraftTree Ri_GraftTree (fun _ => [])
theorem ni_GraftTree : ∀ s o, Bi_GraftTree s = some o → Qi_GraftTree (Ki_GraftTree s) (Zi_GraftTree s) o
  | .h1 t0 t1 t2 l3 l4, o, H =>
    eIf H (fun h1 H =>
      eCk H fun h2 H =>
      eBind H fun x3 hx3 H =>
      eCk H fun h4 H =>
      eBind H fun x5 hx5 H =>
      eBind H fun r6 hr6 H =>
      gN [rg [hT 0], rg [hE 1 (gi_Node x3)]] (by kernel_rfl) (P2 ((decide (t2 < t1)) = true) (decide_eq_true h1) <| P1 h2 <| P1 (int_lt_of_at h2 hx3) <| P1 (at_map gi_Node hx3) <| P0) <|
      eIf H (fun h7 H =>
        eCk H fun h8 H =>
        eN H fun r hn => gO [rg [hE 5 (I x5), hC 8 false [] (Ri_childOf r6) [], hT 12], r0, rg [hA 4 ((l4 ++ [r6.2.1]).length) (List.map I (l4 ++ [r6.2.1]))], r0, .canon [3, 5] [7, 8, 37, 38, 39]] (by kernel_rfl) (P1 h4 <| P1 (int_lt_of_at h4 hx5) <| P1 (at_map I hx5) <| P2 (nfL (List.flatMap D.cells (Ri_childOf r6))) ⟨nfL_map nf_51 _, trivial, trivial, trivial⟩ <| P2 (nfG []) trivial <| P1 (ci_childOf hr6) <| P2 (r6.2.2 = true) (h7) <| P1 (apL l4 [r6.2.1]) <| P1 (apB h8) <| P1 (apM I l4 [r6.2.1]) <| P0) hn)
      (fun h7 H =>
        eN H <| gE func19 [rg [hE 5 (I x5), hC 8 false [] (Ri_childOf r6) [], hF 12], r0, r0] (by kernel_rfl) (P1 h4 <| P1 (int_lt_of_at h4 hx5) <| P1 (at_map I hx5) <| P2 (nfL (List.flatMap D.cells (Ri_childOf r6))) ⟨nfL_map nf_51 _, trivial, trivial, trivial⟩ <| P2 (nfG []) trivial <| P1 (ci_childOf hr6) <| P2 (r6.2.2 = false) (eqF h7) <| P0)))
    (fun h1 H =>
      eN H <| gE func19 [rg [hF 0], r0] (by kernel_rfl) (P2 ((decide (t2 < t1)) = false) (decide_eq_false h1) <| P0))
theorem wi_GraftTree : ∀ s r, loop Bi_GraftTree s = some r → Wc X 19 0 (Ki_GraftTree s) (Zi_GraftTree s) (Ri_GraftTree r) ((fun _ => []) r) := Nx.all ni_GraftTree
theorem ci_GraftTree {a0 : (List Gi_Node)} {a1 : (List Gi_Node)} {r : (List Gi_Node) × (List Int) × Bool} (H : Di_GraftTree a0 a1 = some r) : Ct X.P X.gl 19 [sl 3 gi_Node a0, sl 3 gi_Node a1] [] (Ri_GraftTree r) [] :=
  Ct.of func19 (c := bdy f19) (by kernel_rfl) (by kernel_rfl) <|
  eBind H fun r1 hr1 H =>
  gS [r0] (by kernel_rfl) P0 <|
  eIf H (fun h2 H =>
    eBind H fun r3 hr3 H =>
    eIf H (fun h4 H =>
      eBind H fun x5 hx5 H =>
      eBind H fun x6 hx6 H =>
      eIf H (fun h7 H =>
        eBind H fun r8 hr8 H =>
        eCk H fun h9 H =>
        gO [rg [{ i := 1, call := some { cl := true, auto := true, ins := [], res := (RB r1), G' := [] }, dec := some true }, { i := 5, call := some { cl := true, auto := true, ins := [], res := (RB r3), G' := [] }, dec := some true }, hE 12 (gi_Node x5), hE 16 (gi_Node x6), hF 17], rg [hC 1 true [] (Rslices_Clone_i_Node r8) []], rg [hA 1 ((List.take (a1.length - (Int.toNat 1)) (List.drop (Int.toNat 1) a1)).length) (List.map gi_Node (List.take (a1.length - (Int.toNat 1)) (List.drop (Int.toNat 1) a1)))], .canon [0, 1] [7, 8, 37, 38, 39]] (by kernel_rfl) (P1 (ci_IsTree hr1) <| P2 (r1 = true) (h2) <| P1 (ci_IsTree hr3) <| P2 (r3 = true) (h4) <| P2 ((0 : Int) ≤ 0) (by decide) <| P1 (int_lt_of_at (by decide : (0 : Int) ≤ 0) hx5) <| P1 (at_map gi_Node hx5) <| P2 ((0 : Int) ≤ 0) (by decide) <| P1 (int_lt_of_at (by decide : (0 : Int) ≤ 0) hx6) <| P1 (at_map gi_Node hx6) <| P2 (((x5.Hash : Int) != x6.Hash) = false) (bneF h7) <| P1 (cslices_Clone_i_Node hr8) <| P2 ((0 : Int) ≤ 1) (by decide) <| P2 ((1 : Int) ≤ ((a1.length : Nat) : Int)) h9 <| P2 ((List.take (a1.length - (Int.toNat 1)) (List.drop (Int.toNat 1) a1)).length = a1.length - (Int.toNat 1)) (by simp <;> omega) <| P2 (List.take (a1.length - (Int.toNat 1)) (List.drop (Int.toNat 1) (List.map gi_Node a1)) = List.map gi_Node (List.take (a1.length - (Int.toNat 1)) (List.drop (Int.toNat 1) a1))) (by simp [List.map_drop, List.map_take]) <| P0) (wi_GraftTree _ _ H))
      (fun h7 H =>
        eW Ri_GraftTree (fun _ => []) H <| gE func19 [rg [{ i := 1, call := some { cl := true, auto := true, ins := [], res := (RB r1), G' := [] }, dec := some true }, { i := 5, call := some { cl := true, auto := true, ins := [], res := (RB r3), G' := [] }, dec := some true }, hE 12 (gi_Node x5), hE 16 (gi_Node x6), hT 17], r0] (by kernel_rfl) (P1 (ci_IsTree hr1) <| P2 (r1 = true) (h2) <| P1 (ci_IsTree hr3) <| P2 (r3 = true) (h4) <| P2 ((0 : Int) ≤ 0) (by decide) <| P1 (int_lt_of_at (by decide : (0 : Int) ≤ 0) hx5) <| P1 (at_map gi_Node hx5) <| P2 ((0 : Int) ≤ 0) (by decide) <| P1 (int_lt_of_at (by decide : (0 : Int) ≤ 0) hx6) <| P1 (at_map gi_Node hx6) <| P2 (((x5.Hash : Int) != x6.Hash) = true) (bneT h7) <| P0)))
    (fun h4 H =>
      eW Ri_GraftTree (fun _ => []) H <| gE func19 [rg [{ i := 1, call := some { cl := true, auto := true, ins := [], res := (RB r1), G' := [] }, dec := some true }, { i := 5, call := some { cl := true, auto := true, ins := [], res := (RB r3), G' := [] }, dec := some false }], r0] (by kernel_rfl) (P1 (ci_IsTree hr1) <| P2 (r1 = true) (h2) <| P1 (ci_IsTree hr3) <| P2 (r3 = false) (eqF h4) <| P0)))
  (fun h2 H =>
    eW Ri_GraftTree (fun _ => []) H <| gE func19 [rg [{ i := 1, call := some { cl := true, auto := true, ins := [], res := (RB r1), G' := [] }, dec := some false }], r0] (by kernel_rfl) (P1 (ci_IsTree hr1) <| P2 (r1 = false) (eqF h2) <| P0))
/-! loop example/g00886/laws eqNode -/
theorem cw_eqNode {a0 : Gi_Node} {a1 : Gi_Node} {r : Bool} (H : Dw_eqNode a0 a1 = some r) : Ct X.P X.gl 34 [.agg [I a0.Parent, I a0.Turn, I a0.Hash], .agg [I a1.Parent, I a1.Turn, I a1.Hash]] [] (RB r) [] :=
  Ct.of func34 (c := bdy f34) (by kernel_rfl) (by kernel_rfl) <|
  gS [r0] (by kernel_rfl) P0 <|
  eIf H (fun h1 H =>
    gS [rg [hF 4]] (by kernel_rfl) (P2 (((a0.Parent : Int) != a1.Parent) = false) (bneF h1) <| P0) <|
    eIf H (fun h2 H =>
      gS [rg [hF 4]] (by kernel_rfl) (P2 (((a0.Turn : Int) != a1.Turn) = false) (bneF h2) <| P0) <|
      eIf H (fun h3 H =>
        eW RB (fun _ => []) H <| gE func34 [rg [hF 4], r0] (by kernel_rfl) (P2 (((a0.Hash : Int) != a1.Hash) = false) (bneF h3) <| P0))
      (fun h3 H =>
        eW RB (fun _ => []) H <| gE func34 [rg [hT 4], r0] (by kernel_rfl) (P2 (((a0.Hash : Int) != a1.Hash) = true) (bneT h3) <| P0)))
    (fun h2 H =>
      eW RB (fun _ => []) H <| gE func34 [rg [hT 4], r0] (by kernel_rfl) (P2 (((a0.Turn : Int) != a1.Turn) = true) (bneT h2) <| P0)))
  (fun h1 H =>
    eW RB (fun _ => []) H <| gE func34 [rg [hT 4], r0] (by kernel_rfl) (P2 (((a0.Parent : Int) != a1.Parent) = true) (bneT h1) <| P0))
/-! loop example/g00886/laws eqNodeS -/
noncomputable def Kw_eqNodeS : Sw_eqNodeS → List Item
  | .h1 .. => nav 300 3 [false] [.code (bdy f12)]
def Zw_eqNodeS : Sw_eqNodeS → St
  | .h1 va0 b1 i2 => ⟨sts 27 [(0, sl 3 gi_Node va0), (1, sl 3 gi_Node b1), (5, I i2)], []⟩
abbrev Qw_eqNodeS := Nx X 12 0 Kw_eqNodeS Zw_eqNodeS RB (fun _ => [])
theorem nw_eqNodeS : ∀ s o, Bw_eqNodeS s = some o → Qw_eqNodeS (Kw_eqNodeS s) (Zw_eqNodeS s) o
  | .h1 va0 b1 i2, o, H =>
    eIf H (fun h1 H =>
      eCk H fun h2 H =>
      eBind H fun x3 hx3 H =>
      eCk H fun h4 H =>
      eBind H fun x5 hx5 H =>
      eBind H fun r6 hr6 H =>
      gN [rg [hT 3]] (by kernel_rfl) (P2 ((decide (i2 < ((va0.length : Nat) : Int))) = true) (decide_eq_true h1) <| P0) <|
      eIf H (fun h7 H =>
        eN H fun r hn => gO [rg [hE 3 (gi_Node x3), hE 7 (gi_Node x5), { i := 8, call := some { cl := true, auto := true, ins := [], res := (RB r6), G' := [] }, dec := some true }], r0, .canon [] [0, 1, 5]] (by kernel_rfl) (P1 h2 <| P1 (int_lt_of_at h2 hx3) <| P1 (at_map gi_Node hx3) <| P1 h4 <| P1 (int_lt_of_at h4 hx5) <| P1 (at_map gi_Node hx5) <| P1 (cw_eqNode hr6) <| P2 (r6 = true) (h7) <| P0) hn)
      (fun h7 H =>
        eN H <| gE func12 [rg [hE 3 (gi_Node x3), hE 7 (gi_Node x5), { i := 8, call := some { cl := true, auto := true, ins := [], res := (RB r6), G' := [] }, dec := some false }], r0] (by kernel_rfl) (P1 h2 <| P1 (int_lt_of_at h2 hx3) <| P1 (at_map gi_Node hx3) <| P1 h4 <| P1 (int_lt_of_at h4 hx5) <| P1 (at_map gi_Node hx5) <| P1 (cw_eqNode hr6) <| P2 (r6 = false) (eqF h7) <| P0)))
    (fun h1 H =>
      eN H <| gE func12 [rg [hF 3], r0] (by kernel_rfl) (P2 ((decide (i2 < ((va0.length : Nat) : Int))) = false) (decide_eq_false h1) <| P0))
theorem ww_eqNodeS : ∀ s r, loop Bw_eqNodeS s = some r → Wc X 12 0 (Kw_eqNodeS s) (Zw_eqNodeS s) (RB r) ((fun _ => []) r) := Nx.all nw_eqNodeS
theorem cw_eqNodeS {a0 : (List Gi_Node)} {a1 : (List Gi_Node)} {r : Bool} (H : Dw_eqNodeS a0 a1 = some r) : Ct X.P X.gl 12 [sl 3 gi_Node a0, sl 3 gi_Node a1] [] (RB r) [] :=
  Ct.of func12 (c := bdy f12) (by kernel_rfl) (by kernel_rfl) <|
  gS [r0] (by kernel_rfl) P0 <|
  eIf H (fun h1 H =>
    gO [rg [hF 4], r0, .canon [] [0, 1, 5]] (by kernel_rfl) (P2 (((((a0.length : Nat) : Int) : Int) != ((a1.length : Nat) : Int)) = false) (bneF h1) <| P0) (ww_eqNodeS _ _ H))
  (fun h1 H =>
    eW RB (fun _ => []) H <| gE func12 [rg [hT 4], r0] (by kernel_rfl) (P2 (((((a0.length : Nat) : Int) : Int) != ((a1.length : Nat) : Int)) = true) (bneT h1) <| P0))
/-! loop example/g00886/laws eqIntS -/
noncomputable def Kw_eqIntS : Sw_eqIntS → List Item
  | .h1 .. => nav 300 3 [false] [.code (bdy f11)]
def Zw_eqIntS : Sw_eqIntS → St
  | .h1 va0 b1 i2 => ⟨sts 26 [(0, sl 1 I va0), (1, sl 1 I b1), (5, I i2)], []⟩
abbrev Qw_eqIntS := Nx X 11 0 Kw_eqIntS Zw_eqIntS RB (fun _ => [])
theorem nw_eqIntS : ∀ s o, Bw_eqIntS s = some o → Qw_eqIntS (Kw_eqIntS s) (Zw_eqIntS s) o
  | .h1 va0 b1 i2, o, H =>
    eIf H (fun h1 H =>
      eCk H fun h2 H =>
      eBind H fun x3 hx3 H =>
      eCk H fun h4 H =>
      eBind H fun x5 hx5 H =>
      gN [rg [hT 3]] (by kernel_rfl) (P2 ((decide (i2 < ((va0.length : Nat) : Int))) = true) (decide_eq_true h1) <| P0) <|
      eIf H (fun h6 H =>
        eN H fun r hn => gO [rg [hE 3 (I x3), hE 7 (I x5), hF 8], r0, .canon [] [0, 1, 5]] (by kernel_rfl) (P1 h2 <| P1 (int_lt_of_at h2 hx3) <| P1 (at_map I hx3) <| P1 h4 <| P1 (int_lt_of_at h4 hx5) <| P1 (at_map I hx5) <| P2 (((x3 : Int) != x5) = false) (bneF h6) <| P0) hn)
      (fun h6 H =>
        eN H <| gE func11 [rg [hE 3 (I x3), hE 7 (I x5), hT 8], r0] (by kernel_rfl) (P1 h2 <| P1 (int_lt_of_at h2 hx3) <| P1 (at_map I hx3) <| P1 h4 <| P1 (int_lt_of_at h4 hx5) <| P1 (at_map I hx5) <| P2 (((x3 : Int) != x5) = true) (bneT h6) <| P0)))
    (fun h1 H =>
      eN H <| gE func11 [rg [hF 3], r0] (by kernel_rfl) (P2 ((decide (i2 < ((va0.length : Nat) : Int))) = false) (decide_eq_false h1) <| P0))
theorem ww_eqIntS : ∀ s r, loop Bw_eqIntS s = some r → Wc X 11 0 (Kw_eqIntS s) (Zw_eqIntS s) (RB r) ((fun _ => []) r) := Nx.all nw_eqIntS
theorem cw_eqIntS {a0 : (List Int)} {a1 : (List Int)} {r : Bool} (H : Dw_eqIntS a0 a1 = some r) : Ct X.P X.gl 11 [sl 1 I a0, sl 1 I a1] [] (RB r) [] :=
  Ct.of func11 (c := bdy f11) (by kernel_rfl) (by kernel_rfl) <|
  gS [r0] (by kernel_rfl) P0 <|
  eIf H (fun h1 H =>
    gO [rg [hF 4], r0, .canon [] [0, 1, 5]] (by kernel_rfl) (P2 (((((a0.length : Nat) : Int) : Int) != ((a1.length : Nat) : Int)) = false) (bneF h1) <| P0) (ww_eqIntS _ _ H))
  (fun h1 H =>
    eW RB (fun _ => []) H <| gE func11 [rg [hT 4], r0] (by kernel_rfl) (P2 (((((a0.length : Nat) : Int) : Int) != ((a1.length : Nat) : Int)) = true) (bneT h1) <| P0))
/-! loop example/g00886/laws markNodeS -/
def Rw_markNodeS (r : Int × (List Gi_Node)) : List D := [I r.1]
def Nw_markNodeS (r : Int × (List Gi_Node)) : List Root := [⟨false, false, 3, r.2.length, List.map gi_Node r.2⟩]
noncomputable def Kw_markNodeS : Sw_markNodeS → List Item
  | .h1 .. => nav 300 2 [] [.code (bdy f13)]
def Zw_markNodeS : Sw_markNodeS → St
  | .h1 k0 i1 l2 => ⟨sts 34 [(0, .ref 0 3 none), (1, I k0), (5, I i1)], [some ⟨false, false, 3, l2.length, List.map gi_Node l2⟩]⟩
abbrev Qw_markNodeS := Nx X 13 1 Kw_markNodeS Zw_markNodeS Rw_markNodeS Nw_markNodeS
theorem nw_markNodeS : ∀ s o, Bw_markNodeS s = some o → Qw_markNodeS (Kw_markNodeS s) (Zw_markNodeS s) o
  | .h1 k0 i1 l2, o, H =>
    eIf H (fun h1 H =>
      eCk H fun h2 H =>
      eBind H fun x3 hx3 H =>
      eCk H fun h4 H =>
      eBind H fun x5 hx5 H =>
      eCk H fun h6 H =>
      eBind H fun x7 hx7 H =>
      eN H fun r hn => gO [rg [hT 3], rg [hA 5 ((List.set l2 (Int.toNat i1) (Gi_Node.mk k0 x3.Turn x3.Hash)).length) (List.map gi_Node (List.set l2 (Int.toNat i1) (Gi_Node.mk k0 x3.Turn x3.Hash)))], r0, rg [hA 5 ((List.set (List.set l2 (Int.toNat i1) (Gi_Node.mk k0 x3.Turn x3.Hash)) (Int.toNat i1) (Gi_Node.mk x5.Parent (IntKind.wrap .i64 (k0 + 1)) x5.Hash)).length) (List.map gi_Node (List.set (List.set l2 (Int.toNat i1) (Gi_Node.mk k0 x3.Turn x3.Hash)) (Int.toNat i1) (Gi_Node.mk x5.Parent (IntKind.wrap .i64 (k0 + 1)) x5.Hash)))], r0, rg [hA 5 ((List.set (List.set (List.set l2 (Int.toNat i1) (Gi_Node.mk k0 x3.Turn x3.Hash)) (Int.toNat i1) (Gi_Node.mk x5.Parent (IntKind.wrap .i64 (k0 + 1)) x5.Hash)) (Int.toNat i1) (Gi_Node.mk x7.Parent x7.Turn (IntKind.wrap .i64 ((IntKind.wrap .i64 (k0 + 1)) + 1)))).length) (List.map gi_Node (List.set (List.set (List.set l2 (Int.toNat i1) (Gi_Node.mk k0 x3.Turn x3.Hash)) (Int.toNat i1) (Gi_Node.mk x5.Parent (IntKind.wrap .i64 (k0 + 1)) x5.Hash)) (Int.toNat i1) (Gi_Node.mk x7.Parent x7.Turn (IntKind.wrap .i64 ((IntKind.wrap .i64 (k0 + 1)) + 1)))))], r0, r0, .canon [0] [0, 1, 5]] (by kernel_rfl) (P2 ((decide (i1 < ((l2.length : Nat) : Int))) = true) (decide_eq_true h1) <| P1 h2 <| P1 (int_lt_of_at h2 hx3) <| P1 (lt_of_at hx3) <| P2 (setCells (List.map gi_Node l2) (Int.toNat i1) 0 [I k0] = List.map gi_Node (List.set l2 (Int.toNat i1) (Gi_Node.mk k0 x3.Turn x3.Hash))) (setCells_map hx3 rfl) <| P1 (setLen l2 (Int.toNat i1) (Gi_Node.mk k0 x3.Turn x3.Hash)) <| P1 h4 <| P1 (int_lt_of_at h4 hx5) <| P1 (lt_of_at hx5) <| P2 (setCells (List.map gi_Node (List.set l2 (Int.toNat i1) (Gi_Node.mk k0 x3.Turn x3.Hash))) (Int.toNat i1) 1 [I (IntKind.wrap .i64 (k0 + 1))] = List.map gi_Node (List.set (List.set l2 (Int.toNat i1) (Gi_Node.mk k0 x3.Turn x3.Hash)) (Int.toNat i1) (Gi_Node.mk x5.Parent (IntKind.wrap .i64 (k0 + 1)) x5.Hash))) (setCells_map hx5 rfl) <| P1 (setLen (List.set l2 (Int.toNat i1) (Gi_Node.mk k0 x3.Turn x3.Hash)) (Int.toNat i1) (Gi_Node.mk x5.Parent (IntKind.wrap .i64 (k0 + 1)) x5.Hash)) <| P1 h6 <| P1 (int_lt_of_at h6 hx7) <| P1 (lt_of_at hx7) <| P2 (setCells (List.map gi_Node (List.set (List.set l2 (Int.toNat i1) (Gi_Node.mk k0 x3.Turn x3.Hash)) (Int.toNat i1) (Gi_Node.mk x5.Parent (IntKind.wrap .i64 (k0 + 1)) x5.Hash))) (Int.toNat i1) 2 [I (IntKind.wrap .i64 ((IntKind.wrap .i64 (k0 + 1)) + 1))] = List.map gi_Node (List.set (List.set (List.set l2 (Int.toNat i1) (Gi_Node.mk k0 x3.Turn x3.Hash)) (Int.toNat i1) (Gi_Node.mk x5.Parent (IntKind.wrap .i64 (k0 + 1)) x5.Hash)) (Int.toNat i1) (Gi_Node.mk x7.Parent x7.Turn (IntKind.wrap .i64 ((IntKind.wrap .i64 (k0 + 1)) + 1))))) (setCells_map hx7 rfl) <| P1 (setLen (List.set (List.set l2 (Int.toNat i1) (Gi_Node.mk k0 x3.Turn x3.Hash)) (Int.toNat i1) (Gi_Node.mk x5.Parent (IntKind.wrap .i64 (k0 + 1)) x5.Hash)) (Int.toNat i1) (Gi_Node.mk x7.Parent x7.Turn (IntKind.wrap .i64 ((IntKind.wrap .i64 (k0 + 1)) + 1)))) <| P0) hn)
    (fun h1 H =>
      eN H <| gE func13 [rg [hF 3], r0] (by kernel_rfl) (P2 ((decide (i1 < ((l2.length : Nat) : Int))) = false) (decide_eq_false h1) <| P0))
theorem ww_markNodeS : ∀ s r, loop Bw_markNodeS s = some r → Wc X 13 1 (Kw_markNodeS s) (Zw_markNodeS s) (Rw_markNodeS r) (Nw_markNodeS r) := Nx.all nw_markNodeS
theorem cw_markNodeS {a0 : (List Gi_Node)} {a1 : Int} {r : Int × (List Gi_Node)} (H : Dw_markNodeS a0 a1 = some r) : Ct X.P X.gl 13 [.ref 0 3 none, I a1] [⟨false, false, 3, a0.length, List.map gi_Node a0⟩] (Rw_markNodeS r) (Nw_markNodeS r) :=
  Ct.of func13 (c := bdy f13) (by kernel_rfl) (by kernel_rfl) <|
  gO [r0, r0, .canon [0] [0, 1, 5]] (by kernel_rfl) P0 (ww_markNodeS _ _ H)
/-! loop example/g00886/laws markIntS -/
def Rw_markIntS (r : Int × (List Int)) : List D := [I r.1]
def Nw_markIntS (r : Int × (List Int)) : List Root := [⟨false, false, 1, r.2.length, List.map I r.2⟩]
noncomputable def Kw_markIntS : Sw_markIntS → List Item
  | .h1 .. => nav 300 2 [] [.code (bdy f14)]
def Zw_markIntS : Sw_markIntS → St
  | .h1 k0 i1 l2 => ⟨sts 19 [(0, .ref 0 1 none), (1, I k0), (5, I i1)], [some ⟨false, false, 1, l2.length, List.map I l2⟩]⟩
abbrev Qw_markIntS := Nx X 14 1 Kw_markIntS Zw_markIntS Rw_markIntS Nw_markIntS
theorem nw_markIntS : ∀ s o, Bw_markIntS s = some o → Qw_markIntS (Kw_markIntS s) (Zw_markIntS s) o
  | .h1 k0 i1 l2, o, H =>
    eIf H (fun h1 H =>
      eCk H fun h2 H =>
      eBind H fun x3 hx3 H =>
      eN H fun r hn => gO [rg [hT 3], rg [hA 4 ((List.set l2 (Int.toNat i1) k0).length) (List.map I (List.set l2 (Int.toNat i1) k0))], r0, r0, .canon [0] [0, 1, 5]] (by kernel_rfl) (P2 ((decide (i1 < ((l2.length : Nat) : Int))) = true) (decide_eq_true h1) <| P1 h2 <| P1 (int_lt_of_at h2 hx3) <| P1 (lt_of_at hx3) <| P2 (setCells (List.map I l2) (Int.toNat i1) 0 [I k0] = List.map I (List.set l2 (Int.toNat i1) k0)) (setCells_map hx3 rfl) <| P1 (setLen l2 (Int.toNat i1) k0) <| P0) hn)
    (fun h1 H =>
      eN H <| gE func14 [rg [hF 3], r0] (by kernel_rfl) (P2 ((decide (i1 < ((l2.length : Nat) : Int))) = false) (decide_eq_false h1) <| P0))
theorem ww_markIntS : ∀ s r, loop Bw_markIntS s = some r → Wc X 14 1 (Kw_markIntS s) (Zw_markIntS s) (Rw_markIntS r) (Nw_markIntS r) := Nx.all nw_markIntS
theorem cw_markIntS {a0 : (List Int)} {a1 : Int} {r : Int × (List Int)} (H : Dw_markIntS a0 a1 = some r) : Ct X.P X.gl 14 [.ref 0 1 none, I a1] [⟨false, false, 1, a0.length, List.map I a0⟩] (Rw_markIntS r) (Nw_markIntS r) :=
  Ct.of func14 (c := bdy f14) (by kernel_rfl) (by kernel_rfl) <|
  gO [r0, r0, .canon [0] [0, 1, 5]] (by kernel_rfl) P0 (ww_markIntS _ _ H)
/-! loop example/g00886/laws heldNodeS -/
noncomputable def Kw_heldNodeS : Sw_heldNodeS → List Item
  | .h1 .. => nav 300 2 [] [.code (bdy f20)]
def Zw_heldNodeS : Sw_heldNodeS → St
  | .h1 va0 k1 i2 => ⟨sts 40 [(0, sl 3 gi_Node va0), (1, I k1), (5, I i2)], []⟩
abbrev Qw_heldNodeS := Nx X 20 0 Kw_heldNodeS Zw_heldNodeS RI (fun _ => [])
theorem nw_heldNodeS : ∀ s o, Bw_heldNodeS s = some o → Qw_heldNodeS (Kw_heldNodeS s) (Zw_heldNodeS s) o
  | .h1 va0 k1 i2, o, H =>
    eIf H (fun h1 H =>
      eCk H fun h2 H =>
      eBind H fun x3 hx3 H =>
      gN [rg [hT 3]] (by kernel_rfl) (P2 ((decide (i2 < ((va0.length : Nat) : Int))) = true) (decide_eq_true h1) <| P0) <|
      eIf H (fun h4 H =>
        eCk H fun h5 H =>
        eBind H fun x6 hx6 H =>
        gN [rg [hE 4 (gi_Node x3), hF 6], r0] (by kernel_rfl) (P1 h2 <| P1 (int_lt_of_at h2 hx3) <| P1 (at_map gi_Node hx3) <| P2 (((x3.Parent : Int) != k1) = false) (bneF h4) <| P0) <|
        eIf H (fun h7 H =>
          eCk H fun h8 H =>
          eBind H fun x9 hx9 H =>
          gN [rg [hE 4 (gi_Node x6), hF 6], r0] (by kernel_rfl) (P1 h5 <| P1 (int_lt_of_at h5 hx6) <| P1 (at_map gi_Node hx6) <| P2 (((x6.Turn : Int) != (IntKind.wrap .i64 (k1 + 1))) = false) (bneF h7) <| P0) <|
          eIf H (fun h10 H =>
            eN H fun r hn => gO [rg [hE 4 (gi_Node x9), hF 6], r0, r0, .canon [] [0, 1, 5]] (by kernel_rfl) (P1 h8 <| P1 (int_lt_of_at h8 hx9) <| P1 (at_map gi_Node hx9) <| P2 (((x9.Hash : Int) != (IntKind.wrap .i64 ((IntKind.wrap .i64 (k1 + 1)) + 1))) = false) (bneF h10) <| P0) hn)
          (fun h10 H =>
            eN H <| gE func20 [rg [hE 4 (gi_Node x9), hT 6], r0] (by kernel_rfl) (P1 h8 <| P1 (int_lt_of_at h8 hx9) <| P1 (at_map gi_Node hx9) <| P2 (((x9.Hash : Int) != (IntKind.wrap .i64 ((IntKind.wrap .i64 (k1 + 1)) + 1))) = true) (bneT h10) <| P0)))
        (fun h7 H =>
          eN H <| gE func20 [rg [hE 4 (gi_Node x6), hT 6], r0] (by kernel_rfl) (P1 h5 <| P1 (int_lt_of_at h5 hx6) <| P1 (at_map gi_Node hx6) <| P2 (((x6.Turn : Int) != (IntKind.wrap .i64 (k1 + 1))) = true) (bneT h7) <| P0)))
      (fun h4 H =>
        eN H <| gE func20 [rg [hE 4 (gi_Node x3), hT 6], r0] (by kernel_rfl) (P1 h2 <| P1 (int_lt_of_at h2 hx3) <| P1 (at_map gi_Node hx3) <| P2 (((x3.Parent : Int) != k1) = true) (bneT h4) <| P0)))
    (fun h1 H =>
      eN H <| gE func20 [rg [hF 3], r0] (by kernel_rfl) (P2 ((decide (i2 < ((va0.length : Nat) : Int))) = false) (decide_eq_false h1) <| P0))
theorem ww_heldNodeS : ∀ s r, loop Bw_heldNodeS s = some r → Wc X 20 0 (Kw_heldNodeS s) (Zw_heldNodeS s) (RI r) ((fun _ => []) r) := Nx.all nw_heldNodeS
theorem cw_heldNodeS {a0 : (List Gi_Node)} {a1 : Int} {r : Int} (H : Dw_heldNodeS a0 a1 = some r) : Ct X.P X.gl 20 [sl 3 gi_Node a0, I a1] [] (RI r) [] :=
  Ct.of func20 (c := bdy f20) (by kernel_rfl) (by kernel_rfl) <|
  gO [r0, r0, .canon [] [0, 1, 5]] (by kernel_rfl) P0 (ww_heldNodeS _ _ H)
/-! loop example/g00886/laws heldIntS -/
noncomputable def Kw_heldIntS : Sw_heldIntS → List Item
  | .h1 .. => nav 300 2 [] [.code (bdy f15)]
def Zw_heldIntS : Sw_heldIntS → St
  | .h1 va0 k1 i2 => ⟨sts 21 [(0, sl 1 I va0), (1, I k1), (5, I i2)], []⟩
abbrev Qw_heldIntS := Nx X 15 0 Kw_heldIntS Zw_heldIntS RI (fun _ => [])
theorem nw_heldIntS : ∀ s o, Bw_heldIntS s = some o → Qw_heldIntS (Kw_heldIntS s) (Zw_heldIntS s) o
  | .h1 va0 k1 i2, o, H =>
    eIf H (fun h1 H =>
      eCk H fun h2 H =>
      eBind H fun x3 hx3 H =>
      gN [rg [hT 3]] (by kernel_rfl) (P2 ((decide (i2 < ((va0.length : Nat) : Int))) = true) (decide_eq_true h1) <| P0) <|
      eIf H (fun h4 H =>
        eN H fun r hn => gO [rg [hE 3 (I x3), hF 5], r0, r0, .canon [] [0, 1, 5]] (by kernel_rfl) (P1 h2 <| P1 (int_lt_of_at h2 hx3) <| P1 (at_map I hx3) <| P2 (((x3 : Int) != k1) = false) (bneF h4) <| P0) hn)
      (fun h4 H =>
        eN H <| gE func15 [rg [hE 3 (I x3), hT 5], r0] (by kernel_rfl) (P1 h2 <| P1 (int_lt_of_at h2 hx3) <| P1 (at_map I hx3) <| P2 (((x3 : Int) != k1) = true) (bneT h4) <| P0)))
    (fun h1 H =>
      eN H <| gE func15 [rg [hF 3], r0] (by kernel_rfl) (P2 ((decide (i2 < ((va0.length : Nat) : Int))) = false) (decide_eq_false h1) <| P0))
theorem ww_heldIntS : ∀ s r, loop Bw_heldIntS s = some r → Wc X 15 0 (Kw_heldIntS s) (Zw_heldIntS s) (RI r) ((fun _ => []) r) := Nx.all nw_heldIntS
theorem cw_heldIntS {a0 : (List Int)} {a1 : Int} {r : Int} (H : Dw_heldIntS a0 a1 = some r) : Ct X.P X.gl 15 [sl 1 I a0, I a1] [] (RI r) [] :=
  Ct.of func15 (c := bdy f15) (by kernel_rfl) (by kernel_rfl) <|
  gO [r0, r0, .canon [] [0, 1, 5]] (by kernel_rfl) P0 (ww_heldIntS _ _ H)
/-! loop example/g00886/laws FnExactGraftTree -/
theorem cw_FnExactGraftTree {a0 : (List Gw_Node)} {a1 : (List Gw_Node)} {r : Bool} (H : Dw_FnExactGraftTree a0 a1 = some r) : Ct X.P X.gl 5 [sl 3 gw_Node a0, sl 3 gw_Node a1] [] (RB r) [] :=
  Ct.of func5 (c := bdy f5) (by kernel_rfl) (by kernel_rfl) <|
  eBind H fun r1 hr1 H =>
  gS [r0, r0, rg [hC 2 true [] (RI r1) []]] (by kernel_rfl) (P1 (cw_szNodeS hr1) <| P0) <|
  eIf H (fun h2 H =>
    eW RB (fun _ => []) H <| gE func5 [rg [hT 1], r0] (by kernel_rfl) (P2 ((decide (r1 < 0)) = true) (decide_eq_true h2) <| P0))
  (fun h2 H =>
    eBind H fun r3 hr3 H =>
    gS [rg [hF 1], rg [hC 2 true [] (RI r3) []]] (by kernel_rfl) (P2 ((decide (r1 < 0)) = false) (decide_eq_false h2) <| P1 (cw_szNodeS hr3) <| P0) <|
    eIf H (fun h4 H =>
      eW RB (fun _ => []) H <| gE func5 [rg [hT 1], r0] (by kernel_rfl) (P2 ((decide (r3 < 0)) = true) (decide_eq_true h4) <| P0))
    (fun h4 H =>
      eBind H fun r5 hr5 H =>
      eBind H fun r6 hr6 H =>
      eBind H fun r7 hr7 H =>
      eBind H fun r8 hr8 H =>
      eBind H fun r9 hr9 H =>
      eBind H fun r10 hr10 H =>
      eBind H fun r11 hr11 H =>
      gS [rg [hF 1], rg [hC 1 true [] (Rw_toNodeS r5) [], hC 3 true [] (Rw_toNodeS r6) [], hC 4 false [] (Rs_GraftTree r7) []], rg [hC 1 true [] (Rw_toNodeS r8) []], rg [hC 1 true [] (Rw_toNodeS r9) []], rg [hC 2 false [] (Ri_GraftTree r10) []]] (by kernel_rfl) (P2 ((decide (r3 < 0)) = false) (decide_eq_false h4) <| P1 (cw_toNodeS hr5) <| P1 (cw_toNodeS hr6) <| P2 (nfL (List.flatMap D.cells (Rs_GraftTree r7))) ⟨nfL_map nf_51 _, nfL_map nf_3 _, trivial, trivial⟩ <| P2 (nfG []) trivial <| P1 (cs_GraftTree hr7) <| P1 (cw_toNodeS hr8) <| P1 (cw_toNodeS hr9) <| P2 (nfL (List.flatMap D.cells (Ri_GraftTree r10))) ⟨nfL_map nf_51 _, nfL_map nf_3 _, trivial, trivial⟩ <| P2 (nfG []) trivial <| P1 (ci_GraftTree hr10) <| P0) <|
      eIf H (fun h12 H =>
        eBind H fun r13 hr13 H =>
        eIf H (fun h14 H =>
          eIf H (fun h15 H =>
            eW RB (fun _ => []) H <| gE func5 [rg [{ i := 2, call := some { cl := false, auto := true, ins := [], res := (RB r11), G' := [] }, dec := some true }, { i := 7, call := some { cl := false, auto := true, ins := [], res := (RB r13), G' := [] }, dec := some true }, hT 13], r0] (by kernel_rfl) (P1 (cw_eqNodeS hr11) <| P2 (r11 = true) (h12) <| P1 (cw_eqIntS hr13) <| P2 (r13 = true) (h14) <| P2 ((!(r10.2.2 == r7.2.2)) = true) (h15) <| P0))
          (fun h15 H =>
            eBind H fun r16 hr16 H =>
            eBind H fun r17 hr17 H =>
            gS [rg [{ i := 2, call := some { cl := false, auto := true, ins := [], res := (RB r11), G' := [] }, dec := some true }, { i := 7, call := some { cl := false, auto := true, ins := [], res := (RB r13), G' := [] }, dec := some true }, hF 13]] (by kernel_rfl) (P1 (cw_eqNodeS hr11) <| P2 (r11 = true) (h12) <| P1 (cw_eqIntS hr13) <| P2 (r13 = true) (h14) <| P2 ((!(r10.2.2 == r7.2.2)) = false) (eqF h15) <| P0) <|
            eIf H (fun h18 H =>
              eBind H fun r19 hr19 H =>
              eBind H fun r20 hr20 H =>
              gS [rg [hC 2 true [] (Rw_toNodeS r16) [], { i := 3, call := some { cl := false, auto := true, ins := [], res := (RB r17), G' := [] }, dec := some true }]] (by kernel_rfl) (P1 (cw_toNodeS hr16) <| P1 (cw_eqNodeS hr17) <| P2 (r17 = true) (h18) <| P0) <|
              eIf H (fun h21 H =>
                eBind H fun r22 hr22 H =>
                eCk H fun h23 H =>
                eBind H fun r24 hr24 H =>
                eCk H fun h25 H =>
                gS [rg [hC 2 true [] (Rw_toNodeS r19) [], { i := 3, call := some { cl := false, auto := true, ins := [], res := (RB r20), G' := [] }, dec := some true }], r0, rg [hC 2 true [4] (Rw_markNodeS r22) (Nw_markNodeS r22)], rg [hC 2 true [5] (Rw_markNodeS r24) (Nw_markNodeS r24)]] (by kernel_rfl) (P1 (cw_toNodeS hr19) <| P1 (cw_eqNodeS hr20) <| P2 (r20 = true) (h21) <| P1 h23 <| P1 (cw_markNodeS hr22) <| P1 h25 <| P1 (cw_markNodeS hr24) <| P0) <|
                eIf H (fun h26 H =>
                  eW RB (fun _ => []) H <| gE func5 [rg [hT 1], r0] (by kernel_rfl) (P2 ((decide (r24.1 < 0)) = true) (decide_eq_true h26) <| P0))
                (fun h26 H =>
                  eBind H fun r27 hr27 H =>
                  eIf H (fun h28 H =>
                    eBind H fun r29 hr29 H =>
                    eIf H (fun h30 H =>
                      eIf H (fun h31 H =>
                        eW RB (fun _ => []) H <| gE func5 [rg [hF 1, { i := 5, call := some { cl := false, auto := true, ins := [], res := (RB r27), G' := [] }, dec := some true }, { i := 11, call := some { cl := false, auto := true, ins := [], res := (RB r29), G' := [] }, dec := some true }, hT 17], r0] (by kernel_rfl) (P2 ((decide (r24.1 < 0)) = false) (decide_eq_false h26) <| P1 (cw_eqNodeS hr27) <| P2 (r27 = true) (h28) <| P1 (cw_eqIntS hr29) <| P2 (r29 = true) (h30) <| P2 ((!(r10.2.2 == r7.2.2)) = true) (h31) <| P0))
                      (fun h31 H =>
                        eBind H fun r32 hr32 H =>
                        eCk H fun h33 H =>
                        eBind H fun r34 hr34 H =>
                        eCk H fun h35 H =>
                        eBind H fun r36 hr36 H =>
                        gS [rg [hF 1, { i := 5, call := some { cl := false, auto := true, ins := [], res := (RB r27), G' := [] }, dec := some true }, { i := 11, call := some { cl := false, auto := true, ins := [], res := (RB r29), G' := [] }, dec := some true }, hF 17], r0, rg [hC 2 true [6] (Rw_markNodeS r32) (Nw_markNodeS r32)], rg [hC 2 true [7] (Rw_markIntS r34) (Nw_markIntS r34)], r0, rg [hC 2 false [] (RI r36) []]] (by kernel_rfl) (P2 ((decide (r24.1 < 0)) = false) (decide_eq_false h26) <| P1 (cw_eqNodeS hr27) <| P2 (r27 = true) (h28) <| P1 (cw_eqIntS hr29) <| P2 (r29 = true) (h30) <| P2 ((!(r10.2.2 == r7.2.2)) = false) (eqF h31) <| P1 h33 <| P1 (cw_markNodeS hr32) <| P1 h35 <| P1 (cw_markIntS hr34) <| P1 (cw_heldNodeS hr36) <| P0) <|
                        eIf H (fun h37 H =>
                          eW RB (fun _ => []) H <| gE func5 [rg [hT 1], r0] (by kernel_rfl) (P2 ((decide (r36 < 0)) = true) (decide_eq_true h37) <| P0))
                        (fun h37 H =>
                          eBind H fun r38 hr38 H =>
                          gS [rg [hF 1], rg [hC 2 false [] (RI r38) []]] (by kernel_rfl) (P2 ((decide (r36 < 0)) = false) (decide_eq_false h37) <| P1 (cw_heldIntS hr38) <| P0) <|
                          eIf H (fun h39 H =>
                            eW RB (fun _ => []) H <| gE func5 [rg [hT 1], r0] (by kernel_rfl) (P2 ((decide (r38 < 0)) = true) (decide_eq_true h39) <| P0))
                          (fun h39 H =>
                            gS [rg [hF 1]] (by kernel_rfl) (P2 ((decide (r38 < 0)) = false) (decide_eq_false h39) <| P0) <|
                            eIf H (fun h40 H =>
                              eBind H fun r41 hr41 H =>
                              eBind H fun r42 hr42 H =>
                              eBind H fun r43 hr43 H =>
                              eBind H fun r44 hr44 H =>
                              gS [rg [hF 2], rg [hC 1 true [] (Rw_toNodeS r41) [], hC 3 true [] (Rw_toNodeS r42) [], hC 4 false [] (Ri_GraftTree r43) []]] (by kernel_rfl) (P2 (((r38 : Int) != r34.1) = false) (bneF h40) <| P1 (cw_toNodeS hr41) <| P1 (cw_toNodeS hr42) <| P2 (nfL (List.flatMap D.cells (Ri_GraftTree r43))) ⟨nfL_map nf_51 _, nfL_map nf_3 _, trivial, trivial⟩ <| P2 (nfG []) trivial <| P1 (ci_GraftTree hr43) <| P0) <|
                              eIf H (fun h45 H =>
                                eBind H fun r46 hr46 H =>
                                eIf H (fun h47 H =>
                                  eIf H (fun h48 H =>
                                    eW RB (fun _ => []) H <| gE func5 [rg [{ i := 2, call := some { cl := false, auto := true, ins := [], res := (RB r44), G' := [] }, dec := some true }, { i := 7, call := some { cl := false, auto := true, ins := [], res := (RB r46), G' := [] }, dec := some true }, hT 13], r0] (by kernel_rfl) (P1 (cw_eqNodeS hr44) <| P2 (r44 = true) (h45) <| P1 (cw_eqIntS hr46) <| P2 (r46 = true) (h47) <| P2 ((!(r43.2.2 == r7.2.2)) = true) (h48) <| P0))
                                  (fun h48 H =>
                                    eBind H fun r49 hr49 H =>
                                    gS [rg [{ i := 2, call := some { cl := false, auto := true, ins := [], res := (RB r44), G' := [] }, dec := some true }, { i := 7, call := some { cl := false, auto := true, ins := [], res := (RB r46), G' := [] }, dec := some true }, hF 13], r0, rg [hC 2 false [] (RI r49) []]] (by kernel_rfl) (P1 (cw_eqNodeS hr44) <| P2 (r44 = true) (h45) <| P1 (cw_eqIntS hr46) <| P2 (r46 = true) (h47) <| P2 ((!(r43.2.2 == r7.2.2)) = false) (eqF h48) <| P1 (cw_heldNodeS hr49) <| P0) <|
                                    eIf H (fun h50 H =>
                                      eW RB (fun _ => []) H <| gE func5 [rg [hT 1], r0] (by kernel_rfl) (P2 ((decide (r49 < 0)) = true) (decide_eq_true h50) <| P0))
                                    (fun h50 H =>
                                      eBind H fun r51 hr51 H =>
                                      gS [rg [hF 1], rg [hC 2 false [] (RI r51) []]] (by kernel_rfl) (P2 ((decide (r49 < 0)) = false) (decide_eq_false h50) <| P1 (cw_heldIntS hr51) <| P0) <|
                                      eIf H (fun h52 H =>
                                        eW RB (fun _ => []) H <| gE func5 [rg [hT 1], r0] (by kernel_rfl) (P2 ((decide (r51 < 0)) = true) (decide_eq_true h52) <| P0))
                                      (fun h52 H =>
                                        gS [rg [hF 1]] (by kernel_rfl) (P2 ((decide (r51 < 0)) = false) (decide_eq_false h52) <| P0) <|
                                        eIf H (fun h53 H =>
                                          eW RB (fun _ => []) H <| gE func5 [rg [hF 2], r0] (by kernel_rfl) (P2 (((r51 : Int) != r34.1) = false) (bneF h53) <| P0))
                                        (fun h53 H =>
                                          eW RB (fun _ => []) H <| gE func5 [rg [hT 2], r0] (by kernel_rfl) (P2 (((r51 : Int) != r34.1) = true) (bneT h53) <| P0))))))
                                (fun h47 H =>
                                  eW RB (fun _ => []) H <| gE func5 [rg [{ i := 2, call := some { cl := false, auto := true, ins := [], res := (RB r44), G' := [] }, dec := some true }, { i := 7, call := some { cl := false, auto := true, ins := [], res := (RB r46), G' := [] }, dec := some false }], r0] (by kernel_rfl) (P1 (cw_eqNodeS hr44) <| P2 (r44 = true) (h45) <| P1 (cw_eqIntS hr46) <| P2 (r46 = false) (eqF h47) <| P0)))
                              (fun h45 H =>
                                eW RB (fun _ => []) H <| gE func5 [rg [{ i := 2, call := some { cl := false, auto := true, ins := [], res := (RB r44), G' := [] }, dec := some false }], r0] (by kernel_rfl) (P1 (cw_eqNodeS hr44) <| P2 (r44 = false) (eqF h45) <| P0)))
                            (fun h40 H =>
                              eW RB (fun _ => []) H <| gE func5 [rg [hT 2], r0] (by kernel_rfl) (P2 (((r38 : Int) != r34.1) = true) (bneT h40) <| P0))))))
                    (fun h30 H =>
                      eW RB (fun _ => []) H <| gE func5 [rg [hF 1, { i := 5, call := some { cl := false, auto := true, ins := [], res := (RB r27), G' := [] }, dec := some true }, { i := 11, call := some { cl := false, auto := true, ins := [], res := (RB r29), G' := [] }, dec := some false }], r0] (by kernel_rfl) (P2 ((decide (r24.1 < 0)) = false) (decide_eq_false h26) <| P1 (cw_eqNodeS hr27) <| P2 (r27 = true) (h28) <| P1 (cw_eqIntS hr29) <| P2 (r29 = false) (eqF h30) <| P0)))
                  (fun h28 H =>
                    eW RB (fun _ => []) H <| gE func5 [rg [hF 1, { i := 5, call := some { cl := false, auto := true, ins := [], res := (RB r27), G' := [] }, dec := some false }], r0] (by kernel_rfl) (P2 ((decide (r24.1 < 0)) = false) (decide_eq_false h26) <| P1 (cw_eqNodeS hr27) <| P2 (r27 = false) (eqF h28) <| P0))))
              (fun h21 H =>
                eW RB (fun _ => []) H <| gE func5 [rg [hC 2 true [] (Rw_toNodeS r19) [], { i := 3, call := some { cl := false, auto := true, ins := [], res := (RB r20), G' := [] }, dec := some false }], r0] (by kernel_rfl) (P1 (cw_toNodeS hr19) <| P1 (cw_eqNodeS hr20) <| P2 (r20 = false) (eqF h21) <| P0)))
            (fun h18 H =>
              eW RB (fun _ => []) H <| gE func5 [rg [hC 2 true [] (Rw_toNodeS r16) [], { i := 3, call := some { cl := false, auto := true, ins := [], res := (RB r17), G' := [] }, dec := some false }], r0] (by kernel_rfl) (P1 (cw_toNodeS hr16) <| P1 (cw_eqNodeS hr17) <| P2 (r17 = false) (eqF h18) <| P0))))
        (fun h14 H =>
          eW RB (fun _ => []) H <| gE func5 [rg [{ i := 2, call := some { cl := false, auto := true, ins := [], res := (RB r11), G' := [] }, dec := some true }, { i := 7, call := some { cl := false, auto := true, ins := [], res := (RB r13), G' := [] }, dec := some false }], r0] (by kernel_rfl) (P1 (cw_eqNodeS hr11) <| P2 (r11 = true) (h12) <| P1 (cw_eqIntS hr13) <| P2 (r13 = false) (eqF h14) <| P0)))
      (fun h12 H =>
        eW RB (fun _ => []) H <| gE func5 [rg [{ i := 2, call := some { cl := false, auto := true, ins := [], res := (RB r11), G' := [] }, dec := some false }], r0] (by kernel_rfl) (P1 (cw_eqNodeS hr11) <| P2 (r11 = false) (eqF h12) <| P0))))
end Go.Proofs.Ytgafibhekjnffaa.Ab
