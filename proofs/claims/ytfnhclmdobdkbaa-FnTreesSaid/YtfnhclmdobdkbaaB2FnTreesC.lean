/- Part of the proof of FnTrees: no condition of its own. -/
import Derived.Test.YtfnhclmdobdkbaaChecked
import Derived.Test.YtfnhclmdobdkbaaB2FnTreesD
set_option linter.unusedVariables false
set_option linter.unusedSimpArgs false
open Go Go.Proofs Go.Proofs.Try
namespace Go.Proofs.Ytfnhclmdobdkbaa.Ab
def T : Tab := [(3, ⟨(Ab.TK.int IntKind.i64), 1, 8, (Ab.D.int IntKind.i64 (Int.ofNat 0))⟩),
  (4, ⟨Ab.TK.bool, 1, 1, (Ab.D.bool Bool.false)⟩),
  (5, ⟨(Ab.TK.int IntKind.u8), 1, 1, (Ab.D.int IntKind.u8 (Int.ofNat 0))⟩),
  (22, ⟨(Ab.TK.slice 5), 1, 24, Ab.D.nil⟩),
  (29, ⟨(Ab.TK.slice 3), 1, 24, Ab.D.nil⟩),
  (40, ⟨(Ab.TK.slice 48), 1, 24, Ab.D.nil⟩),
  (48, ⟨(Ab.TK.strct [(Ab.FI.mk 0 1 Bool.false), (Ab.FI.mk 1 1 Bool.false), (Ab.FI.mk 2 1 Bool.false)] (Option.some [(Ab.LK.int IntKind.i64), (Ab.LK.int IntKind.i64), (Ab.LK.int IntKind.i64)])), 3, 24, (Ab.D.agg [(Ab.D.int IntKind.i64 (Int.ofNat 0)), (Ab.D.int IntKind.i64 (Int.ofNat 0)), (Ab.D.int IntKind.i64 (Int.ofNat 0))])⟩),
  (76, ⟨(Ab.TK.int IntKind.u64), 1, 8, (Ab.D.int IntKind.u64 (Int.ofNat 0))⟩),
  (78, ⟨(Ab.TK.strct [(Ab.FI.mk 0 1 Bool.false), (Ab.FI.mk 1 1 Bool.false), (Ab.FI.mk 2 1 Bool.false)] Option.none), 3, 40, (Ab.D.agg [Ab.D.nil, (Ab.D.int IntKind.i64 (Int.ofNat 0)), (Ab.D.int IntKind.u64 (Int.ofNat 0))])⟩)]
noncomputable def X : Ctx := ⟨Go.Proofs.Try.prog, T, []⟩
theorem T_ok : TabOK X.P X.T := ⟨by kernel_rfl, by kernel_rfl, by kernel_rfl, by kernel_rfl, by kernel_rfl, by kernel_rfl, by kernel_rfl, by kernel_rfl, by kernel_rfl, trivial⟩
theorem mixed : X.P.follows .mixedOrders = true := Go.Proofs.Try.checked.mixed
theorem gO {f : FuncId} {M : Nat} {k k' : List Item} {σ σ' : St} {res : List D} {G' : List Root} (cmds : List Cmd) {ps : List Prop} (h : run X M cmds k σ = some (ps, k', σ')) (hp : AllP ps) (hk : Wc X f M k' σ' res G') : Wc X f M k σ res G' := run_ok T_ok mixed h hp hk
theorem gE {f : FuncId} {M : Nat} {k : List Item} {σ : St} {res : List D} {G' : List Root} {fn : Func} (hf : X.P.funcs[f]? = some fn) (cmds : List Cmd) {ps : List Prop} (h : runFinC X M cmds k σ fn.results.toList res = some (ps, res, G')) (hp : AllP ps) : Wc X f M k σ res G' := runFinC_ok T_ok mixed hf h hp
theorem gS {f : FuncId} {M : Nat} {k : List Item} {σ : St} {res : List D} {G' : List Root} (cmds : List Cmd) {ps : List Prop} (h : runP X M cmds k σ = some ps) (hp : AllP ps) (hk : Wc X f M (runK X M cmds k σ) (runS X M cmds k σ) res G') : Wc X f M k σ res G' := seg_ok T_ok mixed cmds h hp hk
theorem gN {ς ρ : Type} {f : FuncId} {M : Nat} {K : ς → List Item} {Z : ς → St} {R : ρ → List D} {G : ρ → List Root} {k : List Item} {σ : St} {o : ς ⊕ ρ} (cmds : List Cmd) {ps : List Prop} (h : runP X M cmds k σ = some ps) (hp : AllP ps) (hk : Nx X f M K Z R G (runK X M cmds k σ) (runS X M cmds k σ) o) : Nx X f M K Z R G k σ o := segN_ok T_ok mixed cmds h hp hk
theorem nf_3 : ∀ x, (I x).nf := fun x => by simp [D.nf, nfL]
theorem nf_48 : ∀ x, (gi_Node x).nf := fun x => by simp [gi_Node, D.nf, nfL]
theorem allFl_3 (l : List Int) : AllFl (List.map I l) := allFl_map (fun x c hc => by simp [D.cells] at hc; rcases hc with rfl <;> rfl) l
theorem allFl_48 (l : List Gi_Node) : AllFl (List.map gi_Node l) := allFl_map (fun x c hc => by simp [gi_Node, D.cells] at hc; rcases hc with rfl | rfl | rfl <;> rfl) l
/-! loop example/g00886/laws big -/
theorem cw_big {a0 : (List Int)} {a1 : (List Int)} {r : Bool} (H : Dw_big a0 a1 = some r) : Ct X.P X.gl 6 [sl 1 (D.int .u8) a0, sl 1 (D.int .u8) a1] [] (RB r) [] :=
  Ct.of func6 (c := bdy f6) (by kernel_rfl) (by kernel_rfl) <|
  gS [r0] (by kernel_rfl) P0 <|
  eIf H (fun h1 H =>
    eW RB (fun _ => []) H <| gE func6 [rg [hT 2]] (by kernel_rfl) (P2 ((decide (((a0.length : Nat) : Int) > 1048576)) = true) (decide_eq_true h1) <| P0))
  (fun h1 H =>
    eW RB (fun _ => []) H <| gE func6 [rg [hF 2]] (by kernel_rfl) (P2 ((decide (((a0.length : Nat) : Int) > 1048576)) = false) (decide_eq_false h1) <| P0))
/-!   loop example/g00886/spec l1Cur  next -/
def Rs_l1Cur_next (r : Int × Gs_l1Cur) : List D := [I r.1]
def Ns_l1Cur_next (r : Int × Gs_l1Cur) : List Root := [⟨false, true, 3, 1, [.agg [sl 1 (D.int .u8) r.2.code, I r.2.at_, .int .u64 r.2.seed]]⟩]
theorem cs_l1Cur_next {a0 : Gs_l1Cur} {r : Int × Gs_l1Cur} (H : Ds_l1Cur_next a0 = some r) : Ct X.P X.gl 106 [.ptr 0 3 0 0] [⟨false, true, 3, 1, [.agg [sl 1 (D.int .u8) a0.code, I a0.at_, .int .u64 a0.seed]]⟩] (Rs_l1Cur_next r) (Ns_l1Cur_next r) :=
  Ct.of func106 (c := bdy f106) (by kernel_rfl) (by kernel_rfl) <|
  gS [r0, r0] (by kernel_rfl) P0 <|
  eIf H (fun h1 H =>
    eCk H fun h2 H =>
    eBind H fun x3 hx3 H =>
    gS [rg [hT 9], rg [hE 9 ((D.int .u8) x3)], r0, r0] (by kernel_rfl) (P2 ((decide (a0.at_ < ((a0.code.length : Nat) : Int))) = true) (decide_eq_true h1) <| P1 h2 <| P1 (int_lt_of_at h2 hx3) <| P1 (at_map (D.int .u8) hx3) <| P0) <|
    eIf H (fun h4 H =>
      eW Rs_l1Cur_next Ns_l1Cur_next H <| gE func106 [rg [hT 9], r0] (by kernel_rfl) (P2 ((decide ((IntKind.wrap .i64 (a0.at_ + 1)) ≤ ((a0.code.length : Nat) : Int))) = true) (decide_eq_true h4) <| P0))
    (fun h4 H =>
      eW Rs_l1Cur_next Ns_l1Cur_next H <| gE func106 [rg [hF 9], r0] (by kernel_rfl) (P2 ((decide ((IntKind.wrap .i64 (a0.at_ + 1)) ≤ ((a0.code.length : Nat) : Int))) = false) (decide_eq_false h4) <| P2 ((0 : Int) ≤ 40) (by decide) <| P0)))
  (fun h1 H =>
    gS [rg [hF 9], r0, r0] (by kernel_rfl) (P2 ((decide (a0.at_ < ((a0.code.length : Nat) : Int))) = false) (decide_eq_false h1) <| P0) <|
    eIf H (fun h2 H =>
      eW Rs_l1Cur_next Ns_l1Cur_next H <| gE func106 [rg [hT 9], r0] (by kernel_rfl) (P2 ((decide ((IntKind.wrap .i64 (a0.at_ + 1)) ≤ ((a0.code.length : Nat) : Int))) = true) (decide_eq_true h2) <| P0))
    (fun h2 H =>
      eW Rs_l1Cur_next Ns_l1Cur_next H <| gE func106 [rg [hF 9], r0] (by kernel_rfl) (P2 ((decide ((IntKind.wrap .i64 (a0.at_ + 1)) ≤ ((a0.code.length : Nat) : Int))) = false) (decide_eq_false h2) <| P2 ((0 : Int) ≤ 40) (by decide) <| P0)))
/-!   loop example/g00886/spec l1Cur  pick -/
def Rs_l1Cur_pick (r : Int × Gs_l1Cur) : List D := [I r.1]
def Ns_l1Cur_pick (r : Int × Gs_l1Cur) : List Root := [⟨false, true, 3, 1, [.agg [sl 1 (D.int .u8) r.2.code, I r.2.at_, .int .u64 r.2.seed]]⟩]
theorem cs_l1Cur_pick {a0 : Gs_l1Cur} {a1 : Int} {r : Int × Gs_l1Cur} (H : Ds_l1Cur_pick a0 a1 = some r) : Ct X.P X.gl 58 [.ptr 0 3 0 0, I a1] [⟨false, true, 3, 1, [.agg [sl 1 (D.int .u8) a0.code, I a0.at_, .int .u64 a0.seed]]⟩] (Rs_l1Cur_pick r) (Ns_l1Cur_pick r) :=
  Ct.of func58 (c := bdy f58) (by kernel_rfl) (by kernel_rfl) <|
  gS [r0] (by kernel_rfl) P0 <|
  eIf H (fun h1 H =>
    eW Rs_l1Cur_pick Ns_l1Cur_pick H <| gE func58 [rg [hT 1], r0] (by kernel_rfl) (P2 ((decide (a1 ≤ 1)) = true) (decide_eq_true h1) <| P0))
  (fun h1 H =>
    eBind H fun r2 hr2 H =>
    gS [rg [hF 1], rg [hC 1 true [0] (Rs_l1Cur_next r2) (Ns_l1Cur_next r2)]] (by kernel_rfl) (P2 ((decide (a1 ≤ 1)) = false) (decide_eq_false h1) <| PI (1 : Nat) <| P1 (cs_l1Cur_next hr2) <| P0) <|
    eIf H (fun h3 H =>
      eBind H fun r4 hr4 H =>
      eCk H fun h5 H =>
      eW Rs_l1Cur_pick Ns_l1Cur_pick H <| gE func58 [rg [hT 1], rg [hC 3 true [0] (Rs_l1Cur_next r4) (Ns_l1Cur_next r4)], r0] (by kernel_rfl) (P2 ((decide (a1 > 200)) = true) (decide_eq_true h3) <| PI (1 : Nat) <| P1 (cs_l1Cur_next hr4) <| P2 (¬ (a1 : Int) = 0) h5 <| P0))
    (fun h3 H =>
      eCk H fun h4 H =>
      eW Rs_l1Cur_pick Ns_l1Cur_pick H <| gE func58 [rg [hF 1], r0] (by kernel_rfl) (P2 ((decide (a1 > 200)) = false) (decide_eq_false h3) <| P2 (¬ (a1 : Int) = 0) h4 <| P0)))
/-! loop example/g00886/spec nChild -/
noncomputable def Ks_nChild : Ss_nChild → List Item
  | .h1 .. => nav 300 2 [] [.code (bdy f111)]
def Zs_nChild : Ss_nChild → St
  | .h1 parent0 vhash1 t2 t3 t4 => ⟨sts 28 [(1, I parent0), (2, I vhash1), (9, sl 3 gi_Node t2), (10, I t3), (11, I t4)], []⟩
abbrev Qs_nChild := Nx X 111 0 Ks_nChild Zs_nChild RI (fun _ => [])
theorem ns_nChild : ∀ s o, Bs_nChild s = some o → Qs_nChild (Ks_nChild s) (Zs_nChild s) o
  | .h1 parent0 vhash1 t2 t3 t4, o, H =>
    eIf H (fun h1 H =>
      eCk H fun h2 H =>
      eBind H fun x3 hx3 H =>
      gN [rg [hT 0], rg [hE 2 (gi_Node x3)]] (by kernel_rfl) (P2 ((decide (t4 < t3)) = true) (decide_eq_true h1) <| P1 h2 <| P1 (int_lt_of_at h2 hx3) <| P1 (at_map gi_Node hx3) <| P0) <|
      eIf H (fun h4 H =>
        eIf H (fun h5 H =>
          eN H <| gE func111 [rg [hT 3, hT 8], r0] (by kernel_rfl) (P2 (((x3.Parent : Int) == parent0) = true) (beqT h4) <| P2 (((x3.Hash : Int) == vhash1) = true) (beqT h5) <| P0))
        (fun h5 H =>
          eN H fun r hn => gO [rg [hT 3, hF 8], r0, .canon [] [1, 2, 9, 10, 11]] (by kernel_rfl) (P2 (((x3.Parent : Int) == parent0) = true) (beqT h4) <| P2 (((x3.Hash : Int) == vhash1) = false) (beqF h5) <| P0) hn))
      (fun h4 H =>
        eN H fun r hn => gO [rg [hF 3], r0, .canon [] [1, 2, 9, 10, 11]] (by kernel_rfl) (P2 (((x3.Parent : Int) == parent0) = false) (beqF h4) <| P0) hn))
    (fun h1 H =>
      eN H <| gE func111 [rg [hF 0], r0] (by kernel_rfl) (P2 ((decide (t4 < t3)) = false) (decide_eq_false h1) <| P0))
theorem ws_nChild : ∀ s r, loop Bs_nChild s = some r → Wc X 111 0 (Ks_nChild s) (Zs_nChild s) (RI r) ((fun _ => []) r) := Nx.all ns_nChild
theorem cs_nChild {a0 : (List Gi_Node)} {a1 : Int} {a2 : Int} {r : Int} (H : Ds_nChild a0 a1 a2 = some r) : Ct X.P X.gl 111 [sl 3 gi_Node a0, I a1, I a2] [] (RI r) [] :=
  Ct.of func111 (c := bdy f111) (by kernel_rfl) (by kernel_rfl) <|
  gO [r0, r0, .canon [] [1, 2, 9, 10, 11]] (by kernel_rfl) P0 (ws_nChild _ _ H)
/-! loop example/g00886/spec nAdd -/
def Rs_nAdd (r : (List Gi_Node) × Int × Bool) : List D := [ow 3 gi_Node r.1, I r.2.1, .bool r.2.2]
theorem cs_nAdd {a0 : (List Gi_Node)} {a1 : Int} {a2 : Int} {r : (List Gi_Node) × Int × Bool} (H : Ds_nAdd a0 a1 a2 = some r) : Ct X.P X.gl 74 [sl 3 gi_Node a0, I a1, I a2] [] (Rs_nAdd r) [] :=
  Ct.of func74 (c := bdy f74) (by kernel_rfl) (by kernel_rfl) <|
  eBind H fun r1 hr1 H =>
  gS [r0, rg [hC 3 true [] (RI r1) []]] (by kernel_rfl) (P1 (cs_nChild hr1) <| P0) <|
  eIf H (fun h2 H =>
    eCk H fun h3 H =>
    eW Rs_nAdd (fun _ => []) H <| gE func74 [rg [hT 1], rg [hA 2 a0.length (List.map gi_Node a0)]] (by kernel_rfl) (P2 ((decide (r1 ≥ 0)) = true) (decide_eq_true h2) <| P2 (AllFl (List.map gi_Node a0)) (allFl_48 _) <| P2 (a0.length = ([] : List Gi_Node).length + a0.length) (by simp <;> omega) <| P2 ((([] : List Gi_Node).length + a0.length) * 24 ≤ 70368744177664) (by have := h3; simp at this ⊢ <;> omega) <| P2 (List.map gi_Node ([] : List Gi_Node) ++ List.map gi_Node a0 = List.map gi_Node a0) (by simp) <| P0))
  (fun h2 H =>
    gS [rg [hF 1]] (by kernel_rfl) (P2 ((decide (r1 ≥ 0)) = false) (decide_eq_false h2) <| P0) <|
    eIf H (fun h3 H =>
      eW Rs_nAdd (fun _ => []) H <| gE func74 [rg [hT 2], r0] (by kernel_rfl) (P2 (((((a0.length : Nat) : Int) : Int) == 40) = true) (beqT h3) <| P0))
    (fun h3 H =>
      eCk H fun h4 H =>
      eBind H fun x5 hx5 H =>
      eIf H (fun h6 H =>
        eW Rs_nAdd (fun _ => []) H <| gE func74 [rg [hF 2, hE 8 (gi_Node x5), hT 9], r0] (by kernel_rfl) (P2 (((((a0.length : Nat) : Int) : Int) == 40) = false) (beqF h3) <| P1 h4 <| P1 (int_lt_of_at h4 hx5) <| P1 (at_map gi_Node hx5) <| P2 (((x5.Turn : Int) == 30) = true) (beqT h6) <| P0))
      (fun h6 H =>
        eCk H fun h7 H =>
        eCk H fun h8 H =>
        eBind H fun x9 hx9 H =>
        eCk H fun h10 H =>
        eW Rs_nAdd (fun _ => []) H <| gE func74 [rg [hF 2, hE 8 (gi_Node x5), hF 9], rg [hA 2 a0.length (List.map gi_Node a0)], rg [hE 6 (gi_Node x9), hA 11 ((a0 ++ [(Gi_Node.mk a1 (IntKind.wrap .i64 (x9.Turn + 1)) a2)]).length) (List.map gi_Node (a0 ++ [(Gi_Node.mk a1 (IntKind.wrap .i64 (x9.Turn + 1)) a2)]))]] (by kernel_rfl) (P2 (((((a0.length : Nat) : Int) : Int) == 40) = false) (beqF h3) <| P1 h4 <| P1 (int_lt_of_at h4 hx5) <| P1 (at_map gi_Node hx5) <| P2 (((x5.Turn : Int) == 30) = false) (beqF h6) <| P2 (AllFl (List.map gi_Node a0)) (allFl_48 _) <| P2 (a0.length = ([] : List Gi_Node).length + a0.length) (by simp <;> omega) <| P2 ((([] : List Gi_Node).length + a0.length) * 24 ≤ 70368744177664) (by have := h7; simp at this ⊢ <;> omega) <| P2 (List.map gi_Node ([] : List Gi_Node) ++ List.map gi_Node a0 = List.map gi_Node a0) (by simp) <| P1 h8 <| P1 (int_lt_of_at h8 hx9) <| P1 (at_map gi_Node hx9) <| P1 (apL a0 [(Gi_Node.mk a1 (IntKind.wrap .i64 (x9.Turn + 1)) a2)]) <| P1 (apB h10) <| P1 (apM gi_Node a0 [(Gi_Node.mk a1 (IntKind.wrap .i64 (x9.Turn + 1)) a2)]) <| P0))))
/-!   loop example/g00886/spec l1Cur  nodes -/
def Rs_l1Cur_nodes (r : (List Gi_Node) × Gs_l1Cur) : List D := [ow 3 gi_Node r.1]
def Ns_l1Cur_nodes (r : (List Gi_Node) × Gs_l1Cur) : List Root := [⟨false, true, 3, 1, [.agg [sl 1 (D.int .u8) r.2.code, I r.2.at_, .int .u64 r.2.seed]]⟩]
noncomputable def Ks_l1Cur_nodes : Ss_l1Cur_nodes → List Item
  | .h1 .. => nav 300 3 [] [.code (bdy f110)]
def Zs_l1Cur_nodes : Ss_l1Cur_nodes → St
  | .h1 k0 b1 l2 => ⟨sts 33 [(0, .ptr 0 3 0 0), (3, .ref 1 3 none), (4, I k0)], [some ⟨false, true, 3, 1, [.agg [sl 1 (D.int .u8) b1.code, I b1.at_, .int .u64 b1.seed]]⟩, some ⟨false, false, 3, l2.length, List.map gi_Node l2⟩]⟩
abbrev Qs_l1Cur_nodes := Nx X 110 1 Ks_l1Cur_nodes Zs_l1Cur_nodes Rs_l1Cur_nodes Ns_l1Cur_nodes
theorem ns_l1Cur_nodes : ∀ s o, Bs_l1Cur_nodes s = some o → Qs_l1Cur_nodes (Ks_l1Cur_nodes s) (Zs_l1Cur_nodes s) o
  | .h1 k0 b1 l2, o, H =>
    eIf H (fun h1 H =>
      eBind H fun r2 hr2 H =>
      eBind H fun r3 hr3 H =>
      eBind H fun r4 hr4 H =>
      gN [rg [hT 1], rg [hC 3 true [0] (Rs_l1Cur_pick r2) (Ns_l1Cur_pick r2)]] (by kernel_rfl) (P2 ((decide (k0 > 0)) = true) (decide_eq_true h1) <| PI (1 : Nat) <| P1 (cs_l1Cur_pick hr2) <| P0) <|
      eIf H (fun h5 H =>
        eN H fun r hn => gO [rg [hC 3 true [0] (Rs_l1Cur_pick r3) (Ns_l1Cur_pick r3), hC 4 false [] (Rs_nAdd r4) [], hT 8], r0, r0, r0, .canon [0, 2] [0, 3, 4]] (by kernel_rfl) (PI (1 : Nat) <| P1 (cs_l1Cur_pick hr3) <| P2 (nfL (List.flatMap D.cells (Rs_nAdd r4))) ⟨nfL_map nf_48 _, trivial, trivial, trivial⟩ <| P2 (nfG []) trivial <| P1 (cs_nAdd hr4) <| P2 (r4.2.2 = true) (h5) <| P0) hn)
      (fun h5 H =>
        eN H fun r hn => gO [rg [hC 3 true [0] (Rs_l1Cur_pick r3) (Ns_l1Cur_pick r3), hC 4 false [] (Rs_nAdd r4) [], hF 8], r0, r0, .canon [0, 1] [0, 3, 4]] (by kernel_rfl) (PI (1 : Nat) <| P1 (cs_l1Cur_pick hr3) <| P2 (nfL (List.flatMap D.cells (Rs_nAdd r4))) ⟨nfL_map nf_48 _, trivial, trivial, trivial⟩ <| P2 (nfG []) trivial <| P1 (cs_nAdd hr4) <| P2 (r4.2.2 = false) (eqF h5) <| P0) hn))
    (fun h1 H =>
      eN H <| gE func110 [rg [hF 1], r0] (by kernel_rfl) (P2 ((decide (k0 > 0)) = false) (decide_eq_false h1) <| P0))
theorem ws_l1Cur_nodes : ∀ s r, loop Bs_l1Cur_nodes s = some r → Wc X 110 1 (Ks_l1Cur_nodes s) (Zs_l1Cur_nodes s) (Rs_l1Cur_nodes r) (Ns_l1Cur_nodes r) := Nx.all ns_l1Cur_nodes
theorem cs_l1Cur_nodes {a0 : Gs_l1Cur} {r : (List Gi_Node) × Gs_l1Cur} (H : Ds_l1Cur_nodes a0 = some r) : Ct X.P X.gl 110 [.ptr 0 3 0 0] [⟨false, true, 3, 1, [.agg [sl 1 (D.int .u8) a0.code, I a0.at_, .int .u64 a0.seed]]⟩] (Rs_l1Cur_nodes r) (Ns_l1Cur_nodes r) :=
  Ct.of func110 (c := bdy f110) (by kernel_rfl) (by kernel_rfl) <|
  eBind H fun r1 hr1 H =>
  gO [r0, r0, rg [hC 1 true [0] (Rs_l1Cur_pick r1) (Ns_l1Cur_pick r1)], .canon [0, 1] [0, 3, 4]] (by kernel_rfl) (PI (1 : Nat) <| P1 (cs_l1Cur_pick hr1) <| P0) (ws_l1Cur_nodes _ _ H)
/-!   loop example/g00886/spec l1Cur  one -/
def Rs_l1Cur_one (r : Bool × Gs_l1Cur) : List D := [.bool r.1]
def Ns_l1Cur_one (r : Bool × Gs_l1Cur) : List Root := [⟨false, true, 3, 1, [.agg [sl 1 (D.int .u8) r.2.code, I r.2.at_, .int .u64 r.2.seed]]⟩]
theorem cs_l1Cur_one {a0 : Gs_l1Cur} {a1 : Int} {r : Bool × Gs_l1Cur} (H : Ds_l1Cur_one a0 a1 = some r) : Ct X.P X.gl 59 [.ptr 0 3 0 0, I a1] [⟨false, true, 3, 1, [.agg [sl 1 (D.int .u8) a0.code, I a0.at_, .int .u64 a0.seed]]⟩] (Rs_l1Cur_one r) (Ns_l1Cur_one r) :=
  Ct.of func59 (c := bdy f59) (by kernel_rfl) (by kernel_rfl) <|
  eBind H fun r1 hr1 H =>
  eW Rs_l1Cur_one Ns_l1Cur_one H <| gE func59 [r0, rg [hC 2 true [0] (Rs_l1Cur_pick r1) (Ns_l1Cur_pick r1)]] (by kernel_rfl) (PI (1 : Nat) <| P1 (cs_l1Cur_pick hr1) <| P0)
/-!   loop example/g00886/spec l1Cur  among -/
def Rs_l1Cur_among (r : Int × Gs_l1Cur) : List D := [I r.1]
def Ns_l1Cur_among (r : Int × Gs_l1Cur) : List Root := [⟨false, true, 3, 1, [.agg [sl 1 (D.int .u8) r.2.code, I r.2.at_, .int .u64 r.2.seed]]⟩]
theorem cs_l1Cur_among {a0 : Gs_l1Cur} {a1 : (List Int)} {r : Int × Gs_l1Cur} (H : Ds_l1Cur_among a0 a1 = some r) : Ct X.P X.gl 104 [.ptr 0 3 0 0, sl 1 I a1] [⟨false, true, 3, 1, [.agg [sl 1 (D.int .u8) a0.code, I a0.at_, .int .u64 a0.seed]]⟩] (Rs_l1Cur_among r) (Ns_l1Cur_among r) :=
  Ct.of func104 (c := bdy f104) (by kernel_rfl) (by kernel_rfl) <|
  eBind H fun r1 hr1 H =>
  eCk H fun h2 H =>
  eBind H fun x3 hx3 H =>
  eW Rs_l1Cur_among Ns_l1Cur_among H <| gE func104 [r0, rg [hC 4 true [0] (Rs_l1Cur_pick r1) (Ns_l1Cur_pick r1), hE 6 (I x3)]] (by kernel_rfl) (PI (1 : Nat) <| P1 (cs_l1Cur_pick hr1) <| P1 h2 <| P1 (int_lt_of_at h2 hx3) <| P1 (at_map I hx3) <| P0)
/-!   loop example/g00886/spec l1Cur  seedOf -/
def Rs_l1Cur_seedOf (r : Int × Gs_l1Cur) : List D := [I r.1]
def Ns_l1Cur_seedOf (r : Int × Gs_l1Cur) : List Root := [⟨false, true, 3, 1, [.agg [sl 1 (D.int .u8) r.2.code, I r.2.at_, .int .u64 r.2.seed]]⟩]
theorem cs_l1Cur_seedOf {a0 : Gs_l1Cur} {r : Int × Gs_l1Cur} (H : Ds_l1Cur_seedOf a0 = some r) : Ct X.P X.gl 117 [.ptr 0 3 0 0] [⟨false, true, 3, 1, [.agg [sl 1 (D.int .u8) a0.code, I a0.at_, .int .u64 a0.seed]]⟩] (Rs_l1Cur_seedOf r) (Ns_l1Cur_seedOf r) :=
  Ct.of func117 (c := bdy f117) (by kernel_rfl) (by kernel_rfl) <|
  eBind H fun r1 hr1 H =>
  gS [r0, rg [hC 1 true [0] (Rs_l1Cur_pick r1) (Ns_l1Cur_pick r1)]] (by kernel_rfl) (PI (1 : Nat) <| P1 (cs_l1Cur_pick hr1) <| P0) <|
  eIf H (fun h2 H =>
    eW Rs_l1Cur_seedOf Ns_l1Cur_seedOf H <| gE func117 [rg [hT 0], r0] (by kernel_rfl) (P2 (((r1.1 : Int) == 0) = true) (beqT h2) <| P0))
  (fun h2 H =>
    gS [rg [hF 0]] (by kernel_rfl) (P2 (((r1.1 : Int) == 0) = false) (beqF h2) <| P0) <|
    eIf H (fun h3 H =>
      eBind H fun r4 hr4 H =>
      eW Rs_l1Cur_seedOf Ns_l1Cur_seedOf H <| gE func117 [rg [hT 0], rg [{ i := 2, frz := [1], call := some { cl := true, auto := true, ins := [0], res := (Rs_l1Cur_among r4), G' := (Ns_l1Cur_among r4) } }]] (by kernel_rfl) (P2 (((r1.1 : Int) == 1) = true) (beqT h3) <| PI (1 : Nat) <| P1 (cs_l1Cur_among hr4) <| P0))
    (fun h3 H =>
      eBind H fun r4 hr4 H =>
      eW Rs_l1Cur_seedOf Ns_l1Cur_seedOf H <| gE func117 [rg [hF 0], rg [hC 1 true [0] (Rs_l1Cur_pick r4) (Ns_l1Cur_pick r4)]] (by kernel_rfl) (P2 (((r1.1 : Int) == 1) = false) (beqF h3) <| PI (1 : Nat) <| P1 (cs_l1Cur_pick hr4) <| P0)))
/-!   loop example/g00886/spec l1Cur  anySeed -/
def Rs_l1Cur_anySeed (r : Int × Gs_l1Cur) : List D := [I r.1]
def Ns_l1Cur_anySeed (r : Int × Gs_l1Cur) : List Root := [⟨false, true, 3, 1, [.agg [sl 1 (D.int .u8) r.2.code, I r.2.at_, .int .u64 r.2.seed]]⟩]
theorem cs_l1Cur_anySeed {a0 : Gs_l1Cur} {r : Int × Gs_l1Cur} (H : Ds_l1Cur_anySeed a0 = some r) : Ct X.P X.gl 85 [.ptr 0 3 0 0] [⟨false, true, 3, 1, [.agg [sl 1 (D.int .u8) a0.code, I a0.at_, .int .u64 a0.seed]]⟩] (Rs_l1Cur_anySeed r) (Ns_l1Cur_anySeed r) :=
  Ct.of func85 (c := bdy f85) (by kernel_rfl) (by kernel_rfl) <|
  eBind H fun r1 hr1 H =>
  gS [r0] (by kernel_rfl) P0 <|
  eIf H (fun h2 H =>
    eBind H fun r3 hr3 H =>
    eW Rs_l1Cur_anySeed Ns_l1Cur_anySeed H <| gE func85 [rg [{ i := 1, call := some { cl := true, auto := true, ins := [0], res := (Rs_l1Cur_one r1), G' := (Ns_l1Cur_one r1) }, dec := some true }], rg [{ i := 2, frz := [1], call := some { cl := true, auto := true, ins := [0], res := (Rs_l1Cur_among r3), G' := (Ns_l1Cur_among r3) } }]] (by kernel_rfl) (PI (1 : Nat) <| P1 (cs_l1Cur_one hr1) <| P2 (r1.1 = true) (h2) <| PI (1 : Nat) <| P1 (cs_l1Cur_among hr3) <| P0))
  (fun h2 H =>
    eBind H fun r3 hr3 H =>
    eW Rs_l1Cur_anySeed Ns_l1Cur_anySeed H <| gE func85 [rg [{ i := 1, call := some { cl := true, auto := true, ins := [0], res := (Rs_l1Cur_one r1), G' := (Ns_l1Cur_one r1) }, dec := some false }], rg [hC 1 true [0] (Rs_l1Cur_seedOf r3) (Ns_l1Cur_seedOf r3)]] (by kernel_rfl) (PI (1 : Nat) <| P1 (cs_l1Cur_one hr1) <| P2 (r1.1 = false) (eqF h2) <| PI (1 : Nat) <| P1 (cs_l1Cur_seedOf hr3) <| P0))
/-!   loop example/g00886/spec l1Cur  anyNodes -/
def Rs_l1Cur_anyNodes (r : (List Gi_Node) × Gs_l1Cur) : List D := [ow 3 gi_Node r.1]
def Ns_l1Cur_anyNodes (r : (List Gi_Node) × Gs_l1Cur) : List Root := [⟨false, true, 3, 1, [.agg [sl 1 (D.int .u8) r.2.code, I r.2.at_, .int .u64 r.2.seed]]⟩]
noncomputable def Ks_l1Cur_anyNodes : Ss_l1Cur_anyNodes → List Item
  | .h1 .. => nav 300 8 [false, false, false, true] [.code (bdy f70)]
  | .h2 .. => nav 300 10 [false, false, false, false, false, true] [.code (bdy f70)]
def Zs_l1Cur_anyNodes : Ss_l1Cur_anyNodes → St
  | .h1 t0 b1 l2 => ⟨sts 80 [(3, .ref 1 3 none), (4, I t0)], [some ⟨false, true, 3, 1, [.agg [sl 1 (D.int .u8) b1.code, I b1.at_, .int .u64 b1.seed]]⟩, some ⟨false, false, 3, l2.length, List.map gi_Node l2⟩]⟩
  | .h2 b0 l1 => ⟨sts 80 [(3, .ref 1 3 none)], [some ⟨false, true, 3, 1, [.agg [sl 1 (D.int .u8) b0.code, I b0.at_, .int .u64 b0.seed]]⟩, some ⟨false, false, 3, l1.length, List.map gi_Node l1⟩]⟩
abbrev Qs_l1Cur_anyNodes := Nx X 70 1 Ks_l1Cur_anyNodes Zs_l1Cur_anyNodes Rs_l1Cur_anyNodes Ns_l1Cur_anyNodes
theorem ns_l1Cur_anyNodes : ∀ s o, Bs_l1Cur_anyNodes s = some o → Qs_l1Cur_anyNodes (Ks_l1Cur_anyNodes s) (Zs_l1Cur_anyNodes s) o
  | .h1 t0 b1 l2, o, H =>
    eIf H (fun h1 H =>
      eCk H fun h2 H =>
      eN H fun r hn => gO [rg [hT 3], rg [hA 6 ((l2 ++ [(Gi_Node.mk 0 1 (IntKind.wrap .i64 (100 + ((l2.length : Nat) : Int))))]).length) (List.map gi_Node (l2 ++ [(Gi_Node.mk 0 1 (IntKind.wrap .i64 (100 + ((l2.length : Nat) : Int))))]))], .canon [0, 3] [3, 4]] (by kernel_rfl) (P2 ((decide (((l2.length : Nat) : Int) < t0)) = true) (decide_eq_true h1) <| P1 (apL l2 [(Gi_Node.mk 0 1 (IntKind.wrap .i64 (100 + ((l2.length : Nat) : Int))))]) <| P1 (apB h2) <| P1 (apM gi_Node l2 [(Gi_Node.mk 0 1 (IntKind.wrap .i64 (100 + ((l2.length : Nat) : Int))))]) <| P0) hn)
    (fun h1 H =>
      eN H <| gE func70 [rg [hF 3], r0] (by kernel_rfl) (P2 ((decide (((l2.length : Nat) : Int) < t0)) = false) (decide_eq_false h1) <| P0))
  | .h2 b0 l1, o, H =>
    eIf H (fun h1 H =>
      eCk H fun h2 H =>
      eN H fun r hn => gO [rg [hT 2], rg [hA 8 ((l1 ++ [(Gi_Node.mk (IntKind.wrap .i64 (((l1.length : Nat) : Int) - 1)) ((l1.length : Nat) : Int) 1)]).length) (List.map gi_Node (l1 ++ [(Gi_Node.mk (IntKind.wrap .i64 (((l1.length : Nat) : Int) - 1)) ((l1.length : Nat) : Int) 1)]))], .canon [0, 3] [3]] (by kernel_rfl) (P2 ((decide (((l1.length : Nat) : Int) < 31)) = true) (decide_eq_true h1) <| P1 (apL l1 [(Gi_Node.mk (IntKind.wrap .i64 (((l1.length : Nat) : Int) - 1)) ((l1.length : Nat) : Int) 1)]) <| P1 (apB h2) <| P1 (apM gi_Node l1 [(Gi_Node.mk (IntKind.wrap .i64 (((l1.length : Nat) : Int) - 1)) ((l1.length : Nat) : Int) 1)]) <| P0) hn)
    (fun h1 H =>
      eN H <| gE func70 [rg [hF 2], r0] (by kernel_rfl) (P2 ((decide (((l1.length : Nat) : Int) < 31)) = false) (decide_eq_false h1) <| P0))
theorem ws_l1Cur_anyNodes : ∀ s r, loop Bs_l1Cur_anyNodes s = some r → Wc X 70 1 (Ks_l1Cur_anyNodes s) (Zs_l1Cur_anyNodes s) (Rs_l1Cur_anyNodes r) (Ns_l1Cur_anyNodes r) := Nx.all ns_l1Cur_anyNodes
theorem cs_l1Cur_anyNodes {a0 : Gs_l1Cur} {r : (List Gi_Node) × Gs_l1Cur} (H : Ds_l1Cur_anyNodes a0 = some r) : Ct X.P X.gl 70 [.ptr 0 3 0 0] [⟨false, true, 3, 1, [.agg [sl 1 (D.int .u8) a0.code, I a0.at_, .int .u64 a0.seed]]⟩] (Rs_l1Cur_anyNodes r) (Ns_l1Cur_anyNodes r) :=
  Ct.of func70 (c := bdy f70) (by kernel_rfl) (by kernel_rfl) <|
  eBind H fun r1 hr1 H =>
  eBind H fun r2 hr2 H =>
  gS [r0, rg [hC 1 true [0] (Rs_l1Cur_nodes r1) (Ns_l1Cur_nodes r1)], rg [hC 1 true [0] (Rs_l1Cur_pick r2) (Ns_l1Cur_pick r2)]] (by kernel_rfl) (PI (1 : Nat) <| P1 (cs_l1Cur_nodes hr1) <| PI (1 : Nat) <| P1 (cs_l1Cur_pick hr2) <| P0) <|
  eIf H (fun h3 H =>
    eBind H fun x4 hx4 H =>
    eW Rs_l1Cur_anyNodes Ns_l1Cur_anyNodes H <| gE func70 [rg [hT 0], rg [hA 3 ((List.set r1.1 (Int.toNat 0) (Gi_Node.mk 0 x4.Turn x4.Hash)).length) (List.map gi_Node (List.set r1.1 (Int.toNat 0) (Gi_Node.mk 0 x4.Turn x4.Hash)))], r0] (by kernel_rfl) (P2 (((r2.1 : Int) == 0) = true) (beqT h3) <| P2 ((0 : Int) ≤ 0) (by decide) <| P1 (int_lt_of_at (by decide : (0 : Int) ≤ 0) hx4) <| P1 (lt_of_at hx4) <| P2 (setCells (List.map gi_Node r1.1) (Int.toNat 0) 0 [I 0] = List.map gi_Node (List.set r1.1 (Int.toNat 0) (Gi_Node.mk 0 x4.Turn x4.Hash))) (setCells_map hx4 rfl) <| P1 (setLen r1.1 (Int.toNat 0) (Gi_Node.mk 0 x4.Turn x4.Hash)) <| P0))
  (fun h3 H =>
    gS [rg [hF 0]] (by kernel_rfl) (P2 (((r2.1 : Int) == 0) = false) (beqF h3) <| P0) <|
    eIf H (fun h4 H =>
      eCk H fun h5 H =>
      eBind H fun x6 hx6 H =>
      eCk H fun h7 H =>
      eW Rs_l1Cur_anyNodes Ns_l1Cur_anyNodes H <| gE func70 [rg [hT 0], rg [hE 6 (gi_Node x6), hA 8 ((r1.1 ++ [x6]).length) (List.map gi_Node (r1.1 ++ [x6]))], r0] (by kernel_rfl) (P2 (((r2.1 : Int) == 1) = true) (beqT h4) <| P1 h5 <| P1 (int_lt_of_at h5 hx6) <| P1 (at_map gi_Node hx6) <| P1 (apL r1.1 [x6]) <| P1 (apB h7) <| P1 (apM gi_Node r1.1 [x6]) <| P0))
    (fun h4 H =>
      gS [rg [hF 0]] (by kernel_rfl) (P2 (((r2.1 : Int) == 1) = false) (beqF h4) <| P0) <|
      eIf H (fun h5 H =>
        eCk H fun h6 H =>
        eBind H fun x7 hx7 H =>
        eCk H fun h8 H =>
        eBind H fun x9 hx9 H =>
        eW Rs_l1Cur_anyNodes Ns_l1Cur_anyNodes H <| gE func70 [rg [hT 0], rg [hE 6 (gi_Node x7), hA 10 ((List.set r1.1 (Int.toNat (IntKind.wrap .i64 (((r1.1.length : Nat) : Int) - 1))) (Gi_Node.mk x9.Parent (IntKind.wrap .i64 (x7.Turn + 1)) x9.Hash)).length) (List.map gi_Node (List.set r1.1 (Int.toNat (IntKind.wrap .i64 (((r1.1.length : Nat) : Int) - 1))) (Gi_Node.mk x9.Parent (IntKind.wrap .i64 (x7.Turn + 1)) x9.Hash)))], r0] (by kernel_rfl) (P2 (((r2.1 : Int) == 2) = true) (beqT h5) <| P1 h6 <| P1 (int_lt_of_at h6 hx7) <| P1 (at_map gi_Node hx7) <| P1 h8 <| P1 (int_lt_of_at h8 hx9) <| P1 (lt_of_at hx9) <| P2 (setCells (List.map gi_Node r1.1) (Int.toNat (IntKind.wrap .i64 (((r1.1.length : Nat) : Int) - 1))) 1 [I (IntKind.wrap .i64 (x7.Turn + 1))] = List.map gi_Node (List.set r1.1 (Int.toNat (IntKind.wrap .i64 (((r1.1.length : Nat) : Int) - 1))) (Gi_Node.mk x9.Parent (IntKind.wrap .i64 (x7.Turn + 1)) x9.Hash))) (setCells_map hx9 rfl) <| P1 (setLen r1.1 (Int.toNat (IntKind.wrap .i64 (((r1.1.length : Nat) : Int) - 1))) (Gi_Node.mk x9.Parent (IntKind.wrap .i64 (x7.Turn + 1)) x9.Hash)) <| P0))
      (fun h5 H =>
        gS [rg [hF 0]] (by kernel_rfl) (P2 (((r2.1 : Int) == 2) = false) (beqF h5) <| P0) <|
        eIf H (fun h6 H =>
          eBind H fun r7 hr7 H =>
          gO [rg [hT 0], rg [hC 1 true [0] (Rs_l1Cur_pick r7) (Ns_l1Cur_pick r7)], .canon [0, 1] [3, 4]] (by kernel_rfl) (P2 (((r2.1 : Int) == 3) = true) (beqT h6) <| PI (1 : Nat) <| P1 (cs_l1Cur_pick hr7) <| P0) (ws_l1Cur_anyNodes _ _ H))
        (fun h6 H =>
          gS [rg [hF 0]] (by kernel_rfl) (P2 (((r2.1 : Int) == 3) = false) (beqF h6) <| P0) <|
          eIf H (fun h7 H =>
            eBind H fun r8 hr8 H =>
            eCk H fun h9 H =>
            eBind H fun x10 hx10 H =>
            eW Rs_l1Cur_anyNodes Ns_l1Cur_anyNodes H <| gE func70 [rg [hT 0], rg [hC 5 true [0] (Rs_l1Cur_anySeed r8) (Ns_l1Cur_anySeed r8), hA 8 ((List.set r1.1 (Int.toNat (IntKind.wrap .i64 (((r1.1.length : Nat) : Int) - 1))) (Gi_Node.mk x10.Parent x10.Turn r8.1)).length) (List.map gi_Node (List.set r1.1 (Int.toNat (IntKind.wrap .i64 (((r1.1.length : Nat) : Int) - 1))) (Gi_Node.mk x10.Parent x10.Turn r8.1)))], r0] (by kernel_rfl) (P2 (((r2.1 : Int) == 4) = true) (beqT h7) <| PI (1 : Nat) <| P1 (cs_l1Cur_anySeed hr8) <| P1 h9 <| P1 (int_lt_of_at h9 hx10) <| P1 (lt_of_at hx10) <| P2 (setCells (List.map gi_Node r1.1) (Int.toNat (IntKind.wrap .i64 (((r1.1.length : Nat) : Int) - 1))) 2 [I r8.1] = List.map gi_Node (List.set r1.1 (Int.toNat (IntKind.wrap .i64 (((r1.1.length : Nat) : Int) - 1))) (Gi_Node.mk x10.Parent x10.Turn r8.1))) (setCells_map hx10 rfl) <| P1 (setLen r1.1 (Int.toNat (IntKind.wrap .i64 (((r1.1.length : Nat) : Int) - 1))) (Gi_Node.mk x10.Parent x10.Turn r8.1)) <| P0))
          (fun h7 H =>
            gS [rg [hF 0]] (by kernel_rfl) (P2 (((r2.1 : Int) == 4) = false) (beqF h7) <| P0) <|
            eIf H (fun h8 H =>
              eCk H fun h9 H =>
              gO [rg [hT 0], r0, .view 3 (List.take ((Int.toNat 1) - 0) (List.drop 0 r1.1)).length (List.map gi_Node (List.take ((Int.toNat 1) - 0) (List.drop 0 r1.1))), .canon [0, 2] [3]] (by kernel_rfl) (P2 (((r2.1 : Int) == 5) = true) (beqT h8) <| P2 ((0 : Int) ≤ 1) (by decide) <| P2 ((1 : Int) ≤ ((r1.1.length : Nat) : Int)) h9 <| P1 (allFl_48 r1.1) <| P2 ((Int.toNat 1) - 0 = (List.take ((Int.toNat 1) - 0) (List.drop 0 r1.1)).length) (by simp <;> omega) <| P2 (List.take ((Int.toNat 1) - 0) (List.drop 0 (List.map gi_Node r1.1)) = List.map gi_Node (List.take ((Int.toNat 1) - 0) (List.drop 0 r1.1))) (by rw [List.map_take, List.map_drop]) <| P0) (ws_l1Cur_anyNodes _ _ H))
            (fun h8 H =>
              eW Rs_l1Cur_anyNodes Ns_l1Cur_anyNodes H <| gE func70 [rg [hF 0], r0] (by kernel_rfl) (P2 (((r2.1 : Int) == 5) = false) (beqF h8) <| P0)))))))
/-! loop example/g00886/spec DrawGraftTree -/
def Rs_DrawGraftTree (r : (List Gi_Node) × (List Gi_Node)) : List D := [ow 3 gi_Node r.1, ow 3 gi_Node r.2]
theorem cs_DrawGraftTree {a0 : (List Int)} {r : (List Gi_Node) × (List Gi_Node)} (H : Ds_DrawGraftTree a0 = some r) : Ct X.P X.gl 19 [sl 1 (D.int .u8) a0] [] (Rs_DrawGraftTree r) [] :=
  Ct.of func19 (c := bdy f19) (by kernel_rfl) (by kernel_rfl) <|
  eBind H fun r1 hr1 H =>
  eBind H fun r2 hr2 H =>
  eBind H fun r3 hr3 H =>
  gS [r0, r0, rg [hC 1 true [0] (Rs_l1Cur_anyNodes r1) (Ns_l1Cur_anyNodes r1), hC 3 true [0] (Rs_l1Cur_anyNodes r2) (Ns_l1Cur_anyNodes r2)]] (by kernel_rfl) (PI (1 : Nat) <| P1 (cs_l1Cur_anyNodes hr1) <| PI (1 : Nat) <| P1 (cs_l1Cur_anyNodes hr2) <| P0) <|
  eIf H (fun h4 H =>
    eBind H fun x5 hx5 H =>
    eW Rs_DrawGraftTree (fun _ => []) H <| gE func19 [rg [{ i := 1, call := some { cl := true, auto := true, ins := [0], res := (Rs_l1Cur_one r3), G' := (Ns_l1Cur_one r3) }, dec := some true }], rg [hA 3 ((List.set r2.1 (Int.toNat 0) (Gi_Node.mk x5.Parent x5.Turn 6)).length) (List.map gi_Node (List.set r2.1 (Int.toNat 0) (Gi_Node.mk x5.Parent x5.Turn 6)))], r0] (by kernel_rfl) (PI (1 : Nat) <| P1 (cs_l1Cur_one hr3) <| P2 (r3.1 = true) (h4) <| P2 ((0 : Int) ≤ 0) (by decide) <| P1 (int_lt_of_at (by decide : (0 : Int) ≤ 0) hx5) <| P1 (lt_of_at hx5) <| P2 (setCells (List.map gi_Node r2.1) (Int.toNat 0) 2 [I 6] = List.map gi_Node (List.set r2.1 (Int.toNat 0) (Gi_Node.mk x5.Parent x5.Turn 6))) (setCells_map hx5 rfl) <| P1 (setLen r2.1 (Int.toNat 0) (Gi_Node.mk x5.Parent x5.Turn 6)) <| P0))
  (fun h4 H =>
    eW Rs_DrawGraftTree (fun _ => []) H <| gE func19 [rg [{ i := 1, call := some { cl := true, auto := true, ins := [0], res := (Rs_l1Cur_one r3), G' := (Ns_l1Cur_one r3) }, dec := some false }], r0] (by kernel_rfl) (PI (1 : Nat) <| P1 (cs_l1Cur_one hr3) <| P2 (r3.1 = false) (eqF h4) <| P0))
/-! loop example/g00886/impl inRange -/
theorem ci_inRange {a0 : Int} {a1 : Int} {a2 : Int} {r : Bool} (H : Di_inRange a0 a1 a2 = some r) : Ct X.P X.gl 51 [I a0, I a1, I a2] [] (RB r) [] :=
  Ct.of func51 (c := bdy f51) (by kernel_rfl) (by kernel_rfl) <|
  gS [r0] (by kernel_rfl) P0 <|
  eIf H (fun h1 H =>
    eW RB (fun _ => []) H <| gE func51 [rg [hT 2]] (by kernel_rfl) (P2 ((decide (a1 ≤ a0)) = true) (decide_eq_true h1) <| P0))
  (fun h1 H =>
    eW RB (fun _ => []) H <| gE func51 [rg [hF 2]] (by kernel_rfl) (P2 ((decide (a1 ≤ a0)) = false) (decide_eq_false h1) <| P0))
/-! loop example/g00886/impl isSeed -/
theorem ci_isSeed {a0 : Int} {r : Bool} (H : Di_isSeed a0 = some r) : Ct X.P X.gl 75 [I a0] [] (RB r) [] :=
  Ct.of func75 (c := bdy f75) (by kernel_rfl) (by kernel_rfl) <|
  eBind H fun r1 hr1 H =>
  eW RB (fun _ => []) H <| gE func75 [r0, rg [hC 1 true [] (RB r1) []]] (by kernel_rfl) (P1 (ci_inRange hr1) <| P0)
/-! loop example/g00886/impl isIndex -/
theorem ci_isIndex {a0 : Int} {a1 : Int} {r : Bool} (H : Di_isIndex a0 a1 = some r) : Ct X.P X.gl 76 [I a0, I a1] [] (RB r) [] :=
  Ct.of func76 (c := bdy f76) (by kernel_rfl) (by kernel_rfl) <|
  eBind H fun r1 hr1 H =>
  eW RB (fun _ => []) H <| gE func76 [r0, rg [hC 3 true [] (RB r1) []]] (by kernel_rfl) (P1 (ci_inRange hr1) <| P0)
/-! loop example/g00886/impl isTurn -/
theorem ci_isTurn {a0 : Int} {r : Bool} (H : Di_isTurn a0 = some r) : Ct X.P X.gl 77 [I a0] [] (RB r) [] :=
  Ct.of func77 (c := bdy f77) (by kernel_rfl) (by kernel_rfl) <|
  eBind H fun r1 hr1 H =>
  eW RB (fun _ => []) H <| gE func77 [r0, rg [hC 1 true [] (RB r1) []]] (by kernel_rfl) (P1 (ci_inRange hr1) <| P0)
/-! loop example/g00886/impl childWith 1 -/
theorem ci_childWith_1 {a0 : Gi_Node} {a1 : Int} {a2 : Int} {r : Bool} (H : Di_childWith_1 a0 a1 a2 = some r) : Ct X.P X.gl 113 [.agg [I a0.Parent, I a0.Turn, I a0.Hash], .fptr 1 [.agg [I a1]] 0 0, .fptr 1 [.agg [I a2]] 0 0] [] (RB r) [] :=
  Ct.of func113 (c := bdy f113) (by kernel_rfl) (by kernel_rfl) <|
  gS [r0] (by kernel_rfl) P0 <|
  eIf H (fun h1 H =>
    eW RB (fun _ => []) H <| gE func113 [rg [hT 3]] (by kernel_rfl) (P2 (((a0.Parent : Int) == a1) = true) (beqT h1) <| P0))
  (fun h1 H =>
    eW RB (fun _ => []) H <| gE func113 [rg [hF 3]] (by kernel_rfl) (P2 (((a0.Parent : Int) == a1) = false) (beqF h1) <| P0))
/-! slices IndexFunc   loop example/g00886/impl Node loop example/g00886/impl Node  -/
noncomputable def Kslices_IndexFunc_i_Node_i_childWith_1 : Sslices_IndexFunc_i_Node_i_childWith_1 → List Item
  | .h1 .. => nav 300 2 [] [.code (bdy f112)]
def Zslices_IndexFunc_i_Node_i_childWith_1 : Sslices_IndexFunc_i_Node_i_childWith_1 → St
  | .h1 s0 f1 f2 t3 t4 => ⟨sts 19 [(0, sl 3 gi_Node s0), (1, .fn 113 [.fptr 1 [.agg [I f1]] 0 0, .fptr 1 [.agg [I f2]] 0 0]), (7, I t3), (8, I t4)], []⟩
abbrev Qslices_IndexFunc_i_Node_i_childWith_1 := Nx X 112 0 Kslices_IndexFunc_i_Node_i_childWith_1 Zslices_IndexFunc_i_Node_i_childWith_1 RI (fun _ => [])
theorem nslices_IndexFunc_i_Node_i_childWith_1 : ∀ s o, Bslices_IndexFunc_i_Node_i_childWith_1 s = some o → Qslices_IndexFunc_i_Node_i_childWith_1 (Kslices_IndexFunc_i_Node_i_childWith_1 s) (Zslices_IndexFunc_i_Node_i_childWith_1 s) o
  | .h1 s0 f1 f2 t3 t4, o, H =>
    eIf H (fun h1 H =>
      eCk H fun h2 H =>
      eBind H fun x3 hx3 H =>
      eBind H fun r4 hr4 H =>
      gN [rg [hT 0], r0] (by kernel_rfl) (P2 ((decide (t4 < t3)) = true) (decide_eq_true h1) <| P0) <|
      eIf H (fun h5 H =>
        eN H <| gE func112 [rg [hE 4 (gi_Node x3), { i := 5, call := some { cl := true, auto := true, ins := [], res := (RB r4), G' := [] }, dec := some true }], r0] (by kernel_rfl) (P1 h2 <| P1 (int_lt_of_at h2 hx3) <| P1 (at_map gi_Node hx3) <| P1 (ci_childWith_1 hr4) <| P2 (r4 = true) (h5) <| P0))
      (fun h5 H =>
        eN H fun r hn => gO [rg [hE 4 (gi_Node x3), { i := 5, call := some { cl := true, auto := true, ins := [], res := (RB r4), G' := [] }, dec := some false }], r0, .canon [] [0, 1, 7, 8]] (by kernel_rfl) (P1 h2 <| P1 (int_lt_of_at h2 hx3) <| P1 (at_map gi_Node hx3) <| P1 (ci_childWith_1 hr4) <| P2 (r4 = false) (eqF h5) <| P0) hn))
    (fun h1 H =>
      eN H <| gE func112 [rg [hF 0], r0] (by kernel_rfl) (P2 ((decide (t4 < t3)) = false) (decide_eq_false h1) <| P0))
theorem wslices_IndexFunc_i_Node_i_childWith_1 : ∀ s r, loop Bslices_IndexFunc_i_Node_i_childWith_1 s = some r → Wc X 112 0 (Kslices_IndexFunc_i_Node_i_childWith_1 s) (Zslices_IndexFunc_i_Node_i_childWith_1 s) (RI r) ((fun _ => []) r) := Nx.all nslices_IndexFunc_i_Node_i_childWith_1
theorem cslices_IndexFunc_i_Node_i_childWith_1 {a0 : (List Gi_Node)} {a100 : Int} {a101 : Int} {r : Int} (H : Dslices_IndexFunc_i_Node_i_childWith_1 a0 a100 a101 = some r) : Ct X.P X.gl 112 [sl 3 gi_Node a0, .fn 113 [.fptr 1 [.agg [I a100]] 0 0, .fptr 1 [.agg [I a101]] 0 0]] [] (RI r) [] :=
  Ct.of func112 (c := bdy f112) (by kernel_rfl) (by kernel_rfl) <|
  gO [r0, r0, .canon [] [0, 1, 7, 8]] (by kernel_rfl) P0 (wslices_IndexFunc_i_Node_i_childWith_1 _ _ H)
/-! loop example/g00886/impl childWith -/
theorem ci_childWith {a0 : (List Gi_Node)} {a1 : Int} {a2 : Int} {r : Int} (H : Di_childWith a0 a1 a2 = some r) : Ct X.P X.gl 78 [sl 3 gi_Node a0, I a1, I a2] [] (RI r) [] :=
  Ct.of func78 (c := bdy f78) (by kernel_rfl) (by kernel_rfl) <|
  eBind H fun r1 hr1 H =>
  eW RI (fun _ => []) H <| gE func78 [r0, rg [hC 2 false [] (RI r1) []]] (by kernel_rfl) (P1 (cslices_IndexFunc_i_Node_i_childWith_1 hr1) <| P0)
/-! loop example/g00886/impl IsTree -/
noncomputable def Ki_IsTree : Si_IsTree → List Item
  | .h1 .. => nav 300 3 [false] [.code (bdy f23)]
def Zi_IsTree : Si_IsTree → St
  | .h1 t0 t1 t2 t3 => ⟨sts 72 [(0, sl 3 gi_Node t0), (23, sl 3 gi_Node t1), (24, I t2), (25, I t3)], []⟩
abbrev Qi_IsTree := Nx X 23 0 Ki_IsTree Zi_IsTree RB (fun _ => [])
theorem ni_IsTree : ∀ s o, Bi_IsTree s = some o → Qi_IsTree (Ki_IsTree s) (Zi_IsTree s) o
  | .h1 t0 t1 t2 t3, o, H =>
    eIf H (fun h1 H =>
      eCk H fun h2 H =>
      eBind H fun x3 hx3 H =>
      eBind H fun r4 hr4 H =>
      gN [rg [hT 0], rg [hE 2 (gi_Node x3)]] (by kernel_rfl) (P2 ((decide (t3 < t2)) = true) (decide_eq_true h1) <| P1 h2 <| P1 (int_lt_of_at h2 hx3) <| P1 (at_map gi_Node hx3) <| P0) <|
      eIf H (fun h5 H =>
        gN [rg [{ i := 2, call := some { cl := true, auto := true, ins := [], res := (RB r4), G' := [] }, dec := some true }]] (by kernel_rfl) (P1 (ci_isSeed hr4) <| P2 (r4 = true) (h5) <| P0) <|
        eIf H (fun h6 H =>
          eBind H fun r7 hr7 H =>
          eIf H (fun h8 H =>
            eCk H fun h9 H =>
            eBind H fun x10 hx10 H =>
            eIf H (fun h11 H =>
              eBind H fun r12 hr12 H =>
              eIf H (fun h13 H =>
                eBind H fun r14 hr14 H =>
                eIf H (fun h15 H =>
                  eN H fun r hn => gO [rg [hT 1, { i := 6, call := some { cl := true, auto := true, ins := [], res := (RB r7), G' := [] }, dec := some true }, hE 16 (gi_Node x10), hF 18, { i := 23, call := some { cl := true, auto := true, ins := [], res := (RB r12), G' := [] }, dec := some true }, hC 32 true [] (RI r14) [], hF 34], r0, .canon [] [0, 23, 24, 25]] (by kernel_rfl) (P2 ((decide (t3 > 0)) = true) (decide_eq_true h6) <| P1 (ci_isIndex hr7) <| P2 (r7 = true) (h8) <| P1 h9 <| P1 (int_lt_of_at h9 hx10) <| P1 (at_map gi_Node hx10) <| P2 (((x3.Turn : Int) != (IntKind.wrap .i64 (x10.Turn + 1))) = false) (bneF h11) <| P1 (ci_isTurn hr12) <| P2 (r12 = true) (h13) <| P1 (ci_childWith hr14) <| P2 (((r14 : Int) != t3) = false) (bneF h15) <| P0) hn)
                (fun h15 H =>
                  eN H <| gE func23 [rg [hT 1, { i := 6, call := some { cl := true, auto := true, ins := [], res := (RB r7), G' := [] }, dec := some true }, hE 16 (gi_Node x10), hF 18, { i := 23, call := some { cl := true, auto := true, ins := [], res := (RB r12), G' := [] }, dec := some true }, hC 32 true [] (RI r14) [], hT 34], r0] (by kernel_rfl) (P2 ((decide (t3 > 0)) = true) (decide_eq_true h6) <| P1 (ci_isIndex hr7) <| P2 (r7 = true) (h8) <| P1 h9 <| P1 (int_lt_of_at h9 hx10) <| P1 (at_map gi_Node hx10) <| P2 (((x3.Turn : Int) != (IntKind.wrap .i64 (x10.Turn + 1))) = false) (bneF h11) <| P1 (ci_isTurn hr12) <| P2 (r12 = true) (h13) <| P1 (ci_childWith hr14) <| P2 (((r14 : Int) != t3) = true) (bneT h15) <| P0)))
              (fun h13 H =>
                eN H <| gE func23 [rg [hT 1, { i := 6, call := some { cl := true, auto := true, ins := [], res := (RB r7), G' := [] }, dec := some true }, hE 16 (gi_Node x10), hF 18, { i := 23, call := some { cl := true, auto := true, ins := [], res := (RB r12), G' := [] }, dec := some false }], r0] (by kernel_rfl) (P2 ((decide (t3 > 0)) = true) (decide_eq_true h6) <| P1 (ci_isIndex hr7) <| P2 (r7 = true) (h8) <| P1 h9 <| P1 (int_lt_of_at h9 hx10) <| P1 (at_map gi_Node hx10) <| P2 (((x3.Turn : Int) != (IntKind.wrap .i64 (x10.Turn + 1))) = false) (bneF h11) <| P1 (ci_isTurn hr12) <| P2 (r12 = false) (eqF h13) <| P0)))
            (fun h11 H =>
              eN H <| gE func23 [rg [hT 1, { i := 6, call := some { cl := true, auto := true, ins := [], res := (RB r7), G' := [] }, dec := some true }, hE 16 (gi_Node x10), hT 18], r0] (by kernel_rfl) (P2 ((decide (t3 > 0)) = true) (decide_eq_true h6) <| P1 (ci_isIndex hr7) <| P2 (r7 = true) (h8) <| P1 h9 <| P1 (int_lt_of_at h9 hx10) <| P1 (at_map gi_Node hx10) <| P2 (((x3.Turn : Int) != (IntKind.wrap .i64 (x10.Turn + 1))) = true) (bneT h11) <| P0)))
          (fun h8 H =>
            eN H <| gE func23 [rg [hT 1, { i := 6, call := some { cl := true, auto := true, ins := [], res := (RB r7), G' := [] }, dec := some false }], r0] (by kernel_rfl) (P2 ((decide (t3 > 0)) = true) (decide_eq_true h6) <| P1 (ci_isIndex hr7) <| P2 (r7 = false) (eqF h8) <| P0)))
        (fun h6 H =>
          eN H fun r hn => gO [rg [hF 1], r0, .canon [] [0, 23, 24, 25]] (by kernel_rfl) (P2 ((decide (t3 > 0)) = false) (decide_eq_false h6) <| P0) hn))
      (fun h5 H =>
        eN H <| gE func23 [rg [{ i := 2, call := some { cl := true, auto := true, ins := [], res := (RB r4), G' := [] }, dec := some false }], r0] (by kernel_rfl) (P1 (ci_isSeed hr4) <| P2 (r4 = false) (eqF h5) <| P0)))
    (fun h1 H =>
      eN H <| gE func23 [rg [hF 0], r0] (by kernel_rfl) (P2 ((decide (t3 < t2)) = false) (decide_eq_false h1) <| P0))
theorem wi_IsTree : ∀ s r, loop Bi_IsTree s = some r → Wc X 23 0 (Ki_IsTree s) (Zi_IsTree s) (RB r) ((fun _ => []) r) := Nx.all ni_IsTree
theorem ci_IsTree {a0 : (List Gi_Node)} {r : Bool} (H : Di_IsTree a0 = some r) : Ct X.P X.gl 23 [sl 3 gi_Node a0] [] (RB r) [] :=
  Ct.of func23 (c := bdy f23) (by kernel_rfl) (by kernel_rfl) <|
  eBind H fun r1 hr1 H =>
  gS [r0] (by kernel_rfl) P0 <|
  eIf H (fun h2 H =>
    eBind H fun x3 hx3 H =>
    eIf H (fun h4 H =>
      eBind H fun x5 hx5 H =>
      eIf H (fun h6 H =>
        gO [rg [{ i := 2, call := some { cl := true, auto := true, ins := [], res := (RB r1), G' := [] }, dec := some true }, hE 8 (gi_Node x3), hF 9, hE 15 (gi_Node x5), hF 16], r0, .canon [] [0, 23, 24, 25]] (by kernel_rfl) (P1 (ci_inRange hr1) <| P2 (r1 = true) (h2) <| P2 ((0 : Int) ≤ 0) (by decide) <| P1 (int_lt_of_at (by decide : (0 : Int) ≤ 0) hx3) <| P1 (at_map gi_Node hx3) <| P2 (((x3.Parent : Int) != (-1)) = false) (bneF h4) <| P2 ((0 : Int) ≤ 0) (by decide) <| P1 (int_lt_of_at (by decide : (0 : Int) ≤ 0) hx5) <| P1 (at_map gi_Node hx5) <| P2 (((x5.Turn : Int) != 0) = false) (bneF h6) <| P0) (wi_IsTree _ _ H))
      (fun h6 H =>
        eW RB (fun _ => []) H <| gE func23 [rg [{ i := 2, call := some { cl := true, auto := true, ins := [], res := (RB r1), G' := [] }, dec := some true }, hE 8 (gi_Node x3), hF 9, hE 15 (gi_Node x5), hT 16], r0] (by kernel_rfl) (P1 (ci_inRange hr1) <| P2 (r1 = true) (h2) <| P2 ((0 : Int) ≤ 0) (by decide) <| P1 (int_lt_of_at (by decide : (0 : Int) ≤ 0) hx3) <| P1 (at_map gi_Node hx3) <| P2 (((x3.Parent : Int) != (-1)) = false) (bneF h4) <| P2 ((0 : Int) ≤ 0) (by decide) <| P1 (int_lt_of_at (by decide : (0 : Int) ≤ 0) hx5) <| P1 (at_map gi_Node hx5) <| P2 (((x5.Turn : Int) != 0) = true) (bneT h6) <| P0)))
    (fun h4 H =>
      eW RB (fun _ => []) H <| gE func23 [rg [{ i := 2, call := some { cl := true, auto := true, ins := [], res := (RB r1), G' := [] }, dec := some true }, hE 8 (gi_Node x3), hT 9], r0] (by kernel_rfl) (P1 (ci_inRange hr1) <| P2 (r1 = true) (h2) <| P2 ((0 : Int) ≤ 0) (by decide) <| P1 (int_lt_of_at (by decide : (0 : Int) ≤ 0) hx3) <| P1 (at_map gi_Node hx3) <| P2 (((x3.Parent : Int) != (-1)) = true) (bneT h4) <| P0)))
  (fun h2 H =>
    eW RB (fun _ => []) H <| gE func23 [rg [{ i := 2, call := some { cl := true, auto := true, ins := [], res := (RB r1), G' := [] }, dec := some false }], r0] (by kernel_rfl) (P1 (ci_inRange hr1) <| P2 (r1 = false) (eqF h2) <| P0))
/-! slices Clone -/
def Rslices_Clone_i_Node (r : List Gi_Node) : List D := [ow 3 gi_Node r]
theorem cslices_Clone_i_Node {l r : List Gi_Node} (H : Dslices_Clone_i_Node l = some r) : Ct X.P X.gl 71 [sl 3 gi_Node l] [] (Rslices_Clone_i_Node r) [] :=
  eCk H fun h H => eRet (P := fun r => Ct X.P X.gl 71 [sl 3 gi_Node l] [] (Rslices_Clone_i_Node r) []) H <|
    Ct.of func71 (c := bdy f71) (by kernel_rfl) (by kernel_rfl) <| by
      by_cases h0 : 0 < l.length
      · exact gE func71 [r0, rg [{ i := 1, keep := true }], rg [{ i := 2, n := l.length, xs := List.map gi_Node l }]] (by kernel_rfl) (P1 h0 <| P1 (allFl_48 l) <| P2 (l.length = 0 + l.length) (by simp) <| P2 ((0 + l.length) * 24 ≤ 70368744177664) (by simpa using h) <| P2 (([] : List D) ++ List.map gi_Node l = List.map gi_Node l) rfl P0)
      · have e : l = [] := by cases l with | nil => rfl | cons x l => exact absurd (Nat.succ_pos _) h0
        subst e
        refine gO [r0, r0, .stop] (k' := nav 300 2 [] [.code (bdy f71)]) (σ' := ⟨sts 8 [(0, sl 3 gi_Node []), (2, .nil), (3, sl 3 gi_Node []), (4, .anyb)], []⟩) (by kernel_rfl) P0 (Wc.anyb 4 (by kernel_rfl) fun b => ?_)
        cases b with
        | true => exact gE func71 [r0] (by kernel_rfl) P0
        | false =>
          have h : ([] : List Gi_Node).length * 24 ≤ 70368744177664 := by decide
          have : Wc X 71 0 (nav 300 2 [] [.code (bdy f71)]) ⟨sts 8 [(0, sl 3 gi_Node []), (2, .nil), (3, sl 3 gi_Node []), (4, .bool false)], []⟩ (Rslices_Clone_i_Node []) [] := by
            generalize hl : ([] : List Gi_Node) = l at h ⊢
            exact gE func71 [ rg [{ i := 2, n := l.length, xs := List.map gi_Node l }]] (by kernel_rfl) ( P1 (allFl_48 l) <| P2 (l.length = 0 + l.length) (by simp) <| P2 ((0 + l.length) * 24 ≤ 70368744177664) (by simpa using h) <| P2 (([] : List D) ++ List.map gi_Node l = List.map gi_Node l) rfl P0)
          exact this
/-! loop example/g00886/impl childOf -/
def Ri_childOf (r : (List Gi_Node) × Int × Bool) : List D := [ow 3 gi_Node r.1, I r.2.1, .bool r.2.2]
theorem ci_childOf {a0 : (List Gi_Node)} {a1 : Int} {a2 : Int} {r : (List Gi_Node) × Int × Bool} (H : Di_childOf a0 a1 a2 = some r) : Ct X.P X.gl 72 [sl 3 gi_Node a0, I a1, I a2] [] (Ri_childOf r) [] :=
  Ct.of func72 (c := bdy f72) (by kernel_rfl) (by kernel_rfl) <|
  eBind H fun r1 hr1 H =>
  gS [r0, rg [hC 3 true [] (RI r1) []]] (by kernel_rfl) (P1 (ci_childWith hr1) <| P0) <|
  eIf H (fun h2 H =>
    eBind H fun r3 hr3 H =>
    eW Ri_childOf (fun _ => []) H <| gE func72 [rg [hT 1], rg [hC 1 true [] (Rslices_Clone_i_Node r3) []]] (by kernel_rfl) (P2 ((decide (r1 ≥ 0)) = true) (decide_eq_true h2) <| P1 (cslices_Clone_i_Node hr3) <| P0))
  (fun h2 H =>
    gS [rg [hF 1]] (by kernel_rfl) (P2 ((decide (r1 ≥ 0)) = false) (decide_eq_false h2) <| P0) <|
    eIf H (fun h3 H =>
      eW Ri_childOf (fun _ => []) H <| gE func72 [rg [hT 2], r0] (by kernel_rfl) (P2 (((((a0.length : Nat) : Int) : Int) == 40) = true) (beqT h3) <| P0))
    (fun h3 H =>
      eCk H fun h4 H =>
      eBind H fun x5 hx5 H =>
      eIf H (fun h6 H =>
        eW Ri_childOf (fun _ => []) H <| gE func72 [rg [hF 2, hE 8 (gi_Node x5), hT 9], r0] (by kernel_rfl) (P2 (((((a0.length : Nat) : Int) : Int) == 40) = false) (beqF h3) <| P1 h4 <| P1 (int_lt_of_at h4 hx5) <| P1 (at_map gi_Node hx5) <| P2 (((x5.Turn : Int) == 30) = true) (beqT h6) <| P0))
      (fun h6 H =>
        eBind H fun r7 hr7 H =>
        eCk H fun h8 H =>
        eBind H fun x9 hx9 H =>
        eCk H fun h10 H =>
        eW Ri_childOf (fun _ => []) H <| gE func72 [rg [hF 2, hE 8 (gi_Node x5), hF 9], rg [hC 1 true [] (Rslices_Clone_i_Node r7) [], hE 7 (gi_Node x9), hA 12 ((r7 ++ [(Gi_Node.mk a1 (IntKind.wrap .i64 (x9.Turn + 1)) a2)]).length) (List.map gi_Node (r7 ++ [(Gi_Node.mk a1 (IntKind.wrap .i64 (x9.Turn + 1)) a2)]))]] (by kernel_rfl) (P2 (((((a0.length : Nat) : Int) : Int) == 40) = false) (beqF h3) <| P1 h4 <| P1 (int_lt_of_at h4 hx5) <| P1 (at_map gi_Node hx5) <| P2 (((x5.Turn : Int) == 30) = false) (beqF h6) <| P1 (cslices_Clone_i_Node hr7) <| P1 h8 <| P1 (int_lt_of_at h8 hx9) <| P1 (at_map gi_Node hx9) <| P1 (apL r7 [(Gi_Node.mk a1 (IntKind.wrap .i64 (x9.Turn + 1)) a2)]) <| P1 (apB h10) <| P1 (apM gi_Node r7 [(Gi_Node.mk a1 (IntKind.wrap .i64 (x9.Turn + 1)) a2)]) <| P0))))
/-! loop example/g00886/impl GraftTree -/
def Ri_GraftTree (r : (List Gi_Node) × (List Int) × Bool) : List D := [ow 3 gi_Node r.1, ow 1 I r.2.1, .bool r.2.2]
noncomputable def Ki_GraftTree : Si_GraftTree → List Item
  | .h1 .. => nav 300 4 [false] [.code (bdy f20)]
def Zi_GraftTree : Si_GraftTree → St
  | .h1 t0 t1 t2 l3 l4 => ⟨sts 66 [(7, .ref 0 3 none), (8, .ref 1 1 none), (37, sl 3 gi_Node t0), (38, I t1), (39, I t2)], [some ⟨false, false, 3, l3.length, List.map gi_Node l3⟩, some ⟨false, false, 1, l4.length, List.map I l4⟩]⟩
abbrev Qi_GraftTree := Nx X 20 0 Ki_GraftTree Zi_GraftTree Ri_GraftTree (fun _ => [])
theorem ni_GraftTree : ∀ s o, Bi_GraftTree s = some o → Qi_GraftTree (Ki_GraftTree s) (Zi_GraftTree s) o
  | .h1 t0 t1 t2 l3 l4, o, H =>
    eIf H (fun h1 H =>
      eCk H fun h2 H =>
      eBind H fun x3 hx3 H =>
      eCk H fun h4 H =>
      eBind H fun x5 hx5 H =>
      eBind H fun r6 hr6 H =>
      gN [rg [hT 0], rg [hE 1 (gi_Node x3)]] (by kernel_rfl) (P2 ((decide (t2 < t1)) = true) (decide_eq_true h1) <| P1 h2 <| P1 (int_lt_of_at h2 hx3) <| P1 (at_map gi_Node hx3) <| P0) <|
      eIf H (fun h7 H =>
        eCk H fun h8 H =>
        eN H fun r hn => gO [rg [hE 5 (I x5), hC 8 false [] (Ri_childOf r6) [], hT 12], r0, rg [hA 4 ((l4 ++ [r6.2.1]).length) (List.map I (l4 ++ [r6.2.1]))], r0, .canon [3, 5] [7, 8, 37, 38, 39]] (by kernel_rfl) (P1 h4 <| P1 (int_lt_of_at h4 hx5) <| P1 (at_map I hx5) <| P2 (nfL (List.flatMap D.cells (Ri_childOf r6))) ⟨nfL_map nf_48 _, trivial, trivial, trivial⟩ <| P2 (nfG []) trivial <| P1 (ci_childOf hr6) <| P2 (r6.2.2 = true) (h7) <| P1 (apL l4 [r6.2.1]) <| P1 (apB h8) <| P1 (apM I l4 [r6.2.1]) <| P0) hn)
      (fun h7 H =>
        eN H <| gE func20 [rg [hE 5 (I x5), hC 8 false [] (Ri_childOf r6) [], hF 12], r0, r0] (by kernel_rfl) (P1 h4 <| P1 (int_lt_of_at h4 hx5) <| P1 (at_map I hx5) <| P2 (nfL (List.flatMap D.cells (Ri_childOf r6))) ⟨nfL_map nf_48 _, trivial, trivial, trivial⟩ <| P2 (nfG []) trivial <| P1 (ci_childOf hr6) <| P2 (r6.2.2 = false) (eqF h7) <| P0)))
    (fun h1 H =>
      eN H <| gE func20 [rg [hF 0], r0] (by kernel_rfl) (P2 ((decide (t2 < t1)) = false) (decide_eq_false h1) <| P0))
theorem wi_GraftTree : ∀ s r, loop Bi_GraftTree s = some r → Wc X 20 0 (Ki_GraftTree s) (Zi_GraftTree s) (Ri_GraftTree r) ((fun _ => []) r) := Nx.all ni_GraftTree
theorem ci_GraftTree {a0 : (List Gi_Node)} {a1 : (List Gi_Node)} {r : (List Gi_Node) × (List Int) × Bool} (H : Di_GraftTree a0 a1 = some r) : Ct X.P X.gl 20 [sl 3 gi_Node a0, sl 3 gi_Node a1] [] (Ri_GraftTree r) [] :=
  Ct.of func20 (c := bdy f20) (by kernel_rfl) (by kernel_rfl) <|
  eBind H fun r1 hr1 H =>
  gS [r0] (by kernel_rfl) P0 <|
  eIf H (fun h2 H =>
    eBind H fun r3 hr3 H =>
    eIf H (fun h4 H =>
      eBind H fun x5 hx5 H =>
      eBind H fun x6 hx6 H =>
      eIf H (fun h7 H =>
        eBind H fun r8 hr8 H =>
        eCk H fun h9 H =>
        gO [rg [{ i := 1, call := some { cl := true, auto := true, ins := [], res := (RB r1), G' := [] }, dec := some true }, { i := 5, call := some { cl := true, auto := true, ins := [], res := (RB r3), G' := [] }, dec := some true }, hE 12 (gi_Node x5), hE 16 (gi_Node x6), hF 17], rg [hC 1 true [] (Rslices_Clone_i_Node r8) []], rg [hA 1 ((List.take (a1.length - (Int.toNat 1)) (List.drop (Int.toNat 1) a1)).length) (List.map gi_Node (List.take (a1.length - (Int.toNat 1)) (List.drop (Int.toNat 1) a1)))], .canon [0, 1] [7, 8, 37, 38, 39]] (by kernel_rfl) (P1 (ci_IsTree hr1) <| P2 (r1 = true) (h2) <| P1 (ci_IsTree hr3) <| P2 (r3 = true) (h4) <| P2 ((0 : Int) ≤ 0) (by decide) <| P1 (int_lt_of_at (by decide : (0 : Int) ≤ 0) hx5) <| P1 (at_map gi_Node hx5) <| P2 ((0 : Int) ≤ 0) (by decide) <| P1 (int_lt_of_at (by decide : (0 : Int) ≤ 0) hx6) <| P1 (at_map gi_Node hx6) <| P2 (((x5.Hash : Int) != x6.Hash) = false) (bneF h7) <| P1 (cslices_Clone_i_Node hr8) <| P2 ((0 : Int) ≤ 1) (by decide) <| P2 ((1 : Int) ≤ ((a1.length : Nat) : Int)) h9 <| P2 ((List.take (a1.length - (Int.toNat 1)) (List.drop (Int.toNat 1) a1)).length = a1.length - (Int.toNat 1)) (by simp <;> omega) <| P2 (List.take (a1.length - (Int.toNat 1)) (List.drop (Int.toNat 1) (List.map gi_Node a1)) = List.map gi_Node (List.take (a1.length - (Int.toNat 1)) (List.drop (Int.toNat 1) a1))) (by simp [List.map_drop, List.map_take]) <| P0) (wi_GraftTree _ _ H))
      (fun h7 H =>
        eW Ri_GraftTree (fun _ => []) H <| gE func20 [rg [{ i := 1, call := some { cl := true, auto := true, ins := [], res := (RB r1), G' := [] }, dec := some true }, { i := 5, call := some { cl := true, auto := true, ins := [], res := (RB r3), G' := [] }, dec := some true }, hE 12 (gi_Node x5), hE 16 (gi_Node x6), hT 17], r0] (by kernel_rfl) (P1 (ci_IsTree hr1) <| P2 (r1 = true) (h2) <| P1 (ci_IsTree hr3) <| P2 (r3 = true) (h4) <| P2 ((0 : Int) ≤ 0) (by decide) <| P1 (int_lt_of_at (by decide : (0 : Int) ≤ 0) hx5) <| P1 (at_map gi_Node hx5) <| P2 ((0 : Int) ≤ 0) (by decide) <| P1 (int_lt_of_at (by decide : (0 : Int) ≤ 0) hx6) <| P1 (at_map gi_Node hx6) <| P2 (((x5.Hash : Int) != x6.Hash) = true) (bneT h7) <| P0)))
    (fun h4 H =>
      eW Ri_GraftTree (fun _ => []) H <| gE func20 [rg [{ i := 1, call := some { cl := true, auto := true, ins := [], res := (RB r1), G' := [] }, dec := some true }, { i := 5, call := some { cl := true, auto := true, ins := [], res := (RB r3), G' := [] }, dec := some false }], r0] (by kernel_rfl) (P1 (ci_IsTree hr1) <| P2 (r1 = true) (h2) <| P1 (ci_IsTree hr3) <| P2 (r3 = false) (eqF h4) <| P0)))
  (fun h2 H =>
    eW Ri_GraftTree (fun _ => []) H <| gE func20 [rg [{ i := 1, call := some { cl := true, auto := true, ins := [], res := (RB r1), G' := [] }, dec := some false }], r0] (by kernel_rfl) (P1 (ci_IsTree hr1) <| P2 (r1 = false) (eqF h2) <| P0))
/-! loop example/g00886/spec l1In -/
theorem cs_l1In {a0 : Int} {a1 : Int} {a2 : Int} {r : Bool} (H : Ds_l1In a0 a1 a2 = some r) : Ct X.P X.gl 55 [I a0, I a1, I a2] [] (RB r) [] :=
  Ct.of func55 (c := bdy f55) (by kernel_rfl) (by kernel_rfl) <|
  gS [r0] (by kernel_rfl) P0 <|
  eIf H (fun h1 H =>
    eW RB (fun _ => []) H <| gE func55 [rg [hT 2]] (by kernel_rfl) (P2 ((decide (a0 ≥ a1)) = true) (decide_eq_true h1) <| P0))
  (fun h1 H =>
    eW RB (fun _ => []) H <| gE func55 [rg [hF 2]] (by kernel_rfl) (P2 ((decide (a0 ≥ a1)) = false) (decide_eq_false h1) <| P0))
/-! loop example/g00886/spec dSeed -/
theorem cs_dSeed {a0 : Int} {r : Bool} (H : Ds_dSeed a0 = some r) : Ct X.P X.gl 86 [I a0] [] (RB r) [] :=
  Ct.of func86 (c := bdy f86) (by kernel_rfl) (by kernel_rfl) <|
  eBind H fun r1 hr1 H =>
  eW RB (fun _ => []) H <| gE func86 [r0, rg [hC 1 true [] (RB r1) []]] (by kernel_rfl) (P1 (cs_l1In hr1) <| P0)
/-! loop example/g00886/spec nGood -/
noncomputable def Ks_nGood : Ss_nGood → List Item
  | .h1 .. => nav 300 3 [false] [.code (bdy f73)]
def Zs_nGood : Ss_nGood → St
  | .h1 t0 t1 t2 t3 => ⟨sts 65 [(0, sl 3 gi_Node t0), (9, sl 3 gi_Node t1), (10, I t2), (11, I t3)], []⟩
abbrev Qs_nGood := Nx X 73 0 Ks_nGood Zs_nGood RB (fun _ => [])
theorem ns_nGood : ∀ s o, Bs_nGood s = some o → Qs_nGood (Ks_nGood s) (Zs_nGood s) o
  | .h1 t0 t1 t2 t3, o, H =>
    eIf H (fun h1 H =>
      eCk H fun h2 H =>
      eBind H fun x3 hx3 H =>
      eBind H fun r4 hr4 H =>
      gN [rg [hT 0], rg [hE 2 (gi_Node x3)]] (by kernel_rfl) (P2 ((decide (t3 < t2)) = true) (decide_eq_true h1) <| P1 h2 <| P1 (int_lt_of_at h2 hx3) <| P1 (at_map gi_Node hx3) <| P0) <|
      eIf H (fun h5 H =>
        gN [rg [{ i := 2, call := some { cl := true, auto := true, ins := [], res := (RB r4), G' := [] }, dec := some true }]] (by kernel_rfl) (P1 (cs_dSeed hr4) <| P2 (r4 = true) (h5) <| P0) <|
        eIf H (fun h6 H =>
          gN [rg [hT 1]] (by kernel_rfl) (P2 (((t3 : Int) == 0) = true) (beqT h6) <| P0) <|
          eIf H (fun h7 H =>
            eIf H (fun h8 H =>
              eN H fun r hn => gO [rg [hF 2, hF 6], r0, .canon [] [0, 9, 10, 11]] (by kernel_rfl) (P2 (((x3.Parent : Int) != (-1)) = false) (bneF h7) <| P2 (((x3.Turn : Int) != 0) = false) (bneF h8) <| P0) hn)
            (fun h8 H =>
              eN H <| gE func73 [rg [hF 2, hT 6], r0] (by kernel_rfl) (P2 (((x3.Parent : Int) != (-1)) = false) (bneF h7) <| P2 (((x3.Turn : Int) != 0) = true) (bneT h8) <| P0)))
          (fun h7 H =>
            eN H <| gE func73 [rg [hT 2], r0] (by kernel_rfl) (P2 (((x3.Parent : Int) != (-1)) = true) (bneT h7) <| P0)))
        (fun h6 H =>
          eBind H fun r7 hr7 H =>
          gN [rg [hF 1]] (by kernel_rfl) (P2 (((t3 : Int) == 0) = false) (beqF h6) <| P0) <|
          eIf H (fun h8 H =>
            eCk H fun h9 H =>
            eBind H fun x10 hx10 H =>
            eIf H (fun h11 H =>
              eIf H (fun h12 H =>
                eN H <| gE func73 [rg [{ i := 4, call := some { cl := true, auto := true, ins := [], res := (RB r7), G' := [] }, dec := some true }, hE 14 (gi_Node x10), hF 16, hT 21], r0] (by kernel_rfl) (P1 (cs_l1In hr7) <| P2 (r7 = true) (h8) <| P1 h9 <| P1 (int_lt_of_at h9 hx10) <| P1 (at_map gi_Node hx10) <| P2 (((x3.Turn : Int) != (IntKind.wrap .i64 (x10.Turn + 1))) = false) (bneF h11) <| P2 ((decide (x3.Turn > 30)) = true) (decide_eq_true h12) <| P0))
              (fun h12 H =>
                eCk H fun h13 H =>
                eCk H fun h14 H =>
                eBind H fun r15 hr15 H =>
                eIf H (fun h16 H =>
                  eN H <| gE func73 [rg [{ i := 4, call := some { cl := true, auto := true, ins := [], res := (RB r7), G' := [] }, dec := some true }, hE 14 (gi_Node x10), hF 16, hF 21, hA 26 ((List.take ((Int.toNat t3) - 0) (List.drop 0 t0)).length) (List.map gi_Node (List.take ((Int.toNat t3) - 0) (List.drop 0 t0))), hC 31 true [] (RI r15) [], hT 32], r0] (by kernel_rfl) (P1 (cs_l1In hr7) <| P2 (r7 = true) (h8) <| P1 h9 <| P1 (int_lt_of_at h9 hx10) <| P1 (at_map gi_Node hx10) <| P2 (((x3.Turn : Int) != (IntKind.wrap .i64 (x10.Turn + 1))) = false) (bneF h11) <| P2 ((decide (x3.Turn > 30)) = false) (decide_eq_false h12) <| P2 ((0 : Int) ≤ t3) h13 <| P2 ((t3 : Int) ≤ ((t0.length : Nat) : Int)) h14 <| P2 ((List.take ((Int.toNat t3) - 0) (List.drop 0 t0)).length = (Int.toNat t3) - 0) (by simp <;> omega) <| P2 (List.take ((Int.toNat t3) - 0) (List.drop 0 (List.map gi_Node t0)) = List.map gi_Node (List.take ((Int.toNat t3) - 0) (List.drop 0 t0))) (by simp [List.map_drop, List.map_take]) <| P1 (cs_nChild hr15) <| P2 ((decide (r15 ≥ 0)) = true) (decide_eq_true h16) <| P0))
                (fun h16 H =>
                  eN H fun r hn => gO [rg [{ i := 4, call := some { cl := true, auto := true, ins := [], res := (RB r7), G' := [] }, dec := some true }, hE 14 (gi_Node x10), hF 16, hF 21, hA 26 ((List.take ((Int.toNat t3) - 0) (List.drop 0 t0)).length) (List.map gi_Node (List.take ((Int.toNat t3) - 0) (List.drop 0 t0))), hC 31 true [] (RI r15) [], hF 32], r0, .canon [] [0, 9, 10, 11]] (by kernel_rfl) (P1 (cs_l1In hr7) <| P2 (r7 = true) (h8) <| P1 h9 <| P1 (int_lt_of_at h9 hx10) <| P1 (at_map gi_Node hx10) <| P2 (((x3.Turn : Int) != (IntKind.wrap .i64 (x10.Turn + 1))) = false) (bneF h11) <| P2 ((decide (x3.Turn > 30)) = false) (decide_eq_false h12) <| P2 ((0 : Int) ≤ t3) h13 <| P2 ((t3 : Int) ≤ ((t0.length : Nat) : Int)) h14 <| P2 ((List.take ((Int.toNat t3) - 0) (List.drop 0 t0)).length = (Int.toNat t3) - 0) (by simp <;> omega) <| P2 (List.take ((Int.toNat t3) - 0) (List.drop 0 (List.map gi_Node t0)) = List.map gi_Node (List.take ((Int.toNat t3) - 0) (List.drop 0 t0))) (by simp [List.map_drop, List.map_take]) <| P1 (cs_nChild hr15) <| P2 ((decide (r15 ≥ 0)) = false) (decide_eq_false h16) <| P0) hn)))
            (fun h11 H =>
              eN H <| gE func73 [rg [{ i := 4, call := some { cl := true, auto := true, ins := [], res := (RB r7), G' := [] }, dec := some true }, hE 14 (gi_Node x10), hT 16], r0] (by kernel_rfl) (P1 (cs_l1In hr7) <| P2 (r7 = true) (h8) <| P1 h9 <| P1 (int_lt_of_at h9 hx10) <| P1 (at_map gi_Node hx10) <| P2 (((x3.Turn : Int) != (IntKind.wrap .i64 (x10.Turn + 1))) = true) (bneT h11) <| P0)))
          (fun h8 H =>
            eN H <| gE func73 [rg [{ i := 4, call := some { cl := true, auto := true, ins := [], res := (RB r7), G' := [] }, dec := some false }], r0] (by kernel_rfl) (P1 (cs_l1In hr7) <| P2 (r7 = false) (eqF h8) <| P0))))
      (fun h5 H =>
        eN H <| gE func73 [rg [{ i := 2, call := some { cl := true, auto := true, ins := [], res := (RB r4), G' := [] }, dec := some false }], r0] (by kernel_rfl) (P1 (cs_dSeed hr4) <| P2 (r4 = false) (eqF h5) <| P0)))
    (fun h1 H =>
      eN H <| gE func73 [rg [hF 0], r0] (by kernel_rfl) (P2 ((decide (t3 < t2)) = false) (decide_eq_false h1) <| P0))
theorem ws_nGood : ∀ s r, loop Bs_nGood s = some r → Wc X 73 0 (Ks_nGood s) (Zs_nGood s) (RB r) ((fun _ => []) r) := Nx.all ns_nGood
theorem cs_nGood {a0 : (List Gi_Node)} {r : Bool} (H : Ds_nGood a0 = some r) : Ct X.P X.gl 73 [sl 3 gi_Node a0] [] (RB r) [] :=
  Ct.of func73 (c := bdy f73) (by kernel_rfl) (by kernel_rfl) <|
  eBind H fun r1 hr1 H =>
  gS [r0] (by kernel_rfl) P0 <|
  eIf H (fun h2 H =>
    gO [rg [{ i := 2, call := some { cl := true, auto := true, ins := [], res := (RB r1), G' := [] }, dec := some true }], r0, .canon [] [0, 9, 10, 11]] (by kernel_rfl) (P1 (cs_l1In hr1) <| P2 (r1 = true) (h2) <| P0) (ws_nGood _ _ H))
  (fun h2 H =>
    eW RB (fun _ => []) H <| gE func73 [rg [{ i := 2, call := some { cl := true, auto := true, ins := [], res := (RB r1), G' := [] }, dec := some false }], r0] (by kernel_rfl) (P1 (cs_l1In hr1) <| P2 (r1 = false) (eqF h2) <| P0))
/-! loop example/g00886/spec GraftTree -/
def Rs_GraftTree (r : (List Gi_Node) × (List Int) × Bool) : List D := [ow 3 gi_Node r.1, ow 1 I r.2.1, .bool r.2.2]
noncomputable def Ks_GraftTree : Ss_GraftTree → List Item
  | .h1 .. => nav 300 5 [false] [.code (bdy f21)]
def Zs_GraftTree : Ss_GraftTree → St
  | .h1 t0 t1 t2 l3 l4 => ⟨sts 67 [(7, .ref 0 3 none), (8, .ref 1 1 none), (38, sl 3 gi_Node t0), (39, I t1), (40, I t2)], [some ⟨false, false, 3, l3.length, List.map gi_Node l3⟩, some ⟨false, false, 1, l4.length, List.map I l4⟩]⟩
abbrev Qs_GraftTree := Nx X 21 0 Ks_GraftTree Zs_GraftTree Rs_GraftTree (fun _ => [])
theorem ns_GraftTree : ∀ s o, Bs_GraftTree s = some o → Qs_GraftTree (Ks_GraftTree s) (Zs_GraftTree s) o
  | .h1 t0 t1 t2 l3 l4, o, H =>
    eIf H (fun h1 H =>
      eCk H fun h2 H =>
      eBind H fun x3 hx3 H =>
      eCk H fun h4 H =>
      eBind H fun x5 hx5 H =>
      eBind H fun r6 hr6 H =>
      gN [rg [hT 0], rg [hE 1 (gi_Node x3)]] (by kernel_rfl) (P2 ((decide (t2 < t1)) = true) (decide_eq_true h1) <| P1 h2 <| P1 (int_lt_of_at h2 hx3) <| P1 (at_map gi_Node hx3) <| P0) <|
      eIf H (fun h7 H =>
        eCk H fun h8 H =>
        eN H fun r hn => gO [rg [hE 5 (I x5), hC 8 false [] (Rs_nAdd r6) [], hT 12], r0, r0, rg [hA 3 ((l4 ++ [r6.2.1]).length) (List.map I (l4 ++ [r6.2.1]))], r0, .canon [3, 5] [7, 8, 38, 39, 40]] (by kernel_rfl) (P1 h4 <| P1 (int_lt_of_at h4 hx5) <| P1 (at_map I hx5) <| P2 (nfL (List.flatMap D.cells (Rs_nAdd r6))) ⟨nfL_map nf_48 _, trivial, trivial, trivial⟩ <| P2 (nfG []) trivial <| P1 (cs_nAdd hr6) <| P2 (r6.2.2 = true) (h7) <| P1 (apL l4 [r6.2.1]) <| P1 (apB h8) <| P1 (apM I l4 [r6.2.1]) <| P0) hn)
      (fun h7 H =>
        eN H <| gE func21 [rg [hE 5 (I x5), hC 8 false [] (Rs_nAdd r6) [], hF 12], r0, r0] (by kernel_rfl) (P1 h4 <| P1 (int_lt_of_at h4 hx5) <| P1 (at_map I hx5) <| P2 (nfL (List.flatMap D.cells (Rs_nAdd r6))) ⟨nfL_map nf_48 _, trivial, trivial, trivial⟩ <| P2 (nfG []) trivial <| P1 (cs_nAdd hr6) <| P2 (r6.2.2 = false) (eqF h7) <| P0)))
    (fun h1 H =>
      eN H <| gE func21 [rg [hF 0], r0] (by kernel_rfl) (P2 ((decide (t2 < t1)) = false) (decide_eq_false h1) <| P0))
theorem ws_GraftTree : ∀ s r, loop Bs_GraftTree s = some r → Wc X 21 0 (Ks_GraftTree s) (Zs_GraftTree s) (Rs_GraftTree r) ((fun _ => []) r) := Nx.all ns_GraftTree
theorem cs_GraftTree {a0 : (List Gi_Node)} {a1 : (List Gi_Node)} {r : (List Gi_Node) × (List Int) × Bool} (H : Ds_GraftTree a0 a1 = some r) : Ct X.P X.gl 21 [sl 3 gi_Node a0, sl 3 gi_Node a1] [] (Rs_GraftTree r) [] :=
  Ct.of func21 (c := bdy f21) (by kernel_rfl) (by kernel_rfl) <|
  eBind H fun r1 hr1 H =>
  gS [r0] (by kernel_rfl) P0 <|
  eIf H (fun h2 H =>
    eBind H fun r3 hr3 H =>
    eIf H (fun h4 H =>
      eBind H fun x5 hx5 H =>
      eBind H fun x6 hx6 H =>
      eIf H (fun h7 H =>
        eCk H fun h8 H =>
        eCk H fun h9 H =>
        gO [rg [{ i := 1, call := some { cl := true, auto := true, ins := [], res := (RB r1), G' := [] }, dec := some true }, { i := 5, call := some { cl := true, auto := true, ins := [], res := (RB r3), G' := [] }, dec := some true }, hE 12 (gi_Node x5), hE 16 (gi_Node x6), hF 17], rg [hA 2 a0.length (List.map gi_Node a0)], r0, rg [hA 1 ((List.take (a1.length - (Int.toNat 1)) (List.drop (Int.toNat 1) a1)).length) (List.map gi_Node (List.take (a1.length - (Int.toNat 1)) (List.drop (Int.toNat 1) a1)))], .canon [1, 2] [7, 8, 38, 39, 40]] (by kernel_rfl) (P1 (cs_nGood hr1) <| P2 (r1 = true) (h2) <| P1 (cs_nGood hr3) <| P2 (r3 = true) (h4) <| P2 ((0 : Int) ≤ 0) (by decide) <| P1 (int_lt_of_at (by decide : (0 : Int) ≤ 0) hx5) <| P1 (at_map gi_Node hx5) <| P2 ((0 : Int) ≤ 0) (by decide) <| P1 (int_lt_of_at (by decide : (0 : Int) ≤ 0) hx6) <| P1 (at_map gi_Node hx6) <| P2 (((x5.Hash : Int) != x6.Hash) = false) (bneF h7) <| P2 (AllFl (List.map gi_Node a0)) (allFl_48 _) <| P2 (a0.length = ([] : List Gi_Node).length + a0.length) (by simp <;> omega) <| P2 ((([] : List Gi_Node).length + a0.length) * 24 ≤ 70368744177664) (by have := h8; simp at this ⊢ <;> omega) <| P2 (List.map gi_Node ([] : List Gi_Node) ++ List.map gi_Node a0 = List.map gi_Node a0) (by simp) <| P2 ((0 : Int) ≤ 1) (by decide) <| P2 ((1 : Int) ≤ ((a1.length : Nat) : Int)) h9 <| P2 ((List.take (a1.length - (Int.toNat 1)) (List.drop (Int.toNat 1) a1)).length = a1.length - (Int.toNat 1)) (by simp <;> omega) <| P2 (List.take (a1.length - (Int.toNat 1)) (List.drop (Int.toNat 1) (List.map gi_Node a1)) = List.map gi_Node (List.take (a1.length - (Int.toNat 1)) (List.drop (Int.toNat 1) a1))) (by simp [List.map_drop, List.map_take]) <| P0) (ws_GraftTree _ _ H))
      (fun h7 H =>
        eW Rs_GraftTree (fun _ => []) H <| gE func21 [rg [{ i := 1, call := some { cl := true, auto := true, ins := [], res := (RB r1), G' := [] }, dec := some true }, { i := 5, call := some { cl := true, auto := true, ins := [], res := (RB r3), G' := [] }, dec := some true }, hE 12 (gi_Node x5), hE 16 (gi_Node x6), hT 17], r0] (by kernel_rfl) (P1 (cs_nGood hr1) <| P2 (r1 = true) (h2) <| P1 (cs_nGood hr3) <| P2 (r3 = true) (h4) <| P2 ((0 : Int) ≤ 0) (by decide) <| P1 (int_lt_of_at (by decide : (0 : Int) ≤ 0) hx5) <| P1 (at_map gi_Node hx5) <| P2 ((0 : Int) ≤ 0) (by decide) <| P1 (int_lt_of_at (by decide : (0 : Int) ≤ 0) hx6) <| P1 (at_map gi_Node hx6) <| P2 (((x5.Hash : Int) != x6.Hash) = true) (bneT h7) <| P0)))
    (fun h4 H =>
      eW Rs_GraftTree (fun _ => []) H <| gE func21 [rg [{ i := 1, call := some { cl := true, auto := true, ins := [], res := (RB r1), G' := [] }, dec := some true }, { i := 5, call := some { cl := true, auto := true, ins := [], res := (RB r3), G' := [] }, dec := some false }], r0] (by kernel_rfl) (P1 (cs_nGood hr1) <| P2 (r1 = true) (h2) <| P1 (cs_nGood hr3) <| P2 (r3 = false) (eqF h4) <| P0)))
  (fun h2 H =>
    eW Rs_GraftTree (fun _ => []) H <| gE func21 [rg [{ i := 1, call := some { cl := true, auto := true, ins := [], res := (RB r1), G' := [] }, dec := some false }], r0] (by kernel_rfl) (P1 (cs_nGood hr1) <| P2 (r1 = false) (eqF h2) <| P0))
/-! loop example/g00886/laws pSameNodes -/
noncomputable def Kw_pSameNodes : Sw_pSameNodes → List Item
  | .h1 .. => nav 300 3 [false] [.code (bdy f22)]
def Zw_pSameNodes : Sw_pSameNodes → St
  | .h1 va0 b1 t2 t3 => ⟨sts 26 [(0, sl 3 gi_Node va0), (1, sl 3 gi_Node b1), (12, I t2), (13, I t3)], []⟩
abbrev Qw_pSameNodes := Nx X 22 0 Kw_pSameNodes Zw_pSameNodes RB (fun _ => [])
theorem nw_pSameNodes : ∀ s o, Bw_pSameNodes s = some o → Qw_pSameNodes (Kw_pSameNodes s) (Zw_pSameNodes s) o
  | .h1 va0 b1 t2 t3, o, H =>
    eIf H (fun h1 H =>
      eCk H fun h2 H =>
      eBind H fun x3 hx3 H =>
      eCk H fun h4 H =>
      eBind H fun x5 hx5 H =>
      gN [rg [hT 0], r0] (by kernel_rfl) (P2 ((decide (t3 < t2)) = true) (decide_eq_true h1) <| P0) <|
      eIf H (fun h6 H =>
        eN H <| gE func22 [rg [hE 3 (gi_Node x3), hE 7 (gi_Node x5), hT 8], r0] (by kernel_rfl) (P1 h2 <| P1 (int_lt_of_at h2 hx3) <| P1 (at_map gi_Node hx3) <| P1 h4 <| P1 (int_lt_of_at h4 hx5) <| P1 (at_map gi_Node hx5) <| P2 ((!((x3.Parent == x5.Parent) && ((x3.Turn == x5.Turn) && (x3.Hash == x5.Hash)))) = true) (h6) <| P0))
      (fun h6 H =>
        eN H fun r hn => gO [rg [hE 3 (gi_Node x3), hE 7 (gi_Node x5), hF 8], r0, .canon [] [0, 1, 12, 13]] (by kernel_rfl) (P1 h2 <| P1 (int_lt_of_at h2 hx3) <| P1 (at_map gi_Node hx3) <| P1 h4 <| P1 (int_lt_of_at h4 hx5) <| P1 (at_map gi_Node hx5) <| P2 ((!((x3.Parent == x5.Parent) && ((x3.Turn == x5.Turn) && (x3.Hash == x5.Hash)))) = false) (eqF h6) <| P0) hn))
    (fun h1 H =>
      eN H <| gE func22 [rg [hF 0], r0] (by kernel_rfl) (P2 ((decide (t3 < t2)) = false) (decide_eq_false h1) <| P0))
theorem ww_pSameNodes : ∀ s r, loop Bw_pSameNodes s = some r → Wc X 22 0 (Kw_pSameNodes s) (Zw_pSameNodes s) (RB r) ((fun _ => []) r) := Nx.all nw_pSameNodes
theorem cw_pSameNodes {a0 : (List Gi_Node)} {a1 : (List Gi_Node)} {r : Bool} (H : Dw_pSameNodes a0 a1 = some r) : Ct X.P X.gl 22 [sl 3 gi_Node a0, sl 3 gi_Node a1] [] (RB r) [] :=
  Ct.of func22 (c := bdy f22) (by kernel_rfl) (by kernel_rfl) <|
  gS [r0] (by kernel_rfl) P0 <|
  eIf H (fun h1 H =>
    gO [rg [hF 4], r0, .canon [] [0, 1, 12, 13]] (by kernel_rfl) (P2 (((((a0.length : Nat) : Int) : Int) != ((a1.length : Nat) : Int)) = false) (bneF h1) <| P0) (ww_pSameNodes _ _ H))
  (fun h1 H =>
    eW RB (fun _ => []) H <| gE func22 [rg [hT 4], r0] (by kernel_rfl) (P2 (((((a0.length : Nat) : Int) : Int) != ((a1.length : Nat) : Int)) = true) (bneT h1) <| P0))
/-! loop example/g00886/laws sameInts -/
noncomputable def Kw_sameInts : Sw_sameInts → List Item
  | .h1 .. => nav 300 3 [false] [.code (bdy f10)]
def Zw_sameInts : Sw_sameInts → St
  | .h1 va0 b1 t2 t3 => ⟨sts 26 [(0, sl 1 I va0), (1, sl 1 I b1), (12, I t2), (13, I t3)], []⟩
abbrev Qw_sameInts := Nx X 10 0 Kw_sameInts Zw_sameInts RB (fun _ => [])
theorem nw_sameInts : ∀ s o, Bw_sameInts s = some o → Qw_sameInts (Kw_sameInts s) (Zw_sameInts s) o
  | .h1 va0 b1 t2 t3, o, H =>
    eIf H (fun h1 H =>
      eCk H fun h2 H =>
      eBind H fun x3 hx3 H =>
      eCk H fun h4 H =>
      eBind H fun x5 hx5 H =>
      gN [rg [hT 0], r0] (by kernel_rfl) (P2 ((decide (t3 < t2)) = true) (decide_eq_true h1) <| P0) <|
      eIf H (fun h6 H =>
        eN H fun r hn => gO [rg [hE 3 (I x3), hE 7 (I x5), hF 8], r0, .canon [] [0, 1, 12, 13]] (by kernel_rfl) (P1 h2 <| P1 (int_lt_of_at h2 hx3) <| P1 (at_map I hx3) <| P1 h4 <| P1 (int_lt_of_at h4 hx5) <| P1 (at_map I hx5) <| P2 (((x3 : Int) != x5) = false) (bneF h6) <| P0) hn)
      (fun h6 H =>
        eN H <| gE func10 [rg [hE 3 (I x3), hE 7 (I x5), hT 8], r0] (by kernel_rfl) (P1 h2 <| P1 (int_lt_of_at h2 hx3) <| P1 (at_map I hx3) <| P1 h4 <| P1 (int_lt_of_at h4 hx5) <| P1 (at_map I hx5) <| P2 (((x3 : Int) != x5) = true) (bneT h6) <| P0)))
    (fun h1 H =>
      eN H <| gE func10 [rg [hF 0], r0] (by kernel_rfl) (P2 ((decide (t3 < t2)) = false) (decide_eq_false h1) <| P0))
theorem ww_sameInts : ∀ s r, loop Bw_sameInts s = some r → Wc X 10 0 (Kw_sameInts s) (Zw_sameInts s) (RB r) ((fun _ => []) r) := Nx.all nw_sameInts
theorem cw_sameInts {a0 : (List Int)} {a1 : (List Int)} {r : Bool} (H : Dw_sameInts a0 a1 = some r) : Ct X.P X.gl 10 [sl 1 I a0, sl 1 I a1] [] (RB r) [] :=
  Ct.of func10 (c := bdy f10) (by kernel_rfl) (by kernel_rfl) <|
  gS [r0] (by kernel_rfl) P0 <|
  eIf H (fun h1 H =>
    gO [rg [hF 4], r0, .canon [] [0, 1, 12, 13]] (by kernel_rfl) (P2 (((((a0.length : Nat) : Int) : Int) != ((a1.length : Nat) : Int)) = false) (bneF h1) <| P0) (ww_sameInts _ _ H))
  (fun h1 H =>
    eW RB (fun _ => []) H <| gE func10 [rg [hT 4], r0] (by kernel_rfl) (P2 (((((a0.length : Nat) : Int) : Int) != ((a1.length : Nat) : Int)) = true) (bneT h1) <| P0))
/-!   loop example/g00886/spec l1Cur  nodeOf -/
def Rs_l1Cur_nodeOf (r : Int × Gs_l1Cur) : List D := [I r.1]
def Ns_l1Cur_nodeOf (r : Int × Gs_l1Cur) : List Root := [⟨false, true, 3, 1, [.agg [sl 1 (D.int .u8) r.2.code, I r.2.at_, .int .u64 r.2.seed]]⟩]
theorem cs_l1Cur_nodeOf {a0 : Gs_l1Cur} {a1 : (List Gi_Node)} {r : Int × Gs_l1Cur} (H : Ds_l1Cur_nodeOf a0 a1 = some r) : Ct X.P X.gl 79 [.ptr 0 3 0 0, sl 3 gi_Node a1] [⟨false, true, 3, 1, [.agg [sl 1 (D.int .u8) a0.code, I a0.at_, .int .u64 a0.seed]]⟩] (Rs_l1Cur_nodeOf r) (Ns_l1Cur_nodeOf r) :=
  Ct.of func79 (c := bdy f79) (by kernel_rfl) (by kernel_rfl) <|
  eBind H fun r1 hr1 H =>
  eBind H fun r2 hr2 H =>
  eBind H fun r3 hr3 H =>
  eW Rs_l1Cur_nodeOf Ns_l1Cur_nodeOf H <| gE func79 [r0, rg [hC 4 true [0] (Rs_l1Cur_pick r1) (Ns_l1Cur_pick r1), hC 7 true [0] (Rs_l1Cur_pick r2) (Ns_l1Cur_pick r2), hC 9 true [0] (Rs_l1Cur_pick r3) (Ns_l1Cur_pick r3)]] (by kernel_rfl) (PI (1 : Nat) <| P1 (cs_l1Cur_pick hr1) <| P2 (¬ (15 : Int) = 0) (by decide) <| PI (1 : Nat) <| P1 (cs_l1Cur_pick hr2) <| PI (1 : Nat) <| P1 (cs_l1Cur_pick hr3) <| P2 (¬ (23 : Int) = 0) (by decide) <| P0)
/-! loop example/g00886/spec DrawForkOf -/
def Rs_DrawForkOf (r : (List Gi_Node) × Int × Int) : List D := [sl 3 gi_Node r.1, I r.2.1, I r.2.2]
theorem cs_DrawForkOf {a0 : (List Int)} {r : (List Gi_Node) × Int × Int} (H : Ds_DrawForkOf a0 = some r) : Ct X.P X.gl 24 [sl 1 (D.int .u8) a0] [] (Rs_DrawForkOf r) [] :=
  Ct.of func24 (c := bdy f24) (by kernel_rfl) (by kernel_rfl) <|
  eBind H fun r1 hr1 H =>
  eBind H fun r2 hr2 H =>
  eBind H fun r3 hr3 H =>
  eW Rs_DrawForkOf (fun _ => []) H <| gE func24 [r0, r0, rg [hC 1 true [0] (Rs_l1Cur_anyNodes r1) (Ns_l1Cur_anyNodes r1)], rg [{ i := 3, frz := [1], call := some { cl := true, auto := true, ins := [0], res := (Rs_l1Cur_nodeOf r2), G' := (Ns_l1Cur_nodeOf r2) } }, hC 6 true [0] (Rs_l1Cur_nodeOf r3) (Ns_l1Cur_nodeOf r3)]] (by kernel_rfl) (PI (1 : Nat) <| P1 (cs_l1Cur_anyNodes hr1) <| PI (1 : Nat) <| P1 (cs_l1Cur_nodeOf hr2) <| PI (1 : Nat) <| P1 (cs_l1Cur_nodeOf hr3) <| P0)
/-! slices Reverse   int int  -/
def Rslices_Reverse_int (r : (List Int)) : List D := []
def Nslices_Reverse_int (r : (List Int)) : List Root := [⟨false, false, 1, r.length, List.map I r⟩]
noncomputable def Kslices_Reverse_int : Sslices_Reverse_int → List Item
  | .h1 .. => nav 300 1 [] [.code (bdy f114)]
def Zslices_Reverse_int : Sslices_Reverse_int → St
  | .h1 i0 j1 l2 => ⟨sts 28 [(0, .ref 0 1 none), (2, I i0), (3, I j1)], [some ⟨false, false, 1, l2.length, List.map I l2⟩]⟩
abbrev Qslices_Reverse_int := Nx X 114 1 Kslices_Reverse_int Zslices_Reverse_int Rslices_Reverse_int Nslices_Reverse_int
theorem nslices_Reverse_int : ∀ s o, Bslices_Reverse_int s = some o → Qslices_Reverse_int (Kslices_Reverse_int s) (Zslices_Reverse_int s) o
  | .h1 i0 j1 l2, o, H =>
    eIf H (fun h1 H =>
      eCk H fun h2 H =>
      eBind H fun x3 hx3 H =>
      eCk H fun h4 H =>
      eBind H fun x5 hx5 H =>
      eCk H fun h6 H =>
      eBind H fun x7 hx7 H =>
      eCk H fun h8 H =>
      eBind H fun x9 hx9 H =>
      eN H fun r hn => gO [rg [hT 2], rg [hE 7 (I x3), hE 11 (I x5), hA 13 ((List.set l2 (Int.toNat i0) x3).length) (List.map I (List.set l2 (Int.toNat i0) x3)), hA 15 ((List.set (List.set l2 (Int.toNat i0) x3) (Int.toNat j1) x5).length) (List.map I (List.set (List.set l2 (Int.toNat i0) x3) (Int.toNat j1) x5))], r0, .canon [0] [0, 2, 3]] (by kernel_rfl) (P2 ((decide (i0 < j1)) = true) (decide_eq_true h1) <| P1 h2 <| P1 (int_lt_of_at h2 hx3) <| P1 (at_map I hx3) <| P1 h4 <| P1 (int_lt_of_at h4 hx5) <| P1 (at_map I hx5) <| P1 h6 <| P1 (int_lt_of_at h6 hx7) <| P1 (lt_of_at hx7) <| P2 (setCells (List.map I l2) (Int.toNat i0) 0 [I x3] = List.map I (List.set l2 (Int.toNat i0) x3)) (setCells_map hx7 rfl) <| P1 (setLen l2 (Int.toNat i0) x3) <| P1 h8 <| P1 (int_lt_of_at h8 hx9) <| P1 (lt_of_at hx9) <| P2 (setCells (List.map I (List.set l2 (Int.toNat i0) x3)) (Int.toNat j1) 0 [I x5] = List.map I (List.set (List.set l2 (Int.toNat i0) x3) (Int.toNat j1) x5)) (setCells_map hx9 rfl) <| P1 (setLen (List.set l2 (Int.toNat i0) x3) (Int.toNat j1) x5) <| P0) hn)
    (fun h1 H =>
      eN H <| gE func114 [rg [hF 2]] (by kernel_rfl) (P2 ((decide (i0 < j1)) = false) (decide_eq_false h1) <| P0))
theorem wslices_Reverse_int : ∀ s r, loop Bslices_Reverse_int s = some r → Wc X 114 1 (Kslices_Reverse_int s) (Zslices_Reverse_int s) (Rslices_Reverse_int r) (Nslices_Reverse_int r) := Nx.all nslices_Reverse_int
theorem cslices_Reverse_int {a0 : (List Int)} {r : (List Int)} (H : Dslices_Reverse_int a0 = some r) : Ct X.P X.gl 114 [.ref 0 1 none] [⟨false, false, 1, a0.length, List.map I a0⟩] (Rslices_Reverse_int r) (Nslices_Reverse_int r) :=
  Ct.of func114 (c := bdy f114) (by kernel_rfl) (by kernel_rfl) <|
  gO [r0, .canon [0] [0, 2, 3]] (by kernel_rfl) P0 (wslices_Reverse_int _ _ H)
/-! loop example/g00886/impl lineTo -/
def Ri_lineTo (r : (List Int)) : List D := [ow 1 I r]
noncomputable def Ki_lineTo : Si_lineTo → List Item
  | .h1 .. => nav 300 2 [] [.code (bdy f80)]
def Zi_lineTo : Si_lineTo → St
  | .h1 l0 i1 l2 => ⟨sts 21 [(0, sl 3 gi_Node l0), (1, I i1), (5, .ref 0 1 none)], [some ⟨false, false, 1, l2.length, List.map I l2⟩]⟩
abbrev Qi_lineTo := Nx X 80 0 Ki_lineTo Zi_lineTo Ri_lineTo (fun _ => [])
theorem ni_lineTo : ∀ s o, Bi_lineTo s = some o → Qi_lineTo (Ki_lineTo s) (Zi_lineTo s) o
  | .h1 l0 i1 l2, o, H =>
    eIf H (fun h1 H =>
      eCk H fun h2 H =>
      eCk H fun h3 H =>
      eBind H fun x4 hx4 H =>
      eN H fun r hn => gO [rg [hT 1], rg [hA 3 ((l2 ++ [i1]).length) (List.map I (l2 ++ [i1]))], rg [hE 4 (gi_Node x4)], .canon [2] [0, 1, 5]] (by kernel_rfl) (P2 ((decide (i1 ≥ 0)) = true) (decide_eq_true h1) <| P1 (apL l2 [i1]) <| P1 (apB h2) <| P1 (apM I l2 [i1]) <| P1 h3 <| P1 (int_lt_of_at h3 hx4) <| P1 (at_map gi_Node hx4) <| P0) hn)
    (fun h1 H =>
      eBind H fun r2 hr2 H =>
      eCk H fun h3 H =>
      eN H <| gE func80 [rg [hF 1], rg [hC 1 true [0] (Rslices_Reverse_int r2) (Nslices_Reverse_int r2)], r0] (by kernel_rfl) (P2 ((decide (i1 ≥ 0)) = false) (decide_eq_false h1) <| P1 h3 <| P1 (cslices_Reverse_int hr2) <| P0))
theorem wi_lineTo : ∀ s r, loop Bi_lineTo s = some r → Wc X 80 0 (Ki_lineTo s) (Zi_lineTo s) (Ri_lineTo r) ((fun _ => []) r) := Nx.all ni_lineTo
theorem ci_lineTo {a0 : (List Gi_Node)} {a1 : Int} {r : (List Int)} (H : Di_lineTo a0 a1 = some r) : Ct X.P X.gl 80 [sl 3 gi_Node a0, I a1] [] (Ri_lineTo r) [] :=
  Ct.of func80 (c := bdy f80) (by kernel_rfl) (by kernel_rfl) <|
  gO [r0, r0, .canon [0] [0, 1, 5]] (by kernel_rfl) P0 (wi_lineTo _ _ H)
/-! loop example/g00886/impl ForkOf -/
def Ri_ForkOf (r : Int × Bool) : List D := [I r.1, .bool r.2]
noncomputable def Ki_ForkOf : Si_ForkOf → List Item
  | .h1 .. => nav 300 4 [false] [.code (bdy f25)]
def Zi_ForkOf : Si_ForkOf → St
  | .h1 fork0 n1 l2 l3 => ⟨sts 60 [(8, .ref 0 1 none), (9, .ref 1 1 none), (10, I fork0), (11, I n1)], [some ⟨false, false, 1, l2.length, List.map I l2⟩, some ⟨false, false, 1, l3.length, List.map I l3⟩]⟩
abbrev Qi_ForkOf := Nx X 25 0 Ki_ForkOf Zi_ForkOf Ri_ForkOf (fun _ => [])
theorem ni_ForkOf : ∀ s o, Bi_ForkOf s = some o → Qi_ForkOf (Ki_ForkOf s) (Zi_ForkOf s) o
  | .h1 fork0 n1 l2 l3, o, H =>
    eIf H (fun h1 H =>
      eCk H fun h2 H =>
      eBind H fun x3 hx3 H =>
      eCk H fun h4 H =>
      eBind H fun x5 hx5 H =>
      eIf H (fun h6 H =>
        eCk H fun h7 H =>
        eBind H fun x8 hx8 H =>
        eN H fun r hn => gO [rg [hT 6, hE 11 (I x3), hE 15 (I x5), hT 16], rg [hE 3 (I x8)], r0, .canon [0, 1] [8, 9, 10, 11]] (by kernel_rfl) (P2 ((decide (n1 < (if ((l3.length : Nat) : Int) < ((l2.length : Nat) : Int) then ((l3.length : Nat) : Int) else ((l2.length : Nat) : Int)))) = true) (decide_eq_true h1) <| P1 h2 <| P1 (int_lt_of_at h2 hx3) <| P1 (at_map I hx3) <| P1 h4 <| P1 (int_lt_of_at h4 hx5) <| P1 (at_map I hx5) <| P2 (((x3 : Int) == x5) = true) (beqT h6) <| P1 h7 <| P1 (int_lt_of_at h7 hx8) <| P1 (at_map I hx8) <| P0) hn)
      (fun h6 H =>
        eN H <| gE func25 [rg [hT 6, hE 11 (I x3), hE 15 (I x5), hF 16], r0] (by kernel_rfl) (P2 ((decide (n1 < (if ((l3.length : Nat) : Int) < ((l2.length : Nat) : Int) then ((l3.length : Nat) : Int) else ((l2.length : Nat) : Int)))) = true) (decide_eq_true h1) <| P1 h2 <| P1 (int_lt_of_at h2 hx3) <| P1 (at_map I hx3) <| P1 h4 <| P1 (int_lt_of_at h4 hx5) <| P1 (at_map I hx5) <| P2 (((x3 : Int) == x5) = false) (beqF h6) <| P0)))
    (fun h1 H =>
      eN H <| gE func25 [rg [hF 6], r0] (by kernel_rfl) (P2 ((decide (n1 < (if ((l3.length : Nat) : Int) < ((l2.length : Nat) : Int) then ((l3.length : Nat) : Int) else ((l2.length : Nat) : Int)))) = false) (decide_eq_false h1) <| P0))
theorem wi_ForkOf : ∀ s r, loop Bi_ForkOf s = some r → Wc X 25 0 (Ki_ForkOf s) (Zi_ForkOf s) (Ri_ForkOf r) ((fun _ => []) r) := Nx.all ni_ForkOf
theorem ci_ForkOf {a0 : (List Gi_Node)} {a1 : Int} {a2 : Int} {r : Int × Bool} (H : Di_ForkOf a0 a1 a2 = some r) : Ct X.P X.gl 25 [sl 3 gi_Node a0, I a1, I a2] [] (Ri_ForkOf r) [] :=
  Ct.of func25 (c := bdy f25) (by kernel_rfl) (by kernel_rfl) <|
  eBind H fun r1 hr1 H =>
  gS [r0] (by kernel_rfl) P0 <|
  eIf H (fun h2 H =>
    eBind H fun r3 hr3 H =>
    eIf H (fun h4 H =>
      eBind H fun r5 hr5 H =>
      eIf H (fun h6 H =>
        eBind H fun r7 hr7 H =>
        eBind H fun r8 hr8 H =>
        gO [rg [{ i := 1, call := some { cl := true, auto := true, ins := [], res := (RB r1), G' := [] }, dec := some true }, { i := 7, call := some { cl := true, auto := true, ins := [], res := (RB r3), G' := [] }, dec := some true }, { i := 14, call := some { cl := true, auto := true, ins := [], res := (RB r5), G' := [] }, dec := some true }], rg [hC 2 true [] (Ri_lineTo r7) [], hC 5 true [] (Ri_lineTo r8) []], r0, .canon [0, 1] [8, 9, 10, 11]] (by kernel_rfl) (P1 (ci_IsTree hr1) <| P2 (r1 = true) (h2) <| P1 (ci_isIndex hr3) <| P2 (r3 = true) (h4) <| P1 (ci_isIndex hr5) <| P2 (r5 = true) (h6) <| P1 (ci_lineTo hr7) <| P1 (ci_lineTo hr8) <| P0) (wi_ForkOf _ _ H))
      (fun h6 H =>
        eW Ri_ForkOf (fun _ => []) H <| gE func25 [rg [{ i := 1, call := some { cl := true, auto := true, ins := [], res := (RB r1), G' := [] }, dec := some true }, { i := 7, call := some { cl := true, auto := true, ins := [], res := (RB r3), G' := [] }, dec := some true }, { i := 14, call := some { cl := true, auto := true, ins := [], res := (RB r5), G' := [] }, dec := some false }], r0] (by kernel_rfl) (P1 (ci_IsTree hr1) <| P2 (r1 = true) (h2) <| P1 (ci_isIndex hr3) <| P2 (r3 = true) (h4) <| P1 (ci_isIndex hr5) <| P2 (r5 = false) (eqF h6) <| P0)))
    (fun h4 H =>
      eW Ri_ForkOf (fun _ => []) H <| gE func25 [rg [{ i := 1, call := some { cl := true, auto := true, ins := [], res := (RB r1), G' := [] }, dec := some true }, { i := 7, call := some { cl := true, auto := true, ins := [], res := (RB r3), G' := [] }, dec := some false }], r0] (by kernel_rfl) (P1 (ci_IsTree hr1) <| P2 (r1 = true) (h2) <| P1 (ci_isIndex hr3) <| P2 (r3 = false) (eqF h4) <| P0)))
  (fun h2 H =>
    eW Ri_ForkOf (fun _ => []) H <| gE func25 [rg [{ i := 1, call := some { cl := true, auto := true, ins := [], res := (RB r1), G' := [] }, dec := some false }], r0] (by kernel_rfl) (P1 (ci_IsTree hr1) <| P2 (r1 = false) (eqF h2) <| P0))
/-! loop example/g00886/spec nNode -/
theorem cs_nNode {a0 : (List Gi_Node)} {a1 : Int} {r : Bool} (H : Ds_nNode a0 a1 = some r) : Ct X.P X.gl 81 [sl 3 gi_Node a0, I a1] [] (RB r) [] :=
  Ct.of func81 (c := bdy f81) (by kernel_rfl) (by kernel_rfl) <|
  eBind H fun r1 hr1 H =>
  gS [r0] (by kernel_rfl) P0 <|
  eIf H (fun h2 H =>
    eBind H fun r3 hr3 H =>
    eW RB (fun _ => []) H <| gE func81 [rg [{ i := 1, call := some { cl := true, auto := true, ins := [], res := (RB r1), G' := [] }, dec := some true }, hC 7 true [] (RB r3) []]] (by kernel_rfl) (P1 (cs_nGood hr1) <| P2 (r1 = true) (h2) <| P1 (cs_l1In hr3) <| P0))
  (fun h2 H =>
    eW RB (fun _ => []) H <| gE func81 [rg [{ i := 1, call := some { cl := true, auto := true, ins := [], res := (RB r1), G' := [] }, dec := some false }]] (by kernel_rfl) (P1 (cs_nGood hr1) <| P2 (r1 = false) (eqF h2) <| P0))
/-! loop example/g00886/spec nLine -/
def Rs_nLine (r : (List Int)) : List D := [ow 1 I r]
noncomputable def Ks_nLine : Ss_nLine → List Item
  | .h1 .. => nav 300 2 [] [.code (bdy f82)]
def Zs_nLine : Ss_nLine → St
  | .h1 l0 i1 l2 => ⟨sts 18 [(0, sl 3 gi_Node l0), (1, I i1), (5, .ref 0 1 none)], [some ⟨false, false, 1, l2.length, List.map I l2⟩]⟩
abbrev Qs_nLine := Nx X 82 0 Ks_nLine Zs_nLine Rs_nLine (fun _ => [])
theorem ns_nLine : ∀ s o, Bs_nLine s = some o → Qs_nLine (Ks_nLine s) (Zs_nLine s) o
  | .h1 l0 i1 l2, o, H =>
    eIf H (fun h1 H =>
      eCk H fun h2 H =>
      eCk H fun h3 H =>
      eBind H fun x4 hx4 H =>
      eN H fun r hn => gO [rg [hT 1], rg [{ i := 3, keep := true, n := ([i1] ++ l2).length, xs := List.map I ([i1] ++ l2) }], rg [hE 4 (gi_Node x4)], .canon [2] [0, 1, 5]] (by kernel_rfl) (P2 ((decide (i1 ≥ 0)) = true) (decide_eq_true h1) <| P2 (AllFl (List.map I l2)) (allFl_3 _) <| P1 (apL [i1] l2) <| P1 (apB h2) <| P1 (apM I [i1] l2) <| P1 h3 <| P1 (int_lt_of_at h3 hx4) <| P1 (at_map gi_Node hx4) <| P0) hn)
    (fun h1 H =>
      eN H <| gE func82 [rg [hF 1], r0] (by kernel_rfl) (P2 ((decide (i1 ≥ 0)) = false) (decide_eq_false h1) <| P0))
theorem ws_nLine : ∀ s r, loop Bs_nLine s = some r → Wc X 82 0 (Ks_nLine s) (Zs_nLine s) (Rs_nLine r) ((fun _ => []) r) := Nx.all ns_nLine
theorem cs_nLine {a0 : (List Gi_Node)} {a1 : Int} {r : (List Int)} (H : Ds_nLine a0 a1 = some r) : Ct X.P X.gl 82 [sl 3 gi_Node a0, I a1] [] (Rs_nLine r) [] :=
  Ct.of func82 (c := bdy f82) (by kernel_rfl) (by kernel_rfl) <|
  gO [r0, r0, .own 5 1, .canon [0] [0, 1, 5]] (by kernel_rfl) P0 (ws_nLine _ _ H)
/-! loop example/g00886/spec ForkOf -/
def Rs_ForkOf (r : Int × Bool) : List D := [I r.1, .bool r.2]
noncomputable def Ks_ForkOf : Ss_ForkOf → List Item
  | .h1 .. => nav 300 5 [false] [.code (bdy f26)]
def Zs_ForkOf : Ss_ForkOf → St
  | .h1 last0 n1 l2 l3 => ⟨sts 56 [(8, .ref 0 1 none), (9, .ref 1 1 none), (10, I last0), (11, I n1)], [some ⟨false, false, 1, l2.length, List.map I l2⟩, some ⟨false, false, 1, l3.length, List.map I l3⟩]⟩
abbrev Qs_ForkOf := Nx X 26 0 Ks_ForkOf Zs_ForkOf Rs_ForkOf (fun _ => [])
theorem ns_ForkOf : ∀ s o, Bs_ForkOf s = some o → Qs_ForkOf (Ks_ForkOf s) (Zs_ForkOf s) o
  | .h1 last0 n1 l2 l3, o, H =>
    eIf H (fun h1 H =>
      eIf H (fun h2 H =>
        eCk H fun h3 H =>
        eBind H fun x4 hx4 H =>
        eCk H fun h5 H =>
        eBind H fun x6 hx6 H =>
        eIf H (fun h7 H =>
          eCk H fun h8 H =>
          eBind H fun x9 hx9 H =>
          eN H fun r hn => gO [rg [hT 3, hT 8, hE 14 (I x4), hE 18 (I x6), hT 19], rg [hE 3 (I x9)], r0, .canon [0, 1] [8, 9, 10, 11]] (by kernel_rfl) (P2 ((decide (n1 < ((l2.length : Nat) : Int))) = true) (decide_eq_true h1) <| P2 ((decide (n1 < ((l3.length : Nat) : Int))) = true) (decide_eq_true h2) <| P1 h3 <| P1 (int_lt_of_at h3 hx4) <| P1 (at_map I hx4) <| P1 h5 <| P1 (int_lt_of_at h5 hx6) <| P1 (at_map I hx6) <| P2 (((x4 : Int) == x6) = true) (beqT h7) <| P1 h8 <| P1 (int_lt_of_at h8 hx9) <| P1 (at_map I hx9) <| P0) hn)
        (fun h7 H =>
          eN H <| gE func26 [rg [hT 3, hT 8, hE 14 (I x4), hE 18 (I x6), hF 19], r0] (by kernel_rfl) (P2 ((decide (n1 < ((l2.length : Nat) : Int))) = true) (decide_eq_true h1) <| P2 ((decide (n1 < ((l3.length : Nat) : Int))) = true) (decide_eq_true h2) <| P1 h3 <| P1 (int_lt_of_at h3 hx4) <| P1 (at_map I hx4) <| P1 h5 <| P1 (int_lt_of_at h5 hx6) <| P1 (at_map I hx6) <| P2 (((x4 : Int) == x6) = false) (beqF h7) <| P0)))
      (fun h2 H =>
        eN H <| gE func26 [rg [hT 3, hF 8], r0] (by kernel_rfl) (P2 ((decide (n1 < ((l2.length : Nat) : Int))) = true) (decide_eq_true h1) <| P2 ((decide (n1 < ((l3.length : Nat) : Int))) = false) (decide_eq_false h2) <| P0)))
    (fun h1 H =>
      eN H <| gE func26 [rg [hF 3], r0] (by kernel_rfl) (P2 ((decide (n1 < ((l2.length : Nat) : Int))) = false) (decide_eq_false h1) <| P0))
theorem ws_ForkOf : ∀ s r, loop Bs_ForkOf s = some r → Wc X 26 0 (Ks_ForkOf s) (Zs_ForkOf s) (Rs_ForkOf r) ((fun _ => []) r) := Nx.all ns_ForkOf
theorem cs_ForkOf {a0 : (List Gi_Node)} {a1 : Int} {a2 : Int} {r : Int × Bool} (H : Ds_ForkOf a0 a1 a2 = some r) : Ct X.P X.gl 26 [sl 3 gi_Node a0, I a1, I a2] [] (Rs_ForkOf r) [] :=
  Ct.of func26 (c := bdy f26) (by kernel_rfl) (by kernel_rfl) <|
  eBind H fun r1 hr1 H =>
  gS [r0] (by kernel_rfl) P0 <|
  eIf H (fun h2 H =>
    eBind H fun r3 hr3 H =>
    eIf H (fun h4 H =>
      eBind H fun r5 hr5 H =>
      eBind H fun r6 hr6 H =>
      gO [rg [{ i := 2, call := some { cl := true, auto := true, ins := [], res := (RB r1), G' := [] }, dec := some true }, { i := 7, call := some { cl := true, auto := true, ins := [], res := (RB r3), G' := [] }, dec := some true }], rg [hC 2 true [] (Rs_nLine r5) [], hC 5 true [] (Rs_nLine r6) []], r0, r0, .canon [0, 1] [8, 9, 10, 11]] (by kernel_rfl) (P1 (cs_nNode hr1) <| P2 (r1 = true) (h2) <| P1 (cs_nNode hr3) <| P2 (r3 = true) (h4) <| P1 (cs_nLine hr5) <| P1 (cs_nLine hr6) <| P0) (ws_ForkOf _ _ H))
    (fun h4 H =>
      eW Rs_ForkOf (fun _ => []) H <| gE func26 [rg [{ i := 2, call := some { cl := true, auto := true, ins := [], res := (RB r1), G' := [] }, dec := some true }, { i := 7, call := some { cl := true, auto := true, ins := [], res := (RB r3), G' := [] }, dec := some false }], r0] (by kernel_rfl) (P1 (cs_nNode hr1) <| P2 (r1 = true) (h2) <| P1 (cs_nNode hr3) <| P2 (r3 = false) (eqF h4) <| P0)))
  (fun h2 H =>
    eW Rs_ForkOf (fun _ => []) H <| gE func26 [rg [{ i := 2, call := some { cl := true, auto := true, ins := [], res := (RB r1), G' := [] }, dec := some false }], r0] (by kernel_rfl) (P1 (cs_nNode hr1) <| P2 (r1 = false) (eqF h2) <| P0))
/-! loop example/g00886/impl LineTo -/
def Ri_LineTo (r : (List Int) × Bool) : List D := [ow 1 I r.1, .bool r.2]
theorem ci_LineTo {a0 : (List Gi_Node)} {a1 : Int} {r : (List Int) × Bool} (H : Di_LineTo a0 a1 = some r) : Ct X.P X.gl 27 [sl 3 gi_Node a0, I a1] [] (Ri_LineTo r) [] :=
  Ct.of func27 (c := bdy f27) (by kernel_rfl) (by kernel_rfl) <|
  eBind H fun r1 hr1 H =>
  gS [r0] (by kernel_rfl) P0 <|
  eIf H (fun h2 H =>
    eBind H fun r3 hr3 H =>
    eIf H (fun h4 H =>
      eBind H fun r5 hr5 H =>
      eW Ri_LineTo (fun _ => []) H <| gE func27 [rg [{ i := 1, call := some { cl := true, auto := true, ins := [], res := (RB r1), G' := [] }, dec := some true }, { i := 7, call := some { cl := true, auto := true, ins := [], res := (RB r3), G' := [] }, dec := some true }], rg [hC 2 true [] (Ri_lineTo r5) []]] (by kernel_rfl) (P1 (ci_IsTree hr1) <| P2 (r1 = true) (h2) <| P1 (ci_isIndex hr3) <| P2 (r3 = true) (h4) <| P1 (ci_lineTo hr5) <| P0))
    (fun h4 H =>
      eW Ri_LineTo (fun _ => []) H <| gE func27 [rg [{ i := 1, call := some { cl := true, auto := true, ins := [], res := (RB r1), G' := [] }, dec := some true }, { i := 7, call := some { cl := true, auto := true, ins := [], res := (RB r3), G' := [] }, dec := some false }], r0] (by kernel_rfl) (P1 (ci_IsTree hr1) <| P2 (r1 = true) (h2) <| P1 (ci_isIndex hr3) <| P2 (r3 = false) (eqF h4) <| P0)))
  (fun h2 H =>
    eW Ri_LineTo (fun _ => []) H <| gE func27 [rg [{ i := 1, call := some { cl := true, auto := true, ins := [], res := (RB r1), G' := [] }, dec := some false }], r0] (by kernel_rfl) (P1 (ci_IsTree hr1) <| P2 (r1 = false) (eqF h2) <| P0))
/-! loop example/g00886/spec LineTo -/
def Rs_LineTo (r : (List Int) × Bool) : List D := [ow 1 I r.1, .bool r.2]
theorem cs_LineTo {a0 : (List Gi_Node)} {a1 : Int} {r : (List Int) × Bool} (H : Ds_LineTo a0 a1 = some r) : Ct X.P X.gl 28 [sl 3 gi_Node a0, I a1] [] (Rs_LineTo r) [] :=
  Ct.of func28 (c := bdy f28) (by kernel_rfl) (by kernel_rfl) <|
  eBind H fun r1 hr1 H =>
  gS [r0] (by kernel_rfl) P0 <|
  eIf H (fun h2 H =>
    eBind H fun r3 hr3 H =>
    eW Rs_LineTo (fun _ => []) H <| gE func28 [rg [{ i := 2, call := some { cl := true, auto := true, ins := [], res := (RB r1), G' := [] }, dec := some true }], rg [hC 2 true [] (Rs_nLine r3) []]] (by kernel_rfl) (P1 (cs_nNode hr1) <| P2 (r1 = true) (h2) <| P1 (cs_nLine hr3) <| P0))
  (fun h2 H =>
    eW Rs_LineTo (fun _ => []) H <| gE func28 [rg [{ i := 2, call := some { cl := true, auto := true, ins := [], res := (RB r1), G' := [] }, dec := some false }], r0] (by kernel_rfl) (P1 (cs_nNode hr1) <| P2 (r1 = false) (eqF h2) <| P0))
/-! loop example/g00886/impl tipsOf 1 -/
theorem ci_tipsOf_1 {a0 : Gi_Node} {a1 : Int} {r : Bool} (H : Di_tipsOf_1 a0 a1 = some r) : Ct X.P X.gl 116 [.agg [I a0.Parent, I a0.Turn, I a0.Hash], .fptr 1 [.agg [I a1]] 0 0] [] (RB r) [] :=
  Ct.of func116 (c := bdy f116) (by kernel_rfl) (by kernel_rfl) <|
  eW RB (fun _ => []) H <| gE func116 [r0, r0] (by kernel_rfl) P0
/-! slices IndexFunc   loop example/g00886/impl Node loop example/g00886/impl Node  -/
noncomputable def Kslices_IndexFunc_i_Node_i_tipsOf_1 : Sslices_IndexFunc_i_Node_i_tipsOf_1 → List Item
  | .h1 .. => nav 300 2 [] [.code (bdy f112)]
def Zslices_IndexFunc_i_Node_i_tipsOf_1 : Sslices_IndexFunc_i_Node_i_tipsOf_1 → St
  | .h1 s0 f1 t2 t3 => ⟨sts 19 [(0, sl 3 gi_Node s0), (1, .fn 116 [.fptr 1 [.agg [I f1]] 0 0]), (7, I t2), (8, I t3)], []⟩
abbrev Qslices_IndexFunc_i_Node_i_tipsOf_1 := Nx X 112 0 Kslices_IndexFunc_i_Node_i_tipsOf_1 Zslices_IndexFunc_i_Node_i_tipsOf_1 RI (fun _ => [])
theorem nslices_IndexFunc_i_Node_i_tipsOf_1 : ∀ s o, Bslices_IndexFunc_i_Node_i_tipsOf_1 s = some o → Qslices_IndexFunc_i_Node_i_tipsOf_1 (Kslices_IndexFunc_i_Node_i_tipsOf_1 s) (Zslices_IndexFunc_i_Node_i_tipsOf_1 s) o
  | .h1 s0 f1 t2 t3, o, H =>
    eIf H (fun h1 H =>
      eCk H fun h2 H =>
      eBind H fun x3 hx3 H =>
      eBind H fun r4 hr4 H =>
      gN [rg [hT 0], r0] (by kernel_rfl) (P2 ((decide (t3 < t2)) = true) (decide_eq_true h1) <| P0) <|
      eIf H (fun h5 H =>
        eN H <| gE func112 [rg [hE 4 (gi_Node x3), { i := 5, call := some { cl := true, auto := true, ins := [], res := (RB r4), G' := [] }, dec := some true }], r0] (by kernel_rfl) (P1 h2 <| P1 (int_lt_of_at h2 hx3) <| P1 (at_map gi_Node hx3) <| P1 (ci_tipsOf_1 hr4) <| P2 (r4 = true) (h5) <| P0))
      (fun h5 H =>
        eN H fun r hn => gO [rg [hE 4 (gi_Node x3), { i := 5, call := some { cl := true, auto := true, ins := [], res := (RB r4), G' := [] }, dec := some false }], r0, .canon [] [0, 1, 7, 8]] (by kernel_rfl) (P1 h2 <| P1 (int_lt_of_at h2 hx3) <| P1 (at_map gi_Node hx3) <| P1 (ci_tipsOf_1 hr4) <| P2 (r4 = false) (eqF h5) <| P0) hn))
    (fun h1 H =>
      eN H <| gE func112 [rg [hF 0], r0] (by kernel_rfl) (P2 ((decide (t3 < t2)) = false) (decide_eq_false h1) <| P0))
theorem wslices_IndexFunc_i_Node_i_tipsOf_1 : ∀ s r, loop Bslices_IndexFunc_i_Node_i_tipsOf_1 s = some r → Wc X 112 0 (Kslices_IndexFunc_i_Node_i_tipsOf_1 s) (Zslices_IndexFunc_i_Node_i_tipsOf_1 s) (RI r) ((fun _ => []) r) := Nx.all nslices_IndexFunc_i_Node_i_tipsOf_1
theorem cslices_IndexFunc_i_Node_i_tipsOf_1 {a0 : (List Gi_Node)} {a100 : Int} {r : Int} (H : Dslices_IndexFunc_i_Node_i_tipsOf_1 a0 a100 = some r) : Ct X.P X.gl 112 [sl 3 gi_Node a0, .fn 116 [.fptr 1 [.agg [I a100]] 0 0]] [] (RI r) [] :=
  Ct.of func112 (c := bdy f112) (by kernel_rfl) (by kernel_rfl) <|
  gO [r0, r0, .canon [] [0, 1, 7, 8]] (by kernel_rfl) P0 (wslices_IndexFunc_i_Node_i_tipsOf_1 _ _ H)
/-! slices ContainsFunc   loop example/g00886/impl Node loop example/g00886/impl Node  -/
theorem cslices_ContainsFunc_i_Node_i_tipsOf_1 {a0 : (List Gi_Node)} {a100 : Int} {r : Bool} (H : Dslices_ContainsFunc_i_Node_i_tipsOf_1 a0 a100 = some r) : Ct X.P X.gl 115 [sl 3 gi_Node a0, .fn 116 [.fptr 1 [.agg [I a100]] 0 0]] [] (RB r) [] :=
  Ct.of func115 (c := bdy f115) (by kernel_rfl) (by kernel_rfl) <|
  eBind H fun r1 hr1 H =>
  eW RB (fun _ => []) H <| gE func115 [r0, rg [hC 2 true [] (RI r1) []]] (by kernel_rfl) (P1 (cslices_IndexFunc_i_Node_i_tipsOf_1 hr1) <| P0)
/-! loop example/g00886/impl tipsOf -/
def Ri_tipsOf (r : (List Int)) : List D := [ow 1 I r]
noncomputable def Ki_tipsOf : Si_tipsOf → List Item
  | .h1 .. => nav 300 3 [] [.code (bdy f83)]
def Zi_tipsOf : Si_tipsOf → St
  | .h1 l0 t1 t2 l3 => ⟨sts 21 [(0, sl 3 gi_Node l0), (3, .ref 0 1 none), (7, I t1), (8, I t2)], [some ⟨false, false, 1, l3.length, List.map I l3⟩]⟩
abbrev Qi_tipsOf := Nx X 83 0 Ki_tipsOf Zi_tipsOf Ri_tipsOf (fun _ => [])
theorem ni_tipsOf : ∀ s o, Bi_tipsOf s = some o → Qi_tipsOf (Ki_tipsOf s) (Zi_tipsOf s) o
  | .h1 l0 t1 t2 l3, o, H =>
    eIf H (fun h1 H =>
      eBind H fun r2 hr2 H =>
      gN [rg [hT 0], r0] (by kernel_rfl) (P2 ((decide (t2 < t1)) = true) (decide_eq_true h1) <| P0) <|
      eIf H (fun h3 H =>
        eN H fun r hn => gO [rg [{ i := 2, call := some { cl := false, auto := true, ins := [], res := (RB r2), G' := [] }, dec := some true }], r0, .canon [0] [0, 3, 7, 8]] (by kernel_rfl) (P1 (cslices_ContainsFunc_i_Node_i_tipsOf_1 hr2) <| P2 (r2 = true) (h3) <| P0) hn)
      (fun h3 H =>
        eCk H fun h4 H =>
        eN H fun r hn => gO [rg [{ i := 2, call := some { cl := false, auto := true, ins := [], res := (RB r2), G' := [] }, dec := some false }], rg [hA 3 ((l3 ++ [t2]).length) (List.map I (l3 ++ [t2]))], r0, .canon [3] [0, 3, 7, 8]] (by kernel_rfl) (P1 (cslices_ContainsFunc_i_Node_i_tipsOf_1 hr2) <| P2 (r2 = false) (eqF h3) <| P1 (apL l3 [t2]) <| P1 (apB h4) <| P1 (apM I l3 [t2]) <| P0) hn))
    (fun h1 H =>
      eN H <| gE func83 [rg [hF 0], r0] (by kernel_rfl) (P2 ((decide (t2 < t1)) = false) (decide_eq_false h1) <| P0))
theorem wi_tipsOf : ∀ s r, loop Bi_tipsOf s = some r → Wc X 83 0 (Ki_tipsOf s) (Zi_tipsOf s) (Ri_tipsOf r) ((fun _ => []) r) := Nx.all ni_tipsOf
theorem ci_tipsOf {a0 : (List Gi_Node)} {r : (List Int)} (H : Di_tipsOf a0 = some r) : Ct X.P X.gl 83 [sl 3 gi_Node a0] [] (Ri_tipsOf r) [] :=
  Ct.of func83 (c := bdy f83) (by kernel_rfl) (by kernel_rfl) <|
  gO [r0, r0, r0, .canon [0] [0, 3, 7, 8]] (by kernel_rfl) P0 (wi_tipsOf _ _ H)
/-! loop example/g00886/impl TipsOf -/
def Ri_TipsOf (r : (List Int) × Bool) : List D := [ow 1 I r.1, .bool r.2]
theorem ci_TipsOf {a0 : (List Gi_Node)} {r : (List Int) × Bool} (H : Di_TipsOf a0 = some r) : Ct X.P X.gl 29 [sl 3 gi_Node a0] [] (Ri_TipsOf r) [] :=
  Ct.of func29 (c := bdy f29) (by kernel_rfl) (by kernel_rfl) <|
  eBind H fun r1 hr1 H =>
  gS [r0] (by kernel_rfl) P0 <|
  eIf H (fun h2 H =>
    eBind H fun r3 hr3 H =>
    eW Ri_TipsOf (fun _ => []) H <| gE func29 [rg [{ i := 1, call := some { cl := true, auto := true, ins := [], res := (RB r1), G' := [] }, dec := some true }], rg [hC 1 true [] (Ri_tipsOf r3) []]] (by kernel_rfl) (P1 (ci_IsTree hr1) <| P2 (r1 = true) (h2) <| P1 (ci_tipsOf hr3) <| P0))
  (fun h2 H =>
    eW Ri_TipsOf (fun _ => []) H <| gE func29 [rg [{ i := 1, call := some { cl := true, auto := true, ins := [], res := (RB r1), G' := [] }, dec := some false }], r0] (by kernel_rfl) (P1 (ci_IsTree hr1) <| P2 (r1 = false) (eqF h2) <| P0))
/-! loop example/g00886/spec nTips -/
def Rs_nTips (r : (List Int)) : List D := [ow 1 I r]
noncomputable def Ks_nTips : Ss_nTips → List Item
  | .h1 .. => nav 300 3 [] [.code (bdy f84)]
  | .h2 .. => nav 300 7 [true] [.code (bdy f84)]
def Zs_nTips : Ss_nTips → St
  | .h1 l0 t1 t2 l3 => ⟨sts 34 [(0, sl 3 gi_Node l0), (3, .ref 0 1 none), (9, I t1), (10, I t2)], [some ⟨false, false, 1, l3.length, List.map I l3⟩]⟩
  | .h2 l0 i1 tip2 t3 t4 t5 t6 t7 l8 => ⟨sts 34 [(0, sl 3 gi_Node l0), (3, .ref 0 1 none), (4, I i1), (5, .bool tip2), (9, I t3), (10, I t4), (13, sl 3 gi_Node t5), (14, I t6), (15, I t7)], [some ⟨false, false, 1, l8.length, List.map I l8⟩]⟩
abbrev Qs_nTips := Nx X 84 0 Ks_nTips Zs_nTips Rs_nTips (fun _ => [])
theorem ns_nTips : ∀ s o, Bs_nTips s = some o → Qs_nTips (Ks_nTips s) (Zs_nTips s) o
  | .h1 l0 t1 t2 l3, o, H =>
    eIf H (fun h1 H =>
      eN H fun r hn => gO [rg [hT 0], r0, r0, r0, .canon [0] [0, 3, 4, 5, 9, 10, 13, 14, 15]] (by kernel_rfl) (P2 ((decide (t2 < t1)) = true) (decide_eq_true h1) <| P0) hn)
    (fun h1 H =>
      eN H <| gE func84 [rg [hF 0], r0] (by kernel_rfl) (P2 ((decide (t2 < t1)) = false) (decide_eq_false h1) <| P0))
  | .h2 l0 i1 true t3 t4 t5 t6 t7 l8, o, H =>
    eIf H (fun h1 H =>
      eCk H fun h2 H =>
      eBind H fun x3 hx3 H =>
      eN H fun r hn => gO [rg [hT 0], rg [hE 1 (gi_Node x3)], r0, r0, .canon [0] [0, 3, 4, 5, 9, 10, 13, 14, 15]] (by kernel_rfl) (P2 ((decide (t7 < t6)) = true) (decide_eq_true h1) <| P1 h2 <| P1 (int_lt_of_at h2 hx3) <| P1 (at_map gi_Node hx3) <| P0) hn)
    (fun h1 H =>
      eCk H fun h2 H =>
      eN H fun r hn => gO [rg [hF 0], r0, rg [hA 3 ((l8 ++ [i1]).length) (List.map I (l8 ++ [i1]))], r0, .canon [2] [0, 3, 9, 10]] (by kernel_rfl) (P2 ((decide (t7 < t6)) = false) (decide_eq_false h1) <| P1 (apL l8 [i1]) <| P1 (apB h2) <| P1 (apM I l8 [i1]) <| P0) hn)
  | .h2 l0 i1 false t3 t4 t5 t6 t7 l8, o, H =>
    eIf H (fun h1 H =>
      eCk H fun h2 H =>
      eBind H fun x3 hx3 H =>
      eN H fun r hn => gO [rg [hT 0], rg [hE 1 (gi_Node x3)], r0, r0, .canon [0] [0, 3, 4, 5, 9, 10, 13, 14, 15]] (by kernel_rfl) (P2 ((decide (t7 < t6)) = true) (decide_eq_true h1) <| P1 h2 <| P1 (int_lt_of_at h2 hx3) <| P1 (at_map gi_Node hx3) <| P0) hn)
    (fun h1 H =>
      eN H fun r hn => gO [rg [hF 0], r0, r0, .canon [0] [0, 3, 9, 10]] (by kernel_rfl) (P2 ((decide (t7 < t6)) = false) (decide_eq_false h1) <| P0) hn)
theorem ws_nTips : ∀ s r, loop Bs_nTips s = some r → Wc X 84 0 (Ks_nTips s) (Zs_nTips s) (Rs_nTips r) ((fun _ => []) r) := Nx.all ns_nTips
theorem cs_nTips {a0 : (List Gi_Node)} {r : (List Int)} (H : Ds_nTips a0 = some r) : Ct X.P X.gl 84 [sl 3 gi_Node a0] [] (Rs_nTips r) [] :=
  Ct.of func84 (c := bdy f84) (by kernel_rfl) (by kernel_rfl) <|
  gO [r0, r0, r0, .own 3 1, .canon [0] [0, 3, 9, 10]] (by kernel_rfl) P0 (ws_nTips _ _ H)
/-! loop example/g00886/spec TipsOf -/
def Rs_TipsOf (r : (List Int) × Bool) : List D := [ow 1 I r.1, .bool r.2]
theorem cs_TipsOf {a0 : (List Gi_Node)} {r : (List Int) × Bool} (H : Ds_TipsOf a0 = some r) : Ct X.P X.gl 30 [sl 3 gi_Node a0] [] (Rs_TipsOf r) [] :=
  Ct.of func30 (c := bdy f30) (by kernel_rfl) (by kernel_rfl) <|
  eBind H fun r1 hr1 H =>
  gS [r0] (by kernel_rfl) P0 <|
  eIf H (fun h2 H =>
    eBind H fun r3 hr3 H =>
    eW Rs_TipsOf (fun _ => []) H <| gE func30 [rg [{ i := 1, call := some { cl := true, auto := true, ins := [], res := (RB r1), G' := [] }, dec := some true }], rg [hC 1 true [] (Rs_nTips r3) []]] (by kernel_rfl) (P1 (cs_nGood hr1) <| P2 (r1 = true) (h2) <| P1 (cs_nTips hr3) <| P0))
  (fun h2 H =>
    eW Rs_TipsOf (fun _ => []) H <| gE func30 [rg [{ i := 1, call := some { cl := true, auto := true, ins := [], res := (RB r1), G' := [] }, dec := some false }], r0] (by kernel_rfl) (P1 (cs_nGood hr1) <| P2 (r1 = false) (eqF h2) <| P0))
/-! loop example/g00886/impl MainTip -/
def Ri_MainTip (r : Int × Bool) : List D := [I r.1, .bool r.2]
noncomputable def Ki_MainTip : Si_MainTip → List Item
  | .h1 .. => nav 300 4 [false] [.code (bdy f31)]
def Zi_MainTip : Si_MainTip → St
  | .h1 l0 best1 t2 t3 l4 => ⟨sts 35 [(0, sl 3 gi_Node l0), (4, I best1), (11, .ref 0 1 none), (12, I t2), (13, I t3)], [some ⟨false, false, 1, l4.length, List.map I l4⟩]⟩
abbrev Qi_MainTip := Nx X 31 0 Ki_MainTip Zi_MainTip Ri_MainTip (fun _ => [])
theorem ni_MainTip : ∀ s o, Bi_MainTip s = some o → Qi_MainTip (Ki_MainTip s) (Zi_MainTip s) o
  | .h1 l0 best1 t2 t3 l4, o, H =>
    eIf H (fun h1 H =>
      eCk H fun h2 H =>
      eBind H fun x3 hx3 H =>
      gN [rg [hT 0], rg [hE 1 (I x3)]] (by kernel_rfl) (P2 ((decide (t3 < t2)) = true) (decide_eq_true h1) <| P1 h2 <| P1 (int_lt_of_at h2 hx3) <| P1 (at_map I hx3) <| P0) <|
      eIf H (fun h4 H =>
        eN H fun r hn => gO [rg [hT 1], r0, r0, .canon [0] [0, 4, 11, 12, 13]] (by kernel_rfl) (P2 ((decide (best1 < 0)) = true) (decide_eq_true h4) <| P0) hn)
      (fun h4 H =>
        eCk H fun h5 H =>
        eBind H fun x6 hx6 H =>
        eCk H fun h7 H =>
        eBind H fun x8 hx8 H =>
        eIf H (fun h9 H =>
          eN H fun r hn => gO [rg [hF 1, hE 7 (gi_Node x6), hE 12 (gi_Node x8), hT 13], r0, r0, .canon [0] [0, 4, 11, 12, 13]] (by kernel_rfl) (P2 ((decide (best1 < 0)) = false) (decide_eq_false h4) <| P1 h5 <| P1 (int_lt_of_at h5 hx6) <| P1 (at_map gi_Node hx6) <| P1 h7 <| P1 (int_lt_of_at h7 hx8) <| P1 (at_map gi_Node hx8) <| P2 ((decide (x6.Turn > x8.Turn)) = true) (decide_eq_true h9) <| P0) hn)
        (fun h9 H =>
          eN H fun r hn => gO [rg [hF 1, hE 7 (gi_Node x6), hE 12 (gi_Node x8), hF 13], r0, .canon [0] [0, 4, 11, 12, 13]] (by kernel_rfl) (P2 ((decide (best1 < 0)) = false) (decide_eq_false h4) <| P1 h5 <| P1 (int_lt_of_at h5 hx6) <| P1 (at_map gi_Node hx6) <| P1 h7 <| P1 (int_lt_of_at h7 hx8) <| P1 (at_map gi_Node hx8) <| P2 ((decide (x6.Turn > x8.Turn)) = false) (decide_eq_false h9) <| P0) hn)))
    (fun h1 H =>
      eN H <| gE func31 [rg [hF 0], r0] (by kernel_rfl) (P2 ((decide (t3 < t2)) = false) (decide_eq_false h1) <| P0))
theorem wi_MainTip : ∀ s r, loop Bi_MainTip s = some r → Wc X 31 0 (Ki_MainTip s) (Zi_MainTip s) (Ri_MainTip r) ((fun _ => []) r) := Nx.all ni_MainTip
theorem ci_MainTip {a0 : (List Gi_Node)} {r : Int × Bool} (H : Di_MainTip a0 = some r) : Ct X.P X.gl 31 [sl 3 gi_Node a0] [] (Ri_MainTip r) [] :=
  Ct.of func31 (c := bdy f31) (by kernel_rfl) (by kernel_rfl) <|
  eBind H fun r1 hr1 H =>
  gS [r0] (by kernel_rfl) P0 <|
  eIf H (fun h2 H =>
    eBind H fun r3 hr3 H =>
    gO [rg [{ i := 1, call := some { cl := true, auto := true, ins := [], res := (RB r1), G' := [] }, dec := some true }], r0, rg [hC 1 true [] (Ri_tipsOf r3) []], .canon [0] [0, 4, 11, 12, 13]] (by kernel_rfl) (P1 (ci_IsTree hr1) <| P2 (r1 = true) (h2) <| P1 (ci_tipsOf hr3) <| P0) (wi_MainTip _ _ H))
  (fun h2 H =>
    eW Ri_MainTip (fun _ => []) H <| gE func31 [rg [{ i := 1, call := some { cl := true, auto := true, ins := [], res := (RB r1), G' := [] }, dec := some false }], r0] (by kernel_rfl) (P1 (ci_IsTree hr1) <| P2 (r1 = false) (eqF h2) <| P0))
/-! loop example/g00886/spec MainTip -/
def Rs_MainTip (r : Int × Bool) : List D := [I r.1, .bool r.2]
noncomputable def Ks_MainTip : Ss_MainTip → List Item
  | .h1 .. => nav 300 4 [false] [.code (bdy f32)]
def Zs_MainTip : Ss_MainTip → St
  | .h1 l0 best1 t2 t3 l4 => ⟨sts 35 [(0, sl 3 gi_Node l0), (4, I best1), (11, .ref 0 1 none), (12, I t2), (13, I t3)], [some ⟨false, false, 1, l4.length, List.map I l4⟩]⟩
abbrev Qs_MainTip := Nx X 32 0 Ks_MainTip Zs_MainTip Rs_MainTip (fun _ => [])
theorem ns_MainTip : ∀ s o, Bs_MainTip s = some o → Qs_MainTip (Ks_MainTip s) (Zs_MainTip s) o
  | .h1 l0 best1 t2 t3 l4, o, H =>
    eIf H (fun h1 H =>
      eCk H fun h2 H =>
      eBind H fun x3 hx3 H =>
      gN [rg [hT 0], rg [hE 1 (I x3)]] (by kernel_rfl) (P2 ((decide (t3 < t2)) = true) (decide_eq_true h1) <| P1 h2 <| P1 (int_lt_of_at h2 hx3) <| P1 (at_map I hx3) <| P0) <|
      eIf H (fun h4 H =>
        eN H fun r hn => gO [rg [hT 1], r0, r0, .canon [0] [0, 4, 11, 12, 13]] (by kernel_rfl) (P2 ((decide (best1 < 0)) = true) (decide_eq_true h4) <| P0) hn)
      (fun h4 H =>
        eCk H fun h5 H =>
        eBind H fun x6 hx6 H =>
        eCk H fun h7 H =>
        eBind H fun x8 hx8 H =>
        eIf H (fun h9 H =>
          eN H fun r hn => gO [rg [hF 1, hE 7 (gi_Node x6), hE 12 (gi_Node x8), hT 13], r0, r0, .canon [0] [0, 4, 11, 12, 13]] (by kernel_rfl) (P2 ((decide (best1 < 0)) = false) (decide_eq_false h4) <| P1 h5 <| P1 (int_lt_of_at h5 hx6) <| P1 (at_map gi_Node hx6) <| P1 h7 <| P1 (int_lt_of_at h7 hx8) <| P1 (at_map gi_Node hx8) <| P2 ((decide (x6.Turn > x8.Turn)) = true) (decide_eq_true h9) <| P0) hn)
        (fun h9 H =>
          eN H fun r hn => gO [rg [hF 1, hE 7 (gi_Node x6), hE 12 (gi_Node x8), hF 13], r0, .canon [0] [0, 4, 11, 12, 13]] (by kernel_rfl) (P2 ((decide (best1 < 0)) = false) (decide_eq_false h4) <| P1 h5 <| P1 (int_lt_of_at h5 hx6) <| P1 (at_map gi_Node hx6) <| P1 h7 <| P1 (int_lt_of_at h7 hx8) <| P1 (at_map gi_Node hx8) <| P2 ((decide (x6.Turn > x8.Turn)) = false) (decide_eq_false h9) <| P0) hn)))
    (fun h1 H =>
      eN H <| gE func32 [rg [hF 0], r0] (by kernel_rfl) (P2 ((decide (t3 < t2)) = false) (decide_eq_false h1) <| P0))
theorem ws_MainTip : ∀ s r, loop Bs_MainTip s = some r → Wc X 32 0 (Ks_MainTip s) (Zs_MainTip s) (Rs_MainTip r) ((fun _ => []) r) := Nx.all ns_MainTip
theorem cs_MainTip {a0 : (List Gi_Node)} {r : Int × Bool} (H : Ds_MainTip a0 = some r) : Ct X.P X.gl 32 [sl 3 gi_Node a0] [] (Rs_MainTip r) [] :=
  Ct.of func32 (c := bdy f32) (by kernel_rfl) (by kernel_rfl) <|
  eBind H fun r1 hr1 H =>
  gS [r0] (by kernel_rfl) P0 <|
  eIf H (fun h2 H =>
    eBind H fun r3 hr3 H =>
    gO [rg [{ i := 1, call := some { cl := true, auto := true, ins := [], res := (RB r1), G' := [] }, dec := some true }], r0, rg [hC 1 true [] (Rs_nTips r3) []], .canon [0] [0, 4, 11, 12, 13]] (by kernel_rfl) (P1 (cs_nGood hr1) <| P2 (r1 = true) (h2) <| P1 (cs_nTips hr3) <| P0) (ws_MainTip _ _ H))
  (fun h2 H =>
    eW Rs_MainTip (fun _ => []) H <| gE func32 [rg [{ i := 1, call := some { cl := true, auto := true, ins := [], res := (RB r1), G' := [] }, dec := some false }], r0] (by kernel_rfl) (P1 (cs_nGood hr1) <| P2 (r1 = false) (eqF h2) <| P0))
/-! loop example/g00886/spec DrawChildOf -/
def Rs_DrawChildOf (r : (List Gi_Node) × Int × Int) : List D := [sl 3 gi_Node r.1, I r.2.1, I r.2.2]
theorem cs_DrawChildOf {a0 : (List Int)} {r : (List Gi_Node) × Int × Int} (H : Ds_DrawChildOf a0 = some r) : Ct X.P X.gl 33 [sl 1 (D.int .u8) a0] [] (Rs_DrawChildOf r) [] :=
  Ct.of func33 (c := bdy f33) (by kernel_rfl) (by kernel_rfl) <|
  eBind H fun r1 hr1 H =>
  eBind H fun r2 hr2 H =>
  eBind H fun r3 hr3 H =>
  gS [r0, r0, rg [hC 1 true [0] (Rs_l1Cur_anyNodes r1) (Ns_l1Cur_anyNodes r1)], rg [hC 1 true [0] (Rs_l1Cur_pick r2) (Ns_l1Cur_pick r2)]] (by kernel_rfl) (PI (1 : Nat) <| P1 (cs_l1Cur_anyNodes hr1) <| PI (1 : Nat) <| P1 (cs_l1Cur_pick hr2) <| P0) <|
  eIf H (fun h4 H =>
    eBind H fun r5 hr5 H =>
    eBind H fun r6 hr6 H =>
    gS [rg [{ i := 1, call := some { cl := true, auto := true, ins := [0], res := (Rs_l1Cur_one r3), G' := (Ns_l1Cur_one r3) }, dec := some true }], rg [hC 1 true [0] (Rs_l1Cur_anySeed r5) (Ns_l1Cur_anySeed r5)]] (by kernel_rfl) (PI (1 : Nat) <| P1 (cs_l1Cur_one hr3) <| P2 (r3.1 = true) (h4) <| PI (1 : Nat) <| P1 (cs_l1Cur_anySeed hr5) <| P0) <|
    eIf H (fun h7 H =>
      eW Rs_DrawChildOf (fun _ => []) H <| gE func33 [rg [{ i := 1, call := some { cl := true, auto := true, ins := [0], res := (Rs_l1Cur_one r6), G' := (Ns_l1Cur_one r6) }, dec := some true }], rg [{ i := 2, frz := [1] }]] (by kernel_rfl) (PI (1 : Nat) <| P1 (cs_l1Cur_one hr6) <| P2 (r6.1 = true) (h7) <| P0))
    (fun h7 H =>
      eBind H fun r8 hr8 H =>
      eW Rs_DrawChildOf (fun _ => []) H <| gE func33 [rg [{ i := 1, call := some { cl := true, auto := true, ins := [0], res := (Rs_l1Cur_one r6), G' := (Ns_l1Cur_one r6) }, dec := some false }], rg [{ i := 3, frz := [1], call := some { cl := true, auto := true, ins := [0], res := (Rs_l1Cur_nodeOf r8), G' := (Ns_l1Cur_nodeOf r8) } }]] (by kernel_rfl) (PI (1 : Nat) <| P1 (cs_l1Cur_one hr6) <| P2 (r6.1 = false) (eqF h7) <| PI (1 : Nat) <| P1 (cs_l1Cur_nodeOf hr8) <| P0)))
  (fun h4 H =>
    eBind H fun r5 hr5 H =>
    gS [rg [{ i := 1, call := some { cl := true, auto := true, ins := [0], res := (Rs_l1Cur_one r3), G' := (Ns_l1Cur_one r3) }, dec := some false }]] (by kernel_rfl) (PI (1 : Nat) <| P1 (cs_l1Cur_one hr3) <| P2 (r3.1 = false) (eqF h4) <| P0) <|
    eIf H (fun h6 H =>
      eW Rs_DrawChildOf (fun _ => []) H <| gE func33 [rg [{ i := 1, call := some { cl := true, auto := true, ins := [0], res := (Rs_l1Cur_one r5), G' := (Ns_l1Cur_one r5) }, dec := some true }], rg [{ i := 2, frz := [1] }]] (by kernel_rfl) (PI (1 : Nat) <| P1 (cs_l1Cur_one hr5) <| P2 (r5.1 = true) (h6) <| P0))
    (fun h6 H =>
      eBind H fun r7 hr7 H =>
      eW Rs_DrawChildOf (fun _ => []) H <| gE func33 [rg [{ i := 1, call := some { cl := true, auto := true, ins := [0], res := (Rs_l1Cur_one r5), G' := (Ns_l1Cur_one r5) }, dec := some false }], rg [{ i := 3, frz := [1], call := some { cl := true, auto := true, ins := [0], res := (Rs_l1Cur_nodeOf r7), G' := (Ns_l1Cur_nodeOf r7) } }]] (by kernel_rfl) (PI (1 : Nat) <| P1 (cs_l1Cur_one hr5) <| P2 (r5.1 = false) (eqF h6) <| PI (1 : Nat) <| P1 (cs_l1Cur_nodeOf hr7) <| P0)))
/-! loop example/g00886/impl ChildOf -/
def Ri_ChildOf (r : (List Gi_Node) × Int × Bool) : List D := [ow 3 gi_Node r.1, I r.2.1, .bool r.2.2]
theorem ci_ChildOf {a0 : (List Gi_Node)} {a1 : Int} {a2 : Int} {r : (List Gi_Node) × Int × Bool} (H : Di_ChildOf a0 a1 a2 = some r) : Ct X.P X.gl 34 [sl 3 gi_Node a0, I a1, I a2] [] (Ri_ChildOf r) [] :=
  Ct.of func34 (c := bdy f34) (by kernel_rfl) (by kernel_rfl) <|
  eBind H fun r1 hr1 H =>
  gS [r0] (by kernel_rfl) P0 <|
  eIf H (fun h2 H =>
    eBind H fun r3 hr3 H =>
    eIf H (fun h4 H =>
      eBind H fun r5 hr5 H =>
      eIf H (fun h6 H =>
        eBind H fun r7 hr7 H =>
        eW Ri_ChildOf (fun _ => []) H <| gE func34 [rg [{ i := 1, call := some { cl := true, auto := true, ins := [], res := (RB r1), G' := [] }, dec := some true }, { i := 7, call := some { cl := true, auto := true, ins := [], res := (RB r3), G' := [] }, dec := some true }, { i := 12, call := some { cl := true, auto := true, ins := [], res := (RB r5), G' := [] }, dec := some true }], rg [hC 3 true [] (Ri_childOf r7) []]] (by kernel_rfl) (P1 (ci_IsTree hr1) <| P2 (r1 = true) (h2) <| P1 (ci_isIndex hr3) <| P2 (r3 = true) (h4) <| P1 (ci_isSeed hr5) <| P2 (r5 = true) (h6) <| P1 (ci_childOf hr7) <| P0))
      (fun h6 H =>
        eW Ri_ChildOf (fun _ => []) H <| gE func34 [rg [{ i := 1, call := some { cl := true, auto := true, ins := [], res := (RB r1), G' := [] }, dec := some true }, { i := 7, call := some { cl := true, auto := true, ins := [], res := (RB r3), G' := [] }, dec := some true }, { i := 12, call := some { cl := true, auto := true, ins := [], res := (RB r5), G' := [] }, dec := some false }], r0] (by kernel_rfl) (P1 (ci_IsTree hr1) <| P2 (r1 = true) (h2) <| P1 (ci_isIndex hr3) <| P2 (r3 = true) (h4) <| P1 (ci_isSeed hr5) <| P2 (r5 = false) (eqF h6) <| P0)))
    (fun h4 H =>
      eW Ri_ChildOf (fun _ => []) H <| gE func34 [rg [{ i := 1, call := some { cl := true, auto := true, ins := [], res := (RB r1), G' := [] }, dec := some true }, { i := 7, call := some { cl := true, auto := true, ins := [], res := (RB r3), G' := [] }, dec := some false }], r0] (by kernel_rfl) (P1 (ci_IsTree hr1) <| P2 (r1 = true) (h2) <| P1 (ci_isIndex hr3) <| P2 (r3 = false) (eqF h4) <| P0)))
  (fun h2 H =>
    eW Ri_ChildOf (fun _ => []) H <| gE func34 [rg [{ i := 1, call := some { cl := true, auto := true, ins := [], res := (RB r1), G' := [] }, dec := some false }], r0] (by kernel_rfl) (P1 (ci_IsTree hr1) <| P2 (r1 = false) (eqF h2) <| P0))
/-! loop example/g00886/spec ChildOf -/
def Rs_ChildOf (r : (List Gi_Node) × Int × Bool) : List D := [ow 3 gi_Node r.1, I r.2.1, .bool r.2.2]
theorem cs_ChildOf {a0 : (List Gi_Node)} {a1 : Int} {a2 : Int} {r : (List Gi_Node) × Int × Bool} (H : Ds_ChildOf a0 a1 a2 = some r) : Ct X.P X.gl 35 [sl 3 gi_Node a0, I a1, I a2] [] (Rs_ChildOf r) [] :=
  Ct.of func35 (c := bdy f35) (by kernel_rfl) (by kernel_rfl) <|
  eBind H fun r1 hr1 H =>
  gS [r0] (by kernel_rfl) P0 <|
  eIf H (fun h2 H =>
    eBind H fun r3 hr3 H =>
    eIf H (fun h4 H =>
      eBind H fun r5 hr5 H =>
      eW Rs_ChildOf (fun _ => []) H <| gE func35 [rg [{ i := 2, call := some { cl := true, auto := true, ins := [], res := (RB r1), G' := [] }, dec := some true }, { i := 6, call := some { cl := true, auto := true, ins := [], res := (RB r3), G' := [] }, dec := some true }], rg [hC 3 true [] (Rs_nAdd r5) []]] (by kernel_rfl) (P1 (cs_nNode hr1) <| P2 (r1 = true) (h2) <| P1 (cs_dSeed hr3) <| P2 (r3 = true) (h4) <| P1 (cs_nAdd hr5) <| P0))
    (fun h4 H =>
      eW Rs_ChildOf (fun _ => []) H <| gE func35 [rg [{ i := 2, call := some { cl := true, auto := true, ins := [], res := (RB r1), G' := [] }, dec := some true }, { i := 6, call := some { cl := true, auto := true, ins := [], res := (RB r3), G' := [] }, dec := some false }], r0] (by kernel_rfl) (P1 (cs_nNode hr1) <| P2 (r1 = true) (h2) <| P1 (cs_dSeed hr3) <| P2 (r3 = false) (eqF h4) <| P0)))
  (fun h2 H =>
    eW Rs_ChildOf (fun _ => []) H <| gE func35 [rg [{ i := 2, call := some { cl := true, auto := true, ins := [], res := (RB r1), G' := [] }, dec := some false }], r0] (by kernel_rfl) (P1 (cs_nNode hr1) <| P2 (r1 = false) (eqF h2) <| P0))
/-! loop example/g00886/laws FnTrees -/
noncomputable def Kw_FnTrees : Sw_FnTrees → List Item
  | .h1 .. => nav 300 9 [false, false, true, false] [.code (bdy f4)]
  | .h2 .. => nav 300 7 [false, false, false] [.code (bdy f4)]
def Zw_FnTrees : Sw_FnTrees → St
  | .h1 t0 t1 t2 l3 l4 l5 => ⟨sts 249 [(1, sl 1 (D.int .u8) t0), (10, .ref 0 3 none), (11, .ref 1 1 none), (91, .ref 2 3 none), (92, I t1), (93, I t2)], [some ⟨false, false, 3, l3.length, List.map gi_Node l3⟩, some ⟨false, false, 1, l4.length, List.map I l4⟩, some ⟨false, false, 3, l5.length, List.map gi_Node l5⟩]⟩
  | .h2 t0 => ⟨sts 249 [(1, sl 1 (D.int .u8) t0)], []⟩
abbrev Qw_FnTrees := Nx X 4 0 Kw_FnTrees Zw_FnTrees RB (fun _ => [])
theorem nw_FnTrees : ∀ s o, Bw_FnTrees s = some o → Qw_FnTrees (Kw_FnTrees s) (Zw_FnTrees s) o
  | .h1 t0 t1 t2 l3 l4 l5, o, H =>
    eIf H (fun h1 H =>
      eCk H fun h2 H =>
      eBind H fun x3 hx3 H =>
      eCk H fun h4 H =>
      eBind H fun x5 hx5 H =>
      eCk H fun h6 H =>
      eBind H fun x7 hx7 H =>
      gN [rg [hT 0], rg [hE 2 (gi_Node x3)]] (by kernel_rfl) (P2 ((decide (t2 < t1)) = true) (decide_eq_true h1) <| P1 h2 <| P1 (int_lt_of_at h2 hx3) <| P1 (at_map gi_Node hx3) <| P0) <|
      eIf H (fun h8 H =>
        eCk H fun h9 H =>
        eBind H fun x10 hx10 H =>
        eCk H fun h11 H =>
        eBind H fun x12 hx12 H =>
        eIf H (fun h13 H =>
          eN H fun r hn => gO [rg [hE 4 (I x5), hE 7 (gi_Node x7), hF 10, hE 16 (I x10), hE 19 (gi_Node x12), hF 22], r0, .canon [0, 1, 2] [1, 10, 11, 91, 92, 93]] (by kernel_rfl) (P1 h4 <| P1 (int_lt_of_at h4 hx5) <| P1 (at_map I hx5) <| P1 h6 <| P1 (int_lt_of_at h6 hx7) <| P1 (at_map gi_Node hx7) <| P2 (((x7.Hash : Int) != x3.Hash) = false) (bneF h8) <| P1 h9 <| P1 (int_lt_of_at h9 hx10) <| P1 (at_map I hx10) <| P1 h11 <| P1 (int_lt_of_at h11 hx12) <| P1 (at_map gi_Node hx12) <| P2 (((x12.Turn : Int) != x3.Turn) = false) (bneF h13) <| P0) hn)
        (fun h13 H =>
          eN H <| gE func4 [rg [hE 4 (I x5), hE 7 (gi_Node x7), hF 10, hE 16 (I x10), hE 19 (gi_Node x12), hT 22], r0] (by kernel_rfl) (P1 h4 <| P1 (int_lt_of_at h4 hx5) <| P1 (at_map I hx5) <| P1 h6 <| P1 (int_lt_of_at h6 hx7) <| P1 (at_map gi_Node hx7) <| P2 (((x7.Hash : Int) != x3.Hash) = false) (bneF h8) <| P1 h9 <| P1 (int_lt_of_at h9 hx10) <| P1 (at_map I hx10) <| P1 h11 <| P1 (int_lt_of_at h11 hx12) <| P1 (at_map gi_Node hx12) <| P2 (((x12.Turn : Int) != x3.Turn) = true) (bneT h13) <| P0)))
      (fun h8 H =>
        eN H <| gE func4 [rg [hE 4 (I x5), hE 7 (gi_Node x7), hT 10], r0] (by kernel_rfl) (P1 h4 <| P1 (int_lt_of_at h4 hx5) <| P1 (at_map I hx5) <| P1 h6 <| P1 (int_lt_of_at h6 hx7) <| P1 (at_map gi_Node hx7) <| P2 (((x7.Hash : Int) != x3.Hash) = true) (bneT h8) <| P0)))
    (fun h1 H =>
      eN H fun r hn => gO [rg [hF 0], .canon [] [1]] (by kernel_rfl) (P2 ((decide (t2 < t1)) = false) (decide_eq_false h1) <| P0) hn)
  | .h2 t0, o, H =>
    eBind H fun r1 hr1 H =>
    eBind H fun r2 hr2 H =>
    eBind H fun r3 hr3 H =>
    eBind H fun r4 hr4 H =>
    eBind H fun r5 hr5 H =>
    gN [rg [hC 1 true [] (Rs_DrawForkOf r1) []], rg [hC 3 true [] (Ri_ForkOf r2) []], rg [hC 3 true [] (Rs_ForkOf r3) []], rg [hC 2 true [] (Ri_LineTo r4) []], rg [hC 2 true [] (Rs_LineTo r5) []]] (by kernel_rfl) (P1 (cs_DrawForkOf hr1) <| P1 (ci_ForkOf hr2) <| P1 (cs_ForkOf hr3) <| P1 (ci_LineTo hr4) <| P1 (cs_LineTo hr5) <| P0) <|
    eIf H (fun h6 H =>
      eN H <| gE func4 [rg [hT 2], r0] (by kernel_rfl) (P2 ((!(r2.2 == r3.2)) = true) (h6) <| P0))
    (fun h6 H =>
      eIf H (fun h7 H =>
        eIf H (fun h8 H =>
          eN H <| gE func4 [rg [hF 2, hF 6, hT 11], r0] (by kernel_rfl) (P2 ((!(r2.2 == r3.2)) = false) (eqF h6) <| P2 (((r2.1 : Int) != r3.1) = false) (bneF h7) <| P2 ((!(r4.2 == r5.2)) = true) (h8) <| P0))
        (fun h8 H =>
          eBind H fun r9 hr9 H =>
          eIf H (fun h10 H =>
            eBind H fun r11 hr11 H =>
            eBind H fun r12 hr12 H =>
            eBind H fun r13 hr13 H =>
            eBind H fun r14 hr14 H =>
            eBind H fun r15 hr15 H =>
            eBind H fun r16 hr16 H =>
            eBind H fun r17 hr17 H =>
            gN [rg [hF 2, hF 6, hF 11, { i := 16, call := some { cl := false, auto := true, ins := [], res := (RB r9), G' := [] }, dec := some true }], rg [hC 1 true [] (Ri_TipsOf r11) []], rg [hC 1 true [] (Rs_TipsOf r12) []], rg [hC 1 true [] (Ri_MainTip r13) []], rg [hC 1 true [] (Rs_MainTip r14) []], rg [hC 1 true [] (Rs_DrawChildOf r15) []], rg [hC 3 true [] (Ri_ChildOf r16) []], rg [hC 3 true [] (Rs_ChildOf r17) []]] (by kernel_rfl) (P2 ((!(r2.2 == r3.2)) = false) (eqF h6) <| P2 (((r2.1 : Int) != r3.1) = false) (bneF h7) <| P2 ((!(r4.2 == r5.2)) = false) (eqF h8) <| P1 (cw_sameInts hr9) <| P2 (r9 = true) (h10) <| P1 (ci_TipsOf hr11) <| P1 (cs_TipsOf hr12) <| P1 (ci_MainTip hr13) <| P1 (cs_MainTip hr14) <| P1 (cs_DrawChildOf hr15) <| P1 (ci_ChildOf hr16) <| P1 (cs_ChildOf hr17) <| P0) <|
            eIf H (fun h18 H =>
              eBind H fun r19 hr19 H =>
              eIf H (fun h20 H =>
                eIf H (fun h21 H =>
                  eIf H (fun h22 H =>
                    eIf H (fun h23 H =>
                      eIf H (fun h24 H =>
                        eBind H fun r25 hr25 H =>
                        eN H <| gE func4 [rg [hT 2, { i := 6, call := some { cl := false, auto := true, ins := [], res := (RB r19), G' := [] }, dec := some true }, hT 11, hT 16, hT 21, hT 26, hC 31 false [] (RB r25) []]] (by kernel_rfl) (P2 ((r11.2 == r12.2) = true) (h18) <| P1 (cw_sameInts hr19) <| P2 (r19 = true) (h20) <| P2 ((r13.2 == r14.2) = true) (h21) <| P2 (((r13.1 : Int) == r14.1) = true) (beqT h22) <| P2 ((r16.2.2 == r17.2.2) = true) (h23) <| P2 (((r16.2.1 : Int) == r17.2.1) = true) (beqT h24) <| P1 (cw_pSameNodes hr25) <| P0))
                      (fun h24 H =>
                        eN H <| gE func4 [rg [hT 2, { i := 6, call := some { cl := false, auto := true, ins := [], res := (RB r19), G' := [] }, dec := some true }, hT 11, hT 16, hT 21, hF 26]] (by kernel_rfl) (P2 ((r11.2 == r12.2) = true) (h18) <| P1 (cw_sameInts hr19) <| P2 (r19 = true) (h20) <| P2 ((r13.2 == r14.2) = true) (h21) <| P2 (((r13.1 : Int) == r14.1) = true) (beqT h22) <| P2 ((r16.2.2 == r17.2.2) = true) (h23) <| P2 (((r16.2.1 : Int) == r17.2.1) = false) (beqF h24) <| P0)))
                    (fun h23 H =>
                      eN H <| gE func4 [rg [hT 2, { i := 6, call := some { cl := false, auto := true, ins := [], res := (RB r19), G' := [] }, dec := some true }, hT 11, hT 16, hF 21]] (by kernel_rfl) (P2 ((r11.2 == r12.2) = true) (h18) <| P1 (cw_sameInts hr19) <| P2 (r19 = true) (h20) <| P2 ((r13.2 == r14.2) = true) (h21) <| P2 (((r13.1 : Int) == r14.1) = true) (beqT h22) <| P2 ((r16.2.2 == r17.2.2) = false) (eqF h23) <| P0)))
                  (fun h22 H =>
                    eN H <| gE func4 [rg [hT 2, { i := 6, call := some { cl := false, auto := true, ins := [], res := (RB r19), G' := [] }, dec := some true }, hT 11, hF 16]] (by kernel_rfl) (P2 ((r11.2 == r12.2) = true) (h18) <| P1 (cw_sameInts hr19) <| P2 (r19 = true) (h20) <| P2 ((r13.2 == r14.2) = true) (h21) <| P2 (((r13.1 : Int) == r14.1) = false) (beqF h22) <| P0)))
                (fun h21 H =>
                  eN H <| gE func4 [rg [hT 2, { i := 6, call := some { cl := false, auto := true, ins := [], res := (RB r19), G' := [] }, dec := some true }, hF 11]] (by kernel_rfl) (P2 ((r11.2 == r12.2) = true) (h18) <| P1 (cw_sameInts hr19) <| P2 (r19 = true) (h20) <| P2 ((r13.2 == r14.2) = false) (eqF h21) <| P0)))
              (fun h20 H =>
                eN H <| gE func4 [rg [hT 2, { i := 6, call := some { cl := false, auto := true, ins := [], res := (RB r19), G' := [] }, dec := some false }]] (by kernel_rfl) (P2 ((r11.2 == r12.2) = true) (h18) <| P1 (cw_sameInts hr19) <| P2 (r19 = false) (eqF h20) <| P0)))
            (fun h18 H =>
              eN H <| gE func4 [rg [hF 2]] (by kernel_rfl) (P2 ((r11.2 == r12.2) = false) (eqF h18) <| P0)))
          (fun h10 H =>
            eN H <| gE func4 [rg [hF 2, hF 6, hF 11, { i := 16, call := some { cl := false, auto := true, ins := [], res := (RB r9), G' := [] }, dec := some false }], r0] (by kernel_rfl) (P2 ((!(r2.2 == r3.2)) = false) (eqF h6) <| P2 (((r2.1 : Int) != r3.1) = false) (bneF h7) <| P2 ((!(r4.2 == r5.2)) = false) (eqF h8) <| P1 (cw_sameInts hr9) <| P2 (r9 = false) (eqF h10) <| P0))))
      (fun h7 H =>
        eN H <| gE func4 [rg [hF 2, hT 6], r0] (by kernel_rfl) (P2 ((!(r2.2 == r3.2)) = false) (eqF h6) <| P2 (((r2.1 : Int) != r3.1) = true) (bneT h7) <| P0)))
theorem ww_FnTrees : ∀ s r, loop Bw_FnTrees s = some r → Wc X 4 0 (Kw_FnTrees s) (Zw_FnTrees s) (RB r) ((fun _ => []) r) := Nx.all nw_FnTrees
theorem cw_FnTrees {a0 : (List Int)} {a1 : (List Int)} {r : Bool} (H : Dw_FnTrees a0 a1 = some r) : Ct X.P X.gl 4 [sl 1 (D.int .u8) a0, sl 1 (D.int .u8) a1] [] (RB r) [] :=
  Ct.of func4 (c := bdy f4) (by kernel_rfl) (by kernel_rfl) <|
  eBind H fun r1 hr1 H =>
  gS [r0] (by kernel_rfl) P0 <|
  eIf H (fun h2 H =>
    eW RB (fun _ => []) H <| gE func4 [rg [{ i := 2, call := some { cl := true, auto := true, ins := [], res := (RB r1), G' := [] }, dec := some true }], r0] (by kernel_rfl) (P1 (cw_big hr1) <| P2 (r1 = true) (h2) <| P0))
  (fun h2 H =>
    eBind H fun r3 hr3 H =>
    eBind H fun r4 hr4 H =>
    gS [rg [{ i := 2, call := some { cl := true, auto := true, ins := [], res := (RB r1), G' := [] }, dec := some false }], rg [hC 1 true [] (Rs_DrawGraftTree r3) []]] (by kernel_rfl) (P1 (cw_big hr1) <| P2 (r1 = false) (eqF h2) <| P1 (cs_DrawGraftTree hr3) <| P0) <|
    eIf H (fun h5 H =>
      eBind H fun r6 hr6 H =>
      gS [rg [hC 2 false [] (Ri_GraftTree r4) [], hT 6], rg [hC 2 false [] (Rs_GraftTree r6) []]] (by kernel_rfl) (P2 (nfL (List.flatMap D.cells (Ri_GraftTree r4))) ⟨nfL_map nf_48 _, nfL_map nf_3 _, trivial, trivial⟩ <| P2 (nfG []) trivial <| P1 (ci_GraftTree hr4) <| P2 (r4.2.2 = true) (h5) <| P2 (nfL (List.flatMap D.cells (Rs_GraftTree r6))) ⟨nfL_map nf_48 _, nfL_map nf_3 _, trivial, trivial⟩ <| P2 (nfG []) trivial <| P1 (cs_GraftTree hr6) <| P0) <|
      eIf H (fun h7 H =>
        eW RB (fun _ => []) H <| gE func4 [rg [hT 2], r0] (by kernel_rfl) (P2 ((!(true == r6.2.2)) = true) (h7) <| P0))
      (fun h7 H =>
        eBind H fun r8 hr8 H =>
        eIf H (fun h9 H =>
          eBind H fun r10 hr10 H =>
          eIf H (fun h11 H =>
            eBind H fun r12 hr12 H =>
            gS [rg [hF 2, { i := 6, call := some { cl := false, auto := true, ins := [], res := (RB r8), G' := [] }, dec := some true }, { i := 12, call := some { cl := false, auto := true, ins := [], res := (RB r10), G' := [] }, dec := some true }], r0] (by kernel_rfl) (P2 ((!(true == r6.2.2)) = false) (eqF h7) <| P1 (cw_pSameNodes hr8) <| P2 (r8 = true) (h9) <| P1 (cw_sameInts hr10) <| P2 (r10 = true) (h11) <| P0) <|
            eIf H (fun h13 H =>
              eIf H (fun h14 H =>
                gO [rg [{ i := 1, call := some { cl := false, auto := true, ins := [], res := (RB r12), G' := [] }, dec := some true }, hF 8], r0, .canon [4, 5, 1] [1, 10, 11, 91, 92, 93]] (by kernel_rfl) (P1 (ci_IsTree hr12) <| P2 (r12 = true) (h13) <| P2 (((((r6.2.1.length : Nat) : Int) : Int) != ((r3.2.length : Nat) : Int)) = false) (bneF h14) <| P0) (ww_FnTrees _ _ H))
              (fun h14 H =>
                eW RB (fun _ => []) H <| gE func4 [rg [{ i := 1, call := some { cl := false, auto := true, ins := [], res := (RB r12), G' := [] }, dec := some true }, hT 8], r0] (by kernel_rfl) (P1 (ci_IsTree hr12) <| P2 (r12 = true) (h13) <| P2 (((((r6.2.1.length : Nat) : Int) : Int) != ((r3.2.length : Nat) : Int)) = true) (bneT h14) <| P0)))
            (fun h13 H =>
              eW RB (fun _ => []) H <| gE func4 [rg [{ i := 1, call := some { cl := false, auto := true, ins := [], res := (RB r12), G' := [] }, dec := some false }], r0] (by kernel_rfl) (P1 (ci_IsTree hr12) <| P2 (r12 = false) (eqF h13) <| P0)))
          (fun h11 H =>
            eW RB (fun _ => []) H <| gE func4 [rg [hF 2, { i := 6, call := some { cl := false, auto := true, ins := [], res := (RB r8), G' := [] }, dec := some true }, { i := 12, call := some { cl := false, auto := true, ins := [], res := (RB r10), G' := [] }, dec := some false }], r0] (by kernel_rfl) (P2 ((!(true == r6.2.2)) = false) (eqF h7) <| P1 (cw_pSameNodes hr8) <| P2 (r8 = true) (h9) <| P1 (cw_sameInts hr10) <| P2 (r10 = false) (eqF h11) <| P0)))
        (fun h9 H =>
          eW RB (fun _ => []) H <| gE func4 [rg [hF 2, { i := 6, call := some { cl := false, auto := true, ins := [], res := (RB r8), G' := [] }, dec := some false }], r0] (by kernel_rfl) (P2 ((!(true == r6.2.2)) = false) (eqF h7) <| P1 (cw_pSameNodes hr8) <| P2 (r8 = false) (eqF h9) <| P0))))
    (fun h5 H =>
      eBind H fun r6 hr6 H =>
      gS [rg [hC 2 false [] (Ri_GraftTree r4) [], hF 6], rg [hC 2 false [] (Rs_GraftTree r6) []]] (by kernel_rfl) (P2 (nfL (List.flatMap D.cells (Ri_GraftTree r4))) ⟨nfL_map nf_48 _, nfL_map nf_3 _, trivial, trivial⟩ <| P2 (nfG []) trivial <| P1 (ci_GraftTree hr4) <| P2 (r4.2.2 = false) (eqF h5) <| P2 (nfL (List.flatMap D.cells (Rs_GraftTree r6))) ⟨nfL_map nf_48 _, nfL_map nf_3 _, trivial, trivial⟩ <| P2 (nfG []) trivial <| P1 (cs_GraftTree hr6) <| P0) <|
      eIf H (fun h7 H =>
        eW RB (fun _ => []) H <| gE func4 [rg [hT 2], r0] (by kernel_rfl) (P2 ((!(false == r6.2.2)) = true) (h7) <| P0))
      (fun h7 H =>
        eBind H fun r8 hr8 H =>
        eIf H (fun h9 H =>
          eBind H fun r10 hr10 H =>
          eIf H (fun h11 H =>
            gO [rg [hF 2, { i := 6, call := some { cl := false, auto := true, ins := [], res := (RB r8), G' := [] }, dec := some true }, { i := 12, call := some { cl := false, auto := true, ins := [], res := (RB r10), G' := [] }, dec := some true }], r0, .canon [] [1]] (by kernel_rfl) (P2 ((!(false == r6.2.2)) = false) (eqF h7) <| P1 (cw_pSameNodes hr8) <| P2 (r8 = true) (h9) <| P1 (cw_sameInts hr10) <| P2 (r10 = true) (h11) <| P0) (ww_FnTrees _ _ H))
          (fun h11 H =>
            eW RB (fun _ => []) H <| gE func4 [rg [hF 2, { i := 6, call := some { cl := false, auto := true, ins := [], res := (RB r8), G' := [] }, dec := some true }, { i := 12, call := some { cl := false, auto := true, ins := [], res := (RB r10), G' := [] }, dec := some false }], r0] (by kernel_rfl) (P2 ((!(false == r6.2.2)) = false) (eqF h7) <| P1 (cw_pSameNodes hr8) <| P2 (r8 = true) (h9) <| P1 (cw_sameInts hr10) <| P2 (r10 = false) (eqF h11) <| P0)))
        (fun h9 H =>
          eW RB (fun _ => []) H <| gE func4 [rg [hF 2, { i := 6, call := some { cl := false, auto := true, ins := [], res := (RB r8), G' := [] }, dec := some false }], r0] (by kernel_rfl) (P2 ((!(false == r6.2.2)) = false) (eqF h7) <| P1 (cw_pSameNodes hr8) <| P2 (r8 = false) (eqF h9) <| P0)))))
end Go.Proofs.Ytfnhclmdobdkbaa.Ab
