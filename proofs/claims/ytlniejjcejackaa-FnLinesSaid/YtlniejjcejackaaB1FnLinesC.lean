/- Part of the proof of FnLines: no condition of its own. -/
import Derived.Test.YtlniejjcejackaaChecked
import Derived.Test.YtlniejjcejackaaB1FnLinesD
set_option linter.unusedVariables false
set_option linter.unusedSimpArgs false
open Go Go.Proofs Go.Proofs.Try
namespace Go.Proofs.Ytlniejjcejackaa.Ab
def T : Tab := [(3, ⟨(Ab.TK.int IntKind.i64), 1, 8, (Ab.D.int IntKind.i64 (Int.ofNat 0))⟩),
  (4, ⟨Ab.TK.bool, 1, 1, (Ab.D.bool Bool.false)⟩),
  (5, ⟨(Ab.TK.int IntKind.u8), 1, 1, (Ab.D.int IntKind.u8 (Int.ofNat 0))⟩),
  (22, ⟨(Ab.TK.slice 5), 1, 24, Ab.D.nil⟩),
  (25, ⟨(Ab.TK.strct [(Ab.FI.mk 0 1 Bool.false), (Ab.FI.mk 1 1 Bool.false)] (Option.some [(Ab.LK.int IntKind.i64), (Ab.LK.int IntKind.i64)])), 2, 16, (Ab.D.agg [(Ab.D.int IntKind.i64 (Int.ofNat 0)), (Ab.D.int IntKind.i64 (Int.ofNat 0))])⟩),
  (28, ⟨(Ab.TK.slice 32), 1, 24, Ab.D.nil⟩),
  (32, ⟨(Ab.TK.slice 25), 1, 24, Ab.D.nil⟩),
  (38, ⟨(Ab.TK.slice 3), 1, 24, Ab.D.nil⟩),
  (74, ⟨(Ab.TK.int IntKind.u64), 1, 8, (Ab.D.int IntKind.u64 (Int.ofNat 0))⟩),
  (76, ⟨(Ab.TK.strct [(Ab.FI.mk 0 1 Bool.false), (Ab.FI.mk 1 1 Bool.false), (Ab.FI.mk 2 1 Bool.false)] Option.none), 3, 40, (Ab.D.agg [Ab.D.nil, (Ab.D.int IntKind.i64 (Int.ofNat 0)), (Ab.D.int IntKind.u64 (Int.ofNat 0))])⟩)]
noncomputable def X : Ctx := ⟨Go.Proofs.Try.prog, T, []⟩
theorem T_ok : TabOK X.P X.T := ⟨by kernel_rfl, by kernel_rfl, by kernel_rfl, by kernel_rfl, by kernel_rfl, by kernel_rfl, by kernel_rfl, by kernel_rfl, by kernel_rfl, by kernel_rfl, trivial⟩
theorem mixed : X.P.follows .mixedOrders = true := Go.Proofs.Try.checked.mixed
theorem gO {f : FuncId} {M : Nat} {k k' : List Item} {σ σ' : St} {res : List D} {G' : List Root} (cmds : List Cmd) {ps : List Prop} (h : run X M cmds k σ = some (ps, k', σ')) (hp : AllP ps) (hk : Wc X f M k' σ' res G') : Wc X f M k σ res G' := run_ok T_ok mixed h hp hk
theorem gE {f : FuncId} {M : Nat} {k : List Item} {σ : St} {res : List D} {G' : List Root} {fn : Func} (hf : X.P.funcs[f]? = some fn) (cmds : List Cmd) {ps : List Prop} (h : runFinC X M cmds k σ fn.results.toList res = some (ps, res, G')) (hp : AllP ps) : Wc X f M k σ res G' := runFinC_ok T_ok mixed hf h hp
theorem gS {f : FuncId} {M : Nat} {k : List Item} {σ : St} {res : List D} {G' : List Root} (cmds : List Cmd) {ps : List Prop} (h : runP X M cmds k σ = some ps) (hp : AllP ps) (hk : Wc X f M (runK X M cmds k σ) (runS X M cmds k σ) res G') : Wc X f M k σ res G' := seg_ok T_ok mixed cmds h hp hk
theorem gN {ς ρ : Type} {f : FuncId} {M : Nat} {K : ς → List Item} {Z : ς → St} {R : ρ → List D} {G : ρ → List Root} {k : List Item} {σ : St} {o : ς ⊕ ρ} (cmds : List Cmd) {ps : List Prop} (h : runP X M cmds k σ = some ps) (hp : AllP ps) (hk : Nx X f M K Z R G (runK X M cmds k σ) (runS X M cmds k σ) o) : Nx X f M K Z R G k σ o := segN_ok T_ok mixed cmds h hp hk
theorem allFl_25 (l : List Gi_Hex) : AllFl (List.map gi_Hex l) := allFl_map (fun x c hc => by simp [gi_Hex, D.cells] at hc; rcases hc with rfl | rfl <;> rfl) l
/-! loop example/g00886/laws big -/
theorem cw_big {a0 : (List Int)} {a1 : (List Int)} {r : Bool} (H : Dw_big a0 a1 = some r) : Ct X.P X.gl 7 [sl 1 (D.int .u8) a0, sl 1 (D.int .u8) a1] [] (RB r) [] :=
  Ct.of func7 (c := bdy f7) (by kernel_rfl) (by kernel_rfl) <|
  gS [r0] (by kernel_rfl) P0 <|
  eIf H (fun h1 H =>
    eW RB (fun _ => []) H <| gE func7 [rg [hT 2]] (by kernel_rfl) (P2 ((decide (((a0.length : Nat) : Int) > 1048576)) = true) (decide_eq_true h1) <| P0))
  (fun h1 H =>
    eW RB (fun _ => []) H <| gE func7 [rg [hF 2]] (by kernel_rfl) (P2 ((decide (((a0.length : Nat) : Int) > 1048576)) = false) (decide_eq_false h1) <| P0))
/-!   loop example/g00886/spec l1Cur  next -/
def Rs_l1Cur_next (r : Int × Gs_l1Cur) : List D := [I r.1]
def Ns_l1Cur_next (r : Int × Gs_l1Cur) : List Root := [⟨false, true, 3, 1, [.agg [sl 1 (D.int .u8) r.2.code, I r.2.at_, .int .u64 r.2.seed]]⟩]
theorem cs_l1Cur_next {a0 : Gs_l1Cur} {r : Int × Gs_l1Cur} (H : Ds_l1Cur_next a0 = some r) : Ct X.P X.gl 108 [.ptr 0 3 0 0] [⟨false, true, 3, 1, [.agg [sl 1 (D.int .u8) a0.code, I a0.at_, .int .u64 a0.seed]]⟩] (Rs_l1Cur_next r) (Ns_l1Cur_next r) :=
  Ct.of func108 (c := bdy f108) (by kernel_rfl) (by kernel_rfl) <|
  gS [r0, r0] (by kernel_rfl) P0 <|
  eIf H (fun h1 H =>
    eCk H fun h2 H =>
    eBind H fun x3 hx3 H =>
    gS [rg [hT 9], rg [hE 9 ((D.int .u8) x3)], r0, r0] (by kernel_rfl) (P2 ((decide (a0.at_ < ((a0.code.length : Nat) : Int))) = true) (decide_eq_true h1) <| P1 h2 <| P1 (int_lt_of_at h2 hx3) <| P1 (at_map (D.int .u8) hx3) <| P0) <|
    eIf H (fun h4 H =>
      eW Rs_l1Cur_next Ns_l1Cur_next H <| gE func108 [rg [hT 9], r0] (by kernel_rfl) (P2 ((decide ((IntKind.wrap .i64 (a0.at_ + 1)) ≤ ((a0.code.length : Nat) : Int))) = true) (decide_eq_true h4) <| P0))
    (fun h4 H =>
      eW Rs_l1Cur_next Ns_l1Cur_next H <| gE func108 [rg [hF 9], r0] (by kernel_rfl) (P2 ((decide ((IntKind.wrap .i64 (a0.at_ + 1)) ≤ ((a0.code.length : Nat) : Int))) = false) (decide_eq_false h4) <| P2 ((0 : Int) ≤ 40) (by decide) <| P0)))
  (fun h1 H =>
    gS [rg [hF 9], r0, r0] (by kernel_rfl) (P2 ((decide (a0.at_ < ((a0.code.length : Nat) : Int))) = false) (decide_eq_false h1) <| P0) <|
    eIf H (fun h2 H =>
      eW Rs_l1Cur_next Ns_l1Cur_next H <| gE func108 [rg [hT 9], r0] (by kernel_rfl) (P2 ((decide ((IntKind.wrap .i64 (a0.at_ + 1)) ≤ ((a0.code.length : Nat) : Int))) = true) (decide_eq_true h2) <| P0))
    (fun h2 H =>
      eW Rs_l1Cur_next Ns_l1Cur_next H <| gE func108 [rg [hF 9], r0] (by kernel_rfl) (P2 ((decide ((IntKind.wrap .i64 (a0.at_ + 1)) ≤ ((a0.code.length : Nat) : Int))) = false) (decide_eq_false h2) <| P2 ((0 : Int) ≤ 40) (by decide) <| P0)))
/-!   loop example/g00886/spec l1Cur  pick -/
def Rs_l1Cur_pick (r : Int × Gs_l1Cur) : List D := [I r.1]
def Ns_l1Cur_pick (r : Int × Gs_l1Cur) : List Root := [⟨false, true, 3, 1, [.agg [sl 1 (D.int .u8) r.2.code, I r.2.at_, .int .u64 r.2.seed]]⟩]
theorem cs_l1Cur_pick {a0 : Gs_l1Cur} {a1 : Int} {r : Int × Gs_l1Cur} (H : Ds_l1Cur_pick a0 a1 = some r) : Ct X.P X.gl 65 [.ptr 0 3 0 0, I a1] [⟨false, true, 3, 1, [.agg [sl 1 (D.int .u8) a0.code, I a0.at_, .int .u64 a0.seed]]⟩] (Rs_l1Cur_pick r) (Ns_l1Cur_pick r) :=
  Ct.of func65 (c := bdy f65) (by kernel_rfl) (by kernel_rfl) <|
  gS [r0] (by kernel_rfl) P0 <|
  eIf H (fun h1 H =>
    eW Rs_l1Cur_pick Ns_l1Cur_pick H <| gE func65 [rg [hT 1], r0] (by kernel_rfl) (P2 ((decide (a1 ≤ 1)) = true) (decide_eq_true h1) <| P0))
  (fun h1 H =>
    eBind H fun r2 hr2 H =>
    gS [rg [hF 1], rg [hC 1 true [0] (Rs_l1Cur_next r2) (Ns_l1Cur_next r2)]] (by kernel_rfl) (P2 ((decide (a1 ≤ 1)) = false) (decide_eq_false h1) <| PI (1 : Nat) <| P1 (cs_l1Cur_next hr2) <| P0) <|
    eIf H (fun h3 H =>
      eBind H fun r4 hr4 H =>
      eCk H fun h5 H =>
      eW Rs_l1Cur_pick Ns_l1Cur_pick H <| gE func65 [rg [hT 1], rg [hC 3 true [0] (Rs_l1Cur_next r4) (Ns_l1Cur_next r4)], r0] (by kernel_rfl) (P2 ((decide (a1 > 200)) = true) (decide_eq_true h3) <| PI (1 : Nat) <| P1 (cs_l1Cur_next hr4) <| P2 (¬ (a1 : Int) = 0) h5 <| P0))
    (fun h3 H =>
      eCk H fun h4 H =>
      eW Rs_l1Cur_pick Ns_l1Cur_pick H <| gE func65 [rg [hF 1], r0] (by kernel_rfl) (P2 ((decide (a1 > 200)) = false) (decide_eq_false h3) <| P2 (¬ (a1 : Int) = 0) h4 <| P0)))
/-!   loop example/g00886/spec l1Cur  among -/
def Rs_l1Cur_among (r : Int × Gs_l1Cur) : List D := [I r.1]
def Ns_l1Cur_among (r : Int × Gs_l1Cur) : List Root := [⟨false, true, 3, 1, [.agg [sl 1 (D.int .u8) r.2.code, I r.2.at_, .int .u64 r.2.seed]]⟩]
theorem cs_l1Cur_among {a0 : Gs_l1Cur} {a1 : (List Int)} {r : Int × Gs_l1Cur} (H : Ds_l1Cur_among a0 a1 = some r) : Ct X.P X.gl 64 [.ptr 0 3 0 0, sl 1 I a1] [⟨false, true, 3, 1, [.agg [sl 1 (D.int .u8) a0.code, I a0.at_, .int .u64 a0.seed]]⟩] (Rs_l1Cur_among r) (Ns_l1Cur_among r) :=
  Ct.of func64 (c := bdy f64) (by kernel_rfl) (by kernel_rfl) <|
  eBind H fun r1 hr1 H =>
  eCk H fun h2 H =>
  eBind H fun x3 hx3 H =>
  eW Rs_l1Cur_among Ns_l1Cur_among H <| gE func64 [r0, rg [hC 4 true [0] (Rs_l1Cur_pick r1) (Ns_l1Cur_pick r1), hE 6 (I x3)]] (by kernel_rfl) (PI (1 : Nat) <| P1 (cs_l1Cur_pick hr1) <| P1 h2 <| P1 (int_lt_of_at h2 hx3) <| P1 (at_map I hx3) <| P0)
/-!   loop example/g00886/spec l1Cur  hex -/
def Rs_l1Cur_hex (r : Gi_Hex × Gs_l1Cur) : List D := [.agg [I r.1.Q, I r.1.R]]
def Ns_l1Cur_hex (r : Gi_Hex × Gs_l1Cur) : List Root := [⟨false, true, 3, 1, [.agg [sl 1 (D.int .u8) r.2.code, I r.2.at_, .int .u64 r.2.seed]]⟩]
theorem cs_l1Cur_hex {a0 : Gs_l1Cur} {r : Gi_Hex × Gs_l1Cur} (H : Ds_l1Cur_hex a0 = some r) : Ct X.P X.gl 120 [.ptr 0 3 0 0] [⟨false, true, 3, 1, [.agg [sl 1 (D.int .u8) a0.code, I a0.at_, .int .u64 a0.seed]]⟩] (Rs_l1Cur_hex r) (Ns_l1Cur_hex r) :=
  Ct.of func120 (c := bdy f120) (by kernel_rfl) (by kernel_rfl) <|
  eBind H fun r1 hr1 H =>
  eBind H fun r2 hr2 H =>
  eBind H fun r3 hr3 H =>
  gS [r0, rg [hC 1 true [0] (Rs_l1Cur_pick r1) (Ns_l1Cur_pick r1), hC 4 true [0] (Rs_l1Cur_pick r2) (Ns_l1Cur_pick r2)], rg [hC 1 true [0] (Rs_l1Cur_pick r3) (Ns_l1Cur_pick r3)]] (by kernel_rfl) (PI (1 : Nat) <| P1 (cs_l1Cur_pick hr1) <| PI (1 : Nat) <| P1 (cs_l1Cur_pick hr2) <| PI (1 : Nat) <| P1 (cs_l1Cur_pick hr3) <| P0) <|
  eIf H (fun h4 H =>
    eBind H fun r5 hr5 H =>
    eW Rs_l1Cur_hex Ns_l1Cur_hex H <| gE func120 [rg [hT 0], rg [{ i := 2, frz := [3], call := some { cl := true, auto := true, ins := [0], res := (Rs_l1Cur_among r5), G' := (Ns_l1Cur_among r5) } }], r0] (by kernel_rfl) (P2 (((r3.1 : Int) == 0) = true) (beqT h4) <| PI (1 : Nat) <| P1 (cs_l1Cur_among hr5) <| P0))
  (fun h4 H =>
    gS [rg [hF 0]] (by kernel_rfl) (P2 (((r3.1 : Int) == 0) = false) (beqF h4) <| P0) <|
    eIf H (fun h5 H =>
      eBind H fun r6 hr6 H =>
      eW Rs_l1Cur_hex Ns_l1Cur_hex H <| gE func120 [rg [hT 0], rg [{ i := 2, frz := [3], call := some { cl := true, auto := true, ins := [0], res := (Rs_l1Cur_among r6), G' := (Ns_l1Cur_among r6) } }], r0] (by kernel_rfl) (P2 (((r3.1 : Int) == 1) = true) (beqT h5) <| PI (1 : Nat) <| P1 (cs_l1Cur_among hr6) <| P0))
    (fun h5 H =>
      eW Rs_l1Cur_hex Ns_l1Cur_hex H <| gE func120 [rg [hF 0], r0] (by kernel_rfl) (P2 (((r3.1 : Int) == 1) = false) (beqF h5) <| P0)))
/-!   loop example/g00886/spec l1Cur  one -/
def Rs_l1Cur_one (r : Bool × Gs_l1Cur) : List D := [.bool r.1]
def Ns_l1Cur_one (r : Bool × Gs_l1Cur) : List Root := [⟨false, true, 3, 1, [.agg [sl 1 (D.int .u8) r.2.code, I r.2.at_, .int .u64 r.2.seed]]⟩]
theorem cs_l1Cur_one {a0 : Gs_l1Cur} {a1 : Int} {r : Bool × Gs_l1Cur} (H : Ds_l1Cur_one a0 a1 = some r) : Ct X.P X.gl 106 [.ptr 0 3 0 0, I a1] [⟨false, true, 3, 1, [.agg [sl 1 (D.int .u8) a0.code, I a0.at_, .int .u64 a0.seed]]⟩] (Rs_l1Cur_one r) (Ns_l1Cur_one r) :=
  Ct.of func106 (c := bdy f106) (by kernel_rfl) (by kernel_rfl) <|
  eBind H fun r1 hr1 H =>
  eW Rs_l1Cur_one Ns_l1Cur_one H <| gE func106 [r0, rg [hC 2 true [0] (Rs_l1Cur_pick r1) (Ns_l1Cur_pick r1)]] (by kernel_rfl) (PI (1 : Nat) <| P1 (cs_l1Cur_pick hr1) <| P0)
/-!   loop example/g00886/spec l1Cur  anyHex -/
def Rs_l1Cur_anyHex (r : Gi_Hex × Gs_l1Cur) : List D := [.agg [I r.1.Q, I r.1.R]]
def Ns_l1Cur_anyHex (r : Gi_Hex × Gs_l1Cur) : List Root := [⟨false, true, 3, 1, [.agg [sl 1 (D.int .u8) r.2.code, I r.2.at_, .int .u64 r.2.seed]]⟩]
theorem cs_l1Cur_anyHex {a0 : Gs_l1Cur} {r : Gi_Hex × Gs_l1Cur} (H : Ds_l1Cur_anyHex a0 = some r) : Ct X.P X.gl 101 [.ptr 0 3 0 0] [⟨false, true, 3, 1, [.agg [sl 1 (D.int .u8) a0.code, I a0.at_, .int .u64 a0.seed]]⟩] (Rs_l1Cur_anyHex r) (Ns_l1Cur_anyHex r) :=
  Ct.of func101 (c := bdy f101) (by kernel_rfl) (by kernel_rfl) <|
  eBind H fun r1 hr1 H =>
  eBind H fun r2 hr2 H =>
  gS [r0, rg [hC 1 true [0] (Rs_l1Cur_hex r1) (Ns_l1Cur_hex r1)]] (by kernel_rfl) (PI (1 : Nat) <| P1 (cs_l1Cur_hex hr1) <| P0) <|
  eIf H (fun h3 H =>
    eBind H fun r4 hr4 H =>
    eW Rs_l1Cur_anyHex Ns_l1Cur_anyHex H <| gE func101 [rg [{ i := 1, call := some { cl := true, auto := true, ins := [0], res := (Rs_l1Cur_one r2), G' := (Ns_l1Cur_one r2) }, dec := some true }], rg [{ i := 2, frz := [3], call := some { cl := true, auto := true, ins := [0], res := (Rs_l1Cur_among r4), G' := (Ns_l1Cur_among r4) } }], r0] (by kernel_rfl) (PI (1 : Nat) <| P1 (cs_l1Cur_one hr2) <| P2 (r2.1 = true) (h3) <| PI (1 : Nat) <| P1 (cs_l1Cur_among hr4) <| P0))
  (fun h3 H =>
    eW Rs_l1Cur_anyHex Ns_l1Cur_anyHex H <| gE func101 [rg [{ i := 1, call := some { cl := true, auto := true, ins := [0], res := (Rs_l1Cur_one r2), G' := (Ns_l1Cur_one r2) }, dec := some false }], r0] (by kernel_rfl) (PI (1 : Nat) <| P1 (cs_l1Cur_one hr2) <| P2 (r2.1 = false) (eqF h3) <| P0))
/-! loop example/g00886/spec DrawDistanceOf -/
def Rs_DrawDistanceOf (r : Gi_Hex × Gi_Hex) : List D := [.agg [I r.1.Q, I r.1.R], .agg [I r.2.Q, I r.2.R]]
theorem cs_DrawDistanceOf {a0 : (List Int)} {r : Gi_Hex × Gi_Hex} (H : Ds_DrawDistanceOf a0 = some r) : Ct X.P X.gl 56 [sl 1 (D.int .u8) a0] [] (Rs_DrawDistanceOf r) [] :=
  Ct.of func56 (c := bdy f56) (by kernel_rfl) (by kernel_rfl) <|
  eBind H fun r1 hr1 H =>
  eBind H fun r2 hr2 H =>
  eW Rs_DrawDistanceOf (fun _ => []) H <| gE func56 [r0, r0, rg [hC 1 true [2] (Rs_l1Cur_anyHex r1) (Ns_l1Cur_anyHex r1), hC 3 true [2] (Rs_l1Cur_anyHex r2) (Ns_l1Cur_anyHex r2)]] (by kernel_rfl) (PI (1 : Nat) <| P1 (cs_l1Cur_anyHex hr1) <| PI (1 : Nat) <| P1 (cs_l1Cur_anyHex hr2) <| P0)
/-! loop example/g00886/spec DrawLineOf -/
def Rs_DrawLineOf (r : Gi_Hex × Gi_Hex) : List D := [.agg [I r.1.Q, I r.1.R], .agg [I r.2.Q, I r.2.R]]
theorem cs_DrawLineOf {a0 : (List Int)} {r : Gi_Hex × Gi_Hex} (H : Ds_DrawLineOf a0 = some r) : Ct X.P X.gl 8 [sl 1 (D.int .u8) a0] [] (Rs_DrawLineOf r) [] :=
  Ct.of func8 (c := bdy f8) (by kernel_rfl) (by kernel_rfl) <|
  eBind H fun r1 hr1 H =>
  eW Rs_DrawLineOf (fun _ => []) H <| gE func8 [r0, rg [hC 1 true [] (Rs_DrawDistanceOf r1) []]] (by kernel_rfl) (P1 (cs_DrawDistanceOf hr1) <| P0)
/-! loop example/g00886/impl inRange -/
theorem ci_inRange {a0 : Int} {a1 : Int} {a2 : Int} {r : Bool} (H : Di_inRange a0 a1 a2 = some r) : Ct X.P X.gl 68 [I a0, I a1, I a2] [] (RB r) [] :=
  Ct.of func68 (c := bdy f68) (by kernel_rfl) (by kernel_rfl) <|
  gS [r0] (by kernel_rfl) P0 <|
  eIf H (fun h1 H =>
    eW RB (fun _ => []) H <| gE func68 [rg [hT 2]] (by kernel_rfl) (P2 ((decide (a1 ≤ a0)) = true) (decide_eq_true h1) <| P0))
  (fun h1 H =>
    eW RB (fun _ => []) H <| gE func68 [rg [hF 2]] (by kernel_rfl) (P2 ((decide (a1 ≤ a0)) = false) (decide_eq_false h1) <| P0))
/-! loop example/g00886/impl IsHex -/
theorem ci_IsHex {a0 : Gi_Hex} {r : Bool} (H : Di_IsHex a0 = some r) : Ct X.P X.gl 57 [.agg [I a0.Q, I a0.R]] [] (RB r) [] :=
  Ct.of func57 (c := bdy f57) (by kernel_rfl) (by kernel_rfl) <|
  eBind H fun r1 hr1 H =>
  gS [r0] (by kernel_rfl) P0 <|
  eIf H (fun h2 H =>
    eBind H fun r3 hr3 H =>
    eW RB (fun _ => []) H <| gE func57 [rg [{ i := 2, call := some { cl := true, auto := true, ins := [], res := (RB r1), G' := [] }, dec := some true }, hC 6 true [] (RB r3) []]] (by kernel_rfl) (P1 (ci_inRange hr1) <| P2 (r1 = true) (h2) <| P1 (ci_inRange hr3) <| P0))
  (fun h2 H =>
    eW RB (fun _ => []) H <| gE func57 [rg [{ i := 2, call := some { cl := true, auto := true, ins := [], res := (RB r1), G' := [] }, dec := some false }]] (by kernel_rfl) (P1 (ci_inRange hr1) <| P2 (r1 = false) (eqF h2) <| P0))
/-! loop example/g00886/impl absOf -/
theorem ci_absOf {a0 : Int} {r : Int} (H : Di_absOf a0 = some r) : Ct X.P X.gl 105 [I a0] [] (RI r) [] :=
  Ct.of func105 (c := bdy f105) (by kernel_rfl) (by kernel_rfl) <|
  gS [r0] (by kernel_rfl) P0 <|
  eIf H (fun h1 H =>
    eW RI (fun _ => []) H <| gE func105 [rg [hT 1], r0] (by kernel_rfl) (P2 ((decide (a0 < 0)) = true) (decide_eq_true h1) <| P0))
  (fun h1 H =>
    eW RI (fun _ => []) H <| gE func105 [rg [hF 1], r0] (by kernel_rfl) (P2 ((decide (a0 < 0)) = false) (decide_eq_false h1) <| P0))
/-! loop example/g00886/impl distance -/
theorem ci_distance {a0 : Gi_Hex} {a1 : Gi_Hex} {r : Int} (H : Di_distance a0 a1 = some r) : Ct X.P X.gl 62 [.agg [I a0.Q, I a0.R], .agg [I a1.Q, I a1.R]] [] (RI r) [] :=
  Ct.of func62 (c := bdy f62) (by kernel_rfl) (by kernel_rfl) <|
  eBind H fun r1 hr1 H =>
  eBind H fun r2 hr2 H =>
  eBind H fun r3 hr3 H =>
  eW RI (fun _ => []) H <| gE func62 [r0, r0, rg [hC 1 true [] (RI r1) [], hC 3 true [] (RI r2) [], hC 8 true [] (RI r3) []]] (by kernel_rfl) (P1 (ci_absOf hr1) <| P1 (ci_absOf hr2) <| P1 (ci_absOf hr3) <| P2 (¬ (2 : Int) = 0) (by decide) <| P0)
/-! loop example/g00886/impl floorDiv -/
theorem ci_floorDiv {a0 : Int} {a1 : Int} {r : Int} (H : Di_floorDiv a0 a1 = some r) : Ct X.P X.gl 121 [I a0, I a1] [] (RI r) [] :=
  Ct.of func121 (c := bdy f121) (by kernel_rfl) (by kernel_rfl) <|
  eCk H fun h1 H =>
  eCk H fun h2 H =>
  gS [r0, r0] (by kernel_rfl) (P2 (¬ (a1 : Int) = 0) h1 <| P0) <|
  eIf H (fun h3 H =>
    eW RI (fun _ => []) H <| gE func121 [rg [hT 3], r0, r0] (by kernel_rfl) (P2 (¬ (a1 : Int) = 0) h2 <| P2 ((decide ((Int.tmod a0 a1) < 0)) = true) (decide_eq_true h3) <| P0))
  (fun h3 H =>
    eW RI (fun _ => []) H <| gE func121 [rg [hF 3], r0] (by kernel_rfl) (P2 (¬ (a1 : Int) = 0) h2 <| P2 ((decide ((Int.tmod a0 a1) < 0)) = false) (decide_eq_false h3) <| P0))
/-! loop example/g00886/impl nearestTo -/
def Ri_nearestTo (r : (List Gi_Hex)) : List D := [ow 2 gi_Hex r]
noncomputable def Ki_nearestTo : Si_nearestTo → List Item
  | .h1 .. => nav 300 3 [] [.code (bdy f102)]
  | .h2 .. => nav 300 5 [true] [.code (bdy f102)]
def Zi_nearestTo : Si_nearestTo → St
  | .h1 t0 t1 t2 t3 t4 l5 => ⟨sts 80 [(0, I t0), (1, I t1), (2, I t2), (7, .ref 0 2 none), (8, I t3), (9, I t4)], [some ⟨false, false, 2, l5.length, List.map gi_Hex l5⟩]⟩
  | .h2 t0 t1 t2 t3 t4 t5 l6 => ⟨sts 80 [(0, I t0), (1, I t1), (2, I t2), (7, .ref 0 2 none), (8, I t3), (9, I t4), (10, I t5)], [some ⟨false, false, 2, l6.length, List.map gi_Hex l6⟩]⟩
abbrev Qi_nearestTo := Nx X 102 0 Ki_nearestTo Zi_nearestTo Ri_nearestTo (fun _ => [])
theorem ni_nearestTo : ∀ s o, Bi_nearestTo s = some o → Qi_nearestTo (Ki_nearestTo s) (Zi_nearestTo s) o
  | .h1 t0 t1 t2 t3 t4 l5, o, H =>
    eBind H fun r1 hr1 H =>
    eIf H (fun h2 H =>
      eBind H fun r3 hr3 H =>
      eN H fun r hn => gO [rg [hC 3 true [] (RI r1) [], hT 5], rg [hC 2 true [] (RI r3) []], .canon [0] [0, 1, 2, 7, 8, 9, 10]] (by kernel_rfl) (P1 (ci_floorDiv hr1) <| P2 ((decide (t4 ≤ (IntKind.wrap .i64 (r1 + 2)))) = true) (decide_eq_true h2) <| P1 (ci_floorDiv hr3) <| P0) hn)
    (fun h2 H =>
      eN H <| gE func102 [rg [hC 3 true [] (RI r1) [], hF 5], r0] (by kernel_rfl) (P1 (ci_floorDiv hr1) <| P2 ((decide (t4 ≤ (IntKind.wrap .i64 (r1 + 2)))) = false) (decide_eq_false h2) <| P0))
  | .h2 t0 t1 t2 t3 t4 t5 l6, o, H =>
    eBind H fun r1 hr1 H =>
    eIf H (fun h2 H =>
      gN [rg [hC 3 true [] (RI r1) [], hT 5], r0, r0] (by kernel_rfl) (P1 (ci_floorDiv hr1) <| P2 ((decide (t5 ≤ (IntKind.wrap .i64 (r1 + 2)))) = true) (decide_eq_true h2) <| P0) <|
      eIf H (fun h3 H =>
        eCk H fun h4 H =>
        gN [rg [hT 1], r0] (by kernel_rfl) (P2 ((decide (t3 < 0)) = true) (decide_eq_true h3) <| P2 ((0 : Int) ≤ 0) (by decide) <| P2 ((0 : Int) ≤ ((l6.length : Nat) : Int)) h4 <| P0) <|
        eIf H (fun h5 H =>
          eCk H fun h6 H =>
          eN H fun r hn => gO [rg [hT 2], rg [hA 5 (((List.take ((Int.toNat 0) - 0) (List.drop 0 l6)) ++ [(Gi_Hex.mk t4 t5)]).length) (List.map gi_Hex ((List.take ((Int.toNat 0) - 0) (List.drop 0 l6)) ++ [(Gi_Hex.mk t4 t5)]))], r0, .canon [2] [0, 1, 2, 7, 8, 9, 10]] (by kernel_rfl) (P2 ((((IntKind.wrap .i64 ((IntKind.wrap .i64 ((IntKind.wrap .i64 ((IntKind.wrap .i64 ((IntKind.wrap .i64 (t2 * t4)) - t0)) * (IntKind.wrap .i64 ((IntKind.wrap .i64 (t2 * t4)) - t0)))) + (IntKind.wrap .i64 ((IntKind.wrap .i64 ((IntKind.wrap .i64 (t2 * t4)) - t0)) * (IntKind.wrap .i64 ((IntKind.wrap .i64 (t2 * t5)) - t1)))))) + (IntKind.wrap .i64 ((IntKind.wrap .i64 ((IntKind.wrap .i64 (t2 * t5)) - t1)) * (IntKind.wrap .i64 ((IntKind.wrap .i64 (t2 * t5)) - t1)))))) : Int) == (IntKind.wrap .i64 ((IntKind.wrap .i64 ((IntKind.wrap .i64 ((IntKind.wrap .i64 ((IntKind.wrap .i64 (t2 * t4)) - t0)) * (IntKind.wrap .i64 ((IntKind.wrap .i64 (t2 * t4)) - t0)))) + (IntKind.wrap .i64 ((IntKind.wrap .i64 ((IntKind.wrap .i64 (t2 * t4)) - t0)) * (IntKind.wrap .i64 ((IntKind.wrap .i64 (t2 * t5)) - t1)))))) + (IntKind.wrap .i64 ((IntKind.wrap .i64 ((IntKind.wrap .i64 (t2 * t5)) - t1)) * (IntKind.wrap .i64 ((IntKind.wrap .i64 (t2 * t5)) - t1))))))) = true) (beqT h5) <| P2 (((List.take ((Int.toNat 0) - 0) (List.drop 0 l6)) ++ [(Gi_Hex.mk t4 t5)]).length = (Int.toNat 0) - 0 + [(Gi_Hex.mk t4 t5)].length) (by simp <;> omega) <| P2 (((Int.toNat 0) - 0 + [(Gi_Hex.mk t4 t5)].length) * 16 ≤ 70368744177664) (by have := h6; simp at this ⊢ <;> omega) <| P2 (List.take ((Int.toNat 0) - 0) (List.drop 0 (List.map gi_Hex l6)) ++ List.map gi_Hex [(Gi_Hex.mk t4 t5)] = List.map gi_Hex ((List.take ((Int.toNat 0) - 0) (List.drop 0 l6)) ++ [(Gi_Hex.mk t4 t5)])) (by simp [List.map_take, List.map_drop]) <| P0) hn)
        (fun h5 H =>
          eN H fun r hn => gO [rg [hF 2], r0, .view 7 (List.take ((Int.toNat 0) - 0) (List.drop 0 l6)).length (List.map gi_Hex (List.take ((Int.toNat 0) - 0) (List.drop 0 l6))), .canon [1] [0, 1, 2, 7, 8, 9, 10]] (by kernel_rfl) (P2 ((((IntKind.wrap .i64 ((IntKind.wrap .i64 ((IntKind.wrap .i64 ((IntKind.wrap .i64 ((IntKind.wrap .i64 (t2 * t4)) - t0)) * (IntKind.wrap .i64 ((IntKind.wrap .i64 (t2 * t4)) - t0)))) + (IntKind.wrap .i64 ((IntKind.wrap .i64 ((IntKind.wrap .i64 (t2 * t4)) - t0)) * (IntKind.wrap .i64 ((IntKind.wrap .i64 (t2 * t5)) - t1)))))) + (IntKind.wrap .i64 ((IntKind.wrap .i64 ((IntKind.wrap .i64 (t2 * t5)) - t1)) * (IntKind.wrap .i64 ((IntKind.wrap .i64 (t2 * t5)) - t1)))))) : Int) == (IntKind.wrap .i64 ((IntKind.wrap .i64 ((IntKind.wrap .i64 ((IntKind.wrap .i64 ((IntKind.wrap .i64 (t2 * t4)) - t0)) * (IntKind.wrap .i64 ((IntKind.wrap .i64 (t2 * t4)) - t0)))) + (IntKind.wrap .i64 ((IntKind.wrap .i64 ((IntKind.wrap .i64 (t2 * t4)) - t0)) * (IntKind.wrap .i64 ((IntKind.wrap .i64 (t2 * t5)) - t1)))))) + (IntKind.wrap .i64 ((IntKind.wrap .i64 ((IntKind.wrap .i64 (t2 * t5)) - t1)) * (IntKind.wrap .i64 ((IntKind.wrap .i64 (t2 * t5)) - t1))))))) = false) (beqF h5) <| P1 (allFl_25 l6) <| P2 ((Int.toNat 0) - 0 = (List.take ((Int.toNat 0) - 0) (List.drop 0 l6)).length) (by simp <;> omega) <| P2 (List.take ((Int.toNat 0) - 0) (List.drop 0 (List.map gi_Hex l6)) = List.map gi_Hex (List.take ((Int.toNat 0) - 0) (List.drop 0 l6))) (by rw [List.map_take, List.map_drop]) <| P0) hn))
      (fun h3 H =>
        eIf H (fun h4 H =>
          eCk H fun h5 H =>
          gN [rg [hF 1, hT 5], r0] (by kernel_rfl) (P2 ((decide (t3 < 0)) = false) (decide_eq_false h3) <| P2 ((decide ((IntKind.wrap .i64 ((IntKind.wrap .i64 ((IntKind.wrap .i64 ((IntKind.wrap .i64 ((IntKind.wrap .i64 (t2 * t4)) - t0)) * (IntKind.wrap .i64 ((IntKind.wrap .i64 (t2 * t4)) - t0)))) + (IntKind.wrap .i64 ((IntKind.wrap .i64 ((IntKind.wrap .i64 (t2 * t4)) - t0)) * (IntKind.wrap .i64 ((IntKind.wrap .i64 (t2 * t5)) - t1)))))) + (IntKind.wrap .i64 ((IntKind.wrap .i64 ((IntKind.wrap .i64 (t2 * t5)) - t1)) * (IntKind.wrap .i64 ((IntKind.wrap .i64 (t2 * t5)) - t1)))))) < t3)) = true) (decide_eq_true h4) <| P2 ((0 : Int) ≤ 0) (by decide) <| P2 ((0 : Int) ≤ ((l6.length : Nat) : Int)) h5 <| P0) <|
          eIf H (fun h6 H =>
            eCk H fun h7 H =>
            eN H fun r hn => gO [rg [hT 2], rg [hA 5 (((List.take ((Int.toNat 0) - 0) (List.drop 0 l6)) ++ [(Gi_Hex.mk t4 t5)]).length) (List.map gi_Hex ((List.take ((Int.toNat 0) - 0) (List.drop 0 l6)) ++ [(Gi_Hex.mk t4 t5)]))], r0, .canon [2] [0, 1, 2, 7, 8, 9, 10]] (by kernel_rfl) (P2 ((((IntKind.wrap .i64 ((IntKind.wrap .i64 ((IntKind.wrap .i64 ((IntKind.wrap .i64 ((IntKind.wrap .i64 (t2 * t4)) - t0)) * (IntKind.wrap .i64 ((IntKind.wrap .i64 (t2 * t4)) - t0)))) + (IntKind.wrap .i64 ((IntKind.wrap .i64 ((IntKind.wrap .i64 (t2 * t4)) - t0)) * (IntKind.wrap .i64 ((IntKind.wrap .i64 (t2 * t5)) - t1)))))) + (IntKind.wrap .i64 ((IntKind.wrap .i64 ((IntKind.wrap .i64 (t2 * t5)) - t1)) * (IntKind.wrap .i64 ((IntKind.wrap .i64 (t2 * t5)) - t1)))))) : Int) == (IntKind.wrap .i64 ((IntKind.wrap .i64 ((IntKind.wrap .i64 ((IntKind.wrap .i64 ((IntKind.wrap .i64 (t2 * t4)) - t0)) * (IntKind.wrap .i64 ((IntKind.wrap .i64 (t2 * t4)) - t0)))) + (IntKind.wrap .i64 ((IntKind.wrap .i64 ((IntKind.wrap .i64 (t2 * t4)) - t0)) * (IntKind.wrap .i64 ((IntKind.wrap .i64 (t2 * t5)) - t1)))))) + (IntKind.wrap .i64 ((IntKind.wrap .i64 ((IntKind.wrap .i64 (t2 * t5)) - t1)) * (IntKind.wrap .i64 ((IntKind.wrap .i64 (t2 * t5)) - t1))))))) = true) (beqT h6) <| P2 (((List.take ((Int.toNat 0) - 0) (List.drop 0 l6)) ++ [(Gi_Hex.mk t4 t5)]).length = (Int.toNat 0) - 0 + [(Gi_Hex.mk t4 t5)].length) (by simp <;> omega) <| P2 (((Int.toNat 0) - 0 + [(Gi_Hex.mk t4 t5)].length) * 16 ≤ 70368744177664) (by have := h7; simp at this ⊢ <;> omega) <| P2 (List.take ((Int.toNat 0) - 0) (List.drop 0 (List.map gi_Hex l6)) ++ List.map gi_Hex [(Gi_Hex.mk t4 t5)] = List.map gi_Hex ((List.take ((Int.toNat 0) - 0) (List.drop 0 l6)) ++ [(Gi_Hex.mk t4 t5)])) (by simp [List.map_take, List.map_drop]) <| P0) hn)
          (fun h6 H =>
            eN H fun r hn => gO [rg [hF 2], r0, .view 7 (List.take ((Int.toNat 0) - 0) (List.drop 0 l6)).length (List.map gi_Hex (List.take ((Int.toNat 0) - 0) (List.drop 0 l6))), .canon [1] [0, 1, 2, 7, 8, 9, 10]] (by kernel_rfl) (P2 ((((IntKind.wrap .i64 ((IntKind.wrap .i64 ((IntKind.wrap .i64 ((IntKind.wrap .i64 ((IntKind.wrap .i64 (t2 * t4)) - t0)) * (IntKind.wrap .i64 ((IntKind.wrap .i64 (t2 * t4)) - t0)))) + (IntKind.wrap .i64 ((IntKind.wrap .i64 ((IntKind.wrap .i64 (t2 * t4)) - t0)) * (IntKind.wrap .i64 ((IntKind.wrap .i64 (t2 * t5)) - t1)))))) + (IntKind.wrap .i64 ((IntKind.wrap .i64 ((IntKind.wrap .i64 (t2 * t5)) - t1)) * (IntKind.wrap .i64 ((IntKind.wrap .i64 (t2 * t5)) - t1)))))) : Int) == (IntKind.wrap .i64 ((IntKind.wrap .i64 ((IntKind.wrap .i64 ((IntKind.wrap .i64 ((IntKind.wrap .i64 (t2 * t4)) - t0)) * (IntKind.wrap .i64 ((IntKind.wrap .i64 (t2 * t4)) - t0)))) + (IntKind.wrap .i64 ((IntKind.wrap .i64 ((IntKind.wrap .i64 (t2 * t4)) - t0)) * (IntKind.wrap .i64 ((IntKind.wrap .i64 (t2 * t5)) - t1)))))) + (IntKind.wrap .i64 ((IntKind.wrap .i64 ((IntKind.wrap .i64 (t2 * t5)) - t1)) * (IntKind.wrap .i64 ((IntKind.wrap .i64 (t2 * t5)) - t1))))))) = false) (beqF h6) <| P1 (allFl_25 l6) <| P2 ((Int.toNat 0) - 0 = (List.take ((Int.toNat 0) - 0) (List.drop 0 l6)).length) (by simp <;> omega) <| P2 (List.take ((Int.toNat 0) - 0) (List.drop 0 (List.map gi_Hex l6)) = List.map gi_Hex (List.take ((Int.toNat 0) - 0) (List.drop 0 l6))) (by rw [List.map_take, List.map_drop]) <| P0) hn))
        (fun h4 H =>
          gN [rg [hF 1, hF 5]] (by kernel_rfl) (P2 ((decide (t3 < 0)) = false) (decide_eq_false h3) <| P2 ((decide ((IntKind.wrap .i64 ((IntKind.wrap .i64 ((IntKind.wrap .i64 ((IntKind.wrap .i64 ((IntKind.wrap .i64 (t2 * t4)) - t0)) * (IntKind.wrap .i64 ((IntKind.wrap .i64 (t2 * t4)) - t0)))) + (IntKind.wrap .i64 ((IntKind.wrap .i64 ((IntKind.wrap .i64 (t2 * t4)) - t0)) * (IntKind.wrap .i64 ((IntKind.wrap .i64 (t2 * t5)) - t1)))))) + (IntKind.wrap .i64 ((IntKind.wrap .i64 ((IntKind.wrap .i64 (t2 * t5)) - t1)) * (IntKind.wrap .i64 ((IntKind.wrap .i64 (t2 * t5)) - t1)))))) < t3)) = false) (decide_eq_false h4) <| P0) <|
          eIf H (fun h5 H =>
            eCk H fun h6 H =>
            eN H fun r hn => gO [rg [hT 2], rg [hA 5 ((l6 ++ [(Gi_Hex.mk t4 t5)]).length) (List.map gi_Hex (l6 ++ [(Gi_Hex.mk t4 t5)]))], r0, .canon [2] [0, 1, 2, 7, 8, 9, 10]] (by kernel_rfl) (P2 ((((IntKind.wrap .i64 ((IntKind.wrap .i64 ((IntKind.wrap .i64 ((IntKind.wrap .i64 ((IntKind.wrap .i64 (t2 * t4)) - t0)) * (IntKind.wrap .i64 ((IntKind.wrap .i64 (t2 * t4)) - t0)))) + (IntKind.wrap .i64 ((IntKind.wrap .i64 ((IntKind.wrap .i64 (t2 * t4)) - t0)) * (IntKind.wrap .i64 ((IntKind.wrap .i64 (t2 * t5)) - t1)))))) + (IntKind.wrap .i64 ((IntKind.wrap .i64 ((IntKind.wrap .i64 (t2 * t5)) - t1)) * (IntKind.wrap .i64 ((IntKind.wrap .i64 (t2 * t5)) - t1)))))) : Int) == t3) = true) (beqT h5) <| P1 (apL l6 [(Gi_Hex.mk t4 t5)]) <| P1 (apB h6) <| P1 (apM gi_Hex l6 [(Gi_Hex.mk t4 t5)]) <| P0) hn)
          (fun h5 H =>
            eN H fun r hn => gO [rg [hF 2], r0, .canon [0] [0, 1, 2, 7, 8, 9, 10]] (by kernel_rfl) (P2 ((((IntKind.wrap .i64 ((IntKind.wrap .i64 ((IntKind.wrap .i64 ((IntKind.wrap .i64 ((IntKind.wrap .i64 (t2 * t4)) - t0)) * (IntKind.wrap .i64 ((IntKind.wrap .i64 (t2 * t4)) - t0)))) + (IntKind.wrap .i64 ((IntKind.wrap .i64 ((IntKind.wrap .i64 (t2 * t4)) - t0)) * (IntKind.wrap .i64 ((IntKind.wrap .i64 (t2 * t5)) - t1)))))) + (IntKind.wrap .i64 ((IntKind.wrap .i64 ((IntKind.wrap .i64 (t2 * t5)) - t1)) * (IntKind.wrap .i64 ((IntKind.wrap .i64 (t2 * t5)) - t1)))))) : Int) == t3) = false) (beqF h5) <| P0) hn))))
    (fun h2 H =>
      eN H fun r hn => gO [rg [hC 3 true [] (RI r1) [], hF 5], r0, .canon [0] [0, 1, 2, 7, 8, 9]] (by kernel_rfl) (P1 (ci_floorDiv hr1) <| P2 ((decide (t5 ≤ (IntKind.wrap .i64 (r1 + 2)))) = false) (decide_eq_false h2) <| P0) hn)
theorem wi_nearestTo : ∀ s r, loop Bi_nearestTo s = some r → Wc X 102 0 (Ki_nearestTo s) (Zi_nearestTo s) (Ri_nearestTo r) ((fun _ => []) r) := Nx.all ni_nearestTo
theorem ci_nearestTo {a0 : Int} {a1 : Int} {a2 : Int} {r : (List Gi_Hex)} (H : Di_nearestTo a0 a1 a2 = some r) : Ct X.P X.gl 102 [I a0, I a1, I a2] [] (Ri_nearestTo r) [] :=
  Ct.of func102 (c := bdy f102) (by kernel_rfl) (by kernel_rfl) <|
  eBind H fun r1 hr1 H =>
  gO [r0, r0, rg [hC 2 true [] (RI r1) []], .canon [0] [0, 1, 2, 7, 8, 9]] (by kernel_rfl) (P1 (ci_floorDiv hr1) <| P0) (wi_nearestTo _ _ H)
/-! loop example/g00886/impl lineOf -/
def Ri_lineOf (r : (List (List Gi_Hex))) : List D := [ow 1 (sl 2 gi_Hex) r]
noncomputable def Ki_lineOf : Si_lineOf → List Item
  | .h1 .. => nav 300 5 [false] [.code (bdy f58)]
def Zi_lineOf : Si_lineOf → St
  | .h1 n0 i1 b2 b3 l4 => ⟨sts 52 [(2, .ptr 0 2 0 0), (3, .ptr 1 2 0 0), (5, I n0), (6, .ref 2 1 none), (7, I i1)], [some ⟨false, true, 2, 1, [.agg [I b2.Q, I b2.R]]⟩, some ⟨false, true, 2, 1, [.agg [I b3.Q, I b3.R]]⟩, some ⟨false, false, 1, l4.length, List.map (sl 2 gi_Hex) l4⟩]⟩
abbrev Qi_lineOf := Nx X 58 0 Ki_lineOf Zi_lineOf Ri_lineOf (fun _ => [])
theorem ni_lineOf : ∀ s o, Bi_lineOf s = some o → Qi_lineOf (Ki_lineOf s) (Zi_lineOf s) o
  | .h1 n0 i1 b2 b3 l4, o, H =>
    eIf H (fun h1 H =>
      eBind H fun r2 hr2 H =>
      eCk H fun h3 H =>
      eN H fun r hn => gO [rg [hT 2], rg [hC 26 true [] (Ri_nearestTo r2) [], { i := 27, frz := [3] }, hA 28 ((l4 ++ [r2]).length) (List.map (sl 2 gi_Hex) (l4 ++ [r2]))], r0, .canon [0, 1, 5] [2, 3, 5, 6, 7]] (by kernel_rfl) (P2 ((decide (i1 ≤ n0)) = true) (decide_eq_true h1) <| P1 (ci_nearestTo hr2) <| P1 (apL l4 [r2]) <| P1 (apB h3) <| P1 (apM (sl 2 gi_Hex) l4 [r2]) <| P0) hn)
    (fun h1 H =>
      eN H <| gE func58 [rg [hF 2], r0] (by kernel_rfl) (P2 ((decide (i1 ≤ n0)) = false) (decide_eq_false h1) <| P0))
theorem wi_lineOf : ∀ s r, loop Bi_lineOf s = some r → Wc X 58 0 (Ki_lineOf s) (Zi_lineOf s) (Ri_lineOf r) ((fun _ => []) r) := Nx.all ni_lineOf
theorem ci_lineOf {a0 : Gi_Hex} {a1 : Gi_Hex} {r : (List (List Gi_Hex))} (H : Di_lineOf a0 a1 = some r) : Ct X.P X.gl 58 [.agg [I a0.Q, I a0.R], .agg [I a1.Q, I a1.R]] [] (Ri_lineOf r) [] :=
  Ct.of func58 (c := bdy f58) (by kernel_rfl) (by kernel_rfl) <|
  eBind H fun r1 hr1 H =>
  gS [r0, rg [hC 2 true [] (RI r1) []]] (by kernel_rfl) (P1 (ci_distance hr1) <| P0) <|
  eIf H (fun h2 H =>
    eW Ri_lineOf (fun _ => []) H <| gE func58 [rg [hT 1], rg [{ i := 2, frz := [2] }]] (by kernel_rfl) (P2 (((r1 : Int) == 0) = true) (beqT h2) <| P0))
  (fun h2 H =>
    gO [rg [hF 1], r0, r0, .canon [0, 1, 2] [2, 3, 5, 6, 7]] (by kernel_rfl) (P2 (((r1 : Int) == 0) = false) (beqF h2) <| P0) (wi_lineOf _ _ H))
/-! loop example/g00886/impl allHexes -/
noncomputable def Ki_allHexes : Si_allHexes → List Item
  | .h1 .. => nav 300 2 [] [.code (bdy f59)]
def Zi_allHexes : Si_allHexes → St
  | .h1 t0 t1 t2 => ⟨sts 15 [(5, sl 2 gi_Hex t0), (6, I t1), (7, I t2)], []⟩
abbrev Qi_allHexes := Nx X 59 0 Ki_allHexes Zi_allHexes RB (fun _ => [])
theorem ni_allHexes : ∀ s o, Bi_allHexes s = some o → Qi_allHexes (Ki_allHexes s) (Zi_allHexes s) o
  | .h1 t0 t1 t2, o, H =>
    eIf H (fun h1 H =>
      eCk H fun h2 H =>
      eBind H fun x3 hx3 H =>
      eBind H fun r4 hr4 H =>
      gN [rg [hT 0], rg [hE 1 (gi_Hex x3)]] (by kernel_rfl) (P2 ((decide (t2 < t1)) = true) (decide_eq_true h1) <| P1 h2 <| P1 (int_lt_of_at h2 hx3) <| P1 (at_map gi_Hex hx3) <| P0) <|
      eIf H (fun h5 H =>
        eN H fun r hn => gO [rg [{ i := 1, call := some { cl := true, auto := true, ins := [], res := (RB r4), G' := [] }, dec := some true }], r0, .canon [] [5, 6, 7]] (by kernel_rfl) (P1 (ci_IsHex hr4) <| P2 (r4 = true) (h5) <| P0) hn)
      (fun h5 H =>
        eN H <| gE func59 [rg [{ i := 1, call := some { cl := true, auto := true, ins := [], res := (RB r4), G' := [] }, dec := some false }], r0] (by kernel_rfl) (P1 (ci_IsHex hr4) <| P2 (r4 = false) (eqF h5) <| P0)))
    (fun h1 H =>
      eN H <| gE func59 [rg [hF 0], r0] (by kernel_rfl) (P2 ((decide (t2 < t1)) = false) (decide_eq_false h1) <| P0))
theorem wi_allHexes : ∀ s r, loop Bi_allHexes s = some r → Wc X 59 0 (Ki_allHexes s) (Zi_allHexes s) (RB r) ((fun _ => []) r) := Nx.all ni_allHexes
theorem ci_allHexes {a0 : (List Gi_Hex)} {r : Bool} (H : Di_allHexes a0 = some r) : Ct X.P X.gl 59 [sl 2 gi_Hex a0] [] (RB r) [] :=
  Ct.of func59 (c := bdy f59) (by kernel_rfl) (by kernel_rfl) <|
  gO [r0, r0, .canon [] [5, 6, 7]] (by kernel_rfl) P0 (wi_allHexes _ _ H)
/-! loop example/g00886/impl LineOf -/
def Ri_LineOf (r : (List (List Gi_Hex)) × Bool) : List D := [ow 1 (sl 2 gi_Hex) r.1, .bool r.2]
noncomputable def Ki_LineOf : Si_LineOf → List Item
  | .h1 .. => nav 300 4 [false] [.code (bdy f9)]
def Zi_LineOf : Si_LineOf → St
  | .h1 t0 t1 l2 => ⟨sts 31 [(6, .ref 0 1 none), (20, .ref 0 1 none), (21, I t0), (22, I t1)], [some ⟨false, false, 1, l2.length, List.map (sl 2 gi_Hex) l2⟩]⟩
abbrev Qi_LineOf := Nx X 9 0 Ki_LineOf Zi_LineOf Ri_LineOf (fun _ => [])
theorem ni_LineOf : ∀ s o, Bi_LineOf s = some o → Qi_LineOf (Ki_LineOf s) (Zi_LineOf s) o
  | .h1 t0 t1 l2, o, H =>
    eIf H (fun h1 H =>
      eCk H fun h2 H =>
      eBind H fun x3 hx3 H =>
      eBind H fun r4 hr4 H =>
      gN [rg [hT 0], rg [hE 1 ((sl 2 gi_Hex) x3)]] (by kernel_rfl) (P2 ((decide (t1 < t0)) = true) (decide_eq_true h1) <| P1 h2 <| P1 (int_lt_of_at h2 hx3) <| P1 (at_map (sl 2 gi_Hex) hx3) <| P0) <|
      eIf H (fun h5 H =>
        eN H fun r hn => gO [rg [{ i := 1, call := some { cl := true, auto := true, ins := [], res := (RB r4), G' := [] }, dec := some true }], r0, .canon [0] [6, 20, 21, 22]] (by kernel_rfl) (P1 (ci_allHexes hr4) <| P2 (r4 = true) (h5) <| P0) hn)
      (fun h5 H =>
        eN H <| gE func9 [rg [{ i := 1, call := some { cl := true, auto := true, ins := [], res := (RB r4), G' := [] }, dec := some false }], r0] (by kernel_rfl) (P1 (ci_allHexes hr4) <| P2 (r4 = false) (eqF h5) <| P0)))
    (fun h1 H =>
      eN H <| gE func9 [rg [hF 0], r0] (by kernel_rfl) (P2 ((decide (t1 < t0)) = false) (decide_eq_false h1) <| P0))
theorem wi_LineOf : ∀ s r, loop Bi_LineOf s = some r → Wc X 9 0 (Ki_LineOf s) (Zi_LineOf s) (Ri_LineOf r) ((fun _ => []) r) := Nx.all ni_LineOf
theorem ci_LineOf {a0 : Gi_Hex} {a1 : Gi_Hex} {r : (List (List Gi_Hex)) × Bool} (H : Di_LineOf a0 a1 = some r) : Ct X.P X.gl 9 [.agg [I a0.Q, I a0.R], .agg [I a1.Q, I a1.R]] [] (Ri_LineOf r) [] :=
  Ct.of func9 (c := bdy f9) (by kernel_rfl) (by kernel_rfl) <|
  eBind H fun r1 hr1 H =>
  gS [r0] (by kernel_rfl) P0 <|
  eIf H (fun h2 H =>
    eBind H fun r3 hr3 H =>
    eIf H (fun h4 H =>
      eBind H fun r5 hr5 H =>
      gO [rg [{ i := 1, call := some { cl := true, auto := true, ins := [], res := (RB r1), G' := [] }, dec := some true }, { i := 5, call := some { cl := true, auto := true, ins := [], res := (RB r3), G' := [] }, dec := some true }], rg [hC 2 true [] (Ri_lineOf r5) []], r0, .canon [2] [6, 20, 21, 22]] (by kernel_rfl) (P1 (ci_IsHex hr1) <| P2 (r1 = true) (h2) <| P1 (ci_IsHex hr3) <| P2 (r3 = true) (h4) <| P1 (ci_lineOf hr5) <| P0) (wi_LineOf _ _ H))
    (fun h4 H =>
      eW Ri_LineOf (fun _ => []) H <| gE func9 [rg [{ i := 1, call := some { cl := true, auto := true, ins := [], res := (RB r1), G' := [] }, dec := some true }, { i := 5, call := some { cl := true, auto := true, ins := [], res := (RB r3), G' := [] }, dec := some false }], r0] (by kernel_rfl) (P1 (ci_IsHex hr1) <| P2 (r1 = true) (h2) <| P1 (ci_IsHex hr3) <| P2 (r3 = false) (eqF h4) <| P0)))
  (fun h2 H =>
    eW Ri_LineOf (fun _ => []) H <| gE func9 [rg [{ i := 1, call := some { cl := true, auto := true, ins := [], res := (RB r1), G' := [] }, dec := some false }], r0] (by kernel_rfl) (P1 (ci_IsHex hr1) <| P2 (r1 = false) (eqF h2) <| P0))
/-! loop example/g00886/spec l1In -/
theorem cs_l1In {a0 : Int} {a1 : Int} {a2 : Int} {r : Bool} (H : Ds_l1In a0 a1 a2 = some r) : Ct X.P X.gl 71 [I a0, I a1, I a2] [] (RB r) [] :=
  Ct.of func71 (c := bdy f71) (by kernel_rfl) (by kernel_rfl) <|
  gS [r0] (by kernel_rfl) P0 <|
  eIf H (fun h1 H =>
    eW RB (fun _ => []) H <| gE func71 [rg [hT 2]] (by kernel_rfl) (P2 ((decide (a0 ≥ a1)) = true) (decide_eq_true h1) <| P0))
  (fun h1 H =>
    eW RB (fun _ => []) H <| gE func71 [rg [hF 2]] (by kernel_rfl) (P2 ((decide (a0 ≥ a1)) = false) (decide_eq_false h1) <| P0))
/-! loop example/g00886/spec hGood -/
theorem cs_hGood {a0 : Gi_Hex} {r : Bool} (H : Ds_hGood a0 = some r) : Ct X.P X.gl 60 [.agg [I a0.Q, I a0.R]] [] (RB r) [] :=
  Ct.of func60 (c := bdy f60) (by kernel_rfl) (by kernel_rfl) <|
  eBind H fun r1 hr1 H =>
  gS [r0] (by kernel_rfl) P0 <|
  eIf H (fun h2 H =>
    eBind H fun r3 hr3 H =>
    eW RB (fun _ => []) H <| gE func60 [rg [{ i := 2, call := some { cl := true, auto := true, ins := [], res := (RB r1), G' := [] }, dec := some true }, hC 6 true [] (RB r3) []]] (by kernel_rfl) (P1 (cs_l1In hr1) <| P2 (r1 = true) (h2) <| P1 (cs_l1In hr3) <| P0))
  (fun h2 H =>
    eW RB (fun _ => []) H <| gE func60 [rg [{ i := 2, call := some { cl := true, auto := true, ins := [], res := (RB r1), G' := [] }, dec := some false }]] (by kernel_rfl) (P1 (cs_l1In hr1) <| P2 (r1 = false) (eqF h2) <| P0))
/-! loop example/g00886/spec l1Most -/
theorem cs_l1Most {a0 : Int} {a1 : Int} {r : Int} (H : Ds_l1Most a0 a1 = some r) : Ct X.P X.gl 117 [I a0, I a1] [] (RI r) [] :=
  Ct.of func117 (c := bdy f117) (by kernel_rfl) (by kernel_rfl) <|
  gS [r0] (by kernel_rfl) P0 <|
  eIf H (fun h1 H =>
    eW RI (fun _ => []) H <| gE func117 [rg [hT 2], r0] (by kernel_rfl) (P2 ((decide (a0 > a1)) = true) (decide_eq_true h1) <| P0))
  (fun h1 H =>
    eW RI (fun _ => []) H <| gE func117 [rg [hF 2], r0] (by kernel_rfl) (P2 ((decide (a0 > a1)) = false) (decide_eq_false h1) <| P0))
/-! loop example/g00886/spec l1Abs -/
theorem cs_l1Abs {a0 : Int} {r : Int} (H : Ds_l1Abs a0 = some r) : Ct X.P X.gl 122 [I a0] [] (RI r) [] :=
  Ct.of func122 (c := bdy f122) (by kernel_rfl) (by kernel_rfl) <|
  eBind H fun r1 hr1 H =>
  eW RI (fun _ => []) H <| gE func122 [r0, rg [hC 3 true [] (RI r1) []]] (by kernel_rfl) (P1 (cs_l1Most hr1) <| P0)
/-! loop example/g00886/spec hDistance -/
theorem cs_hDistance {a0 : Gi_Hex} {a1 : Gi_Hex} {r : Int} (H : Ds_hDistance a0 a1 = some r) : Ct X.P X.gl 103 [.agg [I a0.Q, I a0.R], .agg [I a1.Q, I a1.R]] [] (RI r) [] :=
  Ct.of func103 (c := bdy f103) (by kernel_rfl) (by kernel_rfl) <|
  eBind H fun r1 hr1 H =>
  eBind H fun r2 hr2 H =>
  eBind H fun r3 hr3 H =>
  eW RI (fun _ => []) H <| gE func103 [r0, r0, rg [hC 1 true [] (RI r1) [], hC 3 true [] (RI r2) [], hC 8 true [] (RI r3) []]] (by kernel_rfl) (P1 (cs_l1Abs hr1) <| P1 (cs_l1Abs hr2) <| P1 (cs_l1Abs hr3) <| P2 (¬ (2 : Int) = 0) (by decide) <| P0)
/-! loop example/g00886/spec hNear -/
def Rs_hNear (r : (List Int)) : List D := [ow 1 I r]
theorem cs_hNear {a0 : Int} {a1 : Int} {r : (List Int)} (H : Ds_hNear a0 a1 = some r) : Ct X.P X.gl 123 [I a0, I a1] [] (Rs_hNear r) [] :=
  Ct.of func123 (c := bdy f123) (by kernel_rfl) (by kernel_rfl) <|
  eCk H fun h1 H =>
  eCk H fun h2 H =>
  gS [r0, r0] (by kernel_rfl) (P2 (¬ (a1 : Int) = 0) h1 <| P0) <|
  eIf H (fun h3 H =>
    gS [rg [hT 3], r0, r0] (by kernel_rfl) (P2 (¬ (a1 : Int) = 0) h2 <| P2 ((decide ((Int.tmod a0 a1) < 0)) = true) (decide_eq_true h3) <| P0) <|
    eIf H (fun h4 H =>
      eW Rs_hNear (fun _ => []) H <| gE func123 [rg [hT 2], r0] (by kernel_rfl) (P2 ((decide ((IntKind.wrap .i64 (2 * (IntKind.wrap .i64 (a0 - (IntKind.wrap .i64 ((IntKind.wrap .i64 ((IntKind.wrap .i64 (Int.tdiv a0 a1)) - 1)) * a1)))))) < a1)) = true) (decide_eq_true h4) <| P0))
    (fun h4 H =>
      gS [rg [hF 2]] (by kernel_rfl) (P2 ((decide ((IntKind.wrap .i64 (2 * (IntKind.wrap .i64 (a0 - (IntKind.wrap .i64 ((IntKind.wrap .i64 ((IntKind.wrap .i64 (Int.tdiv a0 a1)) - 1)) * a1)))))) < a1)) = false) (decide_eq_false h4) <| P0) <|
      eIf H (fun h5 H =>
        eW Rs_hNear (fun _ => []) H <| gE func123 [rg [hT 2], r0] (by kernel_rfl) (P2 ((decide ((IntKind.wrap .i64 (2 * (IntKind.wrap .i64 (a0 - (IntKind.wrap .i64 ((IntKind.wrap .i64 ((IntKind.wrap .i64 (Int.tdiv a0 a1)) - 1)) * a1)))))) > a1)) = true) (decide_eq_true h5) <| P0))
      (fun h5 H =>
        eW Rs_hNear (fun _ => []) H <| gE func123 [rg [hF 2], r0] (by kernel_rfl) (P2 ((decide ((IntKind.wrap .i64 (2 * (IntKind.wrap .i64 (a0 - (IntKind.wrap .i64 ((IntKind.wrap .i64 ((IntKind.wrap .i64 (Int.tdiv a0 a1)) - 1)) * a1)))))) > a1)) = false) (decide_eq_false h5) <| P0))))
  (fun h3 H =>
    gS [rg [hF 3], r0] (by kernel_rfl) (P2 (¬ (a1 : Int) = 0) h2 <| P2 ((decide ((Int.tmod a0 a1) < 0)) = false) (decide_eq_false h3) <| P0) <|
    eIf H (fun h4 H =>
      eW Rs_hNear (fun _ => []) H <| gE func123 [rg [hT 2], r0] (by kernel_rfl) (P2 ((decide ((IntKind.wrap .i64 (2 * (IntKind.wrap .i64 (a0 - (IntKind.wrap .i64 ((IntKind.wrap .i64 (Int.tdiv a0 a1)) * a1)))))) < a1)) = true) (decide_eq_true h4) <| P0))
    (fun h4 H =>
      gS [rg [hF 2]] (by kernel_rfl) (P2 ((decide ((IntKind.wrap .i64 (2 * (IntKind.wrap .i64 (a0 - (IntKind.wrap .i64 ((IntKind.wrap .i64 (Int.tdiv a0 a1)) * a1)))))) < a1)) = false) (decide_eq_false h4) <| P0) <|
      eIf H (fun h5 H =>
        eW Rs_hNear (fun _ => []) H <| gE func123 [rg [hT 2], r0] (by kernel_rfl) (P2 ((decide ((IntKind.wrap .i64 (2 * (IntKind.wrap .i64 (a0 - (IntKind.wrap .i64 ((IntKind.wrap .i64 (Int.tdiv a0 a1)) * a1)))))) > a1)) = true) (decide_eq_true h5) <| P0))
      (fun h5 H =>
        eW Rs_hNear (fun _ => []) H <| gE func123 [rg [hF 2], r0] (by kernel_rfl) (P2 ((decide ((IntKind.wrap .i64 (2 * (IntKind.wrap .i64 (a0 - (IntKind.wrap .i64 ((IntKind.wrap .i64 (Int.tdiv a0 a1)) * a1)))))) > a1)) = false) (decide_eq_false h5) <| P0))))
/-! loop example/g00886/spec hCells -/
def Rs_hCells (r : (List Gi_Hex)) : List D := [ow 2 gi_Hex r]
noncomputable def Ks_hCells : Ss_hCells → List Item
  | .h1 .. => nav 300 5 [true] [.code (bdy f104)]
  | .h2 .. => nav 300 5 [false] [.code (bdy f104)]
def Zs_hCells : Ss_hCells → St
  | .h1 t0 t1 t2 t3 l4 l5 => ⟨sts 96 [(3, I t0), (9, I t1), (11, .ref 0 2 none), (46, .ref 1 1 none), (47, I t2), (48, I t3)], [some ⟨false, false, 2, l4.length, List.map gi_Hex l4⟩, some ⟨false, false, 1, l5.length, List.map I l5⟩]⟩
  | .h2 t0 t1 t2 t3 t4 l5 l6 => ⟨sts 96 [(3, I t0), (9, I t1), (10, I t2), (11, .ref 0 2 none), (64, .ref 1 1 none), (65, I t3), (66, I t4)], [some ⟨false, false, 2, l5.length, List.map gi_Hex l5⟩, some ⟨false, false, 1, l6.length, List.map I l6⟩]⟩
abbrev Qs_hCells := Nx X 104 0 Ks_hCells Zs_hCells Rs_hCells (fun _ => [])
theorem ns_hCells : ∀ s o, Bs_hCells s = some o → Qs_hCells (Ks_hCells s) (Zs_hCells s) o
  | .h1 t0 t1 t2 t3 l4 l5, o, H =>
    eIf H (fun h1 H =>
      eCk H fun h2 H =>
      eBind H fun x3 hx3 H =>
      eCk H fun h4 H =>
      eCk H fun h5 H =>
      eN H fun r hn => gO [rg [hT 0], rg [hE 1 (I x3)], rg [hA 7 ((l4 ++ [(Gi_Hex.mk (IntKind.wrap .i64 (Int.tdiv t1 t0)) x3)]).length) (List.map gi_Hex (l4 ++ [(Gi_Hex.mk (IntKind.wrap .i64 (Int.tdiv t1 t0)) x3)]))], r0, .canon [3, 1] [3, 9, 11, 46, 47, 48]] (by kernel_rfl) (P2 ((decide (t3 < t2)) = true) (decide_eq_true h1) <| P1 h2 <| P1 (int_lt_of_at h2 hx3) <| P1 (at_map I hx3) <| P2 (¬ (t0 : Int) = 0) h4 <| P1 (apL l4 [(Gi_Hex.mk (IntKind.wrap .i64 (Int.tdiv t1 t0)) x3)]) <| P1 (apB h5) <| P1 (apM gi_Hex l4 [(Gi_Hex.mk (IntKind.wrap .i64 (Int.tdiv t1 t0)) x3)]) <| P0) hn)
    (fun h1 H =>
      eN H <| gE func104 [rg [hF 0], r0] (by kernel_rfl) (P2 ((decide (t3 < t2)) = false) (decide_eq_false h1) <| P0))
  | .h2 t0 t1 t2 t3 t4 l5 l6, o, H =>
    eIf H (fun h1 H =>
      eCk H fun h2 H =>
      eBind H fun x3 hx3 H =>
      eCk H fun h4 H =>
      gN [rg [hT 0], rg [hE 1 (I x3)]] (by kernel_rfl) (P2 ((decide (t4 < t3)) = true) (decide_eq_true h1) <| P1 h2 <| P1 (int_lt_of_at h2 hx3) <| P1 (at_map I hx3) <| P0) <|
      eIf H (fun h5 H =>
        eCk H fun h6 H =>
        eCk H fun h7 H =>
        eN H fun r hn => gO [rg [hT 3], rg [hA 7 ((l5 ++ [(Gi_Hex.mk x3 (IntKind.wrap .i64 (Int.tdiv t2 t0)))]).length) (List.map gi_Hex (l5 ++ [(Gi_Hex.mk x3 (IntKind.wrap .i64 (Int.tdiv t2 t0)))]))], r0, .canon [3, 1] [3, 9, 10, 11, 64, 65, 66]] (by kernel_rfl) (P2 (¬ (t0 : Int) = 0) h4 <| P2 ((((Int.tmod t2 t0) : Int) == 0) = true) (beqT h5) <| P2 (¬ (t0 : Int) = 0) h6 <| P1 (apL l5 [(Gi_Hex.mk x3 (IntKind.wrap .i64 (Int.tdiv t2 t0)))]) <| P1 (apB h7) <| P1 (apM gi_Hex l5 [(Gi_Hex.mk x3 (IntKind.wrap .i64 (Int.tdiv t2 t0)))]) <| P0) hn)
      (fun h5 H =>
        eCk H fun h6 H =>
        eCk H fun h7 H =>
        eN H fun r hn => gO [rg [hF 3], rg [hA 11 ((l5 ++ [(Gi_Hex.mk x3 (IntKind.wrap .i64 ((IntKind.wrap .i64 (Int.tdiv (IntKind.wrap .i64 (t1 + t2)) t0)) - x3)))]).length) (List.map gi_Hex (l5 ++ [(Gi_Hex.mk x3 (IntKind.wrap .i64 ((IntKind.wrap .i64 (Int.tdiv (IntKind.wrap .i64 (t1 + t2)) t0)) - x3)))]))], r0, .canon [3, 1] [3, 9, 10, 11, 64, 65, 66]] (by kernel_rfl) (P2 (¬ (t0 : Int) = 0) h4 <| P2 ((((Int.tmod t2 t0) : Int) == 0) = false) (beqF h5) <| P2 (¬ (t0 : Int) = 0) h6 <| P1 (apL l5 [(Gi_Hex.mk x3 (IntKind.wrap .i64 ((IntKind.wrap .i64 (Int.tdiv (IntKind.wrap .i64 (t1 + t2)) t0)) - x3)))]) <| P1 (apB h7) <| P1 (apM gi_Hex l5 [(Gi_Hex.mk x3 (IntKind.wrap .i64 ((IntKind.wrap .i64 (Int.tdiv (IntKind.wrap .i64 (t1 + t2)) t0)) - x3)))]) <| P0) hn))
    (fun h1 H =>
      eN H <| gE func104 [rg [hF 0], r0] (by kernel_rfl) (P2 ((decide (t4 < t3)) = false) (decide_eq_false h1) <| P0))
theorem ws_hCells : ∀ s r, loop Bs_hCells s = some r → Wc X 104 0 (Ks_hCells s) (Zs_hCells s) (Rs_hCells r) ((fun _ => []) r) := Nx.all ns_hCells
theorem cs_hCells {a0 : Gi_Hex} {a1 : Gi_Hex} {a2 : Int} {a3 : Int} {r : (List Gi_Hex)} (H : Ds_hCells a0 a1 a2 a3 = some r) : Ct X.P X.gl 104 [.agg [I a0.Q, I a0.R], .agg [I a1.Q, I a1.R], I a2, I a3] [] (Rs_hCells r) [] :=
  Ct.of func104 (c := bdy f104) (by kernel_rfl) (by kernel_rfl) <|
  eCk H fun h1 H =>
  gS [r0, r0, r0] (by kernel_rfl) P0 <|
  eIf H (fun h2 H =>
    eBind H fun r3 hr3 H =>
    gO [rg [hT 3], rg [hC 2 true [] (Rs_hNear r3) []], .own 11 2, .canon [3, 2] [3, 9, 11, 46, 47, 48]] (by kernel_rfl) (P2 (¬ (a3 : Int) = 0) h1 <| P2 ((((Int.tmod (IntKind.wrap .i64 ((IntKind.wrap .i64 (a0.Q * a3)) + (IntKind.wrap .i64 ((IntKind.wrap .i64 (a1.Q - a0.Q)) * a2)))) a3) : Int) == 0) = true) (beqT h2) <| P1 (cs_hNear hr3) <| P0) (ws_hCells _ _ H))
  (fun h2 H =>
    eBind H fun r3 hr3 H =>
    gO [rg [hF 3], rg [hC 2 true [] (Rs_hNear r3) []], .own 11 2, .canon [3, 2] [3, 9, 10, 11, 64, 65, 66]] (by kernel_rfl) (P2 (¬ (a3 : Int) = 0) h1 <| P2 ((((Int.tmod (IntKind.wrap .i64 ((IntKind.wrap .i64 (a0.Q * a3)) + (IntKind.wrap .i64 ((IntKind.wrap .i64 (a1.Q - a0.Q)) * a2)))) a3) : Int) == 0) = false) (beqF h2) <| P1 (cs_hNear hr3) <| P0) (ws_hCells _ _ H))
/-! loop example/g00886/spec hLine -/
def Rs_hLine (r : (List (List Gi_Hex))) : List D := [ow 1 (sl 2 gi_Hex) r]
noncomputable def Ks_hLine : Ss_hLine → List Item
  | .h1 .. => nav 300 5 [false] [.code (bdy f61)]
def Zs_hLine : Ss_hLine → St
  | .h1 n0 i1 b2 b3 l4 => ⟨sts 30 [(2, .ptr 0 2 0 0), (3, .ptr 1 2 0 0), (5, I n0), (6, .ref 2 1 none), (7, I i1)], [some ⟨false, true, 2, 1, [.agg [I b2.Q, I b2.R]]⟩, some ⟨false, true, 2, 1, [.agg [I b3.Q, I b3.R]]⟩, some ⟨false, false, 1, l4.length, List.map (sl 2 gi_Hex) l4⟩]⟩
abbrev Qs_hLine := Nx X 61 0 Ks_hLine Zs_hLine Rs_hLine (fun _ => [])
theorem ns_hLine : ∀ s o, Bs_hLine s = some o → Qs_hLine (Ks_hLine s) (Zs_hLine s) o
  | .h1 n0 i1 b2 b3 l4, o, H =>
    eIf H (fun h1 H =>
      eBind H fun r2 hr2 H =>
      eCk H fun h3 H =>
      eN H fun r hn => gO [rg [hT 2], rg [hC 5 true [] (Rs_hCells r2) [], { i := 6, frz := [3] }, hA 7 ((l4 ++ [r2]).length) (List.map (sl 2 gi_Hex) (l4 ++ [r2]))], r0, .canon [0, 1, 5] [2, 3, 5, 6, 7]] (by kernel_rfl) (P2 ((decide (i1 ≤ n0)) = true) (decide_eq_true h1) <| P1 (cs_hCells hr2) <| P1 (apL l4 [r2]) <| P1 (apB h3) <| P1 (apM (sl 2 gi_Hex) l4 [r2]) <| P0) hn)
    (fun h1 H =>
      eN H <| gE func61 [rg [hF 2], r0] (by kernel_rfl) (P2 ((decide (i1 ≤ n0)) = false) (decide_eq_false h1) <| P0))
theorem ws_hLine : ∀ s r, loop Bs_hLine s = some r → Wc X 61 0 (Ks_hLine s) (Zs_hLine s) (Rs_hLine r) ((fun _ => []) r) := Nx.all ns_hLine
theorem cs_hLine {a0 : Gi_Hex} {a1 : Gi_Hex} {r : (List (List Gi_Hex))} (H : Ds_hLine a0 a1 = some r) : Ct X.P X.gl 61 [.agg [I a0.Q, I a0.R], .agg [I a1.Q, I a1.R]] [] (Rs_hLine r) [] :=
  Ct.of func61 (c := bdy f61) (by kernel_rfl) (by kernel_rfl) <|
  eBind H fun r1 hr1 H =>
  gS [r0, rg [hC 2 true [] (RI r1) []]] (by kernel_rfl) (P1 (cs_hDistance hr1) <| P0) <|
  eIf H (fun h2 H =>
    eW Rs_hLine (fun _ => []) H <| gE func61 [rg [hT 1], rg [{ i := 2, frz := [2] }]] (by kernel_rfl) (P2 (((r1 : Int) == 0) = true) (beqT h2) <| P0))
  (fun h2 H =>
    gO [rg [hF 1], r0, r0, .own 6 1, .canon [0, 1, 2] [2, 3, 5, 6, 7]] (by kernel_rfl) (P2 (((r1 : Int) == 0) = false) (beqF h2) <| P0) (ws_hLine _ _ H))
/-! loop example/g00886/spec LineOf -/
def Rs_LineOf (r : (List (List Gi_Hex)) × Bool) : List D := [ow 1 (sl 2 gi_Hex) r.1, .bool r.2]
theorem cs_LineOf {a0 : Gi_Hex} {a1 : Gi_Hex} {r : (List (List Gi_Hex)) × Bool} (H : Ds_LineOf a0 a1 = some r) : Ct X.P X.gl 10 [.agg [I a0.Q, I a0.R], .agg [I a1.Q, I a1.R]] [] (Rs_LineOf r) [] :=
  Ct.of func10 (c := bdy f10) (by kernel_rfl) (by kernel_rfl) <|
  eBind H fun r1 hr1 H =>
  gS [r0] (by kernel_rfl) P0 <|
  eIf H (fun h2 H =>
    eBind H fun r3 hr3 H =>
    eIf H (fun h4 H =>
      eBind H fun r5 hr5 H =>
      eW Rs_LineOf (fun _ => []) H <| gE func10 [rg [{ i := 1, call := some { cl := true, auto := true, ins := [], res := (RB r1), G' := [] }, dec := some true }, { i := 5, call := some { cl := true, auto := true, ins := [], res := (RB r3), G' := [] }, dec := some true }], rg [hC 2 true [] (Rs_hLine r5) []]] (by kernel_rfl) (P1 (cs_hGood hr1) <| P2 (r1 = true) (h2) <| P1 (cs_hGood hr3) <| P2 (r3 = true) (h4) <| P1 (cs_hLine hr5) <| P0))
    (fun h4 H =>
      eW Rs_LineOf (fun _ => []) H <| gE func10 [rg [{ i := 1, call := some { cl := true, auto := true, ins := [], res := (RB r1), G' := [] }, dec := some true }, { i := 5, call := some { cl := true, auto := true, ins := [], res := (RB r3), G' := [] }, dec := some false }], r0] (by kernel_rfl) (P1 (cs_hGood hr1) <| P2 (r1 = true) (h2) <| P1 (cs_hGood hr3) <| P2 (r3 = false) (eqF h4) <| P0)))
  (fun h2 H =>
    eW Rs_LineOf (fun _ => []) H <| gE func10 [rg [{ i := 1, call := some { cl := true, auto := true, ins := [], res := (RB r1), G' := [] }, dec := some false }], r0] (by kernel_rfl) (P1 (cs_hGood hr1) <| P2 (r1 = false) (eqF h2) <| P0))
/-! loop example/g00886/laws pSameHexes -/
noncomputable def Kw_pSameHexes : Sw_pSameHexes → List Item
  | .h1 .. => nav 300 3 [false] [.code (bdy f12)]
def Zw_pSameHexes : Sw_pSameHexes → St
  | .h1 va0 b1 t2 t3 => ⟨sts 26 [(0, sl 2 gi_Hex va0), (1, sl 2 gi_Hex b1), (12, I t2), (13, I t3)], []⟩
abbrev Qw_pSameHexes := Nx X 12 0 Kw_pSameHexes Zw_pSameHexes RB (fun _ => [])
theorem nw_pSameHexes : ∀ s o, Bw_pSameHexes s = some o → Qw_pSameHexes (Kw_pSameHexes s) (Zw_pSameHexes s) o
  | .h1 va0 b1 t2 t3, o, H =>
    eIf H (fun h1 H =>
      eCk H fun h2 H =>
      eBind H fun x3 hx3 H =>
      eCk H fun h4 H =>
      eBind H fun x5 hx5 H =>
      gN [rg [hT 0], r0] (by kernel_rfl) (P2 ((decide (t3 < t2)) = true) (decide_eq_true h1) <| P0) <|
      eIf H (fun h6 H =>
        eN H <| gE func12 [rg [hE 3 (gi_Hex x3), hE 7 (gi_Hex x5), hT 8], r0] (by kernel_rfl) (P1 h2 <| P1 (int_lt_of_at h2 hx3) <| P1 (at_map gi_Hex hx3) <| P1 h4 <| P1 (int_lt_of_at h4 hx5) <| P1 (at_map gi_Hex hx5) <| P2 ((!((x3.Q == x5.Q) && (x3.R == x5.R))) = true) (h6) <| P0))
      (fun h6 H =>
        eN H fun r hn => gO [rg [hE 3 (gi_Hex x3), hE 7 (gi_Hex x5), hF 8], r0, .canon [] [0, 1, 12, 13]] (by kernel_rfl) (P1 h2 <| P1 (int_lt_of_at h2 hx3) <| P1 (at_map gi_Hex hx3) <| P1 h4 <| P1 (int_lt_of_at h4 hx5) <| P1 (at_map gi_Hex hx5) <| P2 ((!((x3.Q == x5.Q) && (x3.R == x5.R))) = false) (eqF h6) <| P0) hn))
    (fun h1 H =>
      eN H <| gE func12 [rg [hF 0], r0] (by kernel_rfl) (P2 ((decide (t3 < t2)) = false) (decide_eq_false h1) <| P0))
theorem ww_pSameHexes : ∀ s r, loop Bw_pSameHexes s = some r → Wc X 12 0 (Kw_pSameHexes s) (Zw_pSameHexes s) (RB r) ((fun _ => []) r) := Nx.all nw_pSameHexes
theorem cw_pSameHexes {a0 : (List Gi_Hex)} {a1 : (List Gi_Hex)} {r : Bool} (H : Dw_pSameHexes a0 a1 = some r) : Ct X.P X.gl 12 [sl 2 gi_Hex a0, sl 2 gi_Hex a1] [] (RB r) [] :=
  Ct.of func12 (c := bdy f12) (by kernel_rfl) (by kernel_rfl) <|
  gS [r0] (by kernel_rfl) P0 <|
  eIf H (fun h1 H =>
    gO [rg [hF 4], r0, .canon [] [0, 1, 12, 13]] (by kernel_rfl) (P2 (((((a0.length : Nat) : Int) : Int) != ((a1.length : Nat) : Int)) = false) (bneF h1) <| P0) (ww_pSameHexes _ _ H))
  (fun h1 H =>
    eW RB (fun _ => []) H <| gE func12 [rg [hT 4], r0] (by kernel_rfl) (P2 (((((a0.length : Nat) : Int) : Int) != ((a1.length : Nat) : Int)) = true) (bneT h1) <| P0))
/-! loop example/g00886/laws pSameLines -/
noncomputable def Kw_pSameLines : Sw_pSameLines → List Item
  | .h1 .. => nav 300 3 [false] [.code (bdy f11)]
def Zw_pSameLines : Sw_pSameLines → St
  | .h1 va0 b1 t2 t3 => ⟨sts 27 [(0, sl 1 (sl 2 gi_Hex) va0), (1, sl 1 (sl 2 gi_Hex) b1), (12, I t2), (13, I t3)], []⟩
abbrev Qw_pSameLines := Nx X 11 0 Kw_pSameLines Zw_pSameLines RB (fun _ => [])
theorem nw_pSameLines : ∀ s o, Bw_pSameLines s = some o → Qw_pSameLines (Kw_pSameLines s) (Zw_pSameLines s) o
  | .h1 va0 b1 t2 t3, o, H =>
    eIf H (fun h1 H =>
      eCk H fun h2 H =>
      eBind H fun x3 hx3 H =>
      eCk H fun h4 H =>
      eBind H fun x5 hx5 H =>
      eBind H fun r6 hr6 H =>
      gN [rg [hT 0], r0] (by kernel_rfl) (P2 ((decide (t3 < t2)) = true) (decide_eq_true h1) <| P0) <|
      eIf H (fun h7 H =>
        eN H fun r hn => gO [rg [hE 3 ((sl 2 gi_Hex) x3), hE 7 ((sl 2 gi_Hex) x5), { i := 8, call := some { cl := true, auto := true, ins := [], res := (RB r6), G' := [] }, dec := some true }], r0, .canon [] [0, 1, 12, 13]] (by kernel_rfl) (P1 h2 <| P1 (int_lt_of_at h2 hx3) <| P1 (at_map (sl 2 gi_Hex) hx3) <| P1 h4 <| P1 (int_lt_of_at h4 hx5) <| P1 (at_map (sl 2 gi_Hex) hx5) <| P1 (cw_pSameHexes hr6) <| P2 (r6 = true) (h7) <| P0) hn)
      (fun h7 H =>
        eN H <| gE func11 [rg [hE 3 ((sl 2 gi_Hex) x3), hE 7 ((sl 2 gi_Hex) x5), { i := 8, call := some { cl := true, auto := true, ins := [], res := (RB r6), G' := [] }, dec := some false }], r0] (by kernel_rfl) (P1 h2 <| P1 (int_lt_of_at h2 hx3) <| P1 (at_map (sl 2 gi_Hex) hx3) <| P1 h4 <| P1 (int_lt_of_at h4 hx5) <| P1 (at_map (sl 2 gi_Hex) hx5) <| P1 (cw_pSameHexes hr6) <| P2 (r6 = false) (eqF h7) <| P0)))
    (fun h1 H =>
      eN H <| gE func11 [rg [hF 0], r0] (by kernel_rfl) (P2 ((decide (t3 < t2)) = false) (decide_eq_false h1) <| P0))
theorem ww_pSameLines : ∀ s r, loop Bw_pSameLines s = some r → Wc X 11 0 (Kw_pSameLines s) (Zw_pSameLines s) (RB r) ((fun _ => []) r) := Nx.all nw_pSameLines
theorem cw_pSameLines {a0 : (List (List Gi_Hex))} {a1 : (List (List Gi_Hex))} {r : Bool} (H : Dw_pSameLines a0 a1 = some r) : Ct X.P X.gl 11 [sl 1 (sl 2 gi_Hex) a0, sl 1 (sl 2 gi_Hex) a1] [] (RB r) [] :=
  Ct.of func11 (c := bdy f11) (by kernel_rfl) (by kernel_rfl) <|
  gS [r0] (by kernel_rfl) P0 <|
  eIf H (fun h1 H =>
    gO [rg [hF 4], r0, .canon [] [0, 1, 12, 13]] (by kernel_rfl) (P2 (((((a0.length : Nat) : Int) : Int) != ((a1.length : Nat) : Int)) = false) (bneF h1) <| P0) (ww_pSameLines _ _ H))
  (fun h1 H =>
    eW RB (fun _ => []) H <| gE func11 [rg [hT 4], r0] (by kernel_rfl) (P2 (((((a0.length : Nat) : Int) : Int) != ((a1.length : Nat) : Int)) = true) (bneT h1) <| P0))
/-! loop example/g00886/impl DistanceOf -/
def Ri_DistanceOf (r : Int × Bool) : List D := [I r.1, .bool r.2]
theorem ci_DistanceOf {a0 : Gi_Hex} {a1 : Gi_Hex} {r : Int × Bool} (H : Di_DistanceOf a0 a1 = some r) : Ct X.P X.gl 13 [.agg [I a0.Q, I a0.R], .agg [I a1.Q, I a1.R]] [] (Ri_DistanceOf r) [] :=
  Ct.of func13 (c := bdy f13) (by kernel_rfl) (by kernel_rfl) <|
  eBind H fun r1 hr1 H =>
  gS [r0] (by kernel_rfl) P0 <|
  eIf H (fun h2 H =>
    eBind H fun r3 hr3 H =>
    eIf H (fun h4 H =>
      eBind H fun r5 hr5 H =>
      eW Ri_DistanceOf (fun _ => []) H <| gE func13 [rg [{ i := 1, call := some { cl := true, auto := true, ins := [], res := (RB r1), G' := [] }, dec := some true }, { i := 5, call := some { cl := true, auto := true, ins := [], res := (RB r3), G' := [] }, dec := some true }], rg [hC 2 true [] (RI r5) []]] (by kernel_rfl) (P1 (ci_IsHex hr1) <| P2 (r1 = true) (h2) <| P1 (ci_IsHex hr3) <| P2 (r3 = true) (h4) <| P1 (ci_distance hr5) <| P0))
    (fun h4 H =>
      eW Ri_DistanceOf (fun _ => []) H <| gE func13 [rg [{ i := 1, call := some { cl := true, auto := true, ins := [], res := (RB r1), G' := [] }, dec := some true }, { i := 5, call := some { cl := true, auto := true, ins := [], res := (RB r3), G' := [] }, dec := some false }], r0] (by kernel_rfl) (P1 (ci_IsHex hr1) <| P2 (r1 = true) (h2) <| P1 (ci_IsHex hr3) <| P2 (r3 = false) (eqF h4) <| P0)))
  (fun h2 H =>
    eW Ri_DistanceOf (fun _ => []) H <| gE func13 [rg [{ i := 1, call := some { cl := true, auto := true, ins := [], res := (RB r1), G' := [] }, dec := some false }], r0] (by kernel_rfl) (P1 (ci_IsHex hr1) <| P2 (r1 = false) (eqF h2) <| P0))
/-! loop example/g00886/laws FnLines -/
noncomputable def Kw_FnLines : Sw_FnLines → List Item
  | .h1 .. => nav 300 10 [false, false, false, false] [.code (bdy f3)]
  | .h2 .. => nav 300 14 [false, false, false, false, true, false] [.code (bdy f3)]
def Zw_FnLines : Sw_FnLines → St
  | .h1 t0 t1 b2 b3 l4 l5 => ⟨sts 125 [(5, .ptr 0 2 0 0), (6, .ptr 1 2 0 0), (9, .ref 2 1 none), (11, .ref 3 1 none), (67, .ref 2 1 none), (68, I t0), (69, I t1)], [some ⟨false, true, 2, 1, [.agg [I b2.Q, I b2.R]]⟩, some ⟨false, true, 2, 1, [.agg [I b3.Q, I b3.R]]⟩, some ⟨false, false, 1, l4.length, List.map (sl 2 gi_Hex) l4⟩, some ⟨false, false, 1, l5.length, List.map (sl 2 gi_Hex) l5⟩]⟩
  | .h2 t0 t1 t2 t3 t4 t5 b6 b7 l8 l9 => ⟨sts 125 [(5, .ptr 0 2 0 0), (6, .ptr 1 2 0 0), (9, .ref 2 1 none), (11, .ref 3 1 none), (13, I t0), (67, .ref 2 1 none), (68, I t1), (69, I t2), (85, sl 2 gi_Hex t3), (86, I t4), (87, I t5)], [some ⟨false, true, 2, 1, [.agg [I b6.Q, I b6.R]]⟩, some ⟨false, true, 2, 1, [.agg [I b7.Q, I b7.R]]⟩, some ⟨false, false, 1, l8.length, List.map (sl 2 gi_Hex) l8⟩, some ⟨false, false, 1, l9.length, List.map (sl 2 gi_Hex) l9⟩]⟩
abbrev Qw_FnLines := Nx X 3 0 Kw_FnLines Zw_FnLines RB (fun _ => [])
theorem nw_FnLines : ∀ s o, Bw_FnLines s = some o → Qw_FnLines (Kw_FnLines s) (Zw_FnLines s) o
  | .h1 t0 t1 b2 b3 l4 l5, o, H =>
    eIf H (fun h1 H =>
      eCk H fun h2 H =>
      eBind H fun x3 hx3 H =>
      eCk H fun h4 H =>
      eBind H fun x5 hx5 H =>
      eBind H fun r6 hr6 H =>
      gN [rg [hT 0], rg [hE 2 ((sl 2 gi_Hex) x3)]] (by kernel_rfl) (P2 ((decide (t1 < t0)) = true) (decide_eq_true h1) <| P1 h2 <| P1 (int_lt_of_at h2 hx3) <| P1 (at_map (sl 2 gi_Hex) hx3) <| P0) <|
      eIf H (fun h7 H =>
        eN H fun r hn => gO [rg [hE 7 ((sl 2 gi_Hex) x5), { i := 9, call := some { cl := true, auto := true, ins := [], res := (RB r6), G' := [] }, dec := some true }], r0, .canon [0, 1, 2, 3] [5, 6, 9, 11, 13, 67, 68, 69, 85, 86, 87]] (by kernel_rfl) (P1 h4 <| P1 (int_lt_of_at h4 hx5) <| P1 (at_map (sl 2 gi_Hex) hx5) <| P1 (cw_pSameHexes hr6) <| P2 (r6 = true) (h7) <| P0) hn)
      (fun h7 H =>
        eN H <| gE func3 [rg [hE 7 ((sl 2 gi_Hex) x5), { i := 9, call := some { cl := true, auto := true, ins := [], res := (RB r6), G' := [] }, dec := some false }], r0] (by kernel_rfl) (P1 h4 <| P1 (int_lt_of_at h4 hx5) <| P1 (at_map (sl 2 gi_Hex) hx5) <| P1 (cw_pSameHexes hr6) <| P2 (r6 = false) (eqF h7) <| P0)))
    (fun h1 H =>
      eN H <| gE func3 [rg [hF 0], r0] (by kernel_rfl) (P2 ((decide (t1 < t0)) = false) (decide_eq_false h1) <| P0))
  | .h2 t0 t1 t2 t3 t4 t5 b6 b7 l8 l9, o, H =>
    eIf H (fun h1 H =>
      eCk H fun h2 H =>
      eBind H fun x3 hx3 H =>
      eBind H fun r4 hr4 H =>
      gN [rg [hT 0], rg [hE 1 (gi_Hex x3)]] (by kernel_rfl) (P2 ((decide (t5 < t4)) = true) (decide_eq_true h1) <| P1 h2 <| P1 (int_lt_of_at h2 hx3) <| P1 (at_map gi_Hex hx3) <| P0) <|
      eIf H (fun h5 H =>
        eBind H fun r6 hr6 H =>
        gN [rg [hC 2 true [] (Ri_DistanceOf r4) [], hT 5]] (by kernel_rfl) (P1 (ci_DistanceOf hr4) <| P2 (r4.2 = true) (h5) <| P0) <|
        eIf H (fun h7 H =>
          gN [rg [hC 2 true [] (Ri_DistanceOf r6) [], hT 5]] (by kernel_rfl) (P1 (ci_DistanceOf hr6) <| P2 (r6.2 = true) (h7) <| P0) <|
          eIf H (fun h8 H =>
            eIf H (fun h9 H =>
              eN H fun r hn => gO [rg [hF 13, hF 18], r0, .canon [0, 1, 2, 3] [5, 6, 9, 11, 13, 67, 68, 69, 85, 86, 87]] (by kernel_rfl) (P2 ((((IntKind.wrap .i64 (r4.1 + r6.1)) : Int) != (IntKind.wrap .i64 (((l8.length : Nat) : Int) - 1))) = false) (bneF h8) <| P2 (((r4.1 : Int) != t0) = false) (bneF h9) <| P0) hn)
            (fun h9 H =>
              eN H <| gE func3 [rg [hF 13, hT 18], r0] (by kernel_rfl) (P2 ((((IntKind.wrap .i64 (r4.1 + r6.1)) : Int) != (IntKind.wrap .i64 (((l8.length : Nat) : Int) - 1))) = false) (bneF h8) <| P2 (((r4.1 : Int) != t0) = true) (bneT h9) <| P0)))
          (fun h8 H =>
            eN H <| gE func3 [rg [hT 13], r0] (by kernel_rfl) (P2 ((((IntKind.wrap .i64 (r4.1 + r6.1)) : Int) != (IntKind.wrap .i64 (((l8.length : Nat) : Int) - 1))) = true) (bneT h8) <| P0)))
        (fun h7 H =>
          eN H <| gE func3 [rg [hC 2 true [] (Ri_DistanceOf r6) [], hF 5], r0, r0] (by kernel_rfl) (P1 (ci_DistanceOf hr6) <| P2 (r6.2 = false) (eqF h7) <| P0)))
      (fun h5 H =>
        eBind H fun r6 hr6 H =>
        eN H <| gE func3 [rg [hC 2 true [] (Ri_DistanceOf r4) [], hF 5], rg [hC 2 true [] (Ri_DistanceOf r6) []], r0, r0] (by kernel_rfl) (P1 (ci_DistanceOf hr4) <| P2 (r4.2 = false) (eqF h5) <| P1 (ci_DistanceOf hr6) <| P0)))
    (fun h1 H =>
      eN H fun r hn => gO [rg [hF 0], r0, .canon [0, 1, 2, 3] [5, 6, 9, 11, 67, 68, 69]] (by kernel_rfl) (P2 ((decide (t5 < t4)) = false) (decide_eq_false h1) <| P0) hn)
theorem ww_FnLines : ∀ s r, loop Bw_FnLines s = some r → Wc X 3 0 (Kw_FnLines s) (Zw_FnLines s) (RB r) ((fun _ => []) r) := Nx.all nw_FnLines
theorem cw_FnLines {a0 : (List Int)} {a1 : (List Int)} {r : Bool} (H : Dw_FnLines a0 a1 = some r) : Ct X.P X.gl 3 [sl 1 (D.int .u8) a0, sl 1 (D.int .u8) a1] [] (RB r) [] :=
  Ct.of func3 (c := bdy f3) (by kernel_rfl) (by kernel_rfl) <|
  eBind H fun r1 hr1 H =>
  gS [r0] (by kernel_rfl) P0 <|
  eIf H (fun h2 H =>
    eW RB (fun _ => []) H <| gE func3 [rg [{ i := 2, call := some { cl := true, auto := true, ins := [], res := (RB r1), G' := [] }, dec := some true }], r0] (by kernel_rfl) (P1 (cw_big hr1) <| P2 (r1 = true) (h2) <| P0))
  (fun h2 H =>
    eBind H fun r3 hr3 H =>
    eBind H fun r4 hr4 H =>
    gS [rg [{ i := 2, call := some { cl := true, auto := true, ins := [], res := (RB r1), G' := [] }, dec := some false }], rg [hC 1 true [] (Rs_DrawLineOf r3) []]] (by kernel_rfl) (P1 (cw_big hr1) <| P2 (r1 = false) (eqF h2) <| P1 (cs_DrawLineOf hr3) <| P0) <|
    eIf H (fun h5 H =>
      eBind H fun r6 hr6 H =>
      gS [rg [hC 2 true [] (Ri_LineOf r4) [], hT 5], rg [hC 2 true [] (Rs_LineOf r6) []]] (by kernel_rfl) (P1 (ci_LineOf hr4) <| P2 (r4.2 = true) (h5) <| P1 (cs_LineOf hr6) <| P0) <|
      eIf H (fun h7 H =>
        eW RB (fun _ => []) H <| gE func3 [rg [hT 2], r0] (by kernel_rfl) (P2 ((!(true == r6.2)) = true) (h7) <| P0))
      (fun h7 H =>
        eBind H fun r8 hr8 H =>
        eIf H (fun h9 H =>
          eBind H fun r10 hr10 H =>
          gS [rg [hF 2, { i := 6, call := some { cl := false, auto := true, ins := [], res := (RB r8), G' := [] }, dec := some true }], r0] (by kernel_rfl) (P2 ((!(true == r6.2)) = false) (eqF h7) <| P1 (cw_pSameLines hr8) <| P2 (r8 = true) (h9) <| P0) <|
          eIf H (fun h11 H =>
            gS [rg [hC 2 true [] (Ri_LineOf r10) [], hT 5]] (by kernel_rfl) (P1 (ci_LineOf hr10) <| P2 (r10.2 = true) (h11) <| P0) <|
            eIf H (fun h12 H =>
              gO [rg [hF 7], r0, .canon [0, 1, 3, 4] [5, 6, 9, 11, 67, 68, 69]] (by kernel_rfl) (P2 (((((r10.1.length : Nat) : Int) : Int) != ((r6.1.length : Nat) : Int)) = false) (bneF h12) <| P0) (ww_FnLines _ _ H))
            (fun h12 H =>
              eW RB (fun _ => []) H <| gE func3 [rg [hT 7], r0] (by kernel_rfl) (P2 (((((r10.1.length : Nat) : Int) : Int) != ((r6.1.length : Nat) : Int)) = true) (bneT h12) <| P0)))
          (fun h11 H =>
            eW RB (fun _ => []) H <| gE func3 [rg [hC 2 true [] (Ri_LineOf r10) [], hF 5], r0, r0] (by kernel_rfl) (P1 (ci_LineOf hr10) <| P2 (r10.2 = false) (eqF h11) <| P0)))
        (fun h9 H =>
          eW RB (fun _ => []) H <| gE func3 [rg [hF 2, { i := 6, call := some { cl := false, auto := true, ins := [], res := (RB r8), G' := [] }, dec := some false }], r0] (by kernel_rfl) (P2 ((!(true == r6.2)) = false) (eqF h7) <| P1 (cw_pSameLines hr8) <| P2 (r8 = false) (eqF h9) <| P0))))
    (fun h5 H =>
      eBind H fun r6 hr6 H =>
      gS [rg [hC 2 true [] (Ri_LineOf r4) [], hF 5], rg [hC 2 true [] (Rs_LineOf r6) []]] (by kernel_rfl) (P1 (ci_LineOf hr4) <| P2 (r4.2 = false) (eqF h5) <| P1 (cs_LineOf hr6) <| P0) <|
      eIf H (fun h7 H =>
        eW RB (fun _ => []) H <| gE func3 [rg [hT 2], r0] (by kernel_rfl) (P2 ((!(false == r6.2)) = true) (h7) <| P0))
      (fun h7 H =>
        eBind H fun r8 hr8 H =>
        eIf H (fun h9 H =>
          eW RB (fun _ => []) H <| gE func3 [rg [hF 2, { i := 6, call := some { cl := false, auto := true, ins := [], res := (RB r8), G' := [] }, dec := some true }], r0, r0] (by kernel_rfl) (P2 ((!(false == r6.2)) = false) (eqF h7) <| P1 (cw_pSameLines hr8) <| P2 (r8 = true) (h9) <| P0))
        (fun h9 H =>
          eW RB (fun _ => []) H <| gE func3 [rg [hF 2, { i := 6, call := some { cl := false, auto := true, ins := [], res := (RB r8), G' := [] }, dec := some false }], r0] (by kernel_rfl) (P2 ((!(false == r6.2)) = false) (eqF h7) <| P1 (cw_pSameLines hr8) <| P2 (r8 = false) (eqF h9) <| P0)))))
end Go.Proofs.Ytlniejjcejackaa.Ab
