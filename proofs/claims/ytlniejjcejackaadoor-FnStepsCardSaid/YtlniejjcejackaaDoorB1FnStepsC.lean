/- Part of the proof of FnStepsCard: no condition of its own. -/
import Derived.Test.YtlniejjcejackaaDoorChecked
import Derived.Test.YtlniejjcejackaaDoorB1FnStepsD
set_option linter.unusedVariables false
set_option linter.unusedSimpArgs false
open Go Go.Proofs Go.Proofs.Tryd
namespace Go.Proofs.YtlniejjcejackaaDoor.Ab
def T : Tab := [(3, ⟨(Ab.TK.int IntKind.i64), 1, 8, (Ab.D.int IntKind.i64 (Int.ofNat 0))⟩),
  (4, ⟨Ab.TK.bool, 1, 1, (Ab.D.bool Bool.false)⟩),
  (5, ⟨(Ab.TK.int IntKind.u8), 1, 1, (Ab.D.int IntKind.u8 (Int.ofNat 0))⟩),
  (22, ⟨(Ab.TK.slice 5), 1, 24, Ab.D.nil⟩),
  (25, ⟨(Ab.TK.strct [(Ab.FI.mk 0 1 Bool.false), (Ab.FI.mk 1 1 Bool.false)] (Option.some [(Ab.LK.int IntKind.i64), (Ab.LK.int IntKind.i64)])), 2, 16, (Ab.D.agg [(Ab.D.int IntKind.i64 (Int.ofNat 0)), (Ab.D.int IntKind.i64 (Int.ofNat 0))])⟩),
  (42, ⟨(Ab.TK.slice 3), 1, 24, Ab.D.nil⟩),
  (50, ⟨(Ab.TK.int IntKind.u64), 1, 8, (Ab.D.int IntKind.u64 (Int.ofNat 0))⟩),
  (52, ⟨(Ab.TK.strct [(Ab.FI.mk 0 1 Bool.false), (Ab.FI.mk 1 1 Bool.false), (Ab.FI.mk 2 1 Bool.false)] Option.none), 3, 40, (Ab.D.agg [Ab.D.nil, (Ab.D.int IntKind.i64 (Int.ofNat 0)), (Ab.D.int IntKind.u64 (Int.ofNat 0))])⟩),
  (58, ⟨(Ab.TK.arr 6 25), 12, 96, (Ab.D.agg [(Ab.D.int IntKind.i64 (Int.ofNat 0)), (Ab.D.int IntKind.i64 (Int.ofNat 0)), (Ab.D.int IntKind.i64 (Int.ofNat 0)), (Ab.D.int IntKind.i64 (Int.ofNat 0)), (Ab.D.int IntKind.i64 (Int.ofNat 0)), (Ab.D.int IntKind.i64 (Int.ofNat 0)), (Ab.D.int IntKind.i64 (Int.ofNat 0)), (Ab.D.int IntKind.i64 (Int.ofNat 0)), (Ab.D.int IntKind.i64 (Int.ofNat 0)), (Ab.D.int IntKind.i64 (Int.ofNat 0)), (Ab.D.int IntKind.i64 (Int.ofNat 0)), (Ab.D.int IntKind.i64 (Int.ofNat 0))])⟩)]
noncomputable def X : Ctx := ⟨Go.Proofs.Tryd.prog, T, [(0, .fptr 12 gc0 0 0)]⟩
theorem T_ok : TabOK X.P X.T := ⟨by kernel_rfl, by kernel_rfl, by kernel_rfl, by kernel_rfl, by kernel_rfl, by kernel_rfl, by kernel_rfl, by kernel_rfl, by kernel_rfl, trivial⟩
theorem mixed : X.P.follows .mixedOrders = true := Go.Proofs.Tryd.checked.mixed
theorem gO {f : FuncId} {M : Nat} {k k' : List Item} {σ σ' : St} {res : List D} {G' : List Root} (cmds : List Cmd) {ps : List Prop} (h : run X M cmds k σ = some (ps, k', σ')) (hp : AllP ps) (hk : Wc X f M k' σ' res G') : Wc X f M k σ res G' := run_ok T_ok mixed h hp hk
theorem gE {f : FuncId} {M : Nat} {k : List Item} {σ : St} {res : List D} {G' : List Root} {fn : Func} (hf : X.P.funcs[f]? = some fn) (cmds : List Cmd) {ps : List Prop} (h : runFinC X M cmds k σ fn.results.toList res = some (ps, res, G')) (hp : AllP ps) : Wc X f M k σ res G' := runFinC_ok T_ok mixed hf h hp
theorem gS {f : FuncId} {M : Nat} {k : List Item} {σ : St} {res : List D} {G' : List Root} (cmds : List Cmd) {ps : List Prop} (h : runP X M cmds k σ = some ps) (hp : AllP ps) (hk : Wc X f M (runK X M cmds k σ) (runS X M cmds k σ) res G') : Wc X f M k σ res G' := seg_ok T_ok mixed cmds h hp hk
theorem gN {ς ρ : Type} {f : FuncId} {M : Nat} {K : ς → List Item} {Z : ς → St} {R : ρ → List D} {G : ρ → List Root} {k : List Item} {σ : St} {o : ς ⊕ ρ} (cmds : List Cmd) {ps : List Prop} (h : runP X M cmds k σ = some ps) (hp : AllP ps) (hk : Nx X f M K Z R G (runK X M cmds k σ) (runS X M cmds k σ) o) : Nx X f M K Z R G k σ o := segN_ok T_ok mixed cmds h hp hk
/-! loop example/g00886/laws big -/
theorem cw_big {a0 : (List Int)} {a1 : (List Int)} {r : Bool} (H : Dw_big a0 a1 = some r) : Ct X.P X.gl 5 [sl 1 (D.int .u8) a0, sl 1 (D.int .u8) a1] [] (RB r) [] :=
  Ct.of func5 (c := bdy f5) (by kernel_rfl) (by kernel_rfl) <|
  gS [r0] (by kernel_rfl) P0 <|
  eIf H (fun h1 H =>
    eW RB (fun _ => []) H <| gE func5 [rg [hT 2]] (by kernel_rfl) (P2 ((decide (((a0.length : Nat) : Int) > 1048576)) = true) (decide_eq_true h1) <| P0))
  (fun h1 H =>
    eW RB (fun _ => []) H <| gE func5 [rg [hF 2]] (by kernel_rfl) (P2 ((decide (((a0.length : Nat) : Int) > 1048576)) = false) (decide_eq_false h1) <| P0))
/-!   loop example/g00886/spec l1Cur  next -/
def Rs_l1Cur_next (r : Int × Gs_l1Cur) : List D := [I r.1]
def Ns_l1Cur_next (r : Int × Gs_l1Cur) : List Root := [⟨false, true, 3, 1, [.agg [sl 1 (D.int .u8) r.2.code, I r.2.at_, .int .u64 r.2.seed]]⟩]
theorem cs_l1Cur_next {a0 : Gs_l1Cur} {r : Int × Gs_l1Cur} (H : Ds_l1Cur_next a0 = some r) : Ct X.P X.gl 51 [.ptr 0 3 0 0] [⟨false, true, 3, 1, [.agg [sl 1 (D.int .u8) a0.code, I a0.at_, .int .u64 a0.seed]]⟩] (Rs_l1Cur_next r) (Ns_l1Cur_next r) :=
  Ct.of func51 (c := bdy f51) (by kernel_rfl) (by kernel_rfl) <|
  gS [r0, r0] (by kernel_rfl) P0 <|
  eIf H (fun h1 H =>
    eCk H fun h2 H =>
    eBind H fun x3 hx3 H =>
    gS [rg [hT 9], rg [hE 9 ((D.int .u8) x3)], r0, r0] (by kernel_rfl) (P2 ((decide (a0.at_ < ((a0.code.length : Nat) : Int))) = true) (decide_eq_true h1) <| P1 h2 <| P1 (int_lt_of_at h2 hx3) <| P1 (at_map (D.int .u8) hx3) <| P0) <|
    eIf H (fun h4 H =>
      eW Rs_l1Cur_next Ns_l1Cur_next H <| gE func51 [rg [hT 9], r0] (by kernel_rfl) (P2 ((decide ((IntKind.wrap .i64 (a0.at_ + 1)) ≤ ((a0.code.length : Nat) : Int))) = true) (decide_eq_true h4) <| P0))
    (fun h4 H =>
      eW Rs_l1Cur_next Ns_l1Cur_next H <| gE func51 [rg [hF 9], r0] (by kernel_rfl) (P2 ((decide ((IntKind.wrap .i64 (a0.at_ + 1)) ≤ ((a0.code.length : Nat) : Int))) = false) (decide_eq_false h4) <| P2 ((0 : Int) ≤ 40) (by decide) <| P0)))
  (fun h1 H =>
    gS [rg [hF 9], r0, r0] (by kernel_rfl) (P2 ((decide (a0.at_ < ((a0.code.length : Nat) : Int))) = false) (decide_eq_false h1) <| P0) <|
    eIf H (fun h2 H =>
      eW Rs_l1Cur_next Ns_l1Cur_next H <| gE func51 [rg [hT 9], r0] (by kernel_rfl) (P2 ((decide ((IntKind.wrap .i64 (a0.at_ + 1)) ≤ ((a0.code.length : Nat) : Int))) = true) (decide_eq_true h2) <| P0))
    (fun h2 H =>
      eW Rs_l1Cur_next Ns_l1Cur_next H <| gE func51 [rg [hF 9], r0] (by kernel_rfl) (P2 ((decide ((IntKind.wrap .i64 (a0.at_ + 1)) ≤ ((a0.code.length : Nat) : Int))) = false) (decide_eq_false h2) <| P2 ((0 : Int) ≤ 40) (by decide) <| P0)))
/-!   loop example/g00886/spec l1Cur  pick -/
def Rs_l1Cur_pick (r : Int × Gs_l1Cur) : List D := [I r.1]
def Ns_l1Cur_pick (r : Int × Gs_l1Cur) : List Root := [⟨false, true, 3, 1, [.agg [sl 1 (D.int .u8) r.2.code, I r.2.at_, .int .u64 r.2.seed]]⟩]
theorem cs_l1Cur_pick {a0 : Gs_l1Cur} {a1 : Int} {r : Int × Gs_l1Cur} (H : Ds_l1Cur_pick a0 a1 = some r) : Ct X.P X.gl 32 [.ptr 0 3 0 0, I a1] [⟨false, true, 3, 1, [.agg [sl 1 (D.int .u8) a0.code, I a0.at_, .int .u64 a0.seed]]⟩] (Rs_l1Cur_pick r) (Ns_l1Cur_pick r) :=
  Ct.of func32 (c := bdy f32) (by kernel_rfl) (by kernel_rfl) <|
  gS [r0] (by kernel_rfl) P0 <|
  eIf H (fun h1 H =>
    eW Rs_l1Cur_pick Ns_l1Cur_pick H <| gE func32 [rg [hT 1], r0] (by kernel_rfl) (P2 ((decide (a1 ≤ 1)) = true) (decide_eq_true h1) <| P0))
  (fun h1 H =>
    eBind H fun r2 hr2 H =>
    gS [rg [hF 1], rg [hC 1 true [0] (Rs_l1Cur_next r2) (Ns_l1Cur_next r2)]] (by kernel_rfl) (P2 ((decide (a1 ≤ 1)) = false) (decide_eq_false h1) <| PI (1 : Nat) <| P1 (cs_l1Cur_next hr2) <| P0) <|
    eIf H (fun h3 H =>
      eBind H fun r4 hr4 H =>
      eCk H fun h5 H =>
      eW Rs_l1Cur_pick Ns_l1Cur_pick H <| gE func32 [rg [hT 1], rg [hC 3 true [0] (Rs_l1Cur_next r4) (Ns_l1Cur_next r4)], r0] (by kernel_rfl) (P2 ((decide (a1 > 200)) = true) (decide_eq_true h3) <| PI (1 : Nat) <| P1 (cs_l1Cur_next hr4) <| P2 (¬ (a1 : Int) = 0) h5 <| P0))
    (fun h3 H =>
      eCk H fun h4 H =>
      eW Rs_l1Cur_pick Ns_l1Cur_pick H <| gE func32 [rg [hF 1], r0] (by kernel_rfl) (P2 ((decide (a1 > 200)) = false) (decide_eq_false h3) <| P2 (¬ (a1 : Int) = 0) h4 <| P0)))
/-!   loop example/g00886/spec l1Cur  among -/
def Rs_l1Cur_among (r : Int × Gs_l1Cur) : List D := [I r.1]
def Ns_l1Cur_among (r : Int × Gs_l1Cur) : List Root := [⟨false, true, 3, 1, [.agg [sl 1 (D.int .u8) r.2.code, I r.2.at_, .int .u64 r.2.seed]]⟩]
theorem cs_l1Cur_among {a0 : Gs_l1Cur} {a1 : (List Int)} {r : Int × Gs_l1Cur} (H : Ds_l1Cur_among a0 a1 = some r) : Ct X.P X.gl 48 [.ptr 0 3 0 0, sl 1 I a1] [⟨false, true, 3, 1, [.agg [sl 1 (D.int .u8) a0.code, I a0.at_, .int .u64 a0.seed]]⟩] (Rs_l1Cur_among r) (Ns_l1Cur_among r) :=
  Ct.of func48 (c := bdy f48) (by kernel_rfl) (by kernel_rfl) <|
  eBind H fun r1 hr1 H =>
  eCk H fun h2 H =>
  eBind H fun x3 hx3 H =>
  eW Rs_l1Cur_among Ns_l1Cur_among H <| gE func48 [r0, rg [hC 4 true [0] (Rs_l1Cur_pick r1) (Ns_l1Cur_pick r1), hE 6 (I x3)]] (by kernel_rfl) (PI (1 : Nat) <| P1 (cs_l1Cur_pick hr1) <| P1 h2 <| P1 (int_lt_of_at h2 hx3) <| P1 (at_map I hx3) <| P0)
/-!   loop example/g00886/spec l1Cur  hex -/
def Rs_l1Cur_hex (r : Gi_Hex × Gs_l1Cur) : List D := [.agg [I r.1.Q, I r.1.R]]
def Ns_l1Cur_hex (r : Gi_Hex × Gs_l1Cur) : List Root := [⟨false, true, 3, 1, [.agg [sl 1 (D.int .u8) r.2.code, I r.2.at_, .int .u64 r.2.seed]]⟩]
theorem cs_l1Cur_hex {a0 : Gs_l1Cur} {r : Gi_Hex × Gs_l1Cur} (H : Ds_l1Cur_hex a0 = some r) : Ct X.P X.gl 50 [.ptr 0 3 0 0] [⟨false, true, 3, 1, [.agg [sl 1 (D.int .u8) a0.code, I a0.at_, .int .u64 a0.seed]]⟩] (Rs_l1Cur_hex r) (Ns_l1Cur_hex r) :=
  Ct.of func50 (c := bdy f50) (by kernel_rfl) (by kernel_rfl) <|
  eBind H fun r1 hr1 H =>
  eBind H fun r2 hr2 H =>
  eBind H fun r3 hr3 H =>
  gS [r0, rg [hC 1 true [0] (Rs_l1Cur_pick r1) (Ns_l1Cur_pick r1), hC 4 true [0] (Rs_l1Cur_pick r2) (Ns_l1Cur_pick r2)], rg [hC 1 true [0] (Rs_l1Cur_pick r3) (Ns_l1Cur_pick r3)]] (by kernel_rfl) (PI (1 : Nat) <| P1 (cs_l1Cur_pick hr1) <| PI (1 : Nat) <| P1 (cs_l1Cur_pick hr2) <| PI (1 : Nat) <| P1 (cs_l1Cur_pick hr3) <| P0) <|
  eIf H (fun h4 H =>
    eBind H fun r5 hr5 H =>
    eW Rs_l1Cur_hex Ns_l1Cur_hex H <| gE func50 [rg [hT 0], rg [{ i := 2, frz := [3], call := some { cl := true, auto := true, ins := [0], res := (Rs_l1Cur_among r5), G' := (Ns_l1Cur_among r5) } }], r0] (by kernel_rfl) (P2 (((r3.1 : Int) == 0) = true) (beqT h4) <| PI (1 : Nat) <| P1 (cs_l1Cur_among hr5) <| P0))
  (fun h4 H =>
    gS [rg [hF 0]] (by kernel_rfl) (P2 (((r3.1 : Int) == 0) = false) (beqF h4) <| P0) <|
    eIf H (fun h5 H =>
      eBind H fun r6 hr6 H =>
      eW Rs_l1Cur_hex Ns_l1Cur_hex H <| gE func50 [rg [hT 0], rg [{ i := 2, frz := [3], call := some { cl := true, auto := true, ins := [0], res := (Rs_l1Cur_among r6), G' := (Ns_l1Cur_among r6) } }], r0] (by kernel_rfl) (P2 (((r3.1 : Int) == 1) = true) (beqT h5) <| PI (1 : Nat) <| P1 (cs_l1Cur_among hr6) <| P0))
    (fun h5 H =>
      eW Rs_l1Cur_hex Ns_l1Cur_hex H <| gE func50 [rg [hF 0], r0] (by kernel_rfl) (P2 (((r3.1 : Int) == 1) = false) (beqF h5) <| P0)))
/-!   loop example/g00886/spec l1Cur  one -/
def Rs_l1Cur_one (r : Bool × Gs_l1Cur) : List D := [.bool r.1]
def Ns_l1Cur_one (r : Bool × Gs_l1Cur) : List Root := [⟨false, true, 3, 1, [.agg [sl 1 (D.int .u8) r.2.code, I r.2.at_, .int .u64 r.2.seed]]⟩]
theorem cs_l1Cur_one {a0 : Gs_l1Cur} {a1 : Int} {r : Bool × Gs_l1Cur} (H : Ds_l1Cur_one a0 a1 = some r) : Ct X.P X.gl 30 [.ptr 0 3 0 0, I a1] [⟨false, true, 3, 1, [.agg [sl 1 (D.int .u8) a0.code, I a0.at_, .int .u64 a0.seed]]⟩] (Rs_l1Cur_one r) (Ns_l1Cur_one r) :=
  Ct.of func30 (c := bdy f30) (by kernel_rfl) (by kernel_rfl) <|
  eBind H fun r1 hr1 H =>
  eW Rs_l1Cur_one Ns_l1Cur_one H <| gE func30 [r0, rg [hC 2 true [0] (Rs_l1Cur_pick r1) (Ns_l1Cur_pick r1)]] (by kernel_rfl) (PI (1 : Nat) <| P1 (cs_l1Cur_pick hr1) <| P0)
/-!   loop example/g00886/spec l1Cur  anyHex -/
def Rs_l1Cur_anyHex (r : Gi_Hex × Gs_l1Cur) : List D := [.agg [I r.1.Q, I r.1.R]]
def Ns_l1Cur_anyHex (r : Gi_Hex × Gs_l1Cur) : List Root := [⟨false, true, 3, 1, [.agg [sl 1 (D.int .u8) r.2.code, I r.2.at_, .int .u64 r.2.seed]]⟩]
theorem cs_l1Cur_anyHex {a0 : Gs_l1Cur} {r : Gi_Hex × Gs_l1Cur} (H : Ds_l1Cur_anyHex a0 = some r) : Ct X.P X.gl 29 [.ptr 0 3 0 0] [⟨false, true, 3, 1, [.agg [sl 1 (D.int .u8) a0.code, I a0.at_, .int .u64 a0.seed]]⟩] (Rs_l1Cur_anyHex r) (Ns_l1Cur_anyHex r) :=
  Ct.of func29 (c := bdy f29) (by kernel_rfl) (by kernel_rfl) <|
  eBind H fun r1 hr1 H =>
  eBind H fun r2 hr2 H =>
  gS [r0, rg [hC 1 true [0] (Rs_l1Cur_hex r1) (Ns_l1Cur_hex r1)]] (by kernel_rfl) (PI (1 : Nat) <| P1 (cs_l1Cur_hex hr1) <| P0) <|
  eIf H (fun h3 H =>
    eBind H fun r4 hr4 H =>
    eW Rs_l1Cur_anyHex Ns_l1Cur_anyHex H <| gE func29 [rg [{ i := 1, call := some { cl := true, auto := true, ins := [0], res := (Rs_l1Cur_one r2), G' := (Ns_l1Cur_one r2) }, dec := some true }], rg [{ i := 2, frz := [3], call := some { cl := true, auto := true, ins := [0], res := (Rs_l1Cur_among r4), G' := (Ns_l1Cur_among r4) } }], r0] (by kernel_rfl) (PI (1 : Nat) <| P1 (cs_l1Cur_one hr2) <| P2 (r2.1 = true) (h3) <| PI (1 : Nat) <| P1 (cs_l1Cur_among hr4) <| P0))
  (fun h3 H =>
    eW Rs_l1Cur_anyHex Ns_l1Cur_anyHex H <| gE func29 [rg [{ i := 1, call := some { cl := true, auto := true, ins := [0], res := (Rs_l1Cur_one r2), G' := (Ns_l1Cur_one r2) }, dec := some false }], r0] (by kernel_rfl) (PI (1 : Nat) <| P1 (cs_l1Cur_one hr2) <| P2 (r2.1 = false) (eqF h3) <| P0))
/-! loop example/g00886/spec hStep -/
def Rs_hStep (r : Gi_Hex) : List D := [.agg [I r.Q, I r.R]]
theorem cs_hStep {a0 : Gi_Hex} {a1 : Int} {r : Gi_Hex} (H : Ds_hStep a0 a1 = some r) : Ct X.P X.gl 31 [.agg [I a0.Q, I a0.R], I a1] [] (Rs_hStep r) [] :=
  Ct.of func31 (c := bdy f31) (by kernel_rfl) (by kernel_rfl) <|
  eCk H fun h1 H =>
  eBind H fun x2 hx2 H =>
  eCk H fun h3 H =>
  eBind H fun x4 hx4 H =>
  eW Rs_hStep (fun _ => []) H <| gE func31 [r0, rg [hE 5 (I x2), hE 12 (I x4)]] (by kernel_rfl) (P1 h1 <| P1 (int_lt_of_at h1 hx2) <| P1 (at_map I hx2) <| P1 h3 <| P1 (int_lt_of_at h3 hx4) <| P1 (at_map I hx4) <| P0)
/-! loop example/g00886/spec DrawDirectionTo -/
def Rs_DrawDirectionTo (r : Gi_Hex × Gi_Hex) : List D := [.agg [I r.1.Q, I r.1.R], .agg [I r.2.Q, I r.2.R]]
theorem cs_DrawDirectionTo {a0 : (List Int)} {r : Gi_Hex × Gi_Hex} (H : Ds_DrawDirectionTo a0 = some r) : Ct X.P X.gl 6 [sl 1 (D.int .u8) a0] [] (Rs_DrawDirectionTo r) [] :=
  Ct.of func6 (c := bdy f6) (by kernel_rfl) (by kernel_rfl) <|
  eBind H fun r1 hr1 H =>
  eBind H fun r2 hr2 H =>
  gS [r0, r0, rg [hC 1 true [2] (Rs_l1Cur_anyHex r1) (Ns_l1Cur_anyHex r1)]] (by kernel_rfl) (PI (1 : Nat) <| P1 (cs_l1Cur_anyHex hr1) <| P0) <|
  eIf H (fun h3 H =>
    eBind H fun r4 hr4 H =>
    eW Rs_DrawDirectionTo (fun _ => []) H <| gE func6 [rg [{ i := 1, call := some { cl := true, auto := true, ins := [2], res := (Rs_l1Cur_one r2), G' := (Ns_l1Cur_one r2) }, dec := some true }], rg [hC 2 true [2] (Rs_l1Cur_anyHex r4) (Ns_l1Cur_anyHex r4)]] (by kernel_rfl) (PI (1 : Nat) <| P1 (cs_l1Cur_one hr2) <| P2 (r2.1 = true) (h3) <| PI (1 : Nat) <| P1 (cs_l1Cur_anyHex hr4) <| P0))
  (fun h3 H =>
    eBind H fun r4 hr4 H =>
    eBind H fun r5 hr5 H =>
    eW Rs_DrawDirectionTo (fun _ => []) H <| gE func6 [rg [{ i := 1, call := some { cl := true, auto := true, ins := [2], res := (Rs_l1Cur_one r2), G' := (Ns_l1Cur_one r2) }, dec := some false }], rg [hC 3 true [2] (Rs_l1Cur_pick r4) (Ns_l1Cur_pick r4), hC 4 true [] (Rs_hStep r5) []]] (by kernel_rfl) (PI (1 : Nat) <| P1 (cs_l1Cur_one hr2) <| P2 (r2.1 = false) (eqF h3) <| PI (1 : Nat) <| P1 (cs_l1Cur_pick hr4) <| P1 (cs_hStep hr5) <| P0))
/-! loop example/g00886/impl inRange -/
theorem ci_inRange {a0 : Int} {a1 : Int} {a2 : Int} {r : Bool} (H : Di_inRange a0 a1 a2 = some r) : Ct X.P X.gl 38 [I a0, I a1, I a2] [] (RB r) [] :=
  Ct.of func38 (c := bdy f38) (by kernel_rfl) (by kernel_rfl) <|
  gS [r0] (by kernel_rfl) P0 <|
  eIf H (fun h1 H =>
    eW RB (fun _ => []) H <| gE func38 [rg [hT 2]] (by kernel_rfl) (P2 ((decide (a1 ≤ a0)) = true) (decide_eq_true h1) <| P0))
  (fun h1 H =>
    eW RB (fun _ => []) H <| gE func38 [rg [hF 2]] (by kernel_rfl) (P2 ((decide (a1 ≤ a0)) = false) (decide_eq_false h1) <| P0))
/-! loop example/g00886/impl IsHex -/
theorem ci_IsHex {a0 : Gi_Hex} {r : Bool} (H : Di_IsHex a0 = some r) : Ct X.P X.gl 33 [.agg [I a0.Q, I a0.R]] [] (RB r) [] :=
  Ct.of func33 (c := bdy f33) (by kernel_rfl) (by kernel_rfl) <|
  eBind H fun r1 hr1 H =>
  gS [r0] (by kernel_rfl) P0 <|
  eIf H (fun h2 H =>
    eBind H fun r3 hr3 H =>
    eW RB (fun _ => []) H <| gE func33 [rg [{ i := 2, call := some { cl := true, auto := true, ins := [], res := (RB r1), G' := [] }, dec := some true }, hC 6 true [] (RB r3) []]] (by kernel_rfl) (P1 (ci_inRange hr1) <| P2 (r1 = true) (h2) <| P1 (ci_inRange hr3) <| P0))
  (fun h2 H =>
    eW RB (fun _ => []) H <| gE func33 [rg [{ i := 2, call := some { cl := true, auto := true, ins := [], res := (RB r1), G' := [] }, dec := some false }]] (by kernel_rfl) (P1 (ci_inRange hr1) <| P2 (r1 = false) (eqF h2) <| P0))
/-! loop example/g00886/impl stepBy -/
def Ri_stepBy (r : Gi_Hex) : List D := [.agg [I r.Q, I r.R]]
theorem ci_stepBy {a0 : Gi_Hex} {a1 : Int} {a2 : Int} {r : Gi_Hex} (H : Di_stepBy a0 a1 a2 = some r) : Ct X.P X.gl 34 [.agg [I a0.Q, I a0.R], I a1, I a2] [] (Ri_stepBy r) [] :=
  Ct.of func34 (c := bdy f34) (by kernel_rfl) (by kernel_rfl) <|
  eCk H fun h1 H =>
  eBind H fun x2 hx2 H =>
  eCk H fun h3 H =>
  eBind H fun x4 hx4 H =>
  eW Ri_stepBy (fun _ => []) H <| gE func34 [r0, rg [{ i := 6, xs := [I x2.Q] }, { i := 15, xs := [I x4.R] }]] (by kernel_rfl) (P1 h1 <| P2 (a1 < ((6 : Nat) : Int)) (int_lt_of_at h1 hx2) <| P2 (getCells gc0 0 (0 + Int.toNat a1 * 2 + 0) 1 = some [I x2.Q]) (flat_at (enc := gi_Hex) (w := 2) (off := 0) (fun _ => rfl) hx2 (by omega) (by decide)) <| P1 h3 <| P2 (a1 < ((6 : Nat) : Int)) (int_lt_of_at h3 hx4) <| P2 (getCells gc0 0 (0 + Int.toNat a1 * 2 + 1) 1 = some [I x4.R]) (flat_at (enc := gi_Hex) (w := 2) (off := 1) (fun _ => rfl) hx4 (by omega) (by decide)) <| P0)
/-! loop example/g00886/impl DirectionTo -/
def Ri_DirectionTo (r : Int × Bool) : List D := [I r.1, .bool r.2]
noncomputable def Ki_DirectionTo : Si_DirectionTo → List Item
  | .h1 .. => nav 300 3 [false] [.code (bdy f7)]
def Zi_DirectionTo : Si_DirectionTo → St
  | .h1 t0 b1 b2 => ⟨sts 25 [(2, .ptr 0 2 0 0), (3, .ptr 1 2 0 0), (15, I t0)], [some ⟨false, true, 2, 1, [.agg [I b1.Q, I b1.R]]⟩, some ⟨false, true, 2, 1, [.agg [I b2.Q, I b2.R]]⟩]⟩
abbrev Qi_DirectionTo := Nx X 7 0 Ki_DirectionTo Zi_DirectionTo Ri_DirectionTo (fun _ => [])
theorem ni_DirectionTo : ∀ s o, Bi_DirectionTo s = some o → Qi_DirectionTo (Ki_DirectionTo s) (Zi_DirectionTo s) o
  | .h1 t0 b1 b2, o, H =>
    eIf H (fun h1 H =>
      eBind H fun r2 hr2 H =>
      gN [rg [hT 0], r0] (by kernel_rfl) (P2 ((decide (t0 < 6)) = true) (decide_eq_true h1) <| P0) <|
      eIf H (fun h3 H =>
        eN H <| gE func7 [rg [hC 2 true [] (Ri_stepBy r2) [], hT 4], r0] (by kernel_rfl) (P1 (ci_stepBy hr2) <| P2 (((r2.Q == b2.Q) && (r2.R == b2.R)) = true) (h3) <| P0))
      (fun h3 H =>
        eN H fun r hn => gO [rg [hC 2 true [] (Ri_stepBy r2) [], hF 4], r0, .canon [0, 1] [2, 3, 15]] (by kernel_rfl) (P1 (ci_stepBy hr2) <| P2 (((r2.Q == b2.Q) && (r2.R == b2.R)) = false) (eqF h3) <| P0) hn))
    (fun h1 H =>
      eN H <| gE func7 [rg [hF 0], r0] (by kernel_rfl) (P2 ((decide (t0 < 6)) = false) (decide_eq_false h1) <| P0))
theorem wi_DirectionTo : ∀ s r, loop Bi_DirectionTo s = some r → Wc X 7 0 (Ki_DirectionTo s) (Zi_DirectionTo s) (Ri_DirectionTo r) ((fun _ => []) r) := Nx.all ni_DirectionTo
theorem ci_DirectionTo {a0 : Gi_Hex} {a1 : Gi_Hex} {r : Int × Bool} (H : Di_DirectionTo a0 a1 = some r) : Ct X.P X.gl 7 [.agg [I a0.Q, I a0.R], .agg [I a1.Q, I a1.R]] [] (Ri_DirectionTo r) [] :=
  Ct.of func7 (c := bdy f7) (by kernel_rfl) (by kernel_rfl) <|
  eBind H fun r1 hr1 H =>
  gS [r0] (by kernel_rfl) P0 <|
  eIf H (fun h2 H =>
    eBind H fun r3 hr3 H =>
    eIf H (fun h4 H =>
      gO [rg [{ i := 1, call := some { cl := true, auto := true, ins := [], res := (RB r1), G' := [] }, dec := some true }, { i := 5, call := some { cl := true, auto := true, ins := [], res := (RB r3), G' := [] }, dec := some true }], r0, .canon [0, 1] [2, 3, 15]] (by kernel_rfl) (P1 (ci_IsHex hr1) <| P2 (r1 = true) (h2) <| P1 (ci_IsHex hr3) <| P2 (r3 = true) (h4) <| P0) (wi_DirectionTo _ _ H))
    (fun h4 H =>
      eW Ri_DirectionTo (fun _ => []) H <| gE func7 [rg [{ i := 1, call := some { cl := true, auto := true, ins := [], res := (RB r1), G' := [] }, dec := some true }, { i := 5, call := some { cl := true, auto := true, ins := [], res := (RB r3), G' := [] }, dec := some false }], r0] (by kernel_rfl) (P1 (ci_IsHex hr1) <| P2 (r1 = true) (h2) <| P1 (ci_IsHex hr3) <| P2 (r3 = false) (eqF h4) <| P0)))
  (fun h2 H =>
    eW Ri_DirectionTo (fun _ => []) H <| gE func7 [rg [{ i := 1, call := some { cl := true, auto := true, ins := [], res := (RB r1), G' := [] }, dec := some false }], r0] (by kernel_rfl) (P1 (ci_IsHex hr1) <| P2 (r1 = false) (eqF h2) <| P0))
/-! loop example/g00886/spec l1In -/
theorem cs_l1In {a0 : Int} {a1 : Int} {a2 : Int} {r : Bool} (H : Ds_l1In a0 a1 a2 = some r) : Ct X.P X.gl 39 [I a0, I a1, I a2] [] (RB r) [] :=
  Ct.of func39 (c := bdy f39) (by kernel_rfl) (by kernel_rfl) <|
  gS [r0] (by kernel_rfl) P0 <|
  eIf H (fun h1 H =>
    eW RB (fun _ => []) H <| gE func39 [rg [hT 2]] (by kernel_rfl) (P2 ((decide (a0 ≥ a1)) = true) (decide_eq_true h1) <| P0))
  (fun h1 H =>
    eW RB (fun _ => []) H <| gE func39 [rg [hF 2]] (by kernel_rfl) (P2 ((decide (a0 ≥ a1)) = false) (decide_eq_false h1) <| P0))
/-! loop example/g00886/spec hGood -/
theorem cs_hGood {a0 : Gi_Hex} {r : Bool} (H : Ds_hGood a0 = some r) : Ct X.P X.gl 35 [.agg [I a0.Q, I a0.R]] [] (RB r) [] :=
  Ct.of func35 (c := bdy f35) (by kernel_rfl) (by kernel_rfl) <|
  eBind H fun r1 hr1 H =>
  gS [r0] (by kernel_rfl) P0 <|
  eIf H (fun h2 H =>
    eBind H fun r3 hr3 H =>
    eW RB (fun _ => []) H <| gE func35 [rg [{ i := 2, call := some { cl := true, auto := true, ins := [], res := (RB r1), G' := [] }, dec := some true }, hC 6 true [] (RB r3) []]] (by kernel_rfl) (P1 (cs_l1In hr1) <| P2 (r1 = true) (h2) <| P1 (cs_l1In hr3) <| P0))
  (fun h2 H =>
    eW RB (fun _ => []) H <| gE func35 [rg [{ i := 2, call := some { cl := true, auto := true, ins := [], res := (RB r1), G' := [] }, dec := some false }]] (by kernel_rfl) (P1 (cs_l1In hr1) <| P2 (r1 = false) (eqF h2) <| P0))
/-! loop example/g00886/spec DirectionTo -/
def Rs_DirectionTo (r : Int × Bool) : List D := [I r.1, .bool r.2]
noncomputable def Ks_DirectionTo : Ss_DirectionTo → List Item
  | .h1 .. => nav 300 3 [false] [.code (bdy f8)]
def Zs_DirectionTo : Ss_DirectionTo → St
  | .h1 d0 b1 b2 => ⟨sts 25 [(2, .ptr 0 2 0 0), (3, .ptr 1 2 0 0), (6, I d0)], [some ⟨false, true, 2, 1, [.agg [I b1.Q, I b1.R]]⟩, some ⟨false, true, 2, 1, [.agg [I b2.Q, I b2.R]]⟩]⟩
abbrev Qs_DirectionTo := Nx X 8 0 Ks_DirectionTo Zs_DirectionTo Rs_DirectionTo (fun _ => [])
theorem ns_DirectionTo : ∀ s o, Bs_DirectionTo s = some o → Qs_DirectionTo (Ks_DirectionTo s) (Zs_DirectionTo s) o
  | .h1 d0 b1 b2, o, H =>
    eIf H (fun h1 H =>
      eBind H fun r2 hr2 H =>
      gN [rg [hT 1]] (by kernel_rfl) (P2 ((decide (d0 < 6)) = true) (decide_eq_true h1) <| P0) <|
      eIf H (fun h3 H =>
        eN H <| gE func8 [rg [hC 2 true [] (Rs_hStep r2) [], hT 4], r0] (by kernel_rfl) (P1 (cs_hStep hr2) <| P2 (((r2.Q == b2.Q) && (r2.R == b2.R)) = true) (h3) <| P0))
      (fun h3 H =>
        eN H fun r hn => gO [rg [hC 2 true [] (Rs_hStep r2) [], hF 4], r0, .canon [0, 1] [2, 3, 6]] (by kernel_rfl) (P1 (cs_hStep hr2) <| P2 (((r2.Q == b2.Q) && (r2.R == b2.R)) = false) (eqF h3) <| P0) hn))
    (fun h1 H =>
      eN H <| gE func8 [rg [hF 1], r0] (by kernel_rfl) (P2 ((decide (d0 < 6)) = false) (decide_eq_false h1) <| P0))
theorem ws_DirectionTo : ∀ s r, loop Bs_DirectionTo s = some r → Wc X 8 0 (Ks_DirectionTo s) (Zs_DirectionTo s) (Rs_DirectionTo r) ((fun _ => []) r) := Nx.all ns_DirectionTo
theorem cs_DirectionTo {a0 : Gi_Hex} {a1 : Gi_Hex} {r : Int × Bool} (H : Ds_DirectionTo a0 a1 = some r) : Ct X.P X.gl 8 [.agg [I a0.Q, I a0.R], .agg [I a1.Q, I a1.R]] [] (Rs_DirectionTo r) [] :=
  Ct.of func8 (c := bdy f8) (by kernel_rfl) (by kernel_rfl) <|
  eBind H fun r1 hr1 H =>
  gS [r0] (by kernel_rfl) P0 <|
  eIf H (fun h2 H =>
    eBind H fun r3 hr3 H =>
    eIf H (fun h4 H =>
      gO [rg [{ i := 1, call := some { cl := true, auto := true, ins := [], res := (RB r1), G' := [] }, dec := some true }, { i := 5, call := some { cl := true, auto := true, ins := [], res := (RB r3), G' := [] }, dec := some true }], r0, .canon [0, 1] [2, 3, 6]] (by kernel_rfl) (P1 (cs_hGood hr1) <| P2 (r1 = true) (h2) <| P1 (cs_hGood hr3) <| P2 (r3 = true) (h4) <| P0) (ws_DirectionTo _ _ H))
    (fun h4 H =>
      eW Rs_DirectionTo (fun _ => []) H <| gE func8 [rg [{ i := 1, call := some { cl := true, auto := true, ins := [], res := (RB r1), G' := [] }, dec := some true }, { i := 5, call := some { cl := true, auto := true, ins := [], res := (RB r3), G' := [] }, dec := some false }], r0] (by kernel_rfl) (P1 (cs_hGood hr1) <| P2 (r1 = true) (h2) <| P1 (cs_hGood hr3) <| P2 (r3 = false) (eqF h4) <| P0)))
  (fun h2 H =>
    eW Rs_DirectionTo (fun _ => []) H <| gE func8 [rg [{ i := 1, call := some { cl := true, auto := true, ins := [], res := (RB r1), G' := [] }, dec := some false }], r0] (by kernel_rfl) (P1 (cs_hGood hr1) <| P2 (r1 = false) (eqF h2) <| P0))
/-! loop example/g00886/impl isDirection -/
theorem ci_isDirection {a0 : Int} {r : Bool} (H : Di_isDirection a0 = some r) : Ct X.P X.gl 36 [I a0] [] (RB r) [] :=
  Ct.of func36 (c := bdy f36) (by kernel_rfl) (by kernel_rfl) <|
  eBind H fun r1 hr1 H =>
  eW RB (fun _ => []) H <| gE func36 [r0, rg [hC 1 true [] (RB r1) []]] (by kernel_rfl) (P1 (ci_inRange hr1) <| P0)
/-! loop example/g00886/impl checkedHex -/
def Ri_checkedHex (r : Gi_Hex × Bool) : List D := [.agg [I r.1.Q, I r.1.R], .bool r.2]
theorem ci_checkedHex {a0 : Gi_Hex} {r : Gi_Hex × Bool} (H : Di_checkedHex a0 = some r) : Ct X.P X.gl 37 [.agg [I a0.Q, I a0.R]] [] (Ri_checkedHex r) [] :=
  Ct.of func37 (c := bdy f37) (by kernel_rfl) (by kernel_rfl) <|
  eBind H fun r1 hr1 H =>
  gS [r0] (by kernel_rfl) P0 <|
  eIf H (fun h2 H =>
    eW Ri_checkedHex (fun _ => []) H <| gE func37 [rg [{ i := 1, call := some { cl := true, auto := true, ins := [], res := (RB r1), G' := [] }, dec := some true }], r0] (by kernel_rfl) (P1 (ci_IsHex hr1) <| P2 (r1 = true) (h2) <| P0))
  (fun h2 H =>
    eW Ri_checkedHex (fun _ => []) H <| gE func37 [rg [{ i := 1, call := some { cl := true, auto := true, ins := [], res := (RB r1), G' := [] }, dec := some false }], r0] (by kernel_rfl) (P1 (ci_IsHex hr1) <| P2 (r1 = false) (eqF h2) <| P0))
/-! loop example/g00886/impl NeighbourOf -/
def Ri_NeighbourOf (r : Gi_Hex × Bool) : List D := [.agg [I r.1.Q, I r.1.R], .bool r.2]
theorem ci_NeighbourOf {a0 : Gi_Hex} {a1 : Int} {r : Gi_Hex × Bool} (H : Di_NeighbourOf a0 a1 = some r) : Ct X.P X.gl 9 [.agg [I a0.Q, I a0.R], I a1] [] (Ri_NeighbourOf r) [] :=
  Ct.of func9 (c := bdy f9) (by kernel_rfl) (by kernel_rfl) <|
  eBind H fun r1 hr1 H =>
  gS [r0] (by kernel_rfl) P0 <|
  eIf H (fun h2 H =>
    eBind H fun r3 hr3 H =>
    eIf H (fun h4 H =>
      eBind H fun r5 hr5 H =>
      eBind H fun r6 hr6 H =>
      eW Ri_NeighbourOf (fun _ => []) H <| gE func9 [rg [{ i := 1, call := some { cl := true, auto := true, ins := [], res := (RB r1), G' := [] }, dec := some true }, { i := 5, call := some { cl := true, auto := true, ins := [], res := (RB r3), G' := [] }, dec := some true }], rg [hC 2 true [] (Ri_stepBy r5) [], hC 3 true [] (Ri_checkedHex r6) []]] (by kernel_rfl) (P1 (ci_IsHex hr1) <| P2 (r1 = true) (h2) <| P1 (ci_isDirection hr3) <| P2 (r3 = true) (h4) <| P1 (ci_stepBy hr5) <| P1 (ci_checkedHex hr6) <| P0))
    (fun h4 H =>
      eW Ri_NeighbourOf (fun _ => []) H <| gE func9 [rg [{ i := 1, call := some { cl := true, auto := true, ins := [], res := (RB r1), G' := [] }, dec := some true }, { i := 5, call := some { cl := true, auto := true, ins := [], res := (RB r3), G' := [] }, dec := some false }], r0] (by kernel_rfl) (P1 (ci_IsHex hr1) <| P2 (r1 = true) (h2) <| P1 (ci_isDirection hr3) <| P2 (r3 = false) (eqF h4) <| P0)))
  (fun h2 H =>
    eW Ri_NeighbourOf (fun _ => []) H <| gE func9 [rg [{ i := 1, call := some { cl := true, auto := true, ins := [], res := (RB r1), G' := [] }, dec := some false }], r0] (by kernel_rfl) (P1 (ci_IsHex hr1) <| P2 (r1 = false) (eqF h2) <| P0))
/-! loop example/g00886/spec DrawTurnHex -/
def Rs_DrawTurnHex (r : Gi_Hex × Gi_Hex × Int) : List D := [.agg [I r.1.Q, I r.1.R], .agg [I r.2.1.Q, I r.2.1.R], I r.2.2]
theorem cs_DrawTurnHex {a0 : (List Int)} {r : Gi_Hex × Gi_Hex × Int} (H : Ds_DrawTurnHex a0 = some r) : Ct X.P X.gl 10 [sl 1 (D.int .u8) a0] [] (Rs_DrawTurnHex r) [] :=
  Ct.of func10 (c := bdy f10) (by kernel_rfl) (by kernel_rfl) <|
  eBind H fun r1 hr1 H =>
  eBind H fun r2 hr2 H =>
  eBind H fun r3 hr3 H =>
  eBind H fun r4 hr4 H =>
  eW Rs_DrawTurnHex (fun _ => []) H <| gE func10 [r0, r0, rg [hC 1 true [2] (Rs_l1Cur_anyHex r1) (Ns_l1Cur_anyHex r1), hC 3 true [2] (Rs_l1Cur_anyHex r2) (Ns_l1Cur_anyHex r2), hC 5 true [2] (Rs_l1Cur_pick r3) (Ns_l1Cur_pick r3), hC 7 true [2] (Rs_l1Cur_pick r4) (Ns_l1Cur_pick r4)]] (by kernel_rfl) (PI (1 : Nat) <| P1 (cs_l1Cur_anyHex hr1) <| PI (1 : Nat) <| P1 (cs_l1Cur_anyHex hr2) <| PI (1 : Nat) <| P1 (cs_l1Cur_pick hr3) <| PI (1 : Nat) <| P1 (cs_l1Cur_pick hr4) <| P2 (¬ (19 : Int) = 0) (by decide) <| P0)
/-! loop example/g00886/impl TurnHex -/
def Ri_TurnHex (r : Gi_Hex × Bool) : List D := [.agg [I r.1.Q, I r.1.R], .bool r.2]
noncomputable def Ki_TurnHex : Si_TurnHex → List Item
  | .h1 .. => nav 300 4 [false] [.code (bdy f11)]
def Zi_TurnHex : Si_TurnHex → St
  | .h1 q0 vr1 t2 t3 b4 b5 => ⟨sts 55 [(4, .ptr 0 2 0 0), (6, .ptr 1 2 0 0), (8, I q0), (9, I vr1), (34, I t2), (35, I t3)], [some ⟨false, true, 2, 1, [.agg [I b4.Q, I b4.R]]⟩, some ⟨false, true, 2, 1, [.agg [I b5.Q, I b5.R]]⟩]⟩
abbrev Qi_TurnHex := Nx X 11 0 Ki_TurnHex Zi_TurnHex Ri_TurnHex (fun _ => [])
theorem ni_TurnHex : ∀ s o, Bi_TurnHex s = some o → Qi_TurnHex (Ki_TurnHex s) (Zi_TurnHex s) o
  | .h1 q0 vr1 t2 t3 b4 b5, o, H =>
    eIf H (fun h1 H =>
      eN H fun r hn => gO [rg [hT 0], r0, r0, .canon [0, 1] [4, 6, 8, 9, 34, 35]] (by kernel_rfl) (P2 ((decide (t3 < t2)) = true) (decide_eq_true h1) <| P0) hn)
    (fun h1 H =>
      eBind H fun r2 hr2 H =>
      eN H <| gE func11 [rg [hF 0], rg [hC 9 true [] (Ri_checkedHex r2) []]] (by kernel_rfl) (P2 ((decide (t3 < t2)) = false) (decide_eq_false h1) <| P1 (ci_checkedHex hr2) <| P0))
theorem wi_TurnHex : ∀ s r, loop Bi_TurnHex s = some r → Wc X 11 0 (Ki_TurnHex s) (Zi_TurnHex s) (Ri_TurnHex r) ((fun _ => []) r) := Nx.all ni_TurnHex
theorem ci_TurnHex {a0 : Gi_Hex} {a1 : Gi_Hex} {a2 : Int} {r : Gi_Hex × Bool} (H : Di_TurnHex a0 a1 a2 = some r) : Ct X.P X.gl 11 [.agg [I a0.Q, I a0.R], .agg [I a1.Q, I a1.R], I a2] [] (Ri_TurnHex r) [] :=
  Ct.of func11 (c := bdy f11) (by kernel_rfl) (by kernel_rfl) <|
  eBind H fun r1 hr1 H =>
  gS [r0] (by kernel_rfl) P0 <|
  eIf H (fun h2 H =>
    eBind H fun r3 hr3 H =>
    eIf H (fun h4 H =>
      eBind H fun r5 hr5 H =>
      eIf H (fun h6 H =>
        gO [rg [{ i := 1, call := some { cl := true, auto := true, ins := [], res := (RB r1), G' := [] }, dec := some true }, { i := 5, call := some { cl := true, auto := true, ins := [], res := (RB r3), G' := [] }, dec := some true }, { i := 10, call := some { cl := true, auto := true, ins := [], res := (RB r5), G' := [] }, dec := some true }], r0, r0, .canon [1, 2] [4, 6, 8, 9, 34, 35]] (by kernel_rfl) (P1 (ci_IsHex hr1) <| P2 (r1 = true) (h2) <| P1 (ci_IsHex hr3) <| P2 (r3 = true) (h4) <| P1 (ci_inRange hr5) <| P2 (r5 = true) (h6) <| P0) (wi_TurnHex _ _ H))
      (fun h6 H =>
        eW Ri_TurnHex (fun _ => []) H <| gE func11 [rg [{ i := 1, call := some { cl := true, auto := true, ins := [], res := (RB r1), G' := [] }, dec := some true }, { i := 5, call := some { cl := true, auto := true, ins := [], res := (RB r3), G' := [] }, dec := some true }, { i := 10, call := some { cl := true, auto := true, ins := [], res := (RB r5), G' := [] }, dec := some false }], r0] (by kernel_rfl) (P1 (ci_IsHex hr1) <| P2 (r1 = true) (h2) <| P1 (ci_IsHex hr3) <| P2 (r3 = true) (h4) <| P1 (ci_inRange hr5) <| P2 (r5 = false) (eqF h6) <| P0)))
    (fun h4 H =>
      eW Ri_TurnHex (fun _ => []) H <| gE func11 [rg [{ i := 1, call := some { cl := true, auto := true, ins := [], res := (RB r1), G' := [] }, dec := some true }, { i := 5, call := some { cl := true, auto := true, ins := [], res := (RB r3), G' := [] }, dec := some false }], r0] (by kernel_rfl) (P1 (ci_IsHex hr1) <| P2 (r1 = true) (h2) <| P1 (ci_IsHex hr3) <| P2 (r3 = false) (eqF h4) <| P0)))
  (fun h2 H =>
    eW Ri_TurnHex (fun _ => []) H <| gE func11 [rg [{ i := 1, call := some { cl := true, auto := true, ins := [], res := (RB r1), G' := [] }, dec := some false }], r0] (by kernel_rfl) (P1 (ci_IsHex hr1) <| P2 (r1 = false) (eqF h2) <| P0))
/-! loop example/g00886/spec hIf -/
def Rs_hIf (r : Gi_Hex × Bool) : List D := [.agg [I r.1.Q, I r.1.R], .bool r.2]
theorem cs_hIf {a0 : Gi_Hex} {r : Gi_Hex × Bool} (H : Ds_hIf a0 = some r) : Ct X.P X.gl 40 [.agg [I a0.Q, I a0.R]] [] (Rs_hIf r) [] :=
  Ct.of func40 (c := bdy f40) (by kernel_rfl) (by kernel_rfl) <|
  eBind H fun r1 hr1 H =>
  gS [r0] (by kernel_rfl) P0 <|
  eIf H (fun h2 H =>
    eW Rs_hIf (fun _ => []) H <| gE func40 [rg [{ i := 1, call := some { cl := true, auto := true, ins := [], res := (RB r1), G' := [] }, dec := some true }], r0] (by kernel_rfl) (P1 (cs_hGood hr1) <| P2 (r1 = true) (h2) <| P0))
  (fun h2 H =>
    eW Rs_hIf (fun _ => []) H <| gE func40 [rg [{ i := 1, call := some { cl := true, auto := true, ins := [], res := (RB r1), G' := [] }, dec := some false }], r0] (by kernel_rfl) (P1 (cs_hGood hr1) <| P2 (r1 = false) (eqF h2) <| P0))
/-! loop example/g00886/spec TurnHex -/
def Rs_TurnHex (r : Gi_Hex × Bool) : List D := [.agg [I r.1.Q, I r.1.R], .bool r.2]
noncomputable def Ks_TurnHex : Ss_TurnHex → List Item
  | .h1 .. => nav 300 3 [false] [.code (bdy f12)]
def Zs_TurnHex : Ss_TurnHex → St
  | .h1 k0 q1 vr2 b3 b4 => ⟨sts 57 [(2, I k0), (4, .ptr 0 2 0 0), (6, .ptr 1 2 0 0), (8, I q1), (9, I vr2)], [some ⟨false, true, 2, 1, [.agg [I b3.Q, I b3.R]]⟩, some ⟨false, true, 2, 1, [.agg [I b4.Q, I b4.R]]⟩]⟩
abbrev Qs_TurnHex := Nx X 12 0 Ks_TurnHex Zs_TurnHex Rs_TurnHex (fun _ => [])
theorem ns_TurnHex : ∀ s o, Bs_TurnHex s = some o → Qs_TurnHex (Ks_TurnHex s) (Zs_TurnHex s) o
  | .h1 k0 q1 vr2 b3 b4, o, H =>
    eIf H (fun h1 H =>
      eN H fun r hn => gO [rg [hT 1], r0, r0, r0, r0, .canon [0, 1] [2, 4, 6, 8, 9]] (by kernel_rfl) (P2 ((decide (k0 > 0)) = true) (decide_eq_true h1) <| P0) hn)
    (fun h1 H =>
      eBind H fun r2 hr2 H =>
      eN H <| gE func12 [rg [hF 1], rg [hC 9 true [] (Rs_hIf r2) []]] (by kernel_rfl) (P2 ((decide (k0 > 0)) = false) (decide_eq_false h1) <| P1 (cs_hIf hr2) <| P0))
theorem ws_TurnHex : ∀ s r, loop Bs_TurnHex s = some r → Wc X 12 0 (Ks_TurnHex s) (Zs_TurnHex s) (Rs_TurnHex r) ((fun _ => []) r) := Nx.all ns_TurnHex
theorem cs_TurnHex {a0 : Gi_Hex} {a1 : Gi_Hex} {a2 : Int} {r : Gi_Hex × Bool} (H : Ds_TurnHex a0 a1 a2 = some r) : Ct X.P X.gl 12 [.agg [I a0.Q, I a0.R], .agg [I a1.Q, I a1.R], I a2] [] (Rs_TurnHex r) [] :=
  Ct.of func12 (c := bdy f12) (by kernel_rfl) (by kernel_rfl) <|
  eBind H fun r1 hr1 H =>
  gS [r0] (by kernel_rfl) P0 <|
  eIf H (fun h2 H =>
    eBind H fun r3 hr3 H =>
    eIf H (fun h4 H =>
      eBind H fun r5 hr5 H =>
      eIf H (fun h6 H =>
        gO [rg [{ i := 1, call := some { cl := true, auto := true, ins := [], res := (RB r1), G' := [] }, dec := some true }, { i := 5, call := some { cl := true, auto := true, ins := [], res := (RB r3), G' := [] }, dec := some true }, { i := 10, call := some { cl := true, auto := true, ins := [], res := (RB r5), G' := [] }, dec := some true }], r0, .canon [1, 2] [2, 4, 6, 8, 9]] (by kernel_rfl) (P1 (cs_hGood hr1) <| P2 (r1 = true) (h2) <| P1 (cs_hGood hr3) <| P2 (r3 = true) (h4) <| P1 (cs_l1In hr5) <| P2 (r5 = true) (h6) <| P0) (ws_TurnHex _ _ H))
      (fun h6 H =>
        eW Rs_TurnHex (fun _ => []) H <| gE func12 [rg [{ i := 1, call := some { cl := true, auto := true, ins := [], res := (RB r1), G' := [] }, dec := some true }, { i := 5, call := some { cl := true, auto := true, ins := [], res := (RB r3), G' := [] }, dec := some true }, { i := 10, call := some { cl := true, auto := true, ins := [], res := (RB r5), G' := [] }, dec := some false }], r0] (by kernel_rfl) (P1 (cs_hGood hr1) <| P2 (r1 = true) (h2) <| P1 (cs_hGood hr3) <| P2 (r3 = true) (h4) <| P1 (cs_l1In hr5) <| P2 (r5 = false) (eqF h6) <| P0)))
    (fun h4 H =>
      eW Rs_TurnHex (fun _ => []) H <| gE func12 [rg [{ i := 1, call := some { cl := true, auto := true, ins := [], res := (RB r1), G' := [] }, dec := some true }, { i := 5, call := some { cl := true, auto := true, ins := [], res := (RB r3), G' := [] }, dec := some false }], r0] (by kernel_rfl) (P1 (cs_hGood hr1) <| P2 (r1 = true) (h2) <| P1 (cs_hGood hr3) <| P2 (r3 = false) (eqF h4) <| P0)))
  (fun h2 H =>
    eW Rs_TurnHex (fun _ => []) H <| gE func12 [rg [{ i := 1, call := some { cl := true, auto := true, ins := [], res := (RB r1), G' := [] }, dec := some false }], r0] (by kernel_rfl) (P1 (cs_hGood hr1) <| P2 (r1 = false) (eqF h2) <| P0))
/-! loop example/g00886/impl MirrorHex -/
def Ri_MirrorHex (r : Gi_Hex × Bool) : List D := [.agg [I r.1.Q, I r.1.R], .bool r.2]
theorem ci_MirrorHex {a0 : Gi_Hex} {a1 : Gi_Hex} {r : Gi_Hex × Bool} (H : Di_MirrorHex a0 a1 = some r) : Ct X.P X.gl 13 [.agg [I a0.Q, I a0.R], .agg [I a1.Q, I a1.R]] [] (Ri_MirrorHex r) [] :=
  Ct.of func13 (c := bdy f13) (by kernel_rfl) (by kernel_rfl) <|
  eBind H fun r1 hr1 H =>
  gS [r0] (by kernel_rfl) P0 <|
  eIf H (fun h2 H =>
    eBind H fun r3 hr3 H =>
    eIf H (fun h4 H =>
      eBind H fun r5 hr5 H =>
      eW Ri_MirrorHex (fun _ => []) H <| gE func13 [rg [{ i := 1, call := some { cl := true, auto := true, ins := [], res := (RB r1), G' := [] }, dec := some true }, { i := 5, call := some { cl := true, auto := true, ins := [], res := (RB r3), G' := [] }, dec := some true }], rg [hC 17 true [] (Ri_checkedHex r5) []]] (by kernel_rfl) (P1 (ci_IsHex hr1) <| P2 (r1 = true) (h2) <| P1 (ci_IsHex hr3) <| P2 (r3 = true) (h4) <| P1 (ci_checkedHex hr5) <| P0))
    (fun h4 H =>
      eW Ri_MirrorHex (fun _ => []) H <| gE func13 [rg [{ i := 1, call := some { cl := true, auto := true, ins := [], res := (RB r1), G' := [] }, dec := some true }, { i := 5, call := some { cl := true, auto := true, ins := [], res := (RB r3), G' := [] }, dec := some false }], r0] (by kernel_rfl) (P1 (ci_IsHex hr1) <| P2 (r1 = true) (h2) <| P1 (ci_IsHex hr3) <| P2 (r3 = false) (eqF h4) <| P0)))
  (fun h2 H =>
    eW Ri_MirrorHex (fun _ => []) H <| gE func13 [rg [{ i := 1, call := some { cl := true, auto := true, ins := [], res := (RB r1), G' := [] }, dec := some false }], r0] (by kernel_rfl) (P1 (ci_IsHex hr1) <| P2 (r1 = false) (eqF h2) <| P0))
/-! loop example/g00886/spec MirrorHex -/
def Rs_MirrorHex (r : Gi_Hex × Bool) : List D := [.agg [I r.1.Q, I r.1.R], .bool r.2]
theorem cs_MirrorHex {a0 : Gi_Hex} {a1 : Gi_Hex} {r : Gi_Hex × Bool} (H : Ds_MirrorHex a0 a1 = some r) : Ct X.P X.gl 14 [.agg [I a0.Q, I a0.R], .agg [I a1.Q, I a1.R]] [] (Rs_MirrorHex r) [] :=
  Ct.of func14 (c := bdy f14) (by kernel_rfl) (by kernel_rfl) <|
  eBind H fun r1 hr1 H =>
  gS [r0] (by kernel_rfl) P0 <|
  eIf H (fun h2 H =>
    eBind H fun r3 hr3 H =>
    eIf H (fun h4 H =>
      eBind H fun r5 hr5 H =>
      eW Rs_MirrorHex (fun _ => []) H <| gE func14 [rg [{ i := 1, call := some { cl := true, auto := true, ins := [], res := (RB r1), G' := [] }, dec := some true }, { i := 5, call := some { cl := true, auto := true, ins := [], res := (RB r3), G' := [] }, dec := some true }], rg [hC 17 true [] (Rs_hIf r5) []]] (by kernel_rfl) (P1 (cs_hGood hr1) <| P2 (r1 = true) (h2) <| P1 (cs_hGood hr3) <| P2 (r3 = true) (h4) <| P1 (cs_hIf hr5) <| P0))
    (fun h4 H =>
      eW Rs_MirrorHex (fun _ => []) H <| gE func14 [rg [{ i := 1, call := some { cl := true, auto := true, ins := [], res := (RB r1), G' := [] }, dec := some true }, { i := 5, call := some { cl := true, auto := true, ins := [], res := (RB r3), G' := [] }, dec := some false }], r0] (by kernel_rfl) (P1 (cs_hGood hr1) <| P2 (r1 = true) (h2) <| P1 (cs_hGood hr3) <| P2 (r3 = false) (eqF h4) <| P0)))
  (fun h2 H =>
    eW Rs_MirrorHex (fun _ => []) H <| gE func14 [rg [{ i := 1, call := some { cl := true, auto := true, ins := [], res := (RB r1), G' := [] }, dec := some false }], r0] (by kernel_rfl) (P1 (cs_hGood hr1) <| P2 (r1 = false) (eqF h2) <| P0))
/-! loop example/g00886/impl absOf -/
theorem ci_absOf {a0 : Int} {r : Int} (H : Di_absOf a0 = some r) : Ct X.P X.gl 52 [I a0] [] (RI r) [] :=
  Ct.of func52 (c := bdy f52) (by kernel_rfl) (by kernel_rfl) <|
  gS [r0] (by kernel_rfl) P0 <|
  eIf H (fun h1 H =>
    eW RI (fun _ => []) H <| gE func52 [rg [hT 1], r0] (by kernel_rfl) (P2 ((decide (a0 < 0)) = true) (decide_eq_true h1) <| P0))
  (fun h1 H =>
    eW RI (fun _ => []) H <| gE func52 [rg [hF 1], r0] (by kernel_rfl) (P2 ((decide (a0 < 0)) = false) (decide_eq_false h1) <| P0))
/-! loop example/g00886/impl distance -/
theorem ci_distance {a0 : Gi_Hex} {a1 : Gi_Hex} {r : Int} (H : Di_distance a0 a1 = some r) : Ct X.P X.gl 41 [.agg [I a0.Q, I a0.R], .agg [I a1.Q, I a1.R]] [] (RI r) [] :=
  Ct.of func41 (c := bdy f41) (by kernel_rfl) (by kernel_rfl) <|
  eBind H fun r1 hr1 H =>
  eBind H fun r2 hr2 H =>
  eBind H fun r3 hr3 H =>
  eW RI (fun _ => []) H <| gE func41 [r0, r0, rg [hC 1 true [] (RI r1) [], hC 3 true [] (RI r2) [], hC 8 true [] (RI r3) []]] (by kernel_rfl) (P1 (ci_absOf hr1) <| P1 (ci_absOf hr2) <| P1 (ci_absOf hr3) <| P2 (¬ (2 : Int) = 0) (by decide) <| P0)
/-! loop example/g00886/impl DistanceOf -/
def Ri_DistanceOf (r : Int × Bool) : List D := [I r.1, .bool r.2]
theorem ci_DistanceOf {a0 : Gi_Hex} {a1 : Gi_Hex} {r : Int × Bool} (H : Di_DistanceOf a0 a1 = some r) : Ct X.P X.gl 15 [.agg [I a0.Q, I a0.R], .agg [I a1.Q, I a1.R]] [] (Ri_DistanceOf r) [] :=
  Ct.of func15 (c := bdy f15) (by kernel_rfl) (by kernel_rfl) <|
  eBind H fun r1 hr1 H =>
  gS [r0] (by kernel_rfl) P0 <|
  eIf H (fun h2 H =>
    eBind H fun r3 hr3 H =>
    eIf H (fun h4 H =>
      eBind H fun r5 hr5 H =>
      eW Ri_DistanceOf (fun _ => []) H <| gE func15 [rg [{ i := 1, call := some { cl := true, auto := true, ins := [], res := (RB r1), G' := [] }, dec := some true }, { i := 5, call := some { cl := true, auto := true, ins := [], res := (RB r3), G' := [] }, dec := some true }], rg [hC 2 true [] (RI r5) []]] (by kernel_rfl) (P1 (ci_IsHex hr1) <| P2 (r1 = true) (h2) <| P1 (ci_IsHex hr3) <| P2 (r3 = true) (h4) <| P1 (ci_distance hr5) <| P0))
    (fun h4 H =>
      eW Ri_DistanceOf (fun _ => []) H <| gE func15 [rg [{ i := 1, call := some { cl := true, auto := true, ins := [], res := (RB r1), G' := [] }, dec := some true }, { i := 5, call := some { cl := true, auto := true, ins := [], res := (RB r3), G' := [] }, dec := some false }], r0] (by kernel_rfl) (P1 (ci_IsHex hr1) <| P2 (r1 = true) (h2) <| P1 (ci_IsHex hr3) <| P2 (r3 = false) (eqF h4) <| P0)))
  (fun h2 H =>
    eW Ri_DistanceOf (fun _ => []) H <| gE func15 [rg [{ i := 1, call := some { cl := true, auto := true, ins := [], res := (RB r1), G' := [] }, dec := some false }], r0] (by kernel_rfl) (P1 (ci_IsHex hr1) <| P2 (r1 = false) (eqF h2) <| P0))
/-! loop example/g00886/spec l1Most -/
theorem cs_l1Most {a0 : Int} {a1 : Int} {r : Int} (H : Ds_l1Most a0 a1 = some r) : Ct X.P X.gl 54 [I a0, I a1] [] (RI r) [] :=
  Ct.of func54 (c := bdy f54) (by kernel_rfl) (by kernel_rfl) <|
  gS [r0] (by kernel_rfl) P0 <|
  eIf H (fun h1 H =>
    eW RI (fun _ => []) H <| gE func54 [rg [hT 2], r0] (by kernel_rfl) (P2 ((decide (a0 > a1)) = true) (decide_eq_true h1) <| P0))
  (fun h1 H =>
    eW RI (fun _ => []) H <| gE func54 [rg [hF 2], r0] (by kernel_rfl) (P2 ((decide (a0 > a1)) = false) (decide_eq_false h1) <| P0))
/-! loop example/g00886/spec l1Abs -/
theorem cs_l1Abs {a0 : Int} {r : Int} (H : Ds_l1Abs a0 = some r) : Ct X.P X.gl 53 [I a0] [] (RI r) [] :=
  Ct.of func53 (c := bdy f53) (by kernel_rfl) (by kernel_rfl) <|
  eBind H fun r1 hr1 H =>
  eW RI (fun _ => []) H <| gE func53 [r0, rg [hC 3 true [] (RI r1) []]] (by kernel_rfl) (P1 (cs_l1Most hr1) <| P0)
/-! loop example/g00886/spec hDistance -/
theorem cs_hDistance {a0 : Gi_Hex} {a1 : Gi_Hex} {r : Int} (H : Ds_hDistance a0 a1 = some r) : Ct X.P X.gl 42 [.agg [I a0.Q, I a0.R], .agg [I a1.Q, I a1.R]] [] (RI r) [] :=
  Ct.of func42 (c := bdy f42) (by kernel_rfl) (by kernel_rfl) <|
  eBind H fun r1 hr1 H =>
  eBind H fun r2 hr2 H =>
  eBind H fun r3 hr3 H =>
  eW RI (fun _ => []) H <| gE func42 [r0, r0, rg [hC 1 true [] (RI r1) [], hC 3 true [] (RI r2) [], hC 8 true [] (RI r3) []]] (by kernel_rfl) (P1 (cs_l1Abs hr1) <| P1 (cs_l1Abs hr2) <| P1 (cs_l1Abs hr3) <| P2 (¬ (2 : Int) = 0) (by decide) <| P0)
/-! loop example/g00886/spec DistanceOf -/
def Rs_DistanceOf (r : Int × Bool) : List D := [I r.1, .bool r.2]
theorem cs_DistanceOf {a0 : Gi_Hex} {a1 : Gi_Hex} {r : Int × Bool} (H : Ds_DistanceOf a0 a1 = some r) : Ct X.P X.gl 16 [.agg [I a0.Q, I a0.R], .agg [I a1.Q, I a1.R]] [] (Rs_DistanceOf r) [] :=
  Ct.of func16 (c := bdy f16) (by kernel_rfl) (by kernel_rfl) <|
  eBind H fun r1 hr1 H =>
  gS [r0] (by kernel_rfl) P0 <|
  eIf H (fun h2 H =>
    eBind H fun r3 hr3 H =>
    eIf H (fun h4 H =>
      eBind H fun r5 hr5 H =>
      eW Rs_DistanceOf (fun _ => []) H <| gE func16 [rg [{ i := 1, call := some { cl := true, auto := true, ins := [], res := (RB r1), G' := [] }, dec := some true }, { i := 5, call := some { cl := true, auto := true, ins := [], res := (RB r3), G' := [] }, dec := some true }], rg [hC 2 true [] (RI r5) []]] (by kernel_rfl) (P1 (cs_hGood hr1) <| P2 (r1 = true) (h2) <| P1 (cs_hGood hr3) <| P2 (r3 = true) (h4) <| P1 (cs_hDistance hr5) <| P0))
    (fun h4 H =>
      eW Rs_DistanceOf (fun _ => []) H <| gE func16 [rg [{ i := 1, call := some { cl := true, auto := true, ins := [], res := (RB r1), G' := [] }, dec := some true }, { i := 5, call := some { cl := true, auto := true, ins := [], res := (RB r3), G' := [] }, dec := some false }], r0] (by kernel_rfl) (P1 (cs_hGood hr1) <| P2 (r1 = true) (h2) <| P1 (cs_hGood hr3) <| P2 (r3 = false) (eqF h4) <| P0)))
  (fun h2 H =>
    eW Rs_DistanceOf (fun _ => []) H <| gE func16 [rg [{ i := 1, call := some { cl := true, auto := true, ins := [], res := (RB r1), G' := [] }, dec := some false }], r0] (by kernel_rfl) (P1 (cs_hGood hr1) <| P2 (r1 = false) (eqF h2) <| P0))
/-! loop example/g00886/laws FnSteps -/
noncomputable def Kw_FnSteps : Sw_FnSteps → List Item
  | .h1 .. => nav 300 10 [false, false, true, false] [.code (bdy f3)]
  | .h2 .. => nav 300 22 [false, false, true, false, false, false, true, false] [.code (bdy f3)]
def Zw_FnSteps : Sw_FnSteps → St
  | .h1 t0 => ⟨sts 190 [(1, sl 1 (D.int .u8) t0)], []⟩
  | .h2 t0 t1 b2 b3 => ⟨sts 190 [(16, .ptr 0 2 0 0), (22, .ptr 1 2 0 0), (23, .bool t0), (28, I t1)], [some ⟨false, true, 2, 1, [.agg [I b2.Q, I b2.R]]⟩, some ⟨false, true, 2, 1, [.agg [I b3.Q, I b3.R]]⟩]⟩
abbrev Qw_FnSteps := Nx X 3 0 Kw_FnSteps Zw_FnSteps RB (fun _ => [])
theorem nw_FnSteps : ∀ s o, Bw_FnSteps s = some o → Qw_FnSteps (Kw_FnSteps s) (Zw_FnSteps s) o
  | .h1 t0, o, H =>
    eBind H fun r1 hr1 H =>
    eBind H fun r2 hr2 H =>
    gN [rg [hC 1 true [] (Rs_DrawTurnHex r1) []]] (by kernel_rfl) (P1 (cs_DrawTurnHex hr1) <| P0) <|
    eIf H (fun h3 H =>
      eBind H fun r4 hr4 H =>
      eBind H fun r5 hr5 H =>
      eBind H fun r6 hr6 H =>
      gN [rg [hC 3 true [] (Ri_TurnHex r2) [], hT 6], rg [hC 3 true [] (Rs_TurnHex r4) []], rg [hC 2 true [] (Ri_MirrorHex r5) []], rg [hC 2 true [] (Rs_MirrorHex r6) []]] (by kernel_rfl) (P1 (ci_TurnHex hr2) <| P2 (r2.2 = true) (h3) <| P1 (cs_TurnHex hr4) <| P1 (ci_MirrorHex hr5) <| P1 (cs_MirrorHex hr6) <| P0) <|
      eIf H (fun h7 H =>
        eN H <| gE func3 [rg [hT 2], r0] (by kernel_rfl) (P2 ((!(true == r4.2)) = true) (h7) <| P0))
      (fun h7 H =>
        eIf H (fun h8 H =>
          eN H <| gE func3 [rg [hF 2, hT 6], r0] (by kernel_rfl) (P2 ((!(true == r4.2)) = false) (eqF h7) <| P2 ((!((r2.1.Q == r4.1.Q) && (r2.1.R == r4.1.R))) = true) (h8) <| P0))
        (fun h8 H =>
          eIf H (fun h9 H =>
            eN H <| gE func3 [rg [hF 2, hF 6, hT 11], r0] (by kernel_rfl) (P2 ((!(true == r4.2)) = false) (eqF h7) <| P2 ((!((r2.1.Q == r4.1.Q) && (r2.1.R == r4.1.R))) = false) (eqF h8) <| P2 ((!(r5.2 == r6.2)) = true) (h9) <| P0))
          (fun h9 H =>
            eIf H (fun h10 H =>
              eN H <| gE func3 [rg [hF 2, hF 6, hF 11, hT 16], r0] (by kernel_rfl) (P2 ((!(true == r4.2)) = false) (eqF h7) <| P2 ((!((r2.1.Q == r4.1.Q) && (r2.1.R == r4.1.R))) = false) (eqF h8) <| P2 ((!(r5.2 == r6.2)) = false) (eqF h9) <| P2 ((!((r5.1.Q == r6.1.Q) && (r5.1.R == r6.1.R))) = true) (h10) <| P0))
            (fun h10 H =>
              eBind H fun r11 hr11 H =>
              eBind H fun r12 hr12 H =>
              gN [rg [hF 2, hF 6, hF 11, hF 16], rg [hC 2 true [] (Ri_DistanceOf r11) []], rg [hC 2 true [] (Rs_DistanceOf r12) []]] (by kernel_rfl) (P2 ((!(true == r4.2)) = false) (eqF h7) <| P2 ((!((r2.1.Q == r4.1.Q) && (r2.1.R == r4.1.R))) = false) (eqF h8) <| P2 ((!(r5.2 == r6.2)) = false) (eqF h9) <| P2 ((!((r5.1.Q == r6.1.Q) && (r5.1.R == r6.1.R))) = false) (eqF h10) <| P1 (ci_DistanceOf hr11) <| P1 (cs_DistanceOf hr12) <| P0) <|
              eIf H (fun h13 H =>
                eN H <| gE func3 [rg [hT 2], r0] (by kernel_rfl) (P2 ((!(r11.2 == r12.2)) = true) (h13) <| P0))
              (fun h13 H =>
                eIf H (fun h14 H =>
                  eBind H fun r15 hr15 H =>
                  gN [rg [hF 2, hF 6], r0] (by kernel_rfl) (P2 ((!(r11.2 == r12.2)) = false) (eqF h13) <| P2 (((r11.1 : Int) != r12.1) = false) (bneF h14) <| P0) <|
                  eIf H (fun h16 H =>
                    gN [rg [hC 2 true [] (Ri_DistanceOf r15) [], hT 5]] (by kernel_rfl) (P1 (ci_DistanceOf hr15) <| P2 (r15.2 = true) (h16) <| P0) <|
                    eIf H (fun h17 H =>
                      eN H fun r hn => gO [rg [hF 5], .canon [1, 4] [16, 22, 23, 28]] (by kernel_rfl) (P2 (((r15.1 : Int) != r12.1) = false) (bneF h17) <| P0) hn)
                    (fun h17 H =>
                      eN H <| gE func3 [rg [hT 5], r0] (by kernel_rfl) (P2 (((r15.1 : Int) != r12.1) = true) (bneT h17) <| P0)))
                  (fun h16 H =>
                    eN H <| gE func3 [rg [hC 2 true [] (Ri_DistanceOf r15) [], hF 5], r0, r0] (by kernel_rfl) (P1 (ci_DistanceOf hr15) <| P2 (r15.2 = false) (eqF h16) <| P0)))
                (fun h14 H =>
                  eN H <| gE func3 [rg [hF 2, hT 6], r0] (by kernel_rfl) (P2 ((!(r11.2 == r12.2)) = false) (eqF h13) <| P2 (((r11.1 : Int) != r12.1) = true) (bneT h14) <| P0))))))))
    (fun h3 H =>
      eBind H fun r4 hr4 H =>
      eBind H fun r5 hr5 H =>
      eBind H fun r6 hr6 H =>
      gN [rg [hC 3 true [] (Ri_TurnHex r2) [], hF 6], rg [hC 3 true [] (Rs_TurnHex r4) []], rg [hC 2 true [] (Ri_MirrorHex r5) []], rg [hC 2 true [] (Rs_MirrorHex r6) []]] (by kernel_rfl) (P1 (ci_TurnHex hr2) <| P2 (r2.2 = false) (eqF h3) <| P1 (cs_TurnHex hr4) <| P1 (ci_MirrorHex hr5) <| P1 (cs_MirrorHex hr6) <| P0) <|
      eIf H (fun h7 H =>
        eN H <| gE func3 [rg [hT 2], r0] (by kernel_rfl) (P2 ((!(false == r4.2)) = true) (h7) <| P0))
      (fun h7 H =>
        eIf H (fun h8 H =>
          eN H <| gE func3 [rg [hF 2, hT 6], r0] (by kernel_rfl) (P2 ((!(false == r4.2)) = false) (eqF h7) <| P2 ((!((r2.1.Q == r4.1.Q) && (r2.1.R == r4.1.R))) = true) (h8) <| P0))
        (fun h8 H =>
          eIf H (fun h9 H =>
            eN H <| gE func3 [rg [hF 2, hF 6, hT 11], r0] (by kernel_rfl) (P2 ((!(false == r4.2)) = false) (eqF h7) <| P2 ((!((r2.1.Q == r4.1.Q) && (r2.1.R == r4.1.R))) = false) (eqF h8) <| P2 ((!(r5.2 == r6.2)) = true) (h9) <| P0))
          (fun h9 H =>
            eIf H (fun h10 H =>
              eN H <| gE func3 [rg [hF 2, hF 6, hF 11, hT 16], r0] (by kernel_rfl) (P2 ((!(false == r4.2)) = false) (eqF h7) <| P2 ((!((r2.1.Q == r4.1.Q) && (r2.1.R == r4.1.R))) = false) (eqF h8) <| P2 ((!(r5.2 == r6.2)) = false) (eqF h9) <| P2 ((!((r5.1.Q == r6.1.Q) && (r5.1.R == r6.1.R))) = true) (h10) <| P0))
            (fun h10 H =>
              eBind H fun r11 hr11 H =>
              eBind H fun r12 hr12 H =>
              gN [rg [hF 2, hF 6, hF 11, hF 16], rg [hC 2 true [] (Ri_DistanceOf r11) []], rg [hC 2 true [] (Rs_DistanceOf r12) []]] (by kernel_rfl) (P2 ((!(false == r4.2)) = false) (eqF h7) <| P2 ((!((r2.1.Q == r4.1.Q) && (r2.1.R == r4.1.R))) = false) (eqF h8) <| P2 ((!(r5.2 == r6.2)) = false) (eqF h9) <| P2 ((!((r5.1.Q == r6.1.Q) && (r5.1.R == r6.1.R))) = false) (eqF h10) <| P1 (ci_DistanceOf hr11) <| P1 (cs_DistanceOf hr12) <| P0) <|
              eIf H (fun h13 H =>
                eN H <| gE func3 [rg [hT 2], r0] (by kernel_rfl) (P2 ((!(r11.2 == r12.2)) = true) (h13) <| P0))
              (fun h13 H =>
                eIf H (fun h14 H =>
                  eN H fun r hn => gO [rg [hF 2, hF 6], r0, .canon [1, 4] [16, 22, 23, 28]] (by kernel_rfl) (P2 ((!(r11.2 == r12.2)) = false) (eqF h13) <| P2 (((r11.1 : Int) != r12.1) = false) (bneF h14) <| P0) hn)
                (fun h14 H =>
                  eN H <| gE func3 [rg [hF 2, hT 6], r0] (by kernel_rfl) (P2 ((!(r11.2 == r12.2)) = false) (eqF h13) <| P2 (((r11.1 : Int) != r12.1) = true) (bneT h14) <| P0))))))))
  | .h2 true t1 b2 b3, o, H =>
    eBind H fun r1 hr1 H =>
    gN [r0] (by kernel_rfl) P0 <|
    eIf H (fun h2 H =>
      eN H <| gE func3 [rg [hC 2 true [] (Ri_DistanceOf r1) [], hT 5], r0] (by kernel_rfl) (P1 (ci_DistanceOf hr1) <| P2 (r1.2 = true) (h2) <| P0))
    (fun h2 H =>
      eN H <| gE func3 [rg [hC 2 true [] (Ri_DistanceOf r1) [], hF 5], r0] (by kernel_rfl) (P1 (ci_DistanceOf hr1) <| P2 (r1.2 = false) (eqF h2) <| P0))
  | .h2 false t1 b2 b3, o, H =>
    eN H <| gE func3 [r0, r0] (by kernel_rfl) P0
theorem ww_FnSteps : ∀ s r, loop Bw_FnSteps s = some r → Wc X 3 0 (Kw_FnSteps s) (Zw_FnSteps s) (RB r) ((fun _ => []) r) := Nx.all nw_FnSteps
theorem cw_FnSteps {a0 : (List Int)} {a1 : (List Int)} {r : Bool} (H : Dw_FnSteps a0 a1 = some r) : Ct X.P X.gl 3 [sl 1 (D.int .u8) a0, sl 1 (D.int .u8) a1] [] (RB r) [] :=
  Ct.of func3 (c := bdy f3) (by kernel_rfl) (by kernel_rfl) <|
  eBind H fun r1 hr1 H =>
  gS [r0] (by kernel_rfl) P0 <|
  eIf H (fun h2 H =>
    eW RB (fun _ => []) H <| gE func3 [rg [{ i := 2, call := some { cl := true, auto := true, ins := [], res := (RB r1), G' := [] }, dec := some true }], r0] (by kernel_rfl) (P1 (cw_big hr1) <| P2 (r1 = true) (h2) <| P0))
  (fun h2 H =>
    eBind H fun r3 hr3 H =>
    eBind H fun r4 hr4 H =>
    gS [rg [{ i := 2, call := some { cl := true, auto := true, ins := [], res := (RB r1), G' := [] }, dec := some false }], rg [hC 1 true [] (Rs_DrawDirectionTo r3) []]] (by kernel_rfl) (P1 (cw_big hr1) <| P2 (r1 = false) (eqF h2) <| P1 (cs_DrawDirectionTo hr3) <| P0) <|
    eIf H (fun h5 H =>
      eBind H fun r6 hr6 H =>
      gS [rg [hC 2 true [] (Ri_DirectionTo r4) [], hT 5], rg [hC 2 true [] (Rs_DirectionTo r6) []]] (by kernel_rfl) (P1 (ci_DirectionTo hr4) <| P2 (r4.2 = true) (h5) <| P1 (cs_DirectionTo hr6) <| P0) <|
      eIf H (fun h7 H =>
        eW RB (fun _ => []) H <| gE func3 [rg [hT 2], r0] (by kernel_rfl) (P2 ((!(true == r6.2)) = true) (h7) <| P0))
      (fun h7 H =>
        eIf H (fun h8 H =>
          eBind H fun r9 hr9 H =>
          gS [rg [hF 2, hF 6], r0] (by kernel_rfl) (P2 ((!(true == r6.2)) = false) (eqF h7) <| P2 (((r4.1 : Int) != r6.1) = false) (bneF h8) <| P0) <|
          eIf H (fun h10 H =>
            eBind H fun r11 hr11 H =>
            gS [rg [hC 2 true [] (Ri_NeighbourOf r9) [], hT 5]] (by kernel_rfl) (P1 (ci_NeighbourOf hr9) <| P2 (r9.2 = true) (h10) <| P0) <|
            eIf H (fun h12 H =>
              gS [rg [hC 2 true [] (Ri_DirectionTo r11) [], hT 5]] (by kernel_rfl) (P1 (ci_DirectionTo hr11) <| P2 (r11.2 = true) (h12) <| P0) <|
              eIf H (fun h13 H =>
                eW RB (fun _ => []) H <| gE func3 [rg [hT 5], r0] (by kernel_rfl) (P2 ((!((r9.1.Q == r3.2.Q) && (r9.1.R == r3.2.R))) = true) (h13) <| P0))
              (fun h13 H =>
                eIf H (fun h14 H =>
                  gO [rg [hF 5, hF 16], .canon [] [1]] (by kernel_rfl) (P2 ((!((r9.1.Q == r3.2.Q) && (r9.1.R == r3.2.R))) = false) (eqF h13) <| P2 (¬ (6 : Int) = 0) (by decide) <| P2 (((r11.1 : Int) != (Int.tmod (IntKind.wrap .i64 (r6.1 + 3)) 6)) = false) (bneF h14) <| P0) (ww_FnSteps _ _ H))
                (fun h14 H =>
                  eW RB (fun _ => []) H <| gE func3 [rg [hF 5, hT 16], r0] (by kernel_rfl) (P2 ((!((r9.1.Q == r3.2.Q) && (r9.1.R == r3.2.R))) = false) (eqF h13) <| P2 (¬ (6 : Int) = 0) (by decide) <| P2 (((r11.1 : Int) != (Int.tmod (IntKind.wrap .i64 (r6.1 + 3)) 6)) = true) (bneT h14) <| P0))))
            (fun h12 H =>
              gS [rg [hC 2 true [] (Ri_DirectionTo r11) [], hF 5]] (by kernel_rfl) (P1 (ci_DirectionTo hr11) <| P2 (r11.2 = false) (eqF h12) <| P0) <|
              eIf H (fun h13 H =>
                eW RB (fun _ => []) H <| gE func3 [rg [hT 5], r0] (by kernel_rfl) (P2 ((!((r9.1.Q == r3.2.Q) && (r9.1.R == r3.2.R))) = true) (h13) <| P0))
              (fun h13 H =>
                eW RB (fun _ => []) H <| gE func3 [rg [hF 5], r0] (by kernel_rfl) (P2 ((!((r9.1.Q == r3.2.Q) && (r9.1.R == r3.2.R))) = false) (eqF h13) <| P0))))
          (fun h10 H =>
            eBind H fun r11 hr11 H =>
            gS [rg [hC 2 true [] (Ri_NeighbourOf r9) [], hF 5]] (by kernel_rfl) (P1 (ci_NeighbourOf hr9) <| P2 (r9.2 = false) (eqF h10) <| P0) <|
            eIf H (fun h12 H =>
              eW RB (fun _ => []) H <| gE func3 [rg [hC 2 true [] (Ri_DirectionTo r11) [], hT 5], r0, r0] (by kernel_rfl) (P1 (ci_DirectionTo hr11) <| P2 (r11.2 = true) (h12) <| P0))
            (fun h12 H =>
              eW RB (fun _ => []) H <| gE func3 [rg [hC 2 true [] (Ri_DirectionTo r11) [], hF 5], r0, r0] (by kernel_rfl) (P1 (ci_DirectionTo hr11) <| P2 (r11.2 = false) (eqF h12) <| P0))))
        (fun h8 H =>
          eW RB (fun _ => []) H <| gE func3 [rg [hF 2, hT 6], r0] (by kernel_rfl) (P2 ((!(true == r6.2)) = false) (eqF h7) <| P2 (((r4.1 : Int) != r6.1) = true) (bneT h8) <| P0))))
    (fun h5 H =>
      eBind H fun r6 hr6 H =>
      gS [rg [hC 2 true [] (Ri_DirectionTo r4) [], hF 5], rg [hC 2 true [] (Rs_DirectionTo r6) []]] (by kernel_rfl) (P1 (ci_DirectionTo hr4) <| P2 (r4.2 = false) (eqF h5) <| P1 (cs_DirectionTo hr6) <| P0) <|
      eIf H (fun h7 H =>
        eW RB (fun _ => []) H <| gE func3 [rg [hT 2], r0] (by kernel_rfl) (P2 ((!(false == r6.2)) = true) (h7) <| P0))
      (fun h7 H =>
        eIf H (fun h8 H =>
          gO [rg [hF 2, hF 6], r0, .canon [] [1]] (by kernel_rfl) (P2 ((!(false == r6.2)) = false) (eqF h7) <| P2 (((r4.1 : Int) != r6.1) = false) (bneF h8) <| P0) (ww_FnSteps _ _ H))
        (fun h8 H =>
          eW RB (fun _ => []) H <| gE func3 [rg [hF 2, hT 6], r0] (by kernel_rfl) (P2 ((!(false == r6.2)) = false) (eqF h7) <| P2 (((r4.1 : Int) != r6.1) = true) (bneT h8) <| P0)))))
end Go.Proofs.YtlniejjcejackaaDoor.Ab
