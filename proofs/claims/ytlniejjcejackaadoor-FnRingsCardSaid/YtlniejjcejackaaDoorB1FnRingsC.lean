/- Part of the proof of FnRingsCard: no condition of its own. -/
import Derived.Test.YtlniejjcejackaaDoorChecked
import Derived.Test.YtlniejjcejackaaDoorB1FnRingsD
set_option linter.unusedVariables false
set_option linter.unusedSimpArgs false
open Go Go.Proofs Go.Proofs.Tryd
namespace Go.Proofs.YtlniejjcejackaaDoor.Ab
def T : Tab := [(3, ⟨(Ab.TK.int IntKind.i64), 1, 8, (Ab.D.int IntKind.i64 (Int.ofNat 0))⟩),
  (4, ⟨Ab.TK.bool, 1, 1, (Ab.D.bool Bool.false)⟩),
  (5, ⟨(Ab.TK.int IntKind.u8), 1, 1, (Ab.D.int IntKind.u8 (Int.ofNat 0))⟩),
  (22, ⟨(Ab.TK.slice 5), 1, 24, Ab.D.nil⟩),
  (25, ⟨(Ab.TK.strct [(Ab.FI.mk 0 1 Bool.false), (Ab.FI.mk 1 1 Bool.false)] (Option.some [(Ab.LK.int IntKind.i64), (Ab.LK.int IntKind.i64)])), 2, 16, (Ab.D.agg [(Ab.D.int IntKind.i64 (Int.ofNat 0)), (Ab.D.int IntKind.i64 (Int.ofNat 0))])⟩),
  (38, ⟨(Ab.TK.slice 25), 1, 24, Ab.D.nil⟩),
  (42, ⟨(Ab.TK.slice 3), 1, 24, Ab.D.nil⟩),
  (50, ⟨(Ab.TK.int IntKind.u64), 1, 8, (Ab.D.int IntKind.u64 (Int.ofNat 0))⟩),
  (52, ⟨(Ab.TK.strct [(Ab.FI.mk 0 1 Bool.false), (Ab.FI.mk 1 1 Bool.false), (Ab.FI.mk 2 1 Bool.false)] Option.none), 3, 40, (Ab.D.agg [Ab.D.nil, (Ab.D.int IntKind.i64 (Int.ofNat 0)), (Ab.D.int IntKind.u64 (Int.ofNat 0))])⟩),
  (58, ⟨(Ab.TK.arr 6 25), 12, 96, (Ab.D.agg [(Ab.D.int IntKind.i64 (Int.ofNat 0)), (Ab.D.int IntKind.i64 (Int.ofNat 0)), (Ab.D.int IntKind.i64 (Int.ofNat 0)), (Ab.D.int IntKind.i64 (Int.ofNat 0)), (Ab.D.int IntKind.i64 (Int.ofNat 0)), (Ab.D.int IntKind.i64 (Int.ofNat 0)), (Ab.D.int IntKind.i64 (Int.ofNat 0)), (Ab.D.int IntKind.i64 (Int.ofNat 0)), (Ab.D.int IntKind.i64 (Int.ofNat 0)), (Ab.D.int IntKind.i64 (Int.ofNat 0)), (Ab.D.int IntKind.i64 (Int.ofNat 0)), (Ab.D.int IntKind.i64 (Int.ofNat 0))])⟩)]
noncomputable def X : Ctx := ⟨Go.Proofs.Tryd.prog, T, [(0, .fptr 12 gc0 0 0)]⟩
theorem T_ok : TabOK X.P X.T := ⟨by kernel_rfl, by kernel_rfl, by kernel_rfl, by kernel_rfl, by kernel_rfl, by kernel_rfl, by kernel_rfl, by kernel_rfl, by kernel_rfl, by kernel_rfl, trivial⟩
theorem mixed : X.P.follows .mixedOrders = true := Go.Proofs.Tryd.checked.mixed
theorem gO {f : FuncId} {M : Nat} {k k' : List Item} {σ σ' : St} {res : List D} {G' : List Root} (cmds : List Cmd) {ps : List Prop} (h : run X M cmds k σ = some (ps, k', σ')) (hp : AllP ps) (hk : Wc X f M k' σ' res G') : Wc X f M k σ res G' := run_ok T_ok mixed h hp hk
theorem gE {f : FuncId} {M : Nat} {k : List Item} {σ : St} {res : List D} {G' : List Root} {fn : Func} (hf : X.P.funcs[f]? = some fn) (cmds : List Cmd) {ps : List Prop} (h : runFinC X M cmds k σ fn.results.toList res = some (ps, res, G')) (hp : AllP ps) : Wc X f M k σ res G' := runFinC_ok T_ok mixed hf h hp
theorem gS {f : FuncId} {M : Nat} {k : List Item} {σ : St} {res : List D} {G' : List Root} (cmds : List Cmd) {ps : List Prop} (h : runP X M cmds k σ = some ps) (hp : AllP ps) (hk : Wc X f M (runK X M cmds k σ) (runS X M cmds k σ) res G') : Wc X f M k σ res G' := seg_ok T_ok mixed cmds h hp hk
theorem gN {ς ρ : Type} {f : FuncId} {M : Nat} {K : ς → List Item} {Z : ς → St} {R : ρ → List D} {G : ρ → List Root} {k : List Item} {σ : St} {o : ς ⊕ ρ} (cmds : List Cmd) {ps : List Prop} (h : runP X M cmds k σ = some ps) (hp : AllP ps) (hk : Nx X f M K Z R G (runK X M cmds k σ) (runS X M cmds k σ) o) : Nx X f M K Z R G k σ o := segN_ok T_ok mixed cmds h hp hk
theorem nf_25 : ∀ x, (gi_Hex x).nf := fun x => by simp [gi_Hex, D.nf, nfL]
/-! loop example/g00886/laws big -/
theorem cw_big {a0 : (List Int)} {a1 : (List Int)} {r : Bool} (H : Dw_big a0 a1 = some r) : Ct X.P X.gl 5 [sl 1 (D.int .u8) a0, sl 1 (D.int .u8) a1] [] (RB r) [] :=
  Ct.of func5 (c := bdy f5) (by kernel_rfl) (by kernel_rfl) <|
  gS [r0] (by kernel_rfl) P0 <|
  eIf H (fun h1 H =>
    eW RB (fun _ => []) H <| gE func5 [rg [hT 2]] (by kernel_rfl) (P2 ((decide (((a0.length : Nat) : Int) > 1048576)) = true) (decide_eq_true h1) <| P0))
  (fun h1 H =>
    eW RB (fun _ => []) H <| gE func5 [rg [hF 2]] (by kernel_rfl) (P2 ((decide (((a0.length : Nat) : Int) > 1048576)) = false) (decide_eq_false h1) <| P0))
/-!   loop example/g00886/spec l1Cur  next -/
def Rs_l1Cur_next (r : Int × Gs_l1Cur) : List D := [I r.1]
def Ns_l1Cur_next (r : Int × Gs_l1Cur) : List Root := [⟨false, true, 3, 1, [.agg [sl 1 (D.int .u8) r.2.code, I r.2.at_, .int .u64 r.2.seed]]⟩]
theorem cs_l1Cur_next {a0 : Gs_l1Cur} {r : Int × Gs_l1Cur} (H : Ds_l1Cur_next a0 = some r) : Ct X.P X.gl 51 [.ptr 0 3 0 0] [⟨false, true, 3, 1, [.agg [sl 1 (D.int .u8) a0.code, I a0.at_, .int .u64 a0.seed]]⟩] (Rs_l1Cur_next r) (Ns_l1Cur_next r) :=
  Ct.of func51 (c := bdy f51) (by kernel_rfl) (by kernel_rfl) <|
  gS [r0, r0] (by kernel_rfl) P0 <|
  eIf H (fun h1 H =>
    eCk H fun h2 H =>
    eBind H fun x3 hx3 H =>
    gS [rg [hT 9], rg [hE 9 ((D.int .u8) x3)], r0, r0] (by kernel_rfl) (P2 ((decide (a0.at_ < ((a0.code.length : Nat) : Int))) = true) (decide_eq_true h1) <| P1 h2 <| P1 (int_lt_of_at h2 hx3) <| P1 (at_map (D.int .u8) hx3) <| P0) <|
    eIf H (fun h4 H =>
      eW Rs_l1Cur_next Ns_l1Cur_next H <| gE func51 [rg [hT 9], r0] (by kernel_rfl) (P2 ((decide ((IntKind.wrap .i64 (a0.at_ + 1)) ≤ ((a0.code.length : Nat) : Int))) = true) (decide_eq_true h4) <| P0))
    (fun h4 H =>
      eW Rs_l1Cur_next Ns_l1Cur_next H <| gE func51 [rg [hF 9], r0] (by kernel_rfl) (P2 ((decide ((IntKind.wrap .i64 (a0.at_ + 1)) ≤ ((a0.code.length : Nat) : Int))) = false) (decide_eq_false h4) <| P2 ((0 : Int) ≤ 40) (by decide) <| P0)))
  (fun h1 H =>
    gS [rg [hF 9], r0, r0] (by kernel_rfl) (P2 ((decide (a0.at_ < ((a0.code.length : Nat) : Int))) = false) (decide_eq_false h1) <| P0) <|
    eIf H (fun h2 H =>
      eW Rs_l1Cur_next Ns_l1Cur_next H <| gE func51 [rg [hT 9], r0] (by kernel_rfl) (P2 ((decide ((IntKind.wrap .i64 (a0.at_ + 1)) ≤ ((a0.code.length : Nat) : Int))) = true) (decide_eq_true h2) <| P0))
    (fun h2 H =>
      eW Rs_l1Cur_next Ns_l1Cur_next H <| gE func51 [rg [hF 9], r0] (by kernel_rfl) (P2 ((decide ((IntKind.wrap .i64 (a0.at_ + 1)) ≤ ((a0.code.length : Nat) : Int))) = false) (decide_eq_false h2) <| P2 ((0 : Int) ≤ 40) (by decide) <| P0)))
/-!   loop example/g00886/spec l1Cur  pick -/
def Rs_l1Cur_pick (r : Int × Gs_l1Cur) : List D := [I r.1]
def Ns_l1Cur_pick (r : Int × Gs_l1Cur) : List Root := [⟨false, true, 3, 1, [.agg [sl 1 (D.int .u8) r.2.code, I r.2.at_, .int .u64 r.2.seed]]⟩]
theorem cs_l1Cur_pick {a0 : Gs_l1Cur} {a1 : Int} {r : Int × Gs_l1Cur} (H : Ds_l1Cur_pick a0 a1 = some r) : Ct X.P X.gl 32 [.ptr 0 3 0 0, I a1] [⟨false, true, 3, 1, [.agg [sl 1 (D.int .u8) a0.code, I a0.at_, .int .u64 a0.seed]]⟩] (Rs_l1Cur_pick r) (Ns_l1Cur_pick r) :=
  Ct.of func32 (c := bdy f32) (by kernel_rfl) (by kernel_rfl) <|
  gS [r0] (by kernel_rfl) P0 <|
  eIf H (fun h1 H =>
    eW Rs_l1Cur_pick Ns_l1Cur_pick H <| gE func32 [rg [hT 1], r0] (by kernel_rfl) (P2 ((decide (a1 ≤ 1)) = true) (decide_eq_true h1) <| P0))
  (fun h1 H =>
    eBind H fun r2 hr2 H =>
    gS [rg [hF 1], rg [hC 1 true [0] (Rs_l1Cur_next r2) (Ns_l1Cur_next r2)]] (by kernel_rfl) (P2 ((decide (a1 ≤ 1)) = false) (decide_eq_false h1) <| PI (1 : Nat) <| P1 (cs_l1Cur_next hr2) <| P0) <|
    eIf H (fun h3 H =>
      eBind H fun r4 hr4 H =>
      eCk H fun h5 H =>
      eW Rs_l1Cur_pick Ns_l1Cur_pick H <| gE func32 [rg [hT 1], rg [hC 3 true [0] (Rs_l1Cur_next r4) (Ns_l1Cur_next r4)], r0] (by kernel_rfl) (P2 ((decide (a1 > 200)) = true) (decide_eq_true h3) <| PI (1 : Nat) <| P1 (cs_l1Cur_next hr4) <| P2 (¬ (a1 : Int) = 0) h5 <| P0))
    (fun h3 H =>
      eCk H fun h4 H =>
      eW Rs_l1Cur_pick Ns_l1Cur_pick H <| gE func32 [rg [hF 1], r0] (by kernel_rfl) (P2 ((decide (a1 > 200)) = false) (decide_eq_false h3) <| P2 (¬ (a1 : Int) = 0) h4 <| P0)))
/-!   loop example/g00886/spec l1Cur  among -/
def Rs_l1Cur_among (r : Int × Gs_l1Cur) : List D := [I r.1]
def Ns_l1Cur_among (r : Int × Gs_l1Cur) : List Root := [⟨false, true, 3, 1, [.agg [sl 1 (D.int .u8) r.2.code, I r.2.at_, .int .u64 r.2.seed]]⟩]
theorem cs_l1Cur_among {a0 : Gs_l1Cur} {a1 : (List Int)} {r : Int × Gs_l1Cur} (H : Ds_l1Cur_among a0 a1 = some r) : Ct X.P X.gl 48 [.ptr 0 3 0 0, sl 1 I a1] [⟨false, true, 3, 1, [.agg [sl 1 (D.int .u8) a0.code, I a0.at_, .int .u64 a0.seed]]⟩] (Rs_l1Cur_among r) (Ns_l1Cur_among r) :=
  Ct.of func48 (c := bdy f48) (by kernel_rfl) (by kernel_rfl) <|
  eBind H fun r1 hr1 H =>
  eCk H fun h2 H =>
  eBind H fun x3 hx3 H =>
  eW Rs_l1Cur_among Ns_l1Cur_among H <| gE func48 [r0, rg [hC 4 true [0] (Rs_l1Cur_pick r1) (Ns_l1Cur_pick r1), hE 6 (I x3)]] (by kernel_rfl) (PI (1 : Nat) <| P1 (cs_l1Cur_pick hr1) <| P1 h2 <| P1 (int_lt_of_at h2 hx3) <| P1 (at_map I hx3) <| P0)
/-!   loop example/g00886/spec l1Cur  hex -/
def Rs_l1Cur_hex (r : Gi_Hex × Gs_l1Cur) : List D := [.agg [I r.1.Q, I r.1.R]]
def Ns_l1Cur_hex (r : Gi_Hex × Gs_l1Cur) : List Root := [⟨false, true, 3, 1, [.agg [sl 1 (D.int .u8) r.2.code, I r.2.at_, .int .u64 r.2.seed]]⟩]
theorem cs_l1Cur_hex {a0 : Gs_l1Cur} {r : Gi_Hex × Gs_l1Cur} (H : Ds_l1Cur_hex a0 = some r) : Ct X.P X.gl 50 [.ptr 0 3 0 0] [⟨false, true, 3, 1, [.agg [sl 1 (D.int .u8) a0.code, I a0.at_, .int .u64 a0.seed]]⟩] (Rs_l1Cur_hex r) (Ns_l1Cur_hex r) :=
  Ct.of func50 (c := bdy f50) (by kernel_rfl) (by kernel_rfl) <|
  eBind H fun r1 hr1 H =>
  eBind H fun r2 hr2 H =>
  eBind H fun r3 hr3 H =>
  gS [r0, rg [hC 1 true [0] (Rs_l1Cur_pick r1) (Ns_l1Cur_pick r1), hC 4 true [0] (Rs_l1Cur_pick r2) (Ns_l1Cur_pick r2)], rg [hC 1 true [0] (Rs_l1Cur_pick r3) (Ns_l1Cur_pick r3)]] (by kernel_rfl) (PI (1 : Nat) <| P1 (cs_l1Cur_pick hr1) <| PI (1 : Nat) <| P1 (cs_l1Cur_pick hr2) <| PI (1 : Nat) <| P1 (cs_l1Cur_pick hr3) <| P0) <|
  eIf H (fun h4 H =>
    eBind H fun r5 hr5 H =>
    eW Rs_l1Cur_hex Ns_l1Cur_hex H <| gE func50 [rg [hT 0], rg [{ i := 2, frz := [3], call := some { cl := true, auto := true, ins := [0], res := (Rs_l1Cur_among r5), G' := (Ns_l1Cur_among r5) } }], r0] (by kernel_rfl) (P2 (((r3.1 : Int) == 0) = true) (beqT h4) <| PI (1 : Nat) <| P1 (cs_l1Cur_among hr5) <| P0))
  (fun h4 H =>
    gS [rg [hF 0]] (by kernel_rfl) (P2 (((r3.1 : Int) == 0) = false) (beqF h4) <| P0) <|
    eIf H (fun h5 H =>
      eBind H fun r6 hr6 H =>
      eW Rs_l1Cur_hex Ns_l1Cur_hex H <| gE func50 [rg [hT 0], rg [{ i := 2, frz := [3], call := some { cl := true, auto := true, ins := [0], res := (Rs_l1Cur_among r6), G' := (Ns_l1Cur_among r6) } }], r0] (by kernel_rfl) (P2 (((r3.1 : Int) == 1) = true) (beqT h5) <| PI (1 : Nat) <| P1 (cs_l1Cur_among hr6) <| P0))
    (fun h5 H =>
      eW Rs_l1Cur_hex Ns_l1Cur_hex H <| gE func50 [rg [hF 0], r0] (by kernel_rfl) (P2 (((r3.1 : Int) == 1) = false) (beqF h5) <| P0)))
/-!   loop example/g00886/spec l1Cur  one -/
def Rs_l1Cur_one (r : Bool × Gs_l1Cur) : List D := [.bool r.1]
def Ns_l1Cur_one (r : Bool × Gs_l1Cur) : List Root := [⟨false, true, 3, 1, [.agg [sl 1 (D.int .u8) r.2.code, I r.2.at_, .int .u64 r.2.seed]]⟩]
theorem cs_l1Cur_one {a0 : Gs_l1Cur} {a1 : Int} {r : Bool × Gs_l1Cur} (H : Ds_l1Cur_one a0 a1 = some r) : Ct X.P X.gl 30 [.ptr 0 3 0 0, I a1] [⟨false, true, 3, 1, [.agg [sl 1 (D.int .u8) a0.code, I a0.at_, .int .u64 a0.seed]]⟩] (Rs_l1Cur_one r) (Ns_l1Cur_one r) :=
  Ct.of func30 (c := bdy f30) (by kernel_rfl) (by kernel_rfl) <|
  eBind H fun r1 hr1 H =>
  eW Rs_l1Cur_one Ns_l1Cur_one H <| gE func30 [r0, rg [hC 2 true [0] (Rs_l1Cur_pick r1) (Ns_l1Cur_pick r1)]] (by kernel_rfl) (PI (1 : Nat) <| P1 (cs_l1Cur_pick hr1) <| P0)
/-!   loop example/g00886/spec l1Cur  anyHex -/
def Rs_l1Cur_anyHex (r : Gi_Hex × Gs_l1Cur) : List D := [.agg [I r.1.Q, I r.1.R]]
def Ns_l1Cur_anyHex (r : Gi_Hex × Gs_l1Cur) : List Root := [⟨false, true, 3, 1, [.agg [sl 1 (D.int .u8) r.2.code, I r.2.at_, .int .u64 r.2.seed]]⟩]
theorem cs_l1Cur_anyHex {a0 : Gs_l1Cur} {r : Gi_Hex × Gs_l1Cur} (H : Ds_l1Cur_anyHex a0 = some r) : Ct X.P X.gl 29 [.ptr 0 3 0 0] [⟨false, true, 3, 1, [.agg [sl 1 (D.int .u8) a0.code, I a0.at_, .int .u64 a0.seed]]⟩] (Rs_l1Cur_anyHex r) (Ns_l1Cur_anyHex r) :=
  Ct.of func29 (c := bdy f29) (by kernel_rfl) (by kernel_rfl) <|
  eBind H fun r1 hr1 H =>
  eBind H fun r2 hr2 H =>
  gS [r0, rg [hC 1 true [0] (Rs_l1Cur_hex r1) (Ns_l1Cur_hex r1)]] (by kernel_rfl) (PI (1 : Nat) <| P1 (cs_l1Cur_hex hr1) <| P0) <|
  eIf H (fun h3 H =>
    eBind H fun r4 hr4 H =>
    eW Rs_l1Cur_anyHex Ns_l1Cur_anyHex H <| gE func29 [rg [{ i := 1, call := some { cl := true, auto := true, ins := [0], res := (Rs_l1Cur_one r2), G' := (Ns_l1Cur_one r2) }, dec := some true }], rg [{ i := 2, frz := [3], call := some { cl := true, auto := true, ins := [0], res := (Rs_l1Cur_among r4), G' := (Ns_l1Cur_among r4) } }], r0] (by kernel_rfl) (PI (1 : Nat) <| P1 (cs_l1Cur_one hr2) <| P2 (r2.1 = true) (h3) <| PI (1 : Nat) <| P1 (cs_l1Cur_among hr4) <| P0))
  (fun h3 H =>
    eW Rs_l1Cur_anyHex Ns_l1Cur_anyHex H <| gE func29 [rg [{ i := 1, call := some { cl := true, auto := true, ins := [0], res := (Rs_l1Cur_one r2), G' := (Ns_l1Cur_one r2) }, dec := some false }], r0] (by kernel_rfl) (PI (1 : Nat) <| P1 (cs_l1Cur_one hr2) <| P2 (r2.1 = false) (eqF h3) <| P0))
/-! loop example/g00886/spec DrawRingOf -/
def Rs_DrawRingOf (r : Gi_Hex × Int) : List D := [.agg [I r.1.Q, I r.1.R], I r.2]
theorem cs_DrawRingOf {a0 : (List Int)} {r : Gi_Hex × Int} (H : Ds_DrawRingOf a0 = some r) : Ct X.P X.gl 17 [sl 1 (D.int .u8) a0] [] (Rs_DrawRingOf r) [] :=
  Ct.of func17 (c := bdy f17) (by kernel_rfl) (by kernel_rfl) <|
  eBind H fun r1 hr1 H =>
  eBind H fun r2 hr2 H =>
  eBind H fun r3 hr3 H =>
  eW Rs_DrawRingOf (fun _ => []) H <| gE func17 [r0, r0, rg [hC 1 true [1] (Rs_l1Cur_anyHex r1) (Ns_l1Cur_anyHex r1), hC 3 true [1] (Rs_l1Cur_pick r2) (Ns_l1Cur_pick r2), hC 5 true [1] (Rs_l1Cur_pick r3) (Ns_l1Cur_pick r3)]] (by kernel_rfl) (PI (1 : Nat) <| P1 (cs_l1Cur_anyHex hr1) <| PI (1 : Nat) <| P1 (cs_l1Cur_pick hr2) <| PI (1 : Nat) <| P1 (cs_l1Cur_pick hr3) <| P2 (¬ (19 : Int) = 0) (by decide) <| P0)
/-! loop example/g00886/impl inRange -/
theorem ci_inRange {a0 : Int} {a1 : Int} {a2 : Int} {r : Bool} (H : Di_inRange a0 a1 a2 = some r) : Ct X.P X.gl 38 [I a0, I a1, I a2] [] (RB r) [] :=
  Ct.of func38 (c := bdy f38) (by kernel_rfl) (by kernel_rfl) <|
  gS [r0] (by kernel_rfl) P0 <|
  eIf H (fun h1 H =>
    eW RB (fun _ => []) H <| gE func38 [rg [hT 2]] (by kernel_rfl) (P2 ((decide (a1 ≤ a0)) = true) (decide_eq_true h1) <| P0))
  (fun h1 H =>
    eW RB (fun _ => []) H <| gE func38 [rg [hF 2]] (by kernel_rfl) (P2 ((decide (a1 ≤ a0)) = false) (decide_eq_false h1) <| P0))
/-! loop example/g00886/impl IsHex -/
theorem ci_IsHex {a0 : Gi_Hex} {r : Bool} (H : Di_IsHex a0 = some r) : Ct X.P X.gl 33 [.agg [I a0.Q, I a0.R]] [] (RB r) [] :=
  Ct.of func33 (c := bdy f33) (by kernel_rfl) (by kernel_rfl) <|
  eBind H fun r1 hr1 H =>
  gS [r0] (by kernel_rfl) P0 <|
  eIf H (fun h2 H =>
    eBind H fun r3 hr3 H =>
    eW RB (fun _ => []) H <| gE func33 [rg [{ i := 2, call := some { cl := true, auto := true, ins := [], res := (RB r1), G' := [] }, dec := some true }, hC 6 true [] (RB r3) []]] (by kernel_rfl) (P1 (ci_inRange hr1) <| P2 (r1 = true) (h2) <| P1 (ci_inRange hr3) <| P0))
  (fun h2 H =>
    eW RB (fun _ => []) H <| gE func33 [rg [{ i := 2, call := some { cl := true, auto := true, ins := [], res := (RB r1), G' := [] }, dec := some false }]] (by kernel_rfl) (P1 (ci_inRange hr1) <| P2 (r1 = false) (eqF h2) <| P0))
/-! loop example/g00886/impl stepBy -/
def Ri_stepBy (r : Gi_Hex) : List D := [.agg [I r.Q, I r.R]]
theorem ci_stepBy {a0 : Gi_Hex} {a1 : Int} {a2 : Int} {r : Gi_Hex} (H : Di_stepBy a0 a1 a2 = some r) : Ct X.P X.gl 34 [.agg [I a0.Q, I a0.R], I a1, I a2] [] (Ri_stepBy r) [] :=
  Ct.of func34 (c := bdy f34) (by kernel_rfl) (by kernel_rfl) <|
  eCk H fun h1 H =>
  eBind H fun x2 hx2 H =>
  eCk H fun h3 H =>
  eBind H fun x4 hx4 H =>
  eW Ri_stepBy (fun _ => []) H <| gE func34 [r0, rg [{ i := 6, xs := [I x2.Q] }, { i := 15, xs := [I x4.R] }]] (by kernel_rfl) (P1 h1 <| P2 (a1 < ((6 : Nat) : Int)) (int_lt_of_at h1 hx2) <| P2 (getCells gc0 0 (0 + Int.toNat a1 * 2 + 0) 1 = some [I x2.Q]) (flat_at (enc := gi_Hex) (w := 2) (off := 0) (fun _ => rfl) hx2 (by omega) (by decide)) <| P1 h3 <| P2 (a1 < ((6 : Nat) : Int)) (int_lt_of_at h3 hx4) <| P2 (getCells gc0 0 (0 + Int.toNat a1 * 2 + 1) 1 = some [I x4.R]) (flat_at (enc := gi_Hex) (w := 2) (off := 1) (fun _ => rfl) hx4 (by omega) (by decide)) <| P0)
/-! loop example/g00886/impl allHexes -/
noncomputable def Ki_allHexes : Si_allHexes → List Item
  | .h1 .. => nav 300 2 [] [.code (bdy f43)]
def Zi_allHexes : Si_allHexes → St
  | .h1 t0 t1 t2 => ⟨sts 15 [(5, sl 2 gi_Hex t0), (6, I t1), (7, I t2)], []⟩
abbrev Qi_allHexes := Nx X 43 0 Ki_allHexes Zi_allHexes RB (fun _ => [])
theorem ni_allHexes : ∀ s o, Bi_allHexes s = some o → Qi_allHexes (Ki_allHexes s) (Zi_allHexes s) o
  | .h1 t0 t1 t2, o, H =>
    eIf H (fun h1 H =>
      eCk H fun h2 H =>
      eBind H fun x3 hx3 H =>
      eBind H fun r4 hr4 H =>
      gN [rg [hT 0], rg [hE 1 (gi_Hex x3)]] (by kernel_rfl) (P2 ((decide (t2 < t1)) = true) (decide_eq_true h1) <| P1 h2 <| P1 (int_lt_of_at h2 hx3) <| P1 (at_map gi_Hex hx3) <| P0) <|
      eIf H (fun h5 H =>
        eN H fun r hn => gO [rg [{ i := 1, call := some { cl := true, auto := true, ins := [], res := (RB r4), G' := [] }, dec := some true }], r0, .canon [] [5, 6, 7]] (by kernel_rfl) (P1 (ci_IsHex hr4) <| P2 (r4 = true) (h5) <| P0) hn)
      (fun h5 H =>
        eN H <| gE func43 [rg [{ i := 1, call := some { cl := true, auto := true, ins := [], res := (RB r4), G' := [] }, dec := some false }], r0] (by kernel_rfl) (P1 (ci_IsHex hr4) <| P2 (r4 = false) (eqF h5) <| P0)))
    (fun h1 H =>
      eN H <| gE func43 [rg [hF 0], r0] (by kernel_rfl) (P2 ((decide (t2 < t1)) = false) (decide_eq_false h1) <| P0))
theorem wi_allHexes : ∀ s r, loop Bi_allHexes s = some r → Wc X 43 0 (Ki_allHexes s) (Zi_allHexes s) (RB r) ((fun _ => []) r) := Nx.all ni_allHexes
theorem ci_allHexes {a0 : (List Gi_Hex)} {r : Bool} (H : Di_allHexes a0 = some r) : Ct X.P X.gl 43 [sl 2 gi_Hex a0] [] (RB r) [] :=
  Ct.of func43 (c := bdy f43) (by kernel_rfl) (by kernel_rfl) <|
  gO [r0, r0, .canon [] [5, 6, 7]] (by kernel_rfl) P0 (wi_allHexes _ _ H)
/-! loop example/g00886/impl RingOf -/
def Ri_RingOf (r : (List Gi_Hex) × Bool) : List D := [ow 2 gi_Hex r.1, .bool r.2]
noncomputable def Ki_RingOf : Si_RingOf → List Item
  | .h1 .. => nav 300 6 [false, true] [.code (bdy f18)]
  | .h2 .. => nav 300 9 [false, true, true] [.code (bdy f18)]
def Zi_RingOf : Si_RingOf → St
  | .h1 vradius0 t1 l2 b3 => ⟨sts 46 [(1, I vradius0), (6, .ref 0 2 none), (7, .ptr 1 2 0 0), (27, I t1)], [some ⟨false, false, 2, l2.length, List.map gi_Hex l2⟩, some ⟨false, true, 2, 1, [.agg [I b3.Q, I b3.R]]⟩]⟩
  | .h2 vradius0 d1 t2 t3 t4 l5 b6 => ⟨sts 46 [(1, I vradius0), (6, .ref 0 2 none), (7, .ptr 1 2 0 0), (8, I d1), (27, I t2), (30, I t3), (31, I t4)], [some ⟨false, false, 2, l5.length, List.map gi_Hex l5⟩, some ⟨false, true, 2, 1, [.agg [I b6.Q, I b6.R]]⟩]⟩
abbrev Qi_RingOf := Nx X 18 0 Ki_RingOf Zi_RingOf Ri_RingOf (fun _ => [])
theorem ni_RingOf : ∀ s o, Bi_RingOf s = some o → Qi_RingOf (Ki_RingOf s) (Zi_RingOf s) o
  | .h1 vradius0 t1 l2 b3, o, H =>
    eIf H (fun h1 H =>
      eN H fun r hn => gO [rg [hT 0], r0, r0, .canon [0, 1] [1, 6, 7, 8, 27, 30, 31]] (by kernel_rfl) (P2 ((decide (t1 < 6)) = true) (decide_eq_true h1) <| P0) hn)
    (fun h1 H =>
      eBind H fun r2 hr2 H =>
      gN [rg [hF 0]] (by kernel_rfl) (P2 ((decide (t1 < 6)) = false) (decide_eq_false h1) <| P0) <|
      eIf H (fun h3 H =>
        eN H <| gE func18 [rg [{ i := 1, call := some { cl := false, auto := true, ins := [], res := (RB r2), G' := [] }, dec := some true }], r0] (by kernel_rfl) (P1 (ci_allHexes hr2) <| P2 (r2 = true) (h3) <| P0))
      (fun h3 H =>
        eN H <| gE func18 [rg [{ i := 1, call := some { cl := false, auto := true, ins := [], res := (RB r2), G' := [] }, dec := some false }], r0] (by kernel_rfl) (P1 (ci_allHexes hr2) <| P2 (r2 = false) (eqF h3) <| P0)))
  | .h2 vradius0 d1 t2 t3 t4 l5 b6, o, H =>
    eIf H (fun h1 H =>
      eCk H fun h2 H =>
      eBind H fun r3 hr3 H =>
      eN H fun r hn => gO [rg [hT 0], rg [hA 3 ((l5 ++ [b6]).length) (List.map gi_Hex (l5 ++ [b6]))], rg [hC 2 true [] (Ri_stepBy r3) []], r0, .canon [3, 1] [1, 6, 7, 8, 27, 30, 31]] (by kernel_rfl) (P2 ((decide (t4 < t3)) = true) (decide_eq_true h1) <| P1 (apL l5 [b6]) <| P1 (apB h2) <| P1 (apM gi_Hex l5 [b6]) <| P1 (ci_stepBy hr3) <| P0) hn)
    (fun h1 H =>
      eN H fun r hn => gO [rg [hF 0], r0, .canon [0, 1] [1, 6, 7, 27]] (by kernel_rfl) (P2 ((decide (t4 < t3)) = false) (decide_eq_false h1) <| P0) hn)
theorem wi_RingOf : ∀ s r, loop Bi_RingOf s = some r → Wc X 18 0 (Ki_RingOf s) (Zi_RingOf s) (Ri_RingOf r) ((fun _ => []) r) := Nx.all ni_RingOf
theorem ci_RingOf {a0 : Gi_Hex} {a1 : Int} {r : (List Gi_Hex) × Bool} (H : Di_RingOf a0 a1 = some r) : Ct X.P X.gl 18 [.agg [I a0.Q, I a0.R], I a1] [] (Ri_RingOf r) [] :=
  Ct.of func18 (c := bdy f18) (by kernel_rfl) (by kernel_rfl) <|
  eBind H fun r1 hr1 H =>
  gS [r0] (by kernel_rfl) P0 <|
  eIf H (fun h2 H =>
    eBind H fun r3 hr3 H =>
    eIf H (fun h4 H =>
      eBind H fun r5 hr5 H =>
      gS [rg [{ i := 1, call := some { cl := true, auto := true, ins := [], res := (RB r1), G' := [] }, dec := some true }, { i := 5, call := some { cl := true, auto := true, ins := [], res := (RB r3), G' := [] }, dec := some true }], rg [hC 3 true [] (Ri_stepBy r5) []]] (by kernel_rfl) (P1 (ci_IsHex hr1) <| P2 (r1 = true) (h2) <| P1 (ci_inRange hr3) <| P2 (r3 = true) (h4) <| P1 (ci_stepBy hr5) <| P0) <|
      eIf H (fun h6 H =>
        eCk H fun h7 H =>
        gO [rg [hT 1], rg [hA 3 ([a0].length) (List.map gi_Hex [a0])], r0, .canon [4, 2] [1, 6, 7, 27]] (by kernel_rfl) (P2 (((a1 : Int) == 0) = true) (beqT h6) <| P2 ([a0].length = ([] : List Gi_Hex).length + [a0].length) (by simp <;> omega) <| P2 ((([] : List Gi_Hex).length + [a0].length) * 16 ≤ 70368744177664) (by have := h7; simp at this ⊢ <;> omega) <| P2 (List.map gi_Hex ([] : List Gi_Hex) ++ List.map gi_Hex [a0] = List.map gi_Hex [a0]) (by simp) <| P0) (wi_RingOf _ _ H))
      (fun h6 H =>
        gO [rg [hF 1], r0, .canon [1, 2] [1, 6, 7, 27]] (by kernel_rfl) (P2 (((a1 : Int) == 0) = false) (beqF h6) <| P0) (wi_RingOf _ _ H)))
    (fun h4 H =>
      eW Ri_RingOf (fun _ => []) H <| gE func18 [rg [{ i := 1, call := some { cl := true, auto := true, ins := [], res := (RB r1), G' := [] }, dec := some true }, { i := 5, call := some { cl := true, auto := true, ins := [], res := (RB r3), G' := [] }, dec := some false }], r0] (by kernel_rfl) (P1 (ci_IsHex hr1) <| P2 (r1 = true) (h2) <| P1 (ci_inRange hr3) <| P2 (r3 = false) (eqF h4) <| P0)))
  (fun h2 H =>
    eW Ri_RingOf (fun _ => []) H <| gE func18 [rg [{ i := 1, call := some { cl := true, auto := true, ins := [], res := (RB r1), G' := [] }, dec := some false }], r0] (by kernel_rfl) (P1 (ci_IsHex hr1) <| P2 (r1 = false) (eqF h2) <| P0))
/-! loop example/g00886/spec l1In -/
theorem cs_l1In {a0 : Int} {a1 : Int} {a2 : Int} {r : Bool} (H : Ds_l1In a0 a1 a2 = some r) : Ct X.P X.gl 39 [I a0, I a1, I a2] [] (RB r) [] :=
  Ct.of func39 (c := bdy f39) (by kernel_rfl) (by kernel_rfl) <|
  gS [r0] (by kernel_rfl) P0 <|
  eIf H (fun h1 H =>
    eW RB (fun _ => []) H <| gE func39 [rg [hT 2]] (by kernel_rfl) (P2 ((decide (a0 ≥ a1)) = true) (decide_eq_true h1) <| P0))
  (fun h1 H =>
    eW RB (fun _ => []) H <| gE func39 [rg [hF 2]] (by kernel_rfl) (P2 ((decide (a0 ≥ a1)) = false) (decide_eq_false h1) <| P0))
/-! loop example/g00886/spec hGood -/
theorem cs_hGood {a0 : Gi_Hex} {r : Bool} (H : Ds_hGood a0 = some r) : Ct X.P X.gl 35 [.agg [I a0.Q, I a0.R]] [] (RB r) [] :=
  Ct.of func35 (c := bdy f35) (by kernel_rfl) (by kernel_rfl) <|
  eBind H fun r1 hr1 H =>
  gS [r0] (by kernel_rfl) P0 <|
  eIf H (fun h2 H =>
    eBind H fun r3 hr3 H =>
    eW RB (fun _ => []) H <| gE func35 [rg [{ i := 2, call := some { cl := true, auto := true, ins := [], res := (RB r1), G' := [] }, dec := some true }, hC 6 true [] (RB r3) []]] (by kernel_rfl) (P1 (cs_l1In hr1) <| P2 (r1 = true) (h2) <| P1 (cs_l1In hr3) <| P0))
  (fun h2 H =>
    eW RB (fun _ => []) H <| gE func35 [rg [{ i := 2, call := some { cl := true, auto := true, ins := [], res := (RB r1), G' := [] }, dec := some false }]] (by kernel_rfl) (P1 (cs_l1In hr1) <| P2 (r1 = false) (eqF h2) <| P0))
/-! loop example/g00886/spec hStep -/
def Rs_hStep (r : Gi_Hex) : List D := [.agg [I r.Q, I r.R]]
theorem cs_hStep {a0 : Gi_Hex} {a1 : Int} {r : Gi_Hex} (H : Ds_hStep a0 a1 = some r) : Ct X.P X.gl 31 [.agg [I a0.Q, I a0.R], I a1] [] (Rs_hStep r) [] :=
  Ct.of func31 (c := bdy f31) (by kernel_rfl) (by kernel_rfl) <|
  eCk H fun h1 H =>
  eBind H fun x2 hx2 H =>
  eCk H fun h3 H =>
  eBind H fun x4 hx4 H =>
  eW Rs_hStep (fun _ => []) H <| gE func31 [r0, rg [hE 5 (I x2), hE 12 (I x4)]] (by kernel_rfl) (P1 h1 <| P1 (int_lt_of_at h1 hx2) <| P1 (at_map I hx2) <| P1 h3 <| P1 (int_lt_of_at h3 hx4) <| P1 (at_map I hx4) <| P0)
/-! loop example/g00886/spec hRing -/
def Rs_hRing (r : (List Gi_Hex)) : List D := [ow 2 gi_Hex r]
noncomputable def Ks_hRing : Ss_hRing → List Item
  | .h1 .. => nav 300 3 [false] [.code (bdy f45)]
  | .h2 .. => nav 300 6 [false, false] [.code (bdy f45)]
  | .h3 .. => nav 300 8 [false, false, true] [.code (bdy f45)]
def Zs_hRing : Ss_hRing → St
  | .h1 vradius0 k1 b2 => ⟨sts 37 [(1, I vradius0), (2, .ptr 0 2 0 0), (5, I k1)], [some ⟨false, true, 2, 1, [.agg [I b2.Q, I b2.R]]⟩]⟩
  | .h2 vradius0 d1 b2 l3 => ⟨sts 37 [(1, I vradius0), (2, .ptr 0 2 0 0), (6, .ref 1 2 none), (7, I d1)], [some ⟨false, true, 2, 1, [.agg [I b2.Q, I b2.R]]⟩, some ⟨false, false, 2, l3.length, List.map gi_Hex l3⟩]⟩
  | .h3 vradius0 d1 k2 b3 l4 => ⟨sts 37 [(1, I vradius0), (2, .ptr 0 2 0 0), (6, .ref 1 2 none), (7, I d1), (8, I k2)], [some ⟨false, true, 2, 1, [.agg [I b3.Q, I b3.R]]⟩, some ⟨false, false, 2, l4.length, List.map gi_Hex l4⟩]⟩
abbrev Qs_hRing := Nx X 45 0 Ks_hRing Zs_hRing Rs_hRing (fun _ => [])
theorem ns_hRing : ∀ s o, Bs_hRing s = some o → Qs_hRing (Ks_hRing s) (Zs_hRing s) o
  | .h1 vradius0 k1 b2, o, H =>
    eIf H (fun h1 H =>
      eBind H fun r2 hr2 H =>
      eN H fun r hn => gO [rg [hT 2], rg [hC 1 true [] (Rs_hStep r2) []], r0, .canon [0] [1, 2, 5]] (by kernel_rfl) (P2 ((decide (k1 < vradius0)) = true) (decide_eq_true h1) <| P1 (cs_hStep hr2) <| P0) hn)
    (fun h1 H =>
      eN H fun r hn => gO [rg [hF 2], r0, r0, .own 6 2, .canon [0, 1] [1, 2, 6, 7]] (by kernel_rfl) (P2 ((decide (k1 < vradius0)) = false) (decide_eq_false h1) <| P0) hn)
  | .h2 vradius0 d1 b2 l3, o, H =>
    eIf H (fun h1 H =>
      eN H fun r hn => gO [rg [hT 1], r0, .canon [0, 1] [1, 2, 6, 7, 8]] (by kernel_rfl) (P2 ((decide (d1 < 6)) = true) (decide_eq_true h1) <| P0) hn)
    (fun h1 H =>
      eN H <| gE func45 [rg [hF 1], r0] (by kernel_rfl) (P2 ((decide (d1 < 6)) = false) (decide_eq_false h1) <| P0))
  | .h3 vradius0 d1 k2 b3 l4, o, H =>
    eIf H (fun h1 H =>
      eCk H fun h2 H =>
      eBind H fun r3 hr3 H =>
      eN H fun r hn => gO [rg [hT 2], rg [hA 3 ((l4 ++ [b3]).length) (List.map gi_Hex (l4 ++ [b3]))], rg [hC 2 true [] (Rs_hStep r3) []], r0, .canon [0, 3] [1, 2, 6, 7, 8]] (by kernel_rfl) (P2 ((decide (k2 < vradius0)) = true) (decide_eq_true h1) <| P1 (apL l4 [b3]) <| P1 (apB h2) <| P1 (apM gi_Hex l4 [b3]) <| P1 (cs_hStep hr3) <| P0) hn)
    (fun h1 H =>
      eN H fun r hn => gO [rg [hF 2], r0, .canon [0, 1] [1, 2, 6, 7]] (by kernel_rfl) (P2 ((decide (k2 < vradius0)) = false) (decide_eq_false h1) <| P0) hn)
theorem ws_hRing : ∀ s r, loop Bs_hRing s = some r → Wc X 45 0 (Ks_hRing s) (Zs_hRing s) (Rs_hRing r) ((fun _ => []) r) := Nx.all ns_hRing
theorem cs_hRing {a0 : Gi_Hex} {a1 : Int} {r : (List Gi_Hex)} (H : Ds_hRing a0 a1 = some r) : Ct X.P X.gl 45 [.agg [I a0.Q, I a0.R], I a1] [] (Rs_hRing r) [] :=
  Ct.of func45 (c := bdy f45) (by kernel_rfl) (by kernel_rfl) <|
  gS [r0] (by kernel_rfl) P0 <|
  eIf H (fun h1 H =>
    eW Rs_hRing (fun _ => []) H <| gE func45 [rg [hT 1], r0] (by kernel_rfl) (P2 (((a1 : Int) == 0) = true) (beqT h1) <| P0))
  (fun h1 H =>
    gO [rg [hF 1], r0, .canon [0] [1, 2, 5]] (by kernel_rfl) (P2 (((a1 : Int) == 0) = false) (beqF h1) <| P0) (ws_hRing _ _ H))
/-! loop example/g00886/spec hAll -/
def Rs_hAll (r : (List Gi_Hex) × Bool) : List D := [sl 2 gi_Hex r.1, .bool r.2]
noncomputable def Ks_hAll : Ss_hAll → List Item
  | .h1 .. => nav 300 2 [] [.code (bdy f44)]
def Zs_hAll : Ss_hAll → St
  | .h1 l0 t1 t2 t3 => ⟨sts 17 [(0, sl 2 gi_Hex l0), (6, sl 2 gi_Hex t1), (7, I t2), (8, I t3)], []⟩
abbrev Qs_hAll := Nx X 44 0 Ks_hAll Zs_hAll Rs_hAll (fun _ => [])
theorem ns_hAll : ∀ s o, Bs_hAll s = some o → Qs_hAll (Ks_hAll s) (Zs_hAll s) o
  | .h1 l0 t1 t2 t3, o, H =>
    eIf H (fun h1 H =>
      eCk H fun h2 H =>
      eBind H fun x3 hx3 H =>
      eBind H fun r4 hr4 H =>
      gN [rg [hT 0], rg [hE 1 (gi_Hex x3)]] (by kernel_rfl) (P2 ((decide (t3 < t2)) = true) (decide_eq_true h1) <| P1 h2 <| P1 (int_lt_of_at h2 hx3) <| P1 (at_map gi_Hex hx3) <| P0) <|
      eIf H (fun h5 H =>
        eN H fun r hn => gO [rg [{ i := 1, call := some { cl := true, auto := true, ins := [], res := (RB r4), G' := [] }, dec := some true }], r0, .canon [] [0, 6, 7, 8]] (by kernel_rfl) (P1 (cs_hGood hr4) <| P2 (r4 = true) (h5) <| P0) hn)
      (fun h5 H =>
        eN H <| gE func44 [rg [{ i := 1, call := some { cl := true, auto := true, ins := [], res := (RB r4), G' := [] }, dec := some false }], r0] (by kernel_rfl) (P1 (cs_hGood hr4) <| P2 (r4 = false) (eqF h5) <| P0)))
    (fun h1 H =>
      eN H <| gE func44 [rg [hF 0], r0] (by kernel_rfl) (P2 ((decide (t3 < t2)) = false) (decide_eq_false h1) <| P0))
theorem ws_hAll : ∀ s r, loop Bs_hAll s = some r → Wc X 44 0 (Ks_hAll s) (Zs_hAll s) (Rs_hAll r) ((fun _ => []) r) := Nx.all ns_hAll
theorem cs_hAll {a0 : (List Gi_Hex)} {r : (List Gi_Hex) × Bool} (H : Ds_hAll a0 = some r) : Ct X.P X.gl 44 [sl 2 gi_Hex a0] [] (Rs_hAll r) [] :=
  Ct.of func44 (c := bdy f44) (by kernel_rfl) (by kernel_rfl) <|
  gO [r0, r0, .canon [] [0, 6, 7, 8]] (by kernel_rfl) P0 (ws_hAll _ _ H)
/-! loop example/g00886/spec RingOf -/
def Rs_RingOf (r : (List Gi_Hex) × Bool) : List D := [sl 2 gi_Hex r.1, .bool r.2]
theorem cs_RingOf {a0 : Gi_Hex} {a1 : Int} {r : (List Gi_Hex) × Bool} (H : Ds_RingOf a0 a1 = some r) : Ct X.P X.gl 19 [.agg [I a0.Q, I a0.R], I a1] [] (Rs_RingOf r) [] :=
  Ct.of func19 (c := bdy f19) (by kernel_rfl) (by kernel_rfl) <|
  eBind H fun r1 hr1 H =>
  gS [r0] (by kernel_rfl) P0 <|
  eIf H (fun h2 H =>
    eBind H fun r3 hr3 H =>
    eIf H (fun h4 H =>
      eBind H fun r5 hr5 H =>
      eBind H fun r6 hr6 H =>
      eW Rs_RingOf (fun _ => []) H <| gE func19 [rg [{ i := 1, call := some { cl := true, auto := true, ins := [], res := (RB r1), G' := [] }, dec := some true }, { i := 5, call := some { cl := true, auto := true, ins := [], res := (RB r3), G' := [] }, dec := some true }], rg [hC 2 true [] (Rs_hRing r5) [], { i := 3, frz := [1], call := some { cl := true, auto := true, ins := [], res := (Rs_hAll r6), G' := [] } }]] (by kernel_rfl) (P1 (cs_hGood hr1) <| P2 (r1 = true) (h2) <| P1 (cs_l1In hr3) <| P2 (r3 = true) (h4) <| P1 (cs_hRing hr5) <| P1 (cs_hAll hr6) <| P0))
    (fun h4 H =>
      eW Rs_RingOf (fun _ => []) H <| gE func19 [rg [{ i := 1, call := some { cl := true, auto := true, ins := [], res := (RB r1), G' := [] }, dec := some true }, { i := 5, call := some { cl := true, auto := true, ins := [], res := (RB r3), G' := [] }, dec := some false }], r0] (by kernel_rfl) (P1 (cs_hGood hr1) <| P2 (r1 = true) (h2) <| P1 (cs_l1In hr3) <| P2 (r3 = false) (eqF h4) <| P0)))
  (fun h2 H =>
    eW Rs_RingOf (fun _ => []) H <| gE func19 [rg [{ i := 1, call := some { cl := true, auto := true, ins := [], res := (RB r1), G' := [] }, dec := some false }], r0] (by kernel_rfl) (P1 (cs_hGood hr1) <| P2 (r1 = false) (eqF h2) <| P0))
/-! loop example/g00886/laws pSameHexes -/
noncomputable def Kw_pSameHexes : Sw_pSameHexes → List Item
  | .h1 .. => nav 300 3 [false] [.code (bdy f20)]
def Zw_pSameHexes : Sw_pSameHexes → St
  | .h1 va0 b1 t2 t3 => ⟨sts 26 [(0, sl 2 gi_Hex va0), (1, sl 2 gi_Hex b1), (12, I t2), (13, I t3)], []⟩
abbrev Qw_pSameHexes := Nx X 20 0 Kw_pSameHexes Zw_pSameHexes RB (fun _ => [])
theorem nw_pSameHexes : ∀ s o, Bw_pSameHexes s = some o → Qw_pSameHexes (Kw_pSameHexes s) (Zw_pSameHexes s) o
  | .h1 va0 b1 t2 t3, o, H =>
    eIf H (fun h1 H =>
      eCk H fun h2 H =>
      eBind H fun x3 hx3 H =>
      eCk H fun h4 H =>
      eBind H fun x5 hx5 H =>
      gN [rg [hT 0], r0] (by kernel_rfl) (P2 ((decide (t3 < t2)) = true) (decide_eq_true h1) <| P0) <|
      eIf H (fun h6 H =>
        eN H <| gE func20 [rg [hE 3 (gi_Hex x3), hE 7 (gi_Hex x5), hT 8], r0] (by kernel_rfl) (P1 h2 <| P1 (int_lt_of_at h2 hx3) <| P1 (at_map gi_Hex hx3) <| P1 h4 <| P1 (int_lt_of_at h4 hx5) <| P1 (at_map gi_Hex hx5) <| P2 ((!((x3.Q == x5.Q) && (x3.R == x5.R))) = true) (h6) <| P0))
      (fun h6 H =>
        eN H fun r hn => gO [rg [hE 3 (gi_Hex x3), hE 7 (gi_Hex x5), hF 8], r0, .canon [] [0, 1, 12, 13]] (by kernel_rfl) (P1 h2 <| P1 (int_lt_of_at h2 hx3) <| P1 (at_map gi_Hex hx3) <| P1 h4 <| P1 (int_lt_of_at h4 hx5) <| P1 (at_map gi_Hex hx5) <| P2 ((!((x3.Q == x5.Q) && (x3.R == x5.R))) = false) (eqF h6) <| P0) hn))
    (fun h1 H =>
      eN H <| gE func20 [rg [hF 0], r0] (by kernel_rfl) (P2 ((decide (t3 < t2)) = false) (decide_eq_false h1) <| P0))
theorem ww_pSameHexes : ∀ s r, loop Bw_pSameHexes s = some r → Wc X 20 0 (Kw_pSameHexes s) (Zw_pSameHexes s) (RB r) ((fun _ => []) r) := Nx.all nw_pSameHexes
theorem cw_pSameHexes {a0 : (List Gi_Hex)} {a1 : (List Gi_Hex)} {r : Bool} (H : Dw_pSameHexes a0 a1 = some r) : Ct X.P X.gl 20 [sl 2 gi_Hex a0, sl 2 gi_Hex a1] [] (RB r) [] :=
  Ct.of func20 (c := bdy f20) (by kernel_rfl) (by kernel_rfl) <|
  gS [r0] (by kernel_rfl) P0 <|
  eIf H (fun h1 H =>
    gO [rg [hF 4], r0, .canon [] [0, 1, 12, 13]] (by kernel_rfl) (P2 (((((a0.length : Nat) : Int) : Int) != ((a1.length : Nat) : Int)) = false) (bneF h1) <| P0) (ww_pSameHexes _ _ H))
  (fun h1 H =>
    eW RB (fun _ => []) H <| gE func20 [rg [hT 4], r0] (by kernel_rfl) (P2 (((((a0.length : Nat) : Int) : Int) != ((a1.length : Nat) : Int)) = true) (bneT h1) <| P0))
/-! loop example/g00886/impl absOf -/
theorem ci_absOf {a0 : Int} {r : Int} (H : Di_absOf a0 = some r) : Ct X.P X.gl 52 [I a0] [] (RI r) [] :=
  Ct.of func52 (c := bdy f52) (by kernel_rfl) (by kernel_rfl) <|
  gS [r0] (by kernel_rfl) P0 <|
  eIf H (fun h1 H =>
    eW RI (fun _ => []) H <| gE func52 [rg [hT 1], r0] (by kernel_rfl) (P2 ((decide (a0 < 0)) = true) (decide_eq_true h1) <| P0))
  (fun h1 H =>
    eW RI (fun _ => []) H <| gE func52 [rg [hF 1], r0] (by kernel_rfl) (P2 ((decide (a0 < 0)) = false) (decide_eq_false h1) <| P0))
/-! loop example/g00886/impl distance -/
theorem ci_distance {a0 : Gi_Hex} {a1 : Gi_Hex} {r : Int} (H : Di_distance a0 a1 = some r) : Ct X.P X.gl 41 [.agg [I a0.Q, I a0.R], .agg [I a1.Q, I a1.R]] [] (RI r) [] :=
  Ct.of func41 (c := bdy f41) (by kernel_rfl) (by kernel_rfl) <|
  eBind H fun r1 hr1 H =>
  eBind H fun r2 hr2 H =>
  eBind H fun r3 hr3 H =>
  eW RI (fun _ => []) H <| gE func41 [r0, r0, rg [hC 1 true [] (RI r1) [], hC 3 true [] (RI r2) [], hC 8 true [] (RI r3) []]] (by kernel_rfl) (P1 (ci_absOf hr1) <| P1 (ci_absOf hr2) <| P1 (ci_absOf hr3) <| P2 (¬ (2 : Int) = 0) (by decide) <| P0)
/-! loop example/g00886/impl DistanceOf -/
def Ri_DistanceOf (r : Int × Bool) : List D := [I r.1, .bool r.2]
theorem ci_DistanceOf {a0 : Gi_Hex} {a1 : Gi_Hex} {r : Int × Bool} (H : Di_DistanceOf a0 a1 = some r) : Ct X.P X.gl 15 [.agg [I a0.Q, I a0.R], .agg [I a1.Q, I a1.R]] [] (Ri_DistanceOf r) [] :=
  Ct.of func15 (c := bdy f15) (by kernel_rfl) (by kernel_rfl) <|
  eBind H fun r1 hr1 H =>
  gS [r0] (by kernel_rfl) P0 <|
  eIf H (fun h2 H =>
    eBind H fun r3 hr3 H =>
    eIf H (fun h4 H =>
      eBind H fun r5 hr5 H =>
      eW Ri_DistanceOf (fun _ => []) H <| gE func15 [rg [{ i := 1, call := some { cl := true, auto := true, ins := [], res := (RB r1), G' := [] }, dec := some true }, { i := 5, call := some { cl := true, auto := true, ins := [], res := (RB r3), G' := [] }, dec := some true }], rg [hC 2 true [] (RI r5) []]] (by kernel_rfl) (P1 (ci_IsHex hr1) <| P2 (r1 = true) (h2) <| P1 (ci_IsHex hr3) <| P2 (r3 = true) (h4) <| P1 (ci_distance hr5) <| P0))
    (fun h4 H =>
      eW Ri_DistanceOf (fun _ => []) H <| gE func15 [rg [{ i := 1, call := some { cl := true, auto := true, ins := [], res := (RB r1), G' := [] }, dec := some true }, { i := 5, call := some { cl := true, auto := true, ins := [], res := (RB r3), G' := [] }, dec := some false }], r0] (by kernel_rfl) (P1 (ci_IsHex hr1) <| P2 (r1 = true) (h2) <| P1 (ci_IsHex hr3) <| P2 (r3 = false) (eqF h4) <| P0)))
  (fun h2 H =>
    eW Ri_DistanceOf (fun _ => []) H <| gE func15 [rg [{ i := 1, call := some { cl := true, auto := true, ins := [], res := (RB r1), G' := [] }, dec := some false }], r0] (by kernel_rfl) (P1 (ci_IsHex hr1) <| P2 (r1 = false) (eqF h2) <| P0))
/-! loop example/g00886/impl DiskOf -/
def Ri_DiskOf (r : (List Gi_Hex) × Bool) : List D := [ow 2 gi_Hex r.1, .bool r.2]
noncomputable def Ki_DiskOf : Si_DiskOf → List Item
  | .h1 .. => nav 300 4 [false] [.code (bdy f21)]
  | .h2 .. => nav 300 6 [false, true] [.code (bdy f21)]
def Zi_DiskOf : Si_DiskOf → St
  | .h1 vradius0 q1 b2 l3 => ⟨sts 59 [(1, I vradius0), (2, .ptr 0 2 0 0), (6, .ref 1 2 none), (7, I q1)], [some ⟨false, true, 2, 1, [.agg [I b2.Q, I b2.R]]⟩, some ⟨false, false, 2, l3.length, List.map gi_Hex l3⟩]⟩
  | .h2 vradius0 q1 vr2 b3 l4 => ⟨sts 59 [(1, I vradius0), (2, .ptr 0 2 0 0), (6, .ref 1 2 none), (7, I q1), (8, I vr2)], [some ⟨false, true, 2, 1, [.agg [I b3.Q, I b3.R]]⟩, some ⟨false, false, 2, l4.length, List.map gi_Hex l4⟩]⟩
abbrev Qi_DiskOf := Nx X 21 0 Ki_DiskOf Zi_DiskOf Ri_DiskOf (fun _ => [])
theorem ni_DiskOf : ∀ s o, Bi_DiskOf s = some o → Qi_DiskOf (Ki_DiskOf s) (Zi_DiskOf s) o
  | .h1 vradius0 q1 b2 l3, o, H =>
    eIf H (fun h1 H =>
      eN H fun r hn => gO [rg [hT 5], r0, .canon [0, 1] [1, 2, 6, 7, 8]] (by kernel_rfl) (P2 ((decide (q1 ≤ (IntKind.wrap .i64 (b2.Q + vradius0)))) = true) (decide_eq_true h1) <| P0) hn)
    (fun h1 H =>
      eBind H fun r2 hr2 H =>
      gN [rg [hF 5]] (by kernel_rfl) (P2 ((decide (q1 ≤ (IntKind.wrap .i64 (b2.Q + vradius0)))) = false) (decide_eq_false h1) <| P0) <|
      eIf H (fun h3 H =>
        eN H <| gE func21 [rg [{ i := 1, call := some { cl := false, auto := true, ins := [], res := (RB r2), G' := [] }, dec := some true }], r0] (by kernel_rfl) (P1 (ci_allHexes hr2) <| P2 (r2 = true) (h3) <| P0))
      (fun h3 H =>
        eN H <| gE func21 [rg [{ i := 1, call := some { cl := false, auto := true, ins := [], res := (RB r2), G' := [] }, dec := some false }], r0] (by kernel_rfl) (P1 (ci_allHexes hr2) <| P2 (r2 = false) (eqF h3) <| P0)))
  | .h2 vradius0 q1 vr2 b3 l4, o, H =>
    eIf H (fun h1 H =>
      eBind H fun r2 hr2 H =>
      gN [rg [hT 5]] (by kernel_rfl) (P2 ((decide (vr2 ≤ (IntKind.wrap .i64 (b3.R + vradius0)))) = true) (decide_eq_true h1) <| P0) <|
      eIf H (fun h3 H =>
        eCk H fun h4 H =>
        eN H fun r hn => gO [rg [hC 4 true [] (RI r2) [], hT 6], rg [hA 5 ((l4 ++ [(Gi_Hex.mk q1 vr2)]).length) (List.map gi_Hex (l4 ++ [(Gi_Hex.mk q1 vr2)]))], r0, .canon [0, 3] [1, 2, 6, 7, 8]] (by kernel_rfl) (P1 (ci_distance hr2) <| P2 ((decide (r2 ≤ vradius0)) = true) (decide_eq_true h3) <| P1 (apL l4 [(Gi_Hex.mk q1 vr2)]) <| P1 (apB h4) <| P1 (apM gi_Hex l4 [(Gi_Hex.mk q1 vr2)]) <| P0) hn)
      (fun h3 H =>
        eN H fun r hn => gO [rg [hC 4 true [] (RI r2) [], hF 6], r0, .canon [0, 1] [1, 2, 6, 7, 8]] (by kernel_rfl) (P1 (ci_distance hr2) <| P2 ((decide (r2 ≤ vradius0)) = false) (decide_eq_false h3) <| P0) hn))
    (fun h1 H =>
      eN H fun r hn => gO [rg [hF 5], r0, .canon [0, 1] [1, 2, 6, 7]] (by kernel_rfl) (P2 ((decide (vr2 ≤ (IntKind.wrap .i64 (b3.R + vradius0)))) = false) (decide_eq_false h1) <| P0) hn)
theorem wi_DiskOf : ∀ s r, loop Bi_DiskOf s = some r → Wc X 21 0 (Ki_DiskOf s) (Zi_DiskOf s) (Ri_DiskOf r) ((fun _ => []) r) := Nx.all ni_DiskOf
theorem ci_DiskOf {a0 : Gi_Hex} {a1 : Int} {r : (List Gi_Hex) × Bool} (H : Di_DiskOf a0 a1 = some r) : Ct X.P X.gl 21 [.agg [I a0.Q, I a0.R], I a1] [] (Ri_DiskOf r) [] :=
  Ct.of func21 (c := bdy f21) (by kernel_rfl) (by kernel_rfl) <|
  eBind H fun r1 hr1 H =>
  gS [r0] (by kernel_rfl) P0 <|
  eIf H (fun h2 H =>
    eBind H fun r3 hr3 H =>
    eIf H (fun h4 H =>
      gO [rg [{ i := 1, call := some { cl := true, auto := true, ins := [], res := (RB r1), G' := [] }, dec := some true }, { i := 5, call := some { cl := true, auto := true, ins := [], res := (RB r3), G' := [] }, dec := some true }], r0, r0, .canon [0, 1] [1, 2, 6, 7]] (by kernel_rfl) (P1 (ci_IsHex hr1) <| P2 (r1 = true) (h2) <| P1 (ci_inRange hr3) <| P2 (r3 = true) (h4) <| P0) (wi_DiskOf _ _ H))
    (fun h4 H =>
      eW Ri_DiskOf (fun _ => []) H <| gE func21 [rg [{ i := 1, call := some { cl := true, auto := true, ins := [], res := (RB r1), G' := [] }, dec := some true }, { i := 5, call := some { cl := true, auto := true, ins := [], res := (RB r3), G' := [] }, dec := some false }], r0] (by kernel_rfl) (P1 (ci_IsHex hr1) <| P2 (r1 = true) (h2) <| P1 (ci_inRange hr3) <| P2 (r3 = false) (eqF h4) <| P0)))
  (fun h2 H =>
    eW Ri_DiskOf (fun _ => []) H <| gE func21 [rg [{ i := 1, call := some { cl := true, auto := true, ins := [], res := (RB r1), G' := [] }, dec := some false }], r0] (by kernel_rfl) (P1 (ci_IsHex hr1) <| P2 (r1 = false) (eqF h2) <| P0))
/-! loop example/g00886/spec l1Most -/
theorem cs_l1Most {a0 : Int} {a1 : Int} {r : Int} (H : Ds_l1Most a0 a1 = some r) : Ct X.P X.gl 54 [I a0, I a1] [] (RI r) [] :=
  Ct.of func54 (c := bdy f54) (by kernel_rfl) (by kernel_rfl) <|
  gS [r0] (by kernel_rfl) P0 <|
  eIf H (fun h1 H =>
    eW RI (fun _ => []) H <| gE func54 [rg [hT 2], r0] (by kernel_rfl) (P2 ((decide (a0 > a1)) = true) (decide_eq_true h1) <| P0))
  (fun h1 H =>
    eW RI (fun _ => []) H <| gE func54 [rg [hF 2], r0] (by kernel_rfl) (P2 ((decide (a0 > a1)) = false) (decide_eq_false h1) <| P0))
/-! loop example/g00886/spec l1Abs -/
theorem cs_l1Abs {a0 : Int} {r : Int} (H : Ds_l1Abs a0 = some r) : Ct X.P X.gl 53 [I a0] [] (RI r) [] :=
  Ct.of func53 (c := bdy f53) (by kernel_rfl) (by kernel_rfl) <|
  eBind H fun r1 hr1 H =>
  eW RI (fun _ => []) H <| gE func53 [r0, rg [hC 3 true [] (RI r1) []]] (by kernel_rfl) (P1 (cs_l1Most hr1) <| P0)
/-! loop example/g00886/spec hDistance -/
theorem cs_hDistance {a0 : Gi_Hex} {a1 : Gi_Hex} {r : Int} (H : Ds_hDistance a0 a1 = some r) : Ct X.P X.gl 42 [.agg [I a0.Q, I a0.R], .agg [I a1.Q, I a1.R]] [] (RI r) [] :=
  Ct.of func42 (c := bdy f42) (by kernel_rfl) (by kernel_rfl) <|
  eBind H fun r1 hr1 H =>
  eBind H fun r2 hr2 H =>
  eBind H fun r3 hr3 H =>
  eW RI (fun _ => []) H <| gE func42 [r0, r0, rg [hC 1 true [] (RI r1) [], hC 3 true [] (RI r2) [], hC 8 true [] (RI r3) []]] (by kernel_rfl) (P1 (cs_l1Abs hr1) <| P1 (cs_l1Abs hr2) <| P1 (cs_l1Abs hr3) <| P2 (¬ (2 : Int) = 0) (by decide) <| P0)
/-! loop example/g00886/spec hDisk -/
def Rs_hDisk (r : (List Gi_Hex)) : List D := [ow 2 gi_Hex r]
noncomputable def Ks_hDisk : Ss_hDisk → List Item
  | .h1 .. => nav 300 3 [] [.code (bdy f46)]
  | .h2 .. => nav 300 5 [true] [.code (bdy f46)]
def Zs_hDisk : Ss_hDisk → St
  | .h1 vradius0 q1 b2 l3 => ⟨sts 46 [(1, I vradius0), (2, .ptr 0 2 0 0), (5, .ref 1 2 none), (6, I q1)], [some ⟨false, true, 2, 1, [.agg [I b2.Q, I b2.R]]⟩, some ⟨false, false, 2, l3.length, List.map gi_Hex l3⟩]⟩
  | .h2 vradius0 q1 vr2 b3 l4 => ⟨sts 46 [(1, I vradius0), (2, .ptr 0 2 0 0), (5, .ref 1 2 none), (6, I q1), (7, I vr2)], [some ⟨false, true, 2, 1, [.agg [I b3.Q, I b3.R]]⟩, some ⟨false, false, 2, l4.length, List.map gi_Hex l4⟩]⟩
abbrev Qs_hDisk := Nx X 46 0 Ks_hDisk Zs_hDisk Rs_hDisk (fun _ => [])
theorem ns_hDisk : ∀ s o, Bs_hDisk s = some o → Qs_hDisk (Ks_hDisk s) (Zs_hDisk s) o
  | .h1 vradius0 q1 b2 l3, o, H =>
    eIf H (fun h1 H =>
      eN H fun r hn => gO [rg [hT 5], r0, .canon [0, 1] [1, 2, 5, 6, 7]] (by kernel_rfl) (P2 ((decide (q1 ≤ (IntKind.wrap .i64 (b2.Q + vradius0)))) = true) (decide_eq_true h1) <| P0) hn)
    (fun h1 H =>
      eN H <| gE func46 [rg [hF 5], r0] (by kernel_rfl) (P2 ((decide (q1 ≤ (IntKind.wrap .i64 (b2.Q + vradius0)))) = false) (decide_eq_false h1) <| P0))
  | .h2 vradius0 q1 vr2 b3 l4, o, H =>
    eIf H (fun h1 H =>
      eBind H fun r2 hr2 H =>
      gN [rg [hT 5], r0] (by kernel_rfl) (P2 ((decide (vr2 ≤ (IntKind.wrap .i64 (b3.R + vradius0)))) = true) (decide_eq_true h1) <| P0) <|
      eIf H (fun h3 H =>
        eCk H fun h4 H =>
        eN H fun r hn => gO [rg [hC 2 true [] (RI r2) [], hT 4], rg [hA 3 ((l4 ++ [(Gi_Hex.mk q1 vr2)]).length) (List.map gi_Hex (l4 ++ [(Gi_Hex.mk q1 vr2)]))], r0, .canon [0, 4] [1, 2, 5, 6, 7]] (by kernel_rfl) (P1 (cs_hDistance hr2) <| P2 ((decide (r2 ≤ vradius0)) = true) (decide_eq_true h3) <| P1 (apL l4 [(Gi_Hex.mk q1 vr2)]) <| P1 (apB h4) <| P1 (apM gi_Hex l4 [(Gi_Hex.mk q1 vr2)]) <| P0) hn)
      (fun h3 H =>
        eN H fun r hn => gO [rg [hC 2 true [] (RI r2) [], hF 4], r0, .canon [0, 1] [1, 2, 5, 6, 7]] (by kernel_rfl) (P1 (cs_hDistance hr2) <| P2 ((decide (r2 ≤ vradius0)) = false) (decide_eq_false h3) <| P0) hn))
    (fun h1 H =>
      eN H fun r hn => gO [rg [hF 5], r0, .canon [0, 1] [1, 2, 5, 6]] (by kernel_rfl) (P2 ((decide (vr2 ≤ (IntKind.wrap .i64 (b3.R + vradius0)))) = false) (decide_eq_false h1) <| P0) hn)
theorem ws_hDisk : ∀ s r, loop Bs_hDisk s = some r → Wc X 46 0 (Ks_hDisk s) (Zs_hDisk s) (Rs_hDisk r) ((fun _ => []) r) := Nx.all ns_hDisk
theorem cs_hDisk {a0 : Gi_Hex} {a1 : Int} {r : (List Gi_Hex)} (H : Ds_hDisk a0 a1 = some r) : Ct X.P X.gl 46 [.agg [I a0.Q, I a0.R], I a1] [] (Rs_hDisk r) [] :=
  Ct.of func46 (c := bdy f46) (by kernel_rfl) (by kernel_rfl) <|
  gO [r0, r0, r0, .own 5 2, .canon [0, 1] [1, 2, 5, 6]] (by kernel_rfl) P0 (ws_hDisk _ _ H)
/-! loop example/g00886/spec DiskOf -/
def Rs_DiskOf (r : (List Gi_Hex) × Bool) : List D := [sl 2 gi_Hex r.1, .bool r.2]
theorem cs_DiskOf {a0 : Gi_Hex} {a1 : Int} {r : (List Gi_Hex) × Bool} (H : Ds_DiskOf a0 a1 = some r) : Ct X.P X.gl 22 [.agg [I a0.Q, I a0.R], I a1] [] (Rs_DiskOf r) [] :=
  Ct.of func22 (c := bdy f22) (by kernel_rfl) (by kernel_rfl) <|
  eBind H fun r1 hr1 H =>
  gS [r0] (by kernel_rfl) P0 <|
  eIf H (fun h2 H =>
    eBind H fun r3 hr3 H =>
    eIf H (fun h4 H =>
      eBind H fun r5 hr5 H =>
      eBind H fun r6 hr6 H =>
      eW Rs_DiskOf (fun _ => []) H <| gE func22 [rg [{ i := 1, call := some { cl := true, auto := true, ins := [], res := (RB r1), G' := [] }, dec := some true }, { i := 5, call := some { cl := true, auto := true, ins := [], res := (RB r3), G' := [] }, dec := some true }], rg [hC 2 true [] (Rs_hDisk r5) [], { i := 3, frz := [1], call := some { cl := true, auto := true, ins := [], res := (Rs_hAll r6), G' := [] } }]] (by kernel_rfl) (P1 (cs_hGood hr1) <| P2 (r1 = true) (h2) <| P1 (cs_l1In hr3) <| P2 (r3 = true) (h4) <| P1 (cs_hDisk hr5) <| P1 (cs_hAll hr6) <| P0))
    (fun h4 H =>
      eW Rs_DiskOf (fun _ => []) H <| gE func22 [rg [{ i := 1, call := some { cl := true, auto := true, ins := [], res := (RB r1), G' := [] }, dec := some true }, { i := 5, call := some { cl := true, auto := true, ins := [], res := (RB r3), G' := [] }, dec := some false }], r0] (by kernel_rfl) (P1 (cs_hGood hr1) <| P2 (r1 = true) (h2) <| P1 (cs_l1In hr3) <| P2 (r3 = false) (eqF h4) <| P0)))
  (fun h2 H =>
    eW Rs_DiskOf (fun _ => []) H <| gE func22 [rg [{ i := 1, call := some { cl := true, auto := true, ins := [], res := (RB r1), G' := [] }, dec := some false }], r0] (by kernel_rfl) (P1 (cs_hGood hr1) <| P2 (r1 = false) (eqF h2) <| P0))
/-!   loop example/g00886/spec l1Cur  steps -/
def Rs_l1Cur_steps (r : (List Int) × Gs_l1Cur) : List D := [ow 1 I r.1]
def Ns_l1Cur_steps (r : (List Int) × Gs_l1Cur) : List Root := [⟨false, true, 3, 1, [.agg [sl 1 (D.int .u8) r.2.code, I r.2.at_, .int .u64 r.2.seed]]⟩]
noncomputable def Ks_l1Cur_steps : Ss_l1Cur_steps → List Item
  | .h1 .. => nav 300 3 [] [.code (bdy f47)]
def Zs_l1Cur_steps : Ss_l1Cur_steps → St
  | .h1 k0 b1 l2 => ⟨sts 21 [(0, .ptr 0 3 0 0), (5, .ref 1 1 none), (6, I k0)], [some ⟨false, true, 3, 1, [.agg [sl 1 (D.int .u8) b1.code, I b1.at_, .int .u64 b1.seed]]⟩, some ⟨false, false, 1, l2.length, List.map I l2⟩]⟩
abbrev Qs_l1Cur_steps := Nx X 47 1 Ks_l1Cur_steps Zs_l1Cur_steps Rs_l1Cur_steps Ns_l1Cur_steps
theorem ns_l1Cur_steps : ∀ s o, Bs_l1Cur_steps s = some o → Qs_l1Cur_steps (Ks_l1Cur_steps s) (Zs_l1Cur_steps s) o
  | .h1 k0 b1 l2, o, H =>
    eIf H (fun h1 H =>
      eBind H fun r2 hr2 H =>
      eCk H fun h3 H =>
      eN H fun r hn => gO [rg [hT 1], rg [hC 2 true [0] (Rs_l1Cur_pick r2) (Ns_l1Cur_pick r2), hA 4 ((l2 ++ [r2.1]).length) (List.map I (l2 ++ [r2.1]))], r0, .canon [0, 3] [0, 5, 6]] (by kernel_rfl) (P2 ((decide (k0 > 0)) = true) (decide_eq_true h1) <| PI (1 : Nat) <| P1 (cs_l1Cur_pick hr2) <| P1 (apL l2 [r2.1]) <| P1 (apB h3) <| P1 (apM I l2 [r2.1]) <| P0) hn)
    (fun h1 H =>
      eN H <| gE func47 [rg [hF 1], r0] (by kernel_rfl) (P2 ((decide (k0 > 0)) = false) (decide_eq_false h1) <| P0))
theorem ws_l1Cur_steps : ∀ s r, loop Bs_l1Cur_steps s = some r → Wc X 47 1 (Ks_l1Cur_steps s) (Zs_l1Cur_steps s) (Rs_l1Cur_steps r) (Ns_l1Cur_steps r) := Nx.all ns_l1Cur_steps
theorem cs_l1Cur_steps {a0 : Gs_l1Cur} {a1 : Int} {r : (List Int) × Gs_l1Cur} (H : Ds_l1Cur_steps a0 a1 = some r) : Ct X.P X.gl 47 [.ptr 0 3 0 0, I a1] [⟨false, true, 3, 1, [.agg [sl 1 (D.int .u8) a0.code, I a0.at_, .int .u64 a0.seed]]⟩] (Rs_l1Cur_steps r) (Ns_l1Cur_steps r) :=
  Ct.of func47 (c := bdy f47) (by kernel_rfl) (by kernel_rfl) <|
  eBind H fun r1 hr1 H =>
  gO [r0, r0, rg [hC 3 true [0] (Rs_l1Cur_pick r1) (Ns_l1Cur_pick r1)], .own 5 1, .canon [0, 1] [0, 5, 6]] (by kernel_rfl) (PI (1 : Nat) <| P1 (cs_l1Cur_pick hr1) <| P0) (ws_l1Cur_steps _ _ H)
/-! loop example/g00886/spec DrawWalkFrom -/
def Rs_DrawWalkFrom (r : Gi_Hex × (List Int)) : List D := [.agg [I r.1.Q, I r.1.R], ow 1 I r.2]
noncomputable def Ks_DrawWalkFrom : Ss_DrawWalkFrom → List Item
  | .h1 .. => nav 300 7 [false, true] [.code (bdy f23)]
def Zs_DrawWalkFrom : Ss_DrawWalkFrom → St
  | .h1 n0 b1 b2 l3 => ⟨sts 39 [(2, .ptr 0 2 0 0), (5, .ptr 1 2 0 0), (6, .ref 2 1 none), (7, I n0)], [some ⟨false, true, 2, 1, [.agg [I b1.Q, I b1.R]]⟩, some ⟨false, true, 2, 1, [.agg [I b2.Q, I b2.R]]⟩, some ⟨false, false, 1, l3.length, List.map I l3⟩]⟩
abbrev Qs_DrawWalkFrom := Nx X 23 0 Ks_DrawWalkFrom Zs_DrawWalkFrom Rs_DrawWalkFrom (fun _ => [])
theorem ns_DrawWalkFrom : ∀ s o, Bs_DrawWalkFrom s = some o → Qs_DrawWalkFrom (Ks_DrawWalkFrom s) (Zs_DrawWalkFrom s) o
  | .h1 n0 b1 b2 l3, o, H =>
    eIf H (fun h1 H =>
      eCk H fun h2 H =>
      eN H fun r hn => gO [rg [hT 3], rg [hA 2 ((l3 ++ [0, 3]).length) (List.map I (l3 ++ [0, 3]))], .canon [0, 1, 4] [2, 5, 6, 7]] (by kernel_rfl) (P2 ((decide (((l3.length : Nat) : Int) < n0)) = true) (decide_eq_true h1) <| P1 (apL l3 [0, 3]) <| P1 (apB h2) <| P1 (apM I l3 [0, 3]) <| P0) hn)
    (fun h1 H =>
      eN H <| gE func23 [rg [hF 3], r0] (by kernel_rfl) (P2 ((decide (((l3.length : Nat) : Int) < n0)) = false) (decide_eq_false h1) <| P0))
theorem ws_DrawWalkFrom : ∀ s r, loop Bs_DrawWalkFrom s = some r → Wc X 23 0 (Ks_DrawWalkFrom s) (Zs_DrawWalkFrom s) (Rs_DrawWalkFrom r) ((fun _ => []) r) := Nx.all ns_DrawWalkFrom
theorem cs_DrawWalkFrom {a0 : (List Int)} {r : Gi_Hex × (List Int)} (H : Ds_DrawWalkFrom a0 = some r) : Ct X.P X.gl 23 [sl 1 (D.int .u8) a0] [] (Rs_DrawWalkFrom r) [] :=
  Ct.of func23 (c := bdy f23) (by kernel_rfl) (by kernel_rfl) <|
  eBind H fun r1 hr1 H =>
  eBind H fun r2 hr2 H =>
  eBind H fun r3 hr3 H =>
  gS [r0, r0, rg [hC 1 true [1] (Rs_l1Cur_anyHex r1) (Ns_l1Cur_anyHex r1), hC 3 true [1] (Rs_l1Cur_steps r2) (Ns_l1Cur_steps r2)], rg [hC 1 true [1] (Rs_l1Cur_pick r3) (Ns_l1Cur_pick r3)]] (by kernel_rfl) (PI (1 : Nat) <| P1 (cs_l1Cur_anyHex hr1) <| PI (1 : Nat) <| P1 (cs_l1Cur_steps hr2) <| PI (1 : Nat) <| P1 (cs_l1Cur_pick hr3) <| P0) <|
  eIf H (fun h4 H =>
    eBind H fun r5 hr5 H =>
    eCk H fun h6 H =>
    eW Rs_DrawWalkFrom (fun _ => []) H <| gE func23 [rg [hT 0], rg [{ i := 3, frz := [4], call := some { cl := true, auto := true, ins := [1], res := (Rs_l1Cur_among r5), G' := (Ns_l1Cur_among r5) } }, hA 5 ((r2.1 ++ [r5.1]).length) (List.map I (r2.1 ++ [r5.1]))], r0] (by kernel_rfl) (P2 (((r3.1 : Int) == 0) = true) (beqT h4) <| PI (1 : Nat) <| P1 (cs_l1Cur_among hr5) <| P1 (apL r2.1 [r5.1]) <| P1 (apB h6) <| P1 (apM I r2.1 [r5.1]) <| P0))
  (fun h4 H =>
    gS [rg [hF 0]] (by kernel_rfl) (P2 (((r3.1 : Int) == 0) = false) (beqF h4) <| P0) <|
    eIf H (fun h5 H =>
      eBind H fun r6 hr6 H =>
      gO [rg [hT 0], rg [hC 1 true [1] (Rs_l1Cur_pick r6) (Ns_l1Cur_pick r6)], .canon [0, 3, 2] [2, 5, 6, 7]] (by kernel_rfl) (P2 (((r3.1 : Int) == 1) = true) (beqT h5) <| PI (1 : Nat) <| P1 (cs_l1Cur_pick hr6) <| P0) (ws_DrawWalkFrom _ _ H))
    (fun h5 H =>
      eW Rs_DrawWalkFrom (fun _ => []) H <| gE func23 [rg [hF 0], r0] (by kernel_rfl) (P2 (((r3.1 : Int) == 1) = false) (beqF h5) <| P0)))
/-! loop example/g00886/impl isDirection -/
theorem ci_isDirection {a0 : Int} {r : Bool} (H : Di_isDirection a0 = some r) : Ct X.P X.gl 36 [I a0] [] (RB r) [] :=
  Ct.of func36 (c := bdy f36) (by kernel_rfl) (by kernel_rfl) <|
  eBind H fun r1 hr1 H =>
  eW RB (fun _ => []) H <| gE func36 [r0, rg [hC 1 true [] (RB r1) []]] (by kernel_rfl) (P1 (ci_inRange hr1) <| P0)
/-! loop example/g00886/impl WalkFrom -/
def Ri_WalkFrom (r : (List Gi_Hex) × Bool) : List D := [ow 2 gi_Hex r.1, .bool r.2]
noncomputable def Ki_WalkFrom : Si_WalkFrom → List Item
  | .h1 .. => nav 300 3 [false] [.code (bdy f24)]
  | .h2 .. => nav 300 6 [false, false] [.code (bdy f24)]
def Zi_WalkFrom : Si_WalkFrom → St
  | .h1 path0 t1 t2 t3 b4 => ⟨sts 48 [(1, sl 1 I path0), (2, .ptr 0 2 0 0), (19, sl 1 I t1), (20, I t2), (21, I t3)], [some ⟨false, true, 2, 1, [.agg [I b4.Q, I b4.R]]⟩]⟩
  | .h2 t0 t1 t2 b3 l4 => ⟨sts 48 [(2, .ptr 0 2 0 0), (8, .ref 1 2 none), (30, sl 1 I t0), (31, I t1), (32, I t2)], [some ⟨false, true, 2, 1, [.agg [I b3.Q, I b3.R]]⟩, some ⟨false, false, 2, l4.length, List.map gi_Hex l4⟩]⟩
abbrev Qi_WalkFrom := Nx X 24 0 Ki_WalkFrom Zi_WalkFrom Ri_WalkFrom (fun _ => [])
theorem ni_WalkFrom : ∀ s o, Bi_WalkFrom s = some o → Qi_WalkFrom (Ki_WalkFrom s) (Zi_WalkFrom s) o
  | .h1 path0 t1 t2 t3 b4, o, H =>
    eIf H (fun h1 H =>
      eCk H fun h2 H =>
      eBind H fun x3 hx3 H =>
      eBind H fun r4 hr4 H =>
      gN [rg [hT 0], rg [hE 1 (I x3)]] (by kernel_rfl) (P2 ((decide (t3 < t2)) = true) (decide_eq_true h1) <| P1 h2 <| P1 (int_lt_of_at h2 hx3) <| P1 (at_map I hx3) <| P0) <|
      eIf H (fun h5 H =>
        eN H fun r hn => gO [rg [{ i := 1, call := some { cl := true, auto := true, ins := [], res := (RB r4), G' := [] }, dec := some true }], r0, .canon [0] [1, 2, 19, 20, 21]] (by kernel_rfl) (P1 (ci_isDirection hr4) <| P2 (r4 = true) (h5) <| P0) hn)
      (fun h5 H =>
        eN H <| gE func24 [rg [{ i := 1, call := some { cl := true, auto := true, ins := [], res := (RB r4), G' := [] }, dec := some false }], r0] (by kernel_rfl) (P1 (ci_isDirection hr4) <| P2 (r4 = false) (eqF h5) <| P0)))
    (fun h1 H =>
      eN H fun r hn => gO [rg [hF 0], r0, r0, .canon [0, 1] [2, 8, 30, 31, 32]] (by kernel_rfl) (P2 ((decide (t3 < t2)) = false) (decide_eq_false h1) <| P0) hn)
  | .h2 t0 t1 t2 b3 l4, o, H =>
    eIf H (fun h1 H =>
      eCk H fun h2 H =>
      eBind H fun x3 hx3 H =>
      eBind H fun r4 hr4 H =>
      eBind H fun r5 hr5 H =>
      gN [rg [hT 0], rg [hE 1 (I x3)], rg [hC 2 true [] (Ri_stepBy r4) []]] (by kernel_rfl) (P2 ((decide (t2 < t1)) = true) (decide_eq_true h1) <| P1 h2 <| P1 (int_lt_of_at h2 hx3) <| P1 (at_map I hx3) <| P1 (ci_stepBy hr4) <| P0) <|
      eIf H (fun h6 H =>
        eCk H fun h7 H =>
        eN H fun r hn => gO [rg [{ i := 1, call := some { cl := true, auto := true, ins := [], res := (RB r5), G' := [] }, dec := some true }], rg [hA 3 ((l4 ++ [r4]).length) (List.map gi_Hex (l4 ++ [r4]))], r0, .canon [0, 3] [2, 8, 30, 31, 32]] (by kernel_rfl) (P1 (ci_IsHex hr5) <| P2 (r5 = true) (h6) <| P1 (apL l4 [r4]) <| P1 (apB h7) <| P1 (apM gi_Hex l4 [r4]) <| P0) hn)
      (fun h6 H =>
        eN H <| gE func24 [rg [{ i := 1, call := some { cl := true, auto := true, ins := [], res := (RB r5), G' := [] }, dec := some false }], r0] (by kernel_rfl) (P1 (ci_IsHex hr5) <| P2 (r5 = false) (eqF h6) <| P0)))
    (fun h1 H =>
      eN H <| gE func24 [rg [hF 0], r0] (by kernel_rfl) (P2 ((decide (t2 < t1)) = false) (decide_eq_false h1) <| P0))
theorem wi_WalkFrom : ∀ s r, loop Bi_WalkFrom s = some r → Wc X 24 0 (Ki_WalkFrom s) (Zi_WalkFrom s) (Ri_WalkFrom r) ((fun _ => []) r) := Nx.all ni_WalkFrom
theorem ci_WalkFrom {a0 : Gi_Hex} {a1 : (List Int)} {r : (List Gi_Hex) × Bool} (H : Di_WalkFrom a0 a1 = some r) : Ct X.P X.gl 24 [.agg [I a0.Q, I a0.R], sl 1 I a1] [] (Ri_WalkFrom r) [] :=
  Ct.of func24 (c := bdy f24) (by kernel_rfl) (by kernel_rfl) <|
  eBind H fun r1 hr1 H =>
  gS [r0] (by kernel_rfl) P0 <|
  eIf H (fun h2 H =>
    eIf H (fun h3 H =>
      eW Ri_WalkFrom (fun _ => []) H <| gE func24 [rg [{ i := 1, call := some { cl := true, auto := true, ins := [], res := (RB r1), G' := [] }, dec := some true }, hT 6], r0] (by kernel_rfl) (P1 (ci_IsHex hr1) <| P2 (r1 = true) (h2) <| P2 ((decide (((a1.length : Nat) : Int) > 60)) = true) (decide_eq_true h3) <| P0))
    (fun h3 H =>
      gO [rg [{ i := 1, call := some { cl := true, auto := true, ins := [], res := (RB r1), G' := [] }, dec := some true }, hF 6], r0, .canon [0] [1, 2, 19, 20, 21]] (by kernel_rfl) (P1 (ci_IsHex hr1) <| P2 (r1 = true) (h2) <| P2 ((decide (((a1.length : Nat) : Int) > 60)) = false) (decide_eq_false h3) <| P0) (wi_WalkFrom _ _ H)))
  (fun h2 H =>
    eW Ri_WalkFrom (fun _ => []) H <| gE func24 [rg [{ i := 1, call := some { cl := true, auto := true, ins := [], res := (RB r1), G' := [] }, dec := some false }], r0] (by kernel_rfl) (P1 (ci_IsHex hr1) <| P2 (r1 = false) (eqF h2) <| P0))
/-! loop example/g00886/spec l1All -/
noncomputable def Ks_l1All : Ss_l1All → List Item
  | .h1 .. => nav 300 2 [] [.code (bdy f49)]
def Zs_l1All : Ss_l1All → St
  | .h1 lo0 vhi1 t2 t3 t4 => ⟨sts 21 [(1, I lo0), (2, I vhi1), (9, sl 1 I t2), (10, I t3), (11, I t4)], []⟩
abbrev Qs_l1All := Nx X 49 0 Ks_l1All Zs_l1All RB (fun _ => [])
theorem ns_l1All : ∀ s o, Bs_l1All s = some o → Qs_l1All (Ks_l1All s) (Zs_l1All s) o
  | .h1 lo0 vhi1 t2 t3 t4, o, H =>
    eIf H (fun h1 H =>
      eCk H fun h2 H =>
      eBind H fun x3 hx3 H =>
      eBind H fun r4 hr4 H =>
      gN [rg [hT 0], rg [hE 1 (I x3)]] (by kernel_rfl) (P2 ((decide (t4 < t3)) = true) (decide_eq_true h1) <| P1 h2 <| P1 (int_lt_of_at h2 hx3) <| P1 (at_map I hx3) <| P0) <|
      eIf H (fun h5 H =>
        eN H fun r hn => gO [rg [{ i := 3, call := some { cl := true, auto := true, ins := [], res := (RB r4), G' := [] }, dec := some true }], r0, .canon [] [1, 2, 9, 10, 11]] (by kernel_rfl) (P1 (cs_l1In hr4) <| P2 (r4 = true) (h5) <| P0) hn)
      (fun h5 H =>
        eN H <| gE func49 [rg [{ i := 3, call := some { cl := true, auto := true, ins := [], res := (RB r4), G' := [] }, dec := some false }], r0] (by kernel_rfl) (P1 (cs_l1In hr4) <| P2 (r4 = false) (eqF h5) <| P0)))
    (fun h1 H =>
      eN H <| gE func49 [rg [hF 0], r0] (by kernel_rfl) (P2 ((decide (t4 < t3)) = false) (decide_eq_false h1) <| P0))
theorem ws_l1All : ∀ s r, loop Bs_l1All s = some r → Wc X 49 0 (Ks_l1All s) (Zs_l1All s) (RB r) ((fun _ => []) r) := Nx.all ns_l1All
theorem cs_l1All {a0 : (List Int)} {a1 : Int} {a2 : Int} {r : Bool} (H : Ds_l1All a0 a1 a2 = some r) : Ct X.P X.gl 49 [sl 1 I a0, I a1, I a2] [] (RB r) [] :=
  Ct.of func49 (c := bdy f49) (by kernel_rfl) (by kernel_rfl) <|
  gO [r0, r0, .canon [] [1, 2, 9, 10, 11]] (by kernel_rfl) P0 (ws_l1All _ _ H)
/-! loop example/g00886/spec WalkFrom -/
def Rs_WalkFrom (r : (List Gi_Hex) × Bool) : List D := [sl 2 gi_Hex r.1, .bool r.2]
noncomputable def Ks_WalkFrom : Ss_WalkFrom → List Item
  | .h1 .. => nav 300 4 [false] [.code (bdy f25)]
def Zs_WalkFrom : Ss_WalkFrom → St
  | .h1 t0 t1 t2 b3 l4 => ⟨sts 40 [(2, .ptr 0 2 0 0), (6, .ref 1 2 none), (22, sl 1 I t0), (23, I t1), (24, I t2)], [some ⟨false, true, 2, 1, [.agg [I b3.Q, I b3.R]]⟩, some ⟨false, false, 2, l4.length, List.map gi_Hex l4⟩]⟩
abbrev Qs_WalkFrom := Nx X 25 0 Ks_WalkFrom Zs_WalkFrom Rs_WalkFrom (fun _ => [])
theorem ns_WalkFrom : ∀ s o, Bs_WalkFrom s = some o → Qs_WalkFrom (Ks_WalkFrom s) (Zs_WalkFrom s) o
  | .h1 t0 t1 t2 b3 l4, o, H =>
    eIf H (fun h1 H =>
      eCk H fun h2 H =>
      eBind H fun x3 hx3 H =>
      eBind H fun r4 hr4 H =>
      eCk H fun h5 H =>
      eN H fun r hn => gO [rg [hT 0], rg [hE 1 (I x3)], rg [hC 2 true [] (Rs_hStep r4) []], rg [hA 3 ((l4 ++ [r4]).length) (List.map gi_Hex (l4 ++ [r4]))], r0, .canon [0, 3] [2, 6, 22, 23, 24]] (by kernel_rfl) (P2 ((decide (t2 < t1)) = true) (decide_eq_true h1) <| P1 h2 <| P1 (int_lt_of_at h2 hx3) <| P1 (at_map I hx3) <| P1 (cs_hStep hr4) <| P1 (apL l4 [r4]) <| P1 (apB h5) <| P1 (apM gi_Hex l4 [r4]) <| P0) hn)
    (fun h1 H =>
      eBind H fun r2 hr2 H =>
      eN H <| gE func25 [rg [hF 0], rg [{ i := 1, frz := [1], call := some { cl := true, auto := true, ins := [], res := (Rs_hAll r2), G' := [] } }]] (by kernel_rfl) (P2 ((decide (t2 < t1)) = false) (decide_eq_false h1) <| P1 (cs_hAll hr2) <| P0))
theorem ws_WalkFrom : ∀ s r, loop Bs_WalkFrom s = some r → Wc X 25 0 (Ks_WalkFrom s) (Zs_WalkFrom s) (Rs_WalkFrom r) ((fun _ => []) r) := Nx.all ns_WalkFrom
theorem cs_WalkFrom {a0 : Gi_Hex} {a1 : (List Int)} {r : (List Gi_Hex) × Bool} (H : Ds_WalkFrom a0 a1 = some r) : Ct X.P X.gl 25 [.agg [I a0.Q, I a0.R], sl 1 I a1] [] (Rs_WalkFrom r) [] :=
  Ct.of func25 (c := bdy f25) (by kernel_rfl) (by kernel_rfl) <|
  eBind H fun r1 hr1 H =>
  gS [r0] (by kernel_rfl) P0 <|
  eIf H (fun h2 H =>
    eIf H (fun h3 H =>
      eW Rs_WalkFrom (fun _ => []) H <| gE func25 [rg [{ i := 1, call := some { cl := true, auto := true, ins := [], res := (RB r1), G' := [] }, dec := some true }, hT 6], r0] (by kernel_rfl) (P1 (cs_hGood hr1) <| P2 (r1 = true) (h2) <| P2 ((decide (((a1.length : Nat) : Int) > 60)) = true) (decide_eq_true h3) <| P0))
    (fun h3 H =>
      eBind H fun r4 hr4 H =>
      eIf H (fun h5 H =>
        gO [rg [{ i := 1, call := some { cl := true, auto := true, ins := [], res := (RB r1), G' := [] }, dec := some true }, hF 6, { i := 10, call := some { cl := true, auto := true, ins := [], res := (RB r4), G' := [] }, dec := some true }], r0, r0, .own 6 2, .canon [0, 1] [2, 6, 22, 23, 24]] (by kernel_rfl) (P1 (cs_hGood hr1) <| P2 (r1 = true) (h2) <| P2 ((decide (((a1.length : Nat) : Int) > 60)) = false) (decide_eq_false h3) <| P1 (cs_l1All hr4) <| P2 (r4 = true) (h5) <| P0) (ws_WalkFrom _ _ H))
      (fun h5 H =>
        eW Rs_WalkFrom (fun _ => []) H <| gE func25 [rg [{ i := 1, call := some { cl := true, auto := true, ins := [], res := (RB r1), G' := [] }, dec := some true }, hF 6, { i := 10, call := some { cl := true, auto := true, ins := [], res := (RB r4), G' := [] }, dec := some false }], r0] (by kernel_rfl) (P1 (cs_hGood hr1) <| P2 (r1 = true) (h2) <| P2 ((decide (((a1.length : Nat) : Int) > 60)) = false) (decide_eq_false h3) <| P1 (cs_l1All hr4) <| P2 (r4 = false) (eqF h5) <| P0))))
  (fun h2 H =>
    eW Rs_WalkFrom (fun _ => []) H <| gE func25 [rg [{ i := 1, call := some { cl := true, auto := true, ins := [], res := (RB r1), G' := [] }, dec := some false }], r0] (by kernel_rfl) (P1 (cs_hGood hr1) <| P2 (r1 = false) (eqF h2) <| P0))
/-! loop example/g00886/spec DrawNearestAlong -/
def Rs_DrawNearestAlong (r : (List Gi_Hex) × Gi_Hex) : List D := [ow 2 gi_Hex r.1, .agg [I r.2.Q, I r.2.R]]
noncomputable def Ks_DrawNearestAlong : Ss_DrawNearestAlong → List Item
  | .h1 .. => nav 300 4 [] [.code (bdy f26)]
def Zs_DrawNearestAlong : Ss_DrawNearestAlong → St
  | .h1 k0 b1 b2 l3 => ⟨sts 39 [(3, .ptr 0 2 0 0), (4, .ptr 1 3 0 0), (5, .ref 2 2 none), (6, I k0)], [some ⟨false, true, 2, 1, [.agg [I b1.Q, I b1.R]]⟩, some ⟨false, true, 3, 1, [.agg [sl 1 (D.int .u8) b2.code, I b2.at_, .int .u64 b2.seed]]⟩, some ⟨false, false, 2, l3.length, List.map gi_Hex l3⟩]⟩
abbrev Qs_DrawNearestAlong := Nx X 26 0 Ks_DrawNearestAlong Zs_DrawNearestAlong Rs_DrawNearestAlong (fun _ => [])
theorem ns_DrawNearestAlong : ∀ s o, Bs_DrawNearestAlong s = some o → Qs_DrawNearestAlong (Ks_DrawNearestAlong s) (Zs_DrawNearestAlong s) o
  | .h1 k0 b1 b2 l3, o, H =>
    eIf H (fun h1 H =>
      eBind H fun r2 hr2 H =>
      eCk H fun h3 H =>
      eN H fun r hn => gO [rg [hT 1], rg [hC 2 true [1] (Rs_l1Cur_hex r2) (Ns_l1Cur_hex r2), hA 4 ((l3 ++ [r2.1]).length) (List.map gi_Hex (l3 ++ [r2.1]))], r0, .canon [0, 1, 4] [3, 4, 5, 6]] (by kernel_rfl) (P2 ((decide (k0 > 0)) = true) (decide_eq_true h1) <| PI (1 : Nat) <| P1 (cs_l1Cur_hex hr2) <| P1 (apL l3 [r2.1]) <| P1 (apB h3) <| P1 (apM gi_Hex l3 [r2.1]) <| P0) hn)
    (fun h1 H =>
      eBind H fun r2 hr2 H =>
      gN [rg [hF 1], rg [hC 1 true [1] (Rs_l1Cur_pick r2) (Ns_l1Cur_pick r2)]] (by kernel_rfl) (P2 ((decide (k0 > 0)) = false) (decide_eq_false h1) <| PI (1 : Nat) <| P1 (cs_l1Cur_pick hr2) <| P0) <|
      eIf H (fun h3 H =>
        eBind H fun r4 hr4 H =>
        eCk H fun h5 H =>
        eBind H fun r6 hr6 H =>
        eN H <| gE func26 [rg [hT 0], rg [hC 2 true [1] (Rs_l1Cur_anyHex r4) (Ns_l1Cur_anyHex r4), hA 4 ((l3 ++ [r4.1]).length) (List.map gi_Hex (l3 ++ [r4.1]))], rg [hC 2 true [1] (Rs_l1Cur_anyHex r6) (Ns_l1Cur_anyHex r6)]] (by kernel_rfl) (P2 (((r2.1 : Int) == 0) = true) (beqT h3) <| PI (1 : Nat) <| P1 (cs_l1Cur_anyHex hr4) <| P1 (apL l3 [r4.1]) <| P1 (apB h5) <| P1 (apM gi_Hex l3 [r4.1]) <| PI (1 : Nat) <| P1 (cs_l1Cur_anyHex hr6) <| P0))
      (fun h3 H =>
        gN [rg [hF 0]] (by kernel_rfl) (P2 (((r2.1 : Int) == 0) = false) (beqF h3) <| P0) <|
        eIf H (fun h4 H =>
          eBind H fun r5 hr5 H =>
          eCk H fun h6 H =>
          eCk H fun h7 H =>
          eBind H fun r8 hr8 H =>
          eN H <| gE func26 [rg [hT 0], rg [hC 1 true [1] (Rs_l1Cur_pick r5) (Ns_l1Cur_pick r5), hA 3 ((List.replicate (Int.toNat (IntKind.wrap .i64 (60 + r5.1))) (Gi_Hex.mk 0 0)).length) (List.map gi_Hex (List.replicate (Int.toNat (IntKind.wrap .i64 (60 + r5.1))) (Gi_Hex.mk 0 0)))], rg [hC 2 true [1] (Rs_l1Cur_anyHex r8) (Ns_l1Cur_anyHex r8)]] (by kernel_rfl) (P2 (((r2.1 : Int) == 1) = true) (beqT h4) <| PI (1 : Nat) <| P1 (cs_l1Cur_pick hr5) <| PI (IntKind.wrap .i64 (60 + r5.1) : Int) <| P2 ((0 : Int) ≤ (IntKind.wrap .i64 (60 + r5.1))) h6 <| P2 (Int.toNat (IntKind.wrap .i64 (60 + r5.1)) * 16 ≤ 140737488355328) h7 <| P1 (repLen (Int.toNat (IntKind.wrap .i64 (60 + r5.1))) (Gi_Hex.mk 0 0)) <| P1 (repMap gi_Hex (Int.toNat (IntKind.wrap .i64 (60 + r5.1))) (Gi_Hex.mk 0 0)) <| PI (1 : Nat) <| P1 (cs_l1Cur_anyHex hr8) <| P0))
        (fun h4 H =>
          eBind H fun r5 hr5 H =>
          eN H <| gE func26 [rg [hF 0], rg [hC 2 true [1] (Rs_l1Cur_anyHex r5) (Ns_l1Cur_anyHex r5)]] (by kernel_rfl) (P2 (((r2.1 : Int) == 1) = false) (beqF h4) <| PI (1 : Nat) <| P1 (cs_l1Cur_anyHex hr5) <| P0))))
theorem ws_DrawNearestAlong : ∀ s r, loop Bs_DrawNearestAlong s = some r → Wc X 26 0 (Ks_DrawNearestAlong s) (Zs_DrawNearestAlong s) (Rs_DrawNearestAlong r) ((fun _ => []) r) := Nx.all ns_DrawNearestAlong
theorem cs_DrawNearestAlong {a0 : (List Int)} {r : (List Gi_Hex) × Gi_Hex} (H : Ds_DrawNearestAlong a0 = some r) : Ct X.P X.gl 26 [sl 1 (D.int .u8) a0] [] (Rs_DrawNearestAlong r) [] :=
  Ct.of func26 (c := bdy f26) (by kernel_rfl) (by kernel_rfl) <|
  eBind H fun r1 hr1 H =>
  gO [r0, r0, r0, rg [hC 1 true [1] (Rs_l1Cur_pick r1) (Ns_l1Cur_pick r1)], .own 5 2, .canon [0, 1, 2] [3, 4, 5, 6]] (by kernel_rfl) (PI (1 : Nat) <| P1 (cs_l1Cur_pick hr1) <| P0) (ws_DrawNearestAlong _ _ H)
/-! loop example/g00886/impl NearestAlong -/
def Ri_NearestAlong (r : Int × Bool) : List D := [I r.1, .bool r.2]
noncomputable def Ki_NearestAlong : Si_NearestAlong → List Item
  | .h1 .. => nav 300 4 [false] [.code (bdy f27)]
def Zi_NearestAlong : Si_NearestAlong → St
  | .h1 list0 best1 t2 t3 b4 => ⟨sts 47 [(0, sl 2 gi_Hex list0), (3, .ptr 0 2 0 0), (6, I best1), (27, I t2), (28, I t3)], [some ⟨false, true, 2, 1, [.agg [I b4.Q, I b4.R]]⟩]⟩
abbrev Qi_NearestAlong := Nx X 27 0 Ki_NearestAlong Zi_NearestAlong Ri_NearestAlong (fun _ => [])
theorem ni_NearestAlong : ∀ s o, Bi_NearestAlong s = some o → Qi_NearestAlong (Ki_NearestAlong s) (Zi_NearestAlong s) o
  | .h1 list0 best1 t2 t3 b4, o, H =>
    eIf H (fun h1 H =>
      eCk H fun h2 H =>
      eBind H fun x3 hx3 H =>
      eBind H fun r4 hr4 H =>
      eCk H fun h5 H =>
      eBind H fun x6 hx6 H =>
      eBind H fun r7 hr7 H =>
      gN [rg [hT 0], r0] (by kernel_rfl) (P2 ((decide (t3 < t2)) = true) (decide_eq_true h1) <| P0) <|
      eIf H (fun h8 H =>
        eN H fun r hn => gO [rg [hE 3 (gi_Hex x3), hC 5 true [] (RI r4) [], hE 9 (gi_Hex x6), hC 11 true [] (RI r7) [], hT 12], r0, r0, .canon [0] [0, 3, 6, 27, 28]] (by kernel_rfl) (P1 h2 <| P1 (int_lt_of_at h2 hx3) <| P1 (at_map gi_Hex hx3) <| P1 (ci_distance hr4) <| P1 h5 <| P1 (int_lt_of_at h5 hx6) <| P1 (at_map gi_Hex hx6) <| P1 (ci_distance hr7) <| P2 ((decide (r4 < r7)) = true) (decide_eq_true h8) <| P0) hn)
      (fun h8 H =>
        eN H fun r hn => gO [rg [hE 3 (gi_Hex x3), hC 5 true [] (RI r4) [], hE 9 (gi_Hex x6), hC 11 true [] (RI r7) [], hF 12], r0, .canon [0] [0, 3, 6, 27, 28]] (by kernel_rfl) (P1 h2 <| P1 (int_lt_of_at h2 hx3) <| P1 (at_map gi_Hex hx3) <| P1 (ci_distance hr4) <| P1 h5 <| P1 (int_lt_of_at h5 hx6) <| P1 (at_map gi_Hex hx6) <| P1 (ci_distance hr7) <| P2 ((decide (r4 < r7)) = false) (decide_eq_false h8) <| P0) hn))
    (fun h1 H =>
      eN H <| gE func27 [rg [hF 0], r0] (by kernel_rfl) (P2 ((decide (t3 < t2)) = false) (decide_eq_false h1) <| P0))
theorem wi_NearestAlong : ∀ s r, loop Bi_NearestAlong s = some r → Wc X 27 0 (Ki_NearestAlong s) (Zi_NearestAlong s) (Ri_NearestAlong r) ((fun _ => []) r) := Nx.all ni_NearestAlong
theorem ci_NearestAlong {a0 : (List Gi_Hex)} {a1 : Gi_Hex} {r : Int × Bool} (H : Di_NearestAlong a0 a1 = some r) : Ct X.P X.gl 27 [sl 2 gi_Hex a0, .agg [I a1.Q, I a1.R]] [] (Ri_NearestAlong r) [] :=
  Ct.of func27 (c := bdy f27) (by kernel_rfl) (by kernel_rfl) <|
  gS [r0] (by kernel_rfl) P0 <|
  eIf H (fun h1 H =>
    eW Ri_NearestAlong (fun _ => []) H <| gE func27 [rg [hT 2], r0] (by kernel_rfl) (P2 ((decide (((a0.length : Nat) : Int) < 1)) = true) (decide_eq_true h1) <| P0))
  (fun h1 H =>
    eIf H (fun h2 H =>
      eW Ri_NearestAlong (fun _ => []) H <| gE func27 [rg [hF 2, hT 6], r0] (by kernel_rfl) (P2 ((decide (((a0.length : Nat) : Int) < 1)) = false) (decide_eq_false h1) <| P2 ((decide (((a0.length : Nat) : Int) > 60)) = true) (decide_eq_true h2) <| P0))
    (fun h2 H =>
      eBind H fun r3 hr3 H =>
      eIf H (fun h4 H =>
        eBind H fun r5 hr5 H =>
        eIf H (fun h6 H =>
          gO [rg [hF 2, hF 6, { i := 10, call := some { cl := true, auto := true, ins := [], res := (RB r3), G' := [] }, dec := some true }, { i := 15, call := some { cl := true, auto := true, ins := [], res := (RB r5), G' := [] }, dec := some true }], r0, r0, .canon [0] [0, 3, 6, 27, 28]] (by kernel_rfl) (P2 ((decide (((a0.length : Nat) : Int) < 1)) = false) (decide_eq_false h1) <| P2 ((decide (((a0.length : Nat) : Int) > 60)) = false) (decide_eq_false h2) <| P1 (ci_allHexes hr3) <| P2 (r3 = true) (h4) <| P1 (ci_IsHex hr5) <| P2 (r5 = true) (h6) <| P0) (wi_NearestAlong _ _ H))
        (fun h6 H =>
          eW Ri_NearestAlong (fun _ => []) H <| gE func27 [rg [hF 2, hF 6, { i := 10, call := some { cl := true, auto := true, ins := [], res := (RB r3), G' := [] }, dec := some true }, { i := 15, call := some { cl := true, auto := true, ins := [], res := (RB r5), G' := [] }, dec := some false }], r0] (by kernel_rfl) (P2 ((decide (((a0.length : Nat) : Int) < 1)) = false) (decide_eq_false h1) <| P2 ((decide (((a0.length : Nat) : Int) > 60)) = false) (decide_eq_false h2) <| P1 (ci_allHexes hr3) <| P2 (r3 = true) (h4) <| P1 (ci_IsHex hr5) <| P2 (r5 = false) (eqF h6) <| P0)))
      (fun h4 H =>
        eW Ri_NearestAlong (fun _ => []) H <| gE func27 [rg [hF 2, hF 6, { i := 10, call := some { cl := true, auto := true, ins := [], res := (RB r3), G' := [] }, dec := some false }], r0] (by kernel_rfl) (P2 ((decide (((a0.length : Nat) : Int) < 1)) = false) (decide_eq_false h1) <| P2 ((decide (((a0.length : Nat) : Int) > 60)) = false) (decide_eq_false h2) <| P1 (ci_allHexes hr3) <| P2 (r3 = false) (eqF h4) <| P0))))
/-! loop example/g00886/spec NearestAlong -/
def Rs_NearestAlong (r : Int × Bool) : List D := [I r.1, .bool r.2]
noncomputable def Ks_NearestAlong : Ss_NearestAlong → List Item
  | .h1 .. => nav 300 4 [false] [.code (bdy f28)]
def Zs_NearestAlong : Ss_NearestAlong → St
  | .h1 list0 best1 t2 t3 t4 b5 => ⟨sts 41 [(0, sl 2 gi_Hex list0), (3, .ptr 0 2 0 0), (6, I best1), (18, sl 2 gi_Hex t2), (19, I t3), (20, I t4)], [some ⟨false, true, 2, 1, [.agg [I b5.Q, I b5.R]]⟩]⟩
abbrev Qs_NearestAlong := Nx X 28 0 Ks_NearestAlong Zs_NearestAlong Rs_NearestAlong (fun _ => [])
theorem ns_NearestAlong : ∀ s o, Bs_NearestAlong s = some o → Qs_NearestAlong (Ks_NearestAlong s) (Zs_NearestAlong s) o
  | .h1 list0 best1 t2 t3 t4 b5, o, H =>
    eIf H (fun h1 H =>
      eCk H fun h2 H =>
      eBind H fun x3 hx3 H =>
      eBind H fun r4 hr4 H =>
      gN [rg [hT 0], rg [hE 2 (gi_Hex x3)]] (by kernel_rfl) (P2 ((decide (t4 < t3)) = true) (decide_eq_true h1) <| P1 h2 <| P1 (int_lt_of_at h2 hx3) <| P1 (at_map gi_Hex hx3) <| P0) <|
      eIf H (fun h5 H =>
        eBind H fun r6 hr6 H =>
        eCk H fun h7 H =>
        eBind H fun x8 hx8 H =>
        eBind H fun r9 hr9 H =>
        gN [rg [{ i := 1, call := some { cl := true, auto := true, ins := [], res := (RB r4), G' := [] }, dec := some true }]] (by kernel_rfl) (P1 (cs_hGood hr4) <| P2 (r4 = true) (h5) <| P0) <|
        eIf H (fun h10 H =>
          eN H fun r hn => gO [rg [hC 2 true [] (RI r6) [], hE 6 (gi_Hex x8), hC 8 true [] (RI r9) [], hT 9], r0, r0, .canon [0] [0, 3, 6, 18, 19, 20]] (by kernel_rfl) (P1 (cs_hDistance hr6) <| P1 h7 <| P1 (int_lt_of_at h7 hx8) <| P1 (at_map gi_Hex hx8) <| P1 (cs_hDistance hr9) <| P2 ((decide (r6 < r9)) = true) (decide_eq_true h10) <| P0) hn)
        (fun h10 H =>
          eN H fun r hn => gO [rg [hC 2 true [] (RI r6) [], hE 6 (gi_Hex x8), hC 8 true [] (RI r9) [], hF 9], r0, .canon [0] [0, 3, 6, 18, 19, 20]] (by kernel_rfl) (P1 (cs_hDistance hr6) <| P1 h7 <| P1 (int_lt_of_at h7 hx8) <| P1 (at_map gi_Hex hx8) <| P1 (cs_hDistance hr9) <| P2 ((decide (r6 < r9)) = false) (decide_eq_false h10) <| P0) hn))
      (fun h5 H =>
        eN H <| gE func28 [rg [{ i := 1, call := some { cl := true, auto := true, ins := [], res := (RB r4), G' := [] }, dec := some false }], r0] (by kernel_rfl) (P1 (cs_hGood hr4) <| P2 (r4 = false) (eqF h5) <| P0)))
    (fun h1 H =>
      eN H <| gE func28 [rg [hF 0], r0] (by kernel_rfl) (P2 ((decide (t4 < t3)) = false) (decide_eq_false h1) <| P0))
theorem ws_NearestAlong : ∀ s r, loop Bs_NearestAlong s = some r → Wc X 28 0 (Ks_NearestAlong s) (Zs_NearestAlong s) (Rs_NearestAlong r) ((fun _ => []) r) := Nx.all ns_NearestAlong
theorem cs_NearestAlong {a0 : (List Gi_Hex)} {a1 : Gi_Hex} {r : Int × Bool} (H : Ds_NearestAlong a0 a1 = some r) : Ct X.P X.gl 28 [sl 2 gi_Hex a0, .agg [I a1.Q, I a1.R]] [] (Rs_NearestAlong r) [] :=
  Ct.of func28 (c := bdy f28) (by kernel_rfl) (by kernel_rfl) <|
  eBind H fun r1 hr1 H =>
  gS [r0] (by kernel_rfl) P0 <|
  eIf H (fun h2 H =>
    eBind H fun r3 hr3 H =>
    eIf H (fun h4 H =>
      gO [rg [{ i := 2, call := some { cl := true, auto := true, ins := [], res := (RB r1), G' := [] }, dec := some true }, { i := 6, call := some { cl := true, auto := true, ins := [], res := (RB r3), G' := [] }, dec := some true }], r0, r0, .canon [0] [0, 3, 6, 18, 19, 20]] (by kernel_rfl) (P1 (cs_l1In hr1) <| P2 (r1 = true) (h2) <| P1 (cs_hGood hr3) <| P2 (r3 = true) (h4) <| P0) (ws_NearestAlong _ _ H))
    (fun h4 H =>
      eW Rs_NearestAlong (fun _ => []) H <| gE func28 [rg [{ i := 2, call := some { cl := true, auto := true, ins := [], res := (RB r1), G' := [] }, dec := some true }, { i := 6, call := some { cl := true, auto := true, ins := [], res := (RB r3), G' := [] }, dec := some false }], r0] (by kernel_rfl) (P1 (cs_l1In hr1) <| P2 (r1 = true) (h2) <| P1 (cs_hGood hr3) <| P2 (r3 = false) (eqF h4) <| P0)))
  (fun h2 H =>
    eW Rs_NearestAlong (fun _ => []) H <| gE func28 [rg [{ i := 2, call := some { cl := true, auto := true, ins := [], res := (RB r1), G' := [] }, dec := some false }], r0] (by kernel_rfl) (P1 (cs_l1In hr1) <| P2 (r1 = false) (eqF h2) <| P0))
/-! loop example/g00886/laws FnRings -/
noncomputable def Kw_FnRings : Sw_FnRings → List Item
  | .h1 .. => nav 300 7 [false, false] [.code (bdy f4)]
def Zw_FnRings : Sw_FnRings → St
  | .h1 t0 t1 t2 t3 t4 b5 => ⟨sts 166 [(1, sl 1 (D.int .u8) t0), (5, .ptr 0 2 0 0), (6, I t1), (60, sl 2 gi_Hex t2), (61, I t3), (62, I t4)], [some ⟨false, true, 2, 1, [.agg [I b5.Q, I b5.R]]⟩]⟩
abbrev Qw_FnRings := Nx X 4 0 Kw_FnRings Zw_FnRings RB (fun _ => [])
theorem nw_FnRings : ∀ s o, Bw_FnRings s = some o → Qw_FnRings (Kw_FnRings s) (Zw_FnRings s) o
  | .h1 t0 t1 t2 t3 t4 b5, o, H =>
    eIf H (fun h1 H =>
      eCk H fun h2 H =>
      eBind H fun x3 hx3 H =>
      eBind H fun r4 hr4 H =>
      gN [rg [hT 0], rg [hE 1 (gi_Hex x3)]] (by kernel_rfl) (P2 ((decide (t4 < t3)) = true) (decide_eq_true h1) <| P1 h2 <| P1 (int_lt_of_at h2 hx3) <| P1 (at_map gi_Hex hx3) <| P0) <|
      eIf H (fun h5 H =>
        gN [rg [hC 2 true [] (Ri_DistanceOf r4) [], hT 5]] (by kernel_rfl) (P1 (ci_DistanceOf hr4) <| P2 (r4.2 = true) (h5) <| P0) <|
        eIf H (fun h6 H =>
          eN H fun r hn => gO [rg [hF 5], r0, .canon [0] [1, 5, 6, 60, 61, 62]] (by kernel_rfl) (P2 (((r4.1 : Int) != t1) = false) (bneF h6) <| P0) hn)
        (fun h6 H =>
          eN H <| gE func4 [rg [hT 5], r0] (by kernel_rfl) (P2 (((r4.1 : Int) != t1) = true) (bneT h6) <| P0)))
      (fun h5 H =>
        eN H <| gE func4 [rg [hC 2 true [] (Ri_DistanceOf r4) [], hF 5], r0, r0] (by kernel_rfl) (P1 (ci_DistanceOf hr4) <| P2 (r4.2 = false) (eqF h5) <| P0)))
    (fun h1 H =>
      eBind H fun r2 hr2 H =>
      gN [rg [hF 0]] (by kernel_rfl) (P2 ((decide (t4 < t3)) = false) (decide_eq_false h1) <| P0) <|
      eIf H (fun h3 H =>
        eBind H fun r4 hr4 H =>
        gN [rg [hC 2 true [] (Ri_DiskOf r2) [], hT 5], rg [hC 2 true [] (Rs_DiskOf r4) []]] (by kernel_rfl) (P1 (ci_DiskOf hr2) <| P2 (r2.2 = true) (h3) <| P1 (cs_DiskOf hr4) <| P0) <|
        eIf H (fun h5 H =>
          eN H <| gE func4 [rg [hT 2], r0] (by kernel_rfl) (P2 ((!(true == r4.2)) = true) (h5) <| P0))
        (fun h5 H =>
          eBind H fun r6 hr6 H =>
          eIf H (fun h7 H =>
            eIf H (fun h8 H =>
              eBind H fun r9 hr9 H =>
              eBind H fun r10 hr10 H =>
              eBind H fun r11 hr11 H =>
              gN [rg [hF 2, { i := 6, call := some { cl := false, auto := true, ins := [], res := (RB r6), G' := [] }, dec := some true }, hF 20], rg [hC 1 true [] (Rs_DrawWalkFrom r9) []], rg [hC 2 false [] (Ri_WalkFrom r10) []], rg [{ i := 2, frz := [4], call := some { cl := true, auto := true, ins := [], res := (Rs_WalkFrom r11), G' := [] } }]] (by kernel_rfl) (P2 ((!(true == r4.2)) = false) (eqF h5) <| P1 (cw_pSameHexes hr6) <| P2 (r6 = true) (h7) <| P2 (((((r2.1.length : Nat) : Int) : Int) != (IntKind.wrap .i64 ((IntKind.wrap .i64 ((IntKind.wrap .i64 (3 * t1)) * (IntKind.wrap .i64 (t1 + 1)))) + 1))) = false) (bneF h8) <| P1 (cs_DrawWalkFrom hr9) <| P2 (nfL (List.flatMap D.cells (Ri_WalkFrom r10))) ⟨nfL_map nf_25 _, trivial, trivial⟩ <| P2 (nfG []) trivial <| P1 (ci_WalkFrom hr10) <| P1 (cs_WalkFrom hr11) <| P0) <|
              eIf H (fun h12 H =>
                eN H <| gE func4 [rg [hT 2], r0] (by kernel_rfl) (P2 ((!(r10.2 == r11.2)) = true) (h12) <| P0))
              (fun h12 H =>
                eBind H fun r13 hr13 H =>
                eIf H (fun h14 H =>
                  eBind H fun r15 hr15 H =>
                  eBind H fun r16 hr16 H =>
                  eBind H fun r17 hr17 H =>
                  gN [rg [hF 2, { i := 6, call := some { cl := false, auto := true, ins := [], res := (RB r13), G' := [] }, dec := some true }], rg [hC 1 true [] (Rs_DrawNearestAlong r15) []], rg [hC 2 false [] (Ri_NearestAlong r16) []], rg [hC 2 false [] (Rs_NearestAlong r17) []]] (by kernel_rfl) (P2 ((!(r10.2 == r11.2)) = false) (eqF h12) <| P1 (cw_pSameHexes hr13) <| P2 (r13 = true) (h14) <| P1 (cs_DrawNearestAlong hr15) <| P1 (ci_NearestAlong hr16) <| P1 (cs_NearestAlong hr17) <| P0) <|
                  eIf H (fun h18 H =>
                    eN H <| gE func4 [rg [hT 2]] (by kernel_rfl) (P2 ((r16.2 == r17.2) = true) (h18) <| P0))
                  (fun h18 H =>
                    eN H <| gE func4 [rg [hF 2]] (by kernel_rfl) (P2 ((r16.2 == r17.2) = false) (eqF h18) <| P0)))
                (fun h14 H =>
                  eN H <| gE func4 [rg [hF 2, { i := 6, call := some { cl := false, auto := true, ins := [], res := (RB r13), G' := [] }, dec := some false }], r0] (by kernel_rfl) (P2 ((!(r10.2 == r11.2)) = false) (eqF h12) <| P1 (cw_pSameHexes hr13) <| P2 (r13 = false) (eqF h14) <| P0))))
            (fun h8 H =>
              eN H <| gE func4 [rg [hF 2, { i := 6, call := some { cl := false, auto := true, ins := [], res := (RB r6), G' := [] }, dec := some true }, hT 20], r0] (by kernel_rfl) (P2 ((!(true == r4.2)) = false) (eqF h5) <| P1 (cw_pSameHexes hr6) <| P2 (r6 = true) (h7) <| P2 (((((r2.1.length : Nat) : Int) : Int) != (IntKind.wrap .i64 ((IntKind.wrap .i64 ((IntKind.wrap .i64 (3 * t1)) * (IntKind.wrap .i64 (t1 + 1)))) + 1))) = true) (bneT h8) <| P0)))
          (fun h7 H =>
            eN H <| gE func4 [rg [hF 2, { i := 6, call := some { cl := false, auto := true, ins := [], res := (RB r6), G' := [] }, dec := some false }], r0] (by kernel_rfl) (P2 ((!(true == r4.2)) = false) (eqF h5) <| P1 (cw_pSameHexes hr6) <| P2 (r6 = false) (eqF h7) <| P0))))
      (fun h3 H =>
        eBind H fun r4 hr4 H =>
        gN [rg [hC 2 true [] (Ri_DiskOf r2) [], hF 5], rg [hC 2 true [] (Rs_DiskOf r4) []]] (by kernel_rfl) (P1 (ci_DiskOf hr2) <| P2 (r2.2 = false) (eqF h3) <| P1 (cs_DiskOf hr4) <| P0) <|
        eIf H (fun h5 H =>
          eN H <| gE func4 [rg [hT 2], r0] (by kernel_rfl) (P2 ((!(false == r4.2)) = true) (h5) <| P0))
        (fun h5 H =>
          eBind H fun r6 hr6 H =>
          eIf H (fun h7 H =>
            eBind H fun r8 hr8 H =>
            eBind H fun r9 hr9 H =>
            eBind H fun r10 hr10 H =>
            gN [rg [hF 2, { i := 6, call := some { cl := false, auto := true, ins := [], res := (RB r6), G' := [] }, dec := some true }], rg [hC 1 true [] (Rs_DrawWalkFrom r8) []], rg [hC 2 false [] (Ri_WalkFrom r9) []], rg [{ i := 2, frz := [4], call := some { cl := true, auto := true, ins := [], res := (Rs_WalkFrom r10), G' := [] } }]] (by kernel_rfl) (P2 ((!(false == r4.2)) = false) (eqF h5) <| P1 (cw_pSameHexes hr6) <| P2 (r6 = true) (h7) <| P1 (cs_DrawWalkFrom hr8) <| P2 (nfL (List.flatMap D.cells (Ri_WalkFrom r9))) ⟨nfL_map nf_25 _, trivial, trivial⟩ <| P2 (nfG []) trivial <| P1 (ci_WalkFrom hr9) <| P1 (cs_WalkFrom hr10) <| P0) <|
            eIf H (fun h11 H =>
              eN H <| gE func4 [rg [hT 2], r0] (by kernel_rfl) (P2 ((!(r9.2 == r10.2)) = true) (h11) <| P0))
            (fun h11 H =>
              eBind H fun r12 hr12 H =>
              eIf H (fun h13 H =>
                eBind H fun r14 hr14 H =>
                eBind H fun r15 hr15 H =>
                eBind H fun r16 hr16 H =>
                gN [rg [hF 2, { i := 6, call := some { cl := false, auto := true, ins := [], res := (RB r12), G' := [] }, dec := some true }], rg [hC 1 true [] (Rs_DrawNearestAlong r14) []], rg [hC 2 false [] (Ri_NearestAlong r15) []], rg [hC 2 false [] (Rs_NearestAlong r16) []]] (by kernel_rfl) (P2 ((!(r9.2 == r10.2)) = false) (eqF h11) <| P1 (cw_pSameHexes hr12) <| P2 (r12 = true) (h13) <| P1 (cs_DrawNearestAlong hr14) <| P1 (ci_NearestAlong hr15) <| P1 (cs_NearestAlong hr16) <| P0) <|
                eIf H (fun h17 H =>
                  eN H <| gE func4 [rg [hT 2]] (by kernel_rfl) (P2 ((r15.2 == r16.2) = true) (h17) <| P0))
                (fun h17 H =>
                  eN H <| gE func4 [rg [hF 2]] (by kernel_rfl) (P2 ((r15.2 == r16.2) = false) (eqF h17) <| P0)))
              (fun h13 H =>
                eN H <| gE func4 [rg [hF 2, { i := 6, call := some { cl := false, auto := true, ins := [], res := (RB r12), G' := [] }, dec := some false }], r0] (by kernel_rfl) (P2 ((!(r9.2 == r10.2)) = false) (eqF h11) <| P1 (cw_pSameHexes hr12) <| P2 (r12 = false) (eqF h13) <| P0))))
          (fun h7 H =>
            eN H <| gE func4 [rg [hF 2, { i := 6, call := some { cl := false, auto := true, ins := [], res := (RB r6), G' := [] }, dec := some false }], r0] (by kernel_rfl) (P2 ((!(false == r4.2)) = false) (eqF h5) <| P1 (cw_pSameHexes hr6) <| P2 (r6 = false) (eqF h7) <| P0)))))
theorem ww_FnRings : ∀ s r, loop Bw_FnRings s = some r → Wc X 4 0 (Kw_FnRings s) (Zw_FnRings s) (RB r) ((fun _ => []) r) := Nx.all nw_FnRings
theorem cw_FnRings {a0 : (List Int)} {a1 : (List Int)} {r : Bool} (H : Dw_FnRings a0 a1 = some r) : Ct X.P X.gl 4 [sl 1 (D.int .u8) a0, sl 1 (D.int .u8) a1] [] (RB r) [] :=
  Ct.of func4 (c := bdy f4) (by kernel_rfl) (by kernel_rfl) <|
  eBind H fun r1 hr1 H =>
  gS [r0] (by kernel_rfl) P0 <|
  eIf H (fun h2 H =>
    eW RB (fun _ => []) H <| gE func4 [rg [{ i := 2, call := some { cl := true, auto := true, ins := [], res := (RB r1), G' := [] }, dec := some true }], r0] (by kernel_rfl) (P1 (cw_big hr1) <| P2 (r1 = true) (h2) <| P0))
  (fun h2 H =>
    eBind H fun r3 hr3 H =>
    eBind H fun r4 hr4 H =>
    eBind H fun r5 hr5 H =>
    gS [rg [{ i := 2, call := some { cl := true, auto := true, ins := [], res := (RB r1), G' := [] }, dec := some false }], rg [hC 1 true [] (Rs_DrawRingOf r3) []], rg [hC 2 true [] (Ri_RingOf r4) []], rg [hC 2 true [] (Rs_RingOf r5) []]] (by kernel_rfl) (P1 (cw_big hr1) <| P2 (r1 = false) (eqF h2) <| P1 (cs_DrawRingOf hr3) <| P1 (ci_RingOf hr4) <| P1 (cs_RingOf hr5) <| P0) <|
    eIf H (fun h6 H =>
      eW RB (fun _ => []) H <| gE func4 [rg [hT 2], r0] (by kernel_rfl) (P2 ((!(r4.2 == r5.2)) = true) (h6) <| P0))
    (fun h6 H =>
      eBind H fun r7 hr7 H =>
      eIf H (fun h8 H =>
        gO [rg [hF 2, { i := 6, call := some { cl := false, auto := true, ins := [], res := (RB r7), G' := [] }, dec := some true }], r0, .canon [0] [1, 5, 6, 60, 61, 62]] (by kernel_rfl) (P2 ((!(r4.2 == r5.2)) = false) (eqF h6) <| P1 (cw_pSameHexes hr7) <| P2 (r7 = true) (h8) <| P0) (ww_FnRings _ _ H))
      (fun h8 H =>
        eW RB (fun _ => []) H <| gE func4 [rg [hF 2, { i := 6, call := some { cl := false, auto := true, ins := [], res := (RB r7), G' := [] }, dec := some false }], r0] (by kernel_rfl) (P2 ((!(r4.2 == r5.2)) = false) (eqF h6) <| P1 (cw_pSameHexes hr7) <| P2 (r7 = false) (eqF h8) <| P0))))
end Go.Proofs.YtlniejjcejackaaDoor.Ab
