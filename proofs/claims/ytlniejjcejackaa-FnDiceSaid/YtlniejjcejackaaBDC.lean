/- Part of the proof of FnDice: no condition of its own. -/
import Derived.Test.YtlniejjcejackaaChecked
import Derived.Test.YtlniejjcejackaaBDD
set_option linter.unusedVariables false
set_option linter.unusedSimpArgs false
open Go Go.Proofs Go.Proofs.Try
namespace Go.Proofs.Ytlniejjcejackaa.Ab
def T : Tab := [(3, ⟨(Ab.TK.int IntKind.i64), 1, 8, (Ab.D.int IntKind.i64 (Int.ofNat 0))⟩),
  (4, ⟨Ab.TK.bool, 1, 1, (Ab.D.bool Bool.false)⟩),
  (5, ⟨(Ab.TK.int IntKind.u8), 1, 1, (Ab.D.int IntKind.u8 (Int.ofNat 0))⟩),
  (22, ⟨(Ab.TK.slice 5), 1, 24, Ab.D.nil⟩),
  (38, ⟨(Ab.TK.slice 3), 1, 24, Ab.D.nil⟩),
  (46, ⟨(Ab.TK.slice 4), 1, 24, Ab.D.nil⟩),
  (74, ⟨(Ab.TK.int IntKind.u64), 1, 8, (Ab.D.int IntKind.u64 (Int.ofNat 0))⟩),
  (76, ⟨(Ab.TK.strct [(Ab.FI.mk 0 1 Bool.false), (Ab.FI.mk 1 1 Bool.false), (Ab.FI.mk 2 1 Bool.false)] Option.none), 3, 40, (Ab.D.agg [Ab.D.nil, (Ab.D.int IntKind.i64 (Int.ofNat 0)), (Ab.D.int IntKind.u64 (Int.ofNat 0))])⟩)]
noncomputable def X : Ctx := ⟨Go.Proofs.Try.prog, T, []⟩
theorem T_ok : TabOK X.P X.T := ⟨by kernel_rfl, by kernel_rfl, by kernel_rfl, by kernel_rfl, by kernel_rfl, by kernel_rfl, by kernel_rfl, by kernel_rfl, trivial⟩
theorem mixed : X.P.follows .mixedOrders = true := Go.Proofs.Try.checked.mixed
theorem gO {f : FuncId} {M : Nat} {k k' : List Item} {σ σ' : St} {res : List D} {G' : List Root} (cmds : List Cmd) {ps : List Prop} (h : run X M cmds k σ = some (ps, k', σ')) (hp : AllP ps) (hk : Wc X f M k' σ' res G') : Wc X f M k σ res G' := run_ok T_ok mixed h hp hk
theorem gE {f : FuncId} {M : Nat} {k : List Item} {σ : St} {res : List D} {G' : List Root} {fn : Func} (hf : X.P.funcs[f]? = some fn) (cmds : List Cmd) {ps : List Prop} (h : runFinC X M cmds k σ fn.results.toList res = some (ps, res, G')) (hp : AllP ps) : Wc X f M k σ res G' := runFinC_ok T_ok mixed hf h hp
theorem gS {f : FuncId} {M : Nat} {k : List Item} {σ : St} {res : List D} {G' : List Root} (cmds : List Cmd) {ps : List Prop} (h : runP X M cmds k σ = some ps) (hp : AllP ps) (hk : Wc X f M (runK X M cmds k σ) (runS X M cmds k σ) res G') : Wc X f M k σ res G' := seg_ok T_ok mixed cmds h hp hk
theorem gN {ς ρ : Type} {f : FuncId} {M : Nat} {K : ς → List Item} {Z : ς → St} {R : ρ → List D} {G : ρ → List Root} {k : List Item} {σ : St} {o : ς ⊕ ρ} (cmds : List Cmd) {ps : List Prop} (h : runP X M cmds k σ = some ps) (hp : AllP ps) (hk : Nx X f M K Z R G (runK X M cmds k σ) (runS X M cmds k σ) o) : Nx X f M K Z R G k σ o := segN_ok T_ok mixed cmds h hp hk
/-! loop example/g00886/laws big -/
theorem cw_big {a0 : (List Int)} {a1 : (List Int)} {r : Bool} (H : Dw_big a0 a1 = some r) : Ct X.P X.gl 7 [sl 1 (D.int .u8) a0, sl 1 (D.int .u8) a1] [] (RB r) [] :=
  Ct.of func7 (c := bdy f7) (by kernel_rfl) (by kernel_rfl) <|
  gS [r0] (by kernel_rfl) P0 <|
  eIf H (fun h1 H =>
    eW RB (fun _ => []) H <| gE func7 [rg [hT 2]] (by kernel_rfl) (P2 ((decide (((a0.length : Nat) : Int) > 1048576)) = true) (decide_eq_true h1) <| P0))
  (fun h1 H =>
    eW RB (fun _ => []) H <| gE func7 [rg [hF 2]] (by kernel_rfl) (P2 ((decide (((a0.length : Nat) : Int) > 1048576)) = false) (decide_eq_false h1) <| P0))
/-!   loop example/g00886/spec l1Cur  next -/
def Rs_l1Cur_next (r : Int × Gs_l1Cur) : List D := [I r.1]
def Ns_l1Cur_next (r : Int × Gs_l1Cur) : List Root := [⟨false, true, 3, 1, [.agg [sl 1 (D.int .u8) r.2.code, I r.2.at_, .int .u64 r.2.seed]]⟩]
theorem cs_l1Cur_next {a0 : Gs_l1Cur} {r : Int × Gs_l1Cur} (H : Ds_l1Cur_next a0 = some r) : Ct X.P X.gl 108 [.ptr 0 3 0 0] [⟨false, true, 3, 1, [.agg [sl 1 (D.int .u8) a0.code, I a0.at_, .int .u64 a0.seed]]⟩] (Rs_l1Cur_next r) (Ns_l1Cur_next r) :=
  Ct.of func108 (c := bdy f108) (by kernel_rfl) (by kernel_rfl) <|
  gS [r0, r0] (by kernel_rfl) P0 <|
  eIf H (fun h1 H =>
    eCk H fun h2 H =>
    eBind H fun x3 hx3 H =>
    gS [rg [hT 9], rg [hE 9 ((D.int .u8) x3)], r0, r0] (by kernel_rfl) (P2 ((decide (a0.at_ < ((a0.code.length : Nat) : Int))) = true) (decide_eq_true h1) <| P1 h2 <| P1 (int_lt_of_at h2 hx3) <| P1 (at_map (D.int .u8) hx3) <| P0) <|
    eIf H (fun h4 H =>
      eW Rs_l1Cur_next Ns_l1Cur_next H <| gE func108 [rg [hT 9], r0] (by kernel_rfl) (P2 ((decide ((IntKind.wrap .i64 (a0.at_ + 1)) ≤ ((a0.code.length : Nat) : Int))) = true) (decide_eq_true h4) <| P0))
    (fun h4 H =>
      eW Rs_l1Cur_next Ns_l1Cur_next H <| gE func108 [rg [hF 9], r0] (by kernel_rfl) (P2 ((decide ((IntKind.wrap .i64 (a0.at_ + 1)) ≤ ((a0.code.length : Nat) : Int))) = false) (decide_eq_false h4) <| P2 ((0 : Int) ≤ 40) (by decide) <| P0)))
  (fun h1 H =>
    gS [rg [hF 9], r0, r0] (by kernel_rfl) (P2 ((decide (a0.at_ < ((a0.code.length : Nat) : Int))) = false) (decide_eq_false h1) <| P0) <|
    eIf H (fun h2 H =>
      eW Rs_l1Cur_next Ns_l1Cur_next H <| gE func108 [rg [hT 9], r0] (by kernel_rfl) (P2 ((decide ((IntKind.wrap .i64 (a0.at_ + 1)) ≤ ((a0.code.length : Nat) : Int))) = true) (decide_eq_true h2) <| P0))
    (fun h2 H =>
      eW Rs_l1Cur_next Ns_l1Cur_next H <| gE func108 [rg [hF 9], r0] (by kernel_rfl) (P2 ((decide ((IntKind.wrap .i64 (a0.at_ + 1)) ≤ ((a0.code.length : Nat) : Int))) = false) (decide_eq_false h2) <| P2 ((0 : Int) ≤ 40) (by decide) <| P0)))
/-!   loop example/g00886/spec l1Cur  pick -/
def Rs_l1Cur_pick (r : Int × Gs_l1Cur) : List D := [I r.1]
def Ns_l1Cur_pick (r : Int × Gs_l1Cur) : List Root := [⟨false, true, 3, 1, [.agg [sl 1 (D.int .u8) r.2.code, I r.2.at_, .int .u64 r.2.seed]]⟩]
theorem cs_l1Cur_pick {a0 : Gs_l1Cur} {a1 : Int} {r : Int × Gs_l1Cur} (H : Ds_l1Cur_pick a0 a1 = some r) : Ct X.P X.gl 65 [.ptr 0 3 0 0, I a1] [⟨false, true, 3, 1, [.agg [sl 1 (D.int .u8) a0.code, I a0.at_, .int .u64 a0.seed]]⟩] (Rs_l1Cur_pick r) (Ns_l1Cur_pick r) :=
  Ct.of func65 (c := bdy f65) (by kernel_rfl) (by kernel_rfl) <|
  gS [r0] (by kernel_rfl) P0 <|
  eIf H (fun h1 H =>
    eW Rs_l1Cur_pick Ns_l1Cur_pick H <| gE func65 [rg [hT 1], r0] (by kernel_rfl) (P2 ((decide (a1 ≤ 1)) = true) (decide_eq_true h1) <| P0))
  (fun h1 H =>
    eBind H fun r2 hr2 H =>
    gS [rg [hF 1], rg [hC 1 true [0] (Rs_l1Cur_next r2) (Ns_l1Cur_next r2)]] (by kernel_rfl) (P2 ((decide (a1 ≤ 1)) = false) (decide_eq_false h1) <| PI (1 : Nat) <| P1 (cs_l1Cur_next hr2) <| P0) <|
    eIf H (fun h3 H =>
      eBind H fun r4 hr4 H =>
      eCk H fun h5 H =>
      eW Rs_l1Cur_pick Ns_l1Cur_pick H <| gE func65 [rg [hT 1], rg [hC 3 true [0] (Rs_l1Cur_next r4) (Ns_l1Cur_next r4)], r0] (by kernel_rfl) (P2 ((decide (a1 > 200)) = true) (decide_eq_true h3) <| PI (1 : Nat) <| P1 (cs_l1Cur_next hr4) <| P2 (¬ (a1 : Int) = 0) h5 <| P0))
    (fun h3 H =>
      eCk H fun h4 H =>
      eW Rs_l1Cur_pick Ns_l1Cur_pick H <| gE func65 [rg [hF 1], r0] (by kernel_rfl) (P2 ((decide (a1 > 200)) = false) (decide_eq_false h3) <| P2 (¬ (a1 : Int) = 0) h4 <| P0)))
/-!   loop example/g00886/spec l1Cur  one -/
def Rs_l1Cur_one (r : Bool × Gs_l1Cur) : List D := [.bool r.1]
def Ns_l1Cur_one (r : Bool × Gs_l1Cur) : List Root := [⟨false, true, 3, 1, [.agg [sl 1 (D.int .u8) r.2.code, I r.2.at_, .int .u64 r.2.seed]]⟩]
theorem cs_l1Cur_one {a0 : Gs_l1Cur} {a1 : Int} {r : Bool × Gs_l1Cur} (H : Ds_l1Cur_one a0 a1 = some r) : Ct X.P X.gl 106 [.ptr 0 3 0 0, I a1] [⟨false, true, 3, 1, [.agg [sl 1 (D.int .u8) a0.code, I a0.at_, .int .u64 a0.seed]]⟩] (Rs_l1Cur_one r) (Ns_l1Cur_one r) :=
  Ct.of func106 (c := bdy f106) (by kernel_rfl) (by kernel_rfl) <|
  eBind H fun r1 hr1 H =>
  eW Rs_l1Cur_one Ns_l1Cur_one H <| gE func106 [r0, rg [hC 2 true [0] (Rs_l1Cur_pick r1) (Ns_l1Cur_pick r1)]] (by kernel_rfl) (PI (1 : Nat) <| P1 (cs_l1Cur_pick hr1) <| P0)
/-!   loop example/g00886/spec l1Cur  among -/
def Rs_l1Cur_among (r : Int × Gs_l1Cur) : List D := [I r.1]
def Ns_l1Cur_among (r : Int × Gs_l1Cur) : List Root := [⟨false, true, 3, 1, [.agg [sl 1 (D.int .u8) r.2.code, I r.2.at_, .int .u64 r.2.seed]]⟩]
theorem cs_l1Cur_among {a0 : Gs_l1Cur} {a1 : (List Int)} {r : Int × Gs_l1Cur} (H : Ds_l1Cur_among a0 a1 = some r) : Ct X.P X.gl 64 [.ptr 0 3 0 0, sl 1 I a1] [⟨false, true, 3, 1, [.agg [sl 1 (D.int .u8) a0.code, I a0.at_, .int .u64 a0.seed]]⟩] (Rs_l1Cur_among r) (Ns_l1Cur_among r) :=
  Ct.of func64 (c := bdy f64) (by kernel_rfl) (by kernel_rfl) <|
  eBind H fun r1 hr1 H =>
  eCk H fun h2 H =>
  eBind H fun x3 hx3 H =>
  eW Rs_l1Cur_among Ns_l1Cur_among H <| gE func64 [r0, rg [hC 4 true [0] (Rs_l1Cur_pick r1) (Ns_l1Cur_pick r1), hE 6 (I x3)]] (by kernel_rfl) (PI (1 : Nat) <| P1 (cs_l1Cur_pick hr1) <| P1 h2 <| P1 (int_lt_of_at h2 hx3) <| P1 (at_map I hx3) <| P0)
/-!   loop example/g00886/spec l1Cur  seedOf -/
def Rs_l1Cur_seedOf (r : Int × Gs_l1Cur) : List D := [I r.1]
def Ns_l1Cur_seedOf (r : Int × Gs_l1Cur) : List Root := [⟨false, true, 3, 1, [.agg [sl 1 (D.int .u8) r.2.code, I r.2.at_, .int .u64 r.2.seed]]⟩]
theorem cs_l1Cur_seedOf {a0 : Gs_l1Cur} {r : Int × Gs_l1Cur} (H : Ds_l1Cur_seedOf a0 = some r) : Ct X.P X.gl 107 [.ptr 0 3 0 0] [⟨false, true, 3, 1, [.agg [sl 1 (D.int .u8) a0.code, I a0.at_, .int .u64 a0.seed]]⟩] (Rs_l1Cur_seedOf r) (Ns_l1Cur_seedOf r) :=
  Ct.of func107 (c := bdy f107) (by kernel_rfl) (by kernel_rfl) <|
  eBind H fun r1 hr1 H =>
  gS [r0, rg [hC 1 true [0] (Rs_l1Cur_pick r1) (Ns_l1Cur_pick r1)]] (by kernel_rfl) (PI (1 : Nat) <| P1 (cs_l1Cur_pick hr1) <| P0) <|
  eIf H (fun h2 H =>
    eW Rs_l1Cur_seedOf Ns_l1Cur_seedOf H <| gE func107 [rg [hT 0], r0] (by kernel_rfl) (P2 (((r1.1 : Int) == 0) = true) (beqT h2) <| P0))
  (fun h2 H =>
    gS [rg [hF 0]] (by kernel_rfl) (P2 (((r1.1 : Int) == 0) = false) (beqF h2) <| P0) <|
    eIf H (fun h3 H =>
      eBind H fun r4 hr4 H =>
      eW Rs_l1Cur_seedOf Ns_l1Cur_seedOf H <| gE func107 [rg [hT 0], rg [{ i := 2, frz := [1], call := some { cl := true, auto := true, ins := [0], res := (Rs_l1Cur_among r4), G' := (Ns_l1Cur_among r4) } }]] (by kernel_rfl) (P2 (((r1.1 : Int) == 1) = true) (beqT h3) <| PI (1 : Nat) <| P1 (cs_l1Cur_among hr4) <| P0))
    (fun h3 H =>
      eBind H fun r4 hr4 H =>
      eW Rs_l1Cur_seedOf Ns_l1Cur_seedOf H <| gE func107 [rg [hF 0], rg [hC 1 true [0] (Rs_l1Cur_pick r4) (Ns_l1Cur_pick r4)]] (by kernel_rfl) (P2 (((r1.1 : Int) == 1) = false) (beqF h3) <| PI (1 : Nat) <| P1 (cs_l1Cur_pick hr4) <| P0)))
/-!   loop example/g00886/spec l1Cur  anySeed -/
def Rs_l1Cur_anySeed (r : Int × Gs_l1Cur) : List D := [I r.1]
def Ns_l1Cur_anySeed (r : Int × Gs_l1Cur) : List Root := [⟨false, true, 3, 1, [.agg [sl 1 (D.int .u8) r.2.code, I r.2.at_, .int .u64 r.2.seed]]⟩]
theorem cs_l1Cur_anySeed {a0 : Gs_l1Cur} {r : Int × Gs_l1Cur} (H : Ds_l1Cur_anySeed a0 = some r) : Ct X.P X.gl 63 [.ptr 0 3 0 0] [⟨false, true, 3, 1, [.agg [sl 1 (D.int .u8) a0.code, I a0.at_, .int .u64 a0.seed]]⟩] (Rs_l1Cur_anySeed r) (Ns_l1Cur_anySeed r) :=
  Ct.of func63 (c := bdy f63) (by kernel_rfl) (by kernel_rfl) <|
  eBind H fun r1 hr1 H =>
  gS [r0] (by kernel_rfl) P0 <|
  eIf H (fun h2 H =>
    eBind H fun r3 hr3 H =>
    eW Rs_l1Cur_anySeed Ns_l1Cur_anySeed H <| gE func63 [rg [{ i := 1, call := some { cl := true, auto := true, ins := [0], res := (Rs_l1Cur_one r1), G' := (Ns_l1Cur_one r1) }, dec := some true }], rg [{ i := 2, frz := [1], call := some { cl := true, auto := true, ins := [0], res := (Rs_l1Cur_among r3), G' := (Ns_l1Cur_among r3) } }]] (by kernel_rfl) (PI (1 : Nat) <| P1 (cs_l1Cur_one hr1) <| P2 (r1.1 = true) (h2) <| PI (1 : Nat) <| P1 (cs_l1Cur_among hr3) <| P0))
  (fun h2 H =>
    eBind H fun r3 hr3 H =>
    eW Rs_l1Cur_anySeed Ns_l1Cur_anySeed H <| gE func63 [rg [{ i := 1, call := some { cl := true, auto := true, ins := [0], res := (Rs_l1Cur_one r1), G' := (Ns_l1Cur_one r1) }, dec := some false }], rg [hC 1 true [0] (Rs_l1Cur_seedOf r3) (Ns_l1Cur_seedOf r3)]] (by kernel_rfl) (PI (1 : Nat) <| P1 (cs_l1Cur_one hr1) <| P2 (r1.1 = false) (eqF h2) <| PI (1 : Nat) <| P1 (cs_l1Cur_seedOf hr3) <| P0))
/-! loop example/g00886/spec DrawDiceFrom -/
def Rs_DrawDiceFrom (r : Int × Int × Int) : List D := [I r.1, I r.2.1, I r.2.2]
theorem cs_DrawDiceFrom {a0 : (List Int)} {r : Int × Int × Int} (H : Ds_DrawDiceFrom a0 = some r) : Ct X.P X.gl 14 [sl 1 (D.int .u8) a0] [] (Rs_DrawDiceFrom r) [] :=
  Ct.of func14 (c := bdy f14) (by kernel_rfl) (by kernel_rfl) <|
  eBind H fun r1 hr1 H =>
  eBind H fun r2 hr2 H =>
  eBind H fun r3 hr3 H =>
  eBind H fun r4 hr4 H =>
  eW Rs_DrawDiceFrom (fun _ => []) H <| gE func14 [r0, r0, rg [hC 1 true [0] (Rs_l1Cur_anySeed r1) (Ns_l1Cur_anySeed r1), { i := 4, frz := [1], call := some { cl := true, auto := true, ins := [0], res := (Rs_l1Cur_among r2), G' := (Ns_l1Cur_among r2) } }, hC 6 true [0] (Rs_l1Cur_pick r3) (Ns_l1Cur_pick r3), hC 8 true [0] (Rs_l1Cur_pick r4) (Ns_l1Cur_pick r4)]] (by kernel_rfl) (PI (1 : Nat) <| P1 (cs_l1Cur_anySeed hr1) <| PI (1 : Nat) <| P1 (cs_l1Cur_among hr2) <| PI (1 : Nat) <| P1 (cs_l1Cur_pick hr3) <| PI (1 : Nat) <| P1 (cs_l1Cur_pick hr4) <| P2 (¬ (19 : Int) = 0) (by decide) <| P0)
/-! loop example/g00886/impl inRange -/
theorem ci_inRange {a0 : Int} {a1 : Int} {a2 : Int} {r : Bool} (H : Di_inRange a0 a1 a2 = some r) : Ct X.P X.gl 68 [I a0, I a1, I a2] [] (RB r) [] :=
  Ct.of func68 (c := bdy f68) (by kernel_rfl) (by kernel_rfl) <|
  gS [r0] (by kernel_rfl) P0 <|
  eIf H (fun h1 H =>
    eW RB (fun _ => []) H <| gE func68 [rg [hT 2]] (by kernel_rfl) (P2 ((decide (a1 ≤ a0)) = true) (decide_eq_true h1) <| P0))
  (fun h1 H =>
    eW RB (fun _ => []) H <| gE func68 [rg [hF 2]] (by kernel_rfl) (P2 ((decide (a1 ≤ a0)) = false) (decide_eq_false h1) <| P0))
/-! loop example/g00886/impl isSeed -/
theorem ci_isSeed {a0 : Int} {r : Bool} (H : Di_isSeed a0 = some r) : Ct X.P X.gl 66 [I a0] [] (RB r) [] :=
  Ct.of func66 (c := bdy f66) (by kernel_rfl) (by kernel_rfl) <|
  eBind H fun r1 hr1 H =>
  eW RB (fun _ => []) H <| gE func66 [r0, rg [hC 1 true [] (RB r1) []]] (by kernel_rfl) (P1 (ci_inRange hr1) <| P0)
/-! loop example/g00886/impl isPlaceOfDie -/
theorem ci_isPlaceOfDie {a0 : Int} {r : Bool} (H : Di_isPlaceOfDie a0 = some r) : Ct X.P X.gl 67 [I a0] [] (RB r) [] :=
  Ct.of func67 (c := bdy f67) (by kernel_rfl) (by kernel_rfl) <|
  eBind H fun r1 hr1 H =>
  eW RB (fun _ => []) H <| gE func67 [r0, rg [hC 1 true [] (RB r1) []]] (by kernel_rfl) (P1 (ci_inRange hr1) <| P0)
/-! loop example/g00886/impl residue -/
theorem ci_residue {a0 : Int} {a1 : Int} {r : Int} (H : Di_residue a0 a1 = some r) : Ct X.P X.gl 125 [I a0, I a1] [] (RI r) [] :=
  Ct.of func125 (c := bdy f125) (by kernel_rfl) (by kernel_rfl) <|
  eCk H fun h1 H =>
  eCk H fun h2 H =>
  eW RI (fun _ => []) H <| gE func125 [r0, r0] (by kernel_rfl) (P2 (¬ (a1 : Int) = 0) h1 <| P2 (¬ (a1 : Int) = 0) h2 <| P0)
/-! loop example/g00886/impl mixParts 1 -/
def Ri_mixParts_1 (r : Int × Int) : List D := []
def Ni_mixParts_1 (r : Int × Int) : List Root := [⟨false, true, 1, 1, [.agg [I r.1]]⟩, ⟨false, true, 1, 1, [.agg [I r.2]]⟩]
theorem ci_mixParts_1 {a0 : Int} {a1 : Int} {a2 : Int} {r : Int × Int} (H : Di_mixParts_1 a0 a1 a2 = some r) : Ct X.P X.gl 124 [I a0, .ptr 0 1 0 0, .ptr 1 1 0 0] [⟨false, true, 1, 1, [.agg [I a1]]⟩, ⟨false, true, 1, 1, [.agg [I a2]]⟩] (Ri_mixParts_1 r) (Ni_mixParts_1 r) :=
  Ct.of func124 (c := bdy f124) (by kernel_rfl) (by kernel_rfl) <|
  eBind H fun r1 hr1 H =>
  eBind H fun r2 hr2 H =>
  eW Ri_mixParts_1 Ni_mixParts_1 H <| gE func124 [rg [hC 3 true [] (RI r1) []], rg [hC 3 true [] (RI r2) []]] (by kernel_rfl) (P1 (ci_residue hr1) <| P2 (¬ (2147483647 : Int) = 0) (by decide) <| P1 (ci_residue hr2) <| P2 (¬ (2147483629 : Int) = 0) (by decide) <| P0)
/-! loop example/g00886/impl mixParts -/
def Ri_mixParts (r : Int × Int) : List D := [I r.1, I r.2]
noncomputable def Ki_mixParts : Si_mixParts → List Item
  | .h1 .. => nav 300 4 [] [.code (bdy f109)]
  | .h2 .. => nav 300 6 [false] [.code (bdy f109)]
def Zi_mixParts : Si_mixParts → St
  | .h1 t0 t1 t2 b3 b4 => ⟨sts 30 [(4, .ptr 0 1 0 0), (5, .ptr 1 1 0 0), (6, .fn 124 [.ptr 0 1 0 0, .ptr 1 1 0 0]), (13, sl 1 I t0), (14, I t1), (15, I t2)], [some ⟨false, true, 1, 1, [.agg [I b3]]⟩, some ⟨false, true, 1, 1, [.agg [I b4]]⟩]⟩
  | .h2 t0 b1 b2 => ⟨sts 30 [(4, .ptr 0 1 0 0), (5, .ptr 1 1 0 0), (6, .fn 124 [.ptr 0 1 0 0, .ptr 1 1 0 0]), (23, I t0)], [some ⟨false, true, 1, 1, [.agg [I b1]]⟩, some ⟨false, true, 1, 1, [.agg [I b2]]⟩]⟩
abbrev Qi_mixParts := Nx X 109 0 Ki_mixParts Zi_mixParts Ri_mixParts (fun _ => [])
theorem ni_mixParts : ∀ s o, Bi_mixParts s = some o → Qi_mixParts (Ki_mixParts s) (Zi_mixParts s) o
  | .h1 t0 t1 t2 b3 b4, o, H =>
    eIf H (fun h1 H =>
      eCk H fun h2 H =>
      eBind H fun x3 hx3 H =>
      eBind H fun r4 hr4 H =>
      eN H fun r hn => gO [rg [hT 0], rg [hE 1 (I x3)], rg [hC 2 true [0, 1] (Ri_mixParts_1 r4) (Ni_mixParts_1 r4)], r0, .canon [0, 1] [4, 5, 6, 13, 14, 15]] (by kernel_rfl) (P2 ((decide (t2 < t1)) = true) (decide_eq_true h1) <| P1 h2 <| P1 (int_lt_of_at h2 hx3) <| P1 (at_map I hx3) <| PI (1 : Nat) <| PI (1 : Nat) <| P1 (ci_mixParts_1 hr4) <| P0) hn)
    (fun h1 H =>
      eN H fun r hn => gO [rg [hF 0], r0, .canon [0, 1] [4, 5, 6, 23]] (by kernel_rfl) (P2 ((decide (t2 < t1)) = false) (decide_eq_false h1) <| P0) hn)
  | .h2 t0 b1 b2, o, H =>
    eIf H (fun h1 H =>
      eBind H fun r2 hr2 H =>
      eN H fun r hn => gO [rg [hT 0], rg [hC 1 true [0, 1] (Ri_mixParts_1 r2) (Ni_mixParts_1 r2)], r0, .canon [0, 1] [4, 5, 6, 23]] (by kernel_rfl) (P2 ((decide (t0 < 3)) = true) (decide_eq_true h1) <| PI (1 : Nat) <| PI (1 : Nat) <| P1 (ci_mixParts_1 hr2) <| P0) hn)
    (fun h1 H =>
      eN H <| gE func109 [rg [hF 0], r0] (by kernel_rfl) (P2 ((decide (t0 < 3)) = false) (decide_eq_false h1) <| P0))
theorem wi_mixParts : ∀ s r, loop Bi_mixParts s = some r → Wc X 109 0 (Ki_mixParts s) (Zi_mixParts s) (Ri_mixParts r) ((fun _ => []) r) := Nx.all ni_mixParts
theorem ci_mixParts {a0 : (List Int)} {r : Int × Int} (H : Di_mixParts a0 = some r) : Ct X.P X.gl 109 [sl 1 I a0] [] (Ri_mixParts r) [] :=
  Ct.of func109 (c := bdy f109) (by kernel_rfl) (by kernel_rfl) <|
  gO [r0, r0, r0, r0, .canon [0, 1] [4, 5, 6, 13, 14, 15]] (by kernel_rfl) P0 (wi_mixParts _ _ H)
/-! loop example/g00886/impl dieAt -/
theorem ci_dieAt {a0 : Int} {a1 : Int} {r : Int} (H : Di_dieAt a0 a1 = some r) : Ct X.P X.gl 69 [I a0, I a1] [] (RI r) [] :=
  Ct.of func69 (c := bdy f69) (by kernel_rfl) (by kernel_rfl) <|
  eBind H fun r1 hr1 H =>
  eW RI (fun _ => []) H <| gE func69 [r0, rg [hC 3 false [] (Ri_mixParts r1) []], r0] (by kernel_rfl) (P1 (ci_mixParts hr1) <| P2 (¬ (6 : Int) = 0) (by decide) <| P0)
/-! loop example/g00886/impl DiceFrom -/
def Ri_DiceFrom (r : (List Int) × Bool) : List D := [ow 1 I r.1, .bool r.2]
noncomputable def Ki_DiceFrom : Si_DiceFrom → List Item
  | .h1 .. => nav 300 4 [false] [.code (bdy f15)]
def Zi_DiceFrom : Si_DiceFrom → St
  | .h1 seed0 i1 t2 t3 l4 => ⟨sts 44 [(0, I seed0), (1, I i1), (8, .ref 0 1 none), (30, I t2), (31, I t3)], [some ⟨false, false, 1, l4.length, List.map I l4⟩]⟩
abbrev Qi_DiceFrom := Nx X 15 0 Ki_DiceFrom Zi_DiceFrom Ri_DiceFrom (fun _ => [])
theorem ni_DiceFrom : ∀ s o, Bi_DiceFrom s = some o → Qi_DiceFrom (Ki_DiceFrom s) (Zi_DiceFrom s) o
  | .h1 seed0 i1 t2 t3 l4, o, H =>
    eIf H (fun h1 H =>
      eBind H fun r2 hr2 H =>
      eCk H fun h3 H =>
      eN H fun r hn => gO [rg [hT 0], r0, rg [hC 5 true [] (RI r2) [], hA 7 ((l4 ++ [r2]).length) (List.map I (l4 ++ [r2]))], r0, .canon [2] [0, 1, 8, 30, 31]] (by kernel_rfl) (P2 ((decide (t3 < t2)) = true) (decide_eq_true h1) <| P1 (ci_dieAt hr2) <| P1 (apL l4 [r2]) <| P1 (apB h3) <| P1 (apM I l4 [r2]) <| P0) hn)
    (fun h1 H =>
      eN H <| gE func15 [rg [hF 0], r0] (by kernel_rfl) (P2 ((decide (t3 < t2)) = false) (decide_eq_false h1) <| P0))
theorem wi_DiceFrom : ∀ s r, loop Bi_DiceFrom s = some r → Wc X 15 0 (Ki_DiceFrom s) (Zi_DiceFrom s) (Ri_DiceFrom r) ((fun _ => []) r) := Nx.all ni_DiceFrom
theorem ci_DiceFrom {a0 : Int} {a1 : Int} {a2 : Int} {r : (List Int) × Bool} (H : Di_DiceFrom a0 a1 a2 = some r) : Ct X.P X.gl 15 [I a0, I a1, I a2] [] (Ri_DiceFrom r) [] :=
  Ct.of func15 (c := bdy f15) (by kernel_rfl) (by kernel_rfl) <|
  eBind H fun r1 hr1 H =>
  gS [r0] (by kernel_rfl) P0 <|
  eIf H (fun h2 H =>
    eBind H fun r3 hr3 H =>
    eIf H (fun h4 H =>
      eBind H fun r5 hr5 H =>
      eIf H (fun h6 H =>
        eIf H (fun h7 H =>
          eW Ri_DiceFrom (fun _ => []) H <| gE func15 [rg [{ i := 1, call := some { cl := true, auto := true, ins := [], res := (RB r1), G' := [] }, dec := some true }, { i := 5, call := some { cl := true, auto := true, ins := [], res := (RB r3), G' := [] }, dec := some true }, { i := 10, call := some { cl := true, auto := true, ins := [], res := (RB r5), G' := [] }, dec := some true }, hT 17], r0] (by kernel_rfl) (P1 (ci_isSeed hr1) <| P2 (r1 = true) (h2) <| P1 (ci_isPlaceOfDie hr3) <| P2 (r3 = true) (h4) <| P1 (ci_inRange hr5) <| P2 (r5 = true) (h6) <| P2 ((decide ((IntKind.wrap .i64 (a1 + a2)) > 1000001)) = true) (decide_eq_true h7) <| P0))
        (fun h7 H =>
          gO [rg [{ i := 1, call := some { cl := true, auto := true, ins := [], res := (RB r1), G' := [] }, dec := some true }, { i := 5, call := some { cl := true, auto := true, ins := [], res := (RB r3), G' := [] }, dec := some true }, { i := 10, call := some { cl := true, auto := true, ins := [], res := (RB r5), G' := [] }, dec := some true }, hF 17], r0, r0, .canon [0] [0, 1, 8, 30, 31]] (by kernel_rfl) (P1 (ci_isSeed hr1) <| P2 (r1 = true) (h2) <| P1 (ci_isPlaceOfDie hr3) <| P2 (r3 = true) (h4) <| P1 (ci_inRange hr5) <| P2 (r5 = true) (h6) <| P2 ((decide ((IntKind.wrap .i64 (a1 + a2)) > 1000001)) = false) (decide_eq_false h7) <| P0) (wi_DiceFrom _ _ H)))
      (fun h6 H =>
        eW Ri_DiceFrom (fun _ => []) H <| gE func15 [rg [{ i := 1, call := some { cl := true, auto := true, ins := [], res := (RB r1), G' := [] }, dec := some true }, { i := 5, call := some { cl := true, auto := true, ins := [], res := (RB r3), G' := [] }, dec := some true }, { i := 10, call := some { cl := true, auto := true, ins := [], res := (RB r5), G' := [] }, dec := some false }], r0] (by kernel_rfl) (P1 (ci_isSeed hr1) <| P2 (r1 = true) (h2) <| P1 (ci_isPlaceOfDie hr3) <| P2 (r3 = true) (h4) <| P1 (ci_inRange hr5) <| P2 (r5 = false) (eqF h6) <| P0)))
    (fun h4 H =>
      eW Ri_DiceFrom (fun _ => []) H <| gE func15 [rg [{ i := 1, call := some { cl := true, auto := true, ins := [], res := (RB r1), G' := [] }, dec := some true }, { i := 5, call := some { cl := true, auto := true, ins := [], res := (RB r3), G' := [] }, dec := some false }], r0] (by kernel_rfl) (P1 (ci_isSeed hr1) <| P2 (r1 = true) (h2) <| P1 (ci_isPlaceOfDie hr3) <| P2 (r3 = false) (eqF h4) <| P0)))
  (fun h2 H =>
    eW Ri_DiceFrom (fun _ => []) H <| gE func15 [rg [{ i := 1, call := some { cl := true, auto := true, ins := [], res := (RB r1), G' := [] }, dec := some false }], r0] (by kernel_rfl) (P1 (ci_isSeed hr1) <| P2 (r1 = false) (eqF h2) <| P0))
/-! loop example/g00886/spec l1In -/
theorem cs_l1In {a0 : Int} {a1 : Int} {a2 : Int} {r : Bool} (H : Ds_l1In a0 a1 a2 = some r) : Ct X.P X.gl 71 [I a0, I a1, I a2] [] (RB r) [] :=
  Ct.of func71 (c := bdy f71) (by kernel_rfl) (by kernel_rfl) <|
  gS [r0] (by kernel_rfl) P0 <|
  eIf H (fun h1 H =>
    eW RB (fun _ => []) H <| gE func71 [rg [hT 2]] (by kernel_rfl) (P2 ((decide (a0 ≥ a1)) = true) (decide_eq_true h1) <| P0))
  (fun h1 H =>
    eW RB (fun _ => []) H <| gE func71 [rg [hF 2]] (by kernel_rfl) (P2 ((decide (a0 ≥ a1)) = false) (decide_eq_false h1) <| P0))
/-! loop example/g00886/spec dSeed -/
theorem cs_dSeed {a0 : Int} {r : Bool} (H : Ds_dSeed a0 = some r) : Ct X.P X.gl 74 [I a0] [] (RB r) [] :=
  Ct.of func74 (c := bdy f74) (by kernel_rfl) (by kernel_rfl) <|
  eBind H fun r1 hr1 H =>
  eW RB (fun _ => []) H <| gE func74 [r0, rg [hC 1 true [] (RB r1) []]] (by kernel_rfl) (P1 (cs_l1In hr1) <| P0)
/-! loop example/g00886/spec dAsked -/
theorem cs_dAsked {a0 : Int} {a1 : Int} {r : Bool} (H : Ds_dAsked a0 a1 = some r) : Ct X.P X.gl 70 [I a0, I a1] [] (RB r) [] :=
  Ct.of func70 (c := bdy f70) (by kernel_rfl) (by kernel_rfl) <|
  eBind H fun r1 hr1 H =>
  gS [r0] (by kernel_rfl) P0 <|
  eIf H (fun h2 H =>
    eBind H fun r3 hr3 H =>
    eW RB (fun _ => []) H <| gE func70 [rg [{ i := 1, call := some { cl := true, auto := true, ins := [], res := (RB r1), G' := [] }, dec := some true }, hC 4 true [] (RB r3) []]] (by kernel_rfl) (P1 (cs_dSeed hr1) <| P2 (r1 = true) (h2) <| P1 (cs_l1In hr3) <| P0))
  (fun h2 H =>
    eW RB (fun _ => []) H <| gE func70 [rg [{ i := 1, call := some { cl := true, auto := true, ins := [], res := (RB r1), G' := [] }, dec := some false }]] (by kernel_rfl) (P1 (cs_dSeed hr1) <| P2 (r1 = false) (eqF h2) <| P0))
/-! loop example/g00886/spec dMod -/
theorem cs_dMod {a0 : Int} {a1 : Int} {r : Int} (H : Ds_dMod a0 a1 = some r) : Ct X.P X.gl 126 [I a0, I a1] [] (RI r) [] :=
  Ct.of func126 (c := bdy f126) (by kernel_rfl) (by kernel_rfl) <|
  eCk H fun h1 H =>
  eCk H fun h2 H =>
  eW RI (fun _ => []) H <| gE func126 [r0, r0] (by kernel_rfl) (P2 (¬ (a1 : Int) = 0) h1 <| P2 (¬ (a1 : Int) = 0) h2 <| P0)
/-! loop example/g00886/spec dMix -/
def Rs_dMix (r : Int × Int) : List D := [I r.1, I r.2]
noncomputable def Ks_dMix : Ss_dMix → List Item
  | .h1 .. => nav 300 3 [] [.code (bdy f110)]
def Zs_dMix : Ss_dMix → St
  | .h1 l0 va1 b2 i3 => ⟨sts 44 [(0, sl 1 I l0), (4, I va1), (5, I b2), (6, I i3)], []⟩
abbrev Qs_dMix := Nx X 110 0 Ks_dMix Zs_dMix Rs_dMix (fun _ => [])
theorem ns_dMix : ∀ s o, Bs_dMix s = some o → Qs_dMix (Ks_dMix s) (Zs_dMix s) o
  | .h1 l0 va1 b2 i3, o, H =>
    eIf H (fun h1 H =>
      gN [rg [hT 4], r0] (by kernel_rfl) (P2 ((decide (i3 < (IntKind.wrap .i64 (((l0.length : Nat) : Int) + 3)))) = true) (decide_eq_true h1) <| P0) <|
      eIf H (fun h2 H =>
        eCk H fun h3 H =>
        eBind H fun x4 hx4 H =>
        eBind H fun r5 hr5 H =>
        eBind H fun r6 hr6 H =>
        eN H fun r hn => gO [rg [hT 3], rg [hE 3 (I x4)], rg [hC 3 true [] (RI r5) []], rg [hC 3 true [] (RI r6) []], r0, .canon [] [0, 4, 5, 6]] (by kernel_rfl) (P2 ((decide (i3 < ((l0.length : Nat) : Int))) = true) (decide_eq_true h2) <| P1 h3 <| P1 (int_lt_of_at h3 hx4) <| P1 (at_map I hx4) <| P1 (cs_dMod hr5) <| P2 (¬ (2147483647 : Int) = 0) (by decide) <| P1 (cs_dMod hr6) <| P2 (¬ (2147483629 : Int) = 0) (by decide) <| P0) hn)
      (fun h2 H =>
        eBind H fun r3 hr3 H =>
        eBind H fun r4 hr4 H =>
        eN H fun r hn => gO [rg [hF 3], rg [hC 3 true [] (RI r3) []], rg [hC 3 true [] (RI r4) []], r0, .canon [] [0, 4, 5, 6]] (by kernel_rfl) (P2 ((decide (i3 < ((l0.length : Nat) : Int))) = false) (decide_eq_false h2) <| P1 (cs_dMod hr3) <| P2 (¬ (2147483647 : Int) = 0) (by decide) <| P1 (cs_dMod hr4) <| P2 (¬ (2147483629 : Int) = 0) (by decide) <| P0) hn))
    (fun h1 H =>
      eN H <| gE func110 [rg [hF 4], r0] (by kernel_rfl) (P2 ((decide (i3 < (IntKind.wrap .i64 (((l0.length : Nat) : Int) + 3)))) = false) (decide_eq_false h1) <| P0))
theorem ws_dMix : ∀ s r, loop Bs_dMix s = some r → Wc X 110 0 (Ks_dMix s) (Zs_dMix s) (Rs_dMix r) ((fun _ => []) r) := Nx.all ns_dMix
theorem cs_dMix {a0 : (List Int)} {r : Int × Int} (H : Ds_dMix a0 = some r) : Ct X.P X.gl 110 [sl 1 I a0] [] (Rs_dMix r) [] :=
  Ct.of func110 (c := bdy f110) (by kernel_rfl) (by kernel_rfl) <|
  gO [r0, r0, r0, .canon [] [0, 4, 5, 6]] (by kernel_rfl) P0 (ws_dMix _ _ H)
/-! loop example/g00886/spec dDie -/
theorem cs_dDie {a0 : Int} {a1 : Int} {r : Int} (H : Ds_dDie a0 a1 = some r) : Ct X.P X.gl 72 [I a0, I a1] [] (RI r) [] :=
  Ct.of func72 (c := bdy f72) (by kernel_rfl) (by kernel_rfl) <|
  eBind H fun r1 hr1 H =>
  eW RI (fun _ => []) H <| gE func72 [r0, rg [hC 3 false [] (Rs_dMix r1) []], r0] (by kernel_rfl) (P1 (cs_dMix hr1) <| P2 (¬ (6 : Int) = 0) (by decide) <| P0)
/-! loop example/g00886/spec DiceFrom -/
def Rs_DiceFrom (r : (List Int) × Bool) : List D := [ow 1 I r.1, .bool r.2]
noncomputable def Ks_DiceFrom : Ss_DiceFrom → List Item
  | .h1 .. => nav 300 4 [false] [.code (bdy f16)]
def Zs_DiceFrom : Ss_DiceFrom → St
  | .h1 seed0 i1 n2 k3 l4 => ⟨sts 39 [(0, I seed0), (1, I i1), (2, I n2), (8, .ref 0 1 none), (9, I k3)], [some ⟨false, false, 1, l4.length, List.map I l4⟩]⟩
abbrev Qs_DiceFrom := Nx X 16 0 Ks_DiceFrom Zs_DiceFrom Rs_DiceFrom (fun _ => [])
theorem ns_DiceFrom : ∀ s o, Bs_DiceFrom s = some o → Qs_DiceFrom (Ks_DiceFrom s) (Zs_DiceFrom s) o
  | .h1 seed0 i1 n2 k3 l4, o, H =>
    eIf H (fun h1 H =>
      eBind H fun r2 hr2 H =>
      eCk H fun h3 H =>
      eN H fun r hn => gO [rg [hT 2], rg [hC 5 true [] (RI r2) [], hA 7 ((l4 ++ [r2]).length) (List.map I (l4 ++ [r2]))], r0, .canon [2] [0, 1, 2, 8, 9]] (by kernel_rfl) (P2 ((decide (k3 < n2)) = true) (decide_eq_true h1) <| P1 (cs_dDie hr2) <| P1 (apL l4 [r2]) <| P1 (apB h3) <| P1 (apM I l4 [r2]) <| P0) hn)
    (fun h1 H =>
      eN H <| gE func16 [rg [hF 2], r0] (by kernel_rfl) (P2 ((decide (k3 < n2)) = false) (decide_eq_false h1) <| P0))
theorem ws_DiceFrom : ∀ s r, loop Bs_DiceFrom s = some r → Wc X 16 0 (Ks_DiceFrom s) (Zs_DiceFrom s) (Rs_DiceFrom r) ((fun _ => []) r) := Nx.all ns_DiceFrom
theorem cs_DiceFrom {a0 : Int} {a1 : Int} {a2 : Int} {r : (List Int) × Bool} (H : Ds_DiceFrom a0 a1 a2 = some r) : Ct X.P X.gl 16 [I a0, I a1, I a2] [] (Rs_DiceFrom r) [] :=
  Ct.of func16 (c := bdy f16) (by kernel_rfl) (by kernel_rfl) <|
  eBind H fun r1 hr1 H =>
  gS [r0] (by kernel_rfl) P0 <|
  eIf H (fun h2 H =>
    eBind H fun r3 hr3 H =>
    eIf H (fun h4 H =>
      eIf H (fun h5 H =>
        eW Rs_DiceFrom (fun _ => []) H <| gE func16 [rg [{ i := 2, call := some { cl := true, auto := true, ins := [], res := (RB r1), G' := [] }, dec := some true }, { i := 6, call := some { cl := true, auto := true, ins := [], res := (RB r3), G' := [] }, dec := some true }, hT 13], r0] (by kernel_rfl) (P1 (cs_dAsked hr1) <| P2 (r1 = true) (h2) <| P1 (cs_l1In hr3) <| P2 (r3 = true) (h4) <| P2 ((decide ((IntKind.wrap .i64 (a1 + a2)) > 1000001)) = true) (decide_eq_true h5) <| P0))
      (fun h5 H =>
        gO [rg [{ i := 2, call := some { cl := true, auto := true, ins := [], res := (RB r1), G' := [] }, dec := some true }, { i := 6, call := some { cl := true, auto := true, ins := [], res := (RB r3), G' := [] }, dec := some true }, hF 13], r0, r0, .own 8 1, .canon [0] [0, 1, 2, 8, 9]] (by kernel_rfl) (P1 (cs_dAsked hr1) <| P2 (r1 = true) (h2) <| P1 (cs_l1In hr3) <| P2 (r3 = true) (h4) <| P2 ((decide ((IntKind.wrap .i64 (a1 + a2)) > 1000001)) = false) (decide_eq_false h5) <| P0) (ws_DiceFrom _ _ H)))
    (fun h4 H =>
      eW Rs_DiceFrom (fun _ => []) H <| gE func16 [rg [{ i := 2, call := some { cl := true, auto := true, ins := [], res := (RB r1), G' := [] }, dec := some true }, { i := 6, call := some { cl := true, auto := true, ins := [], res := (RB r3), G' := [] }, dec := some false }], r0] (by kernel_rfl) (P1 (cs_dAsked hr1) <| P2 (r1 = true) (h2) <| P1 (cs_l1In hr3) <| P2 (r3 = false) (eqF h4) <| P0)))
  (fun h2 H =>
    eW Rs_DiceFrom (fun _ => []) H <| gE func16 [rg [{ i := 2, call := some { cl := true, auto := true, ins := [], res := (RB r1), G' := [] }, dec := some false }], r0] (by kernel_rfl) (P1 (cs_dAsked hr1) <| P2 (r1 = false) (eqF h2) <| P0))
/-! loop example/g00886/laws sameInts -/
noncomputable def Kw_sameInts : Sw_sameInts → List Item
  | .h1 .. => nav 300 3 [false] [.code (bdy f17)]
def Zw_sameInts : Sw_sameInts → St
  | .h1 va0 b1 t2 t3 => ⟨sts 26 [(0, sl 1 I va0), (1, sl 1 I b1), (12, I t2), (13, I t3)], []⟩
abbrev Qw_sameInts := Nx X 17 0 Kw_sameInts Zw_sameInts RB (fun _ => [])
theorem nw_sameInts : ∀ s o, Bw_sameInts s = some o → Qw_sameInts (Kw_sameInts s) (Zw_sameInts s) o
  | .h1 va0 b1 t2 t3, o, H =>
    eIf H (fun h1 H =>
      eCk H fun h2 H =>
      eBind H fun x3 hx3 H =>
      eCk H fun h4 H =>
      eBind H fun x5 hx5 H =>
      gN [rg [hT 0], r0] (by kernel_rfl) (P2 ((decide (t3 < t2)) = true) (decide_eq_true h1) <| P0) <|
      eIf H (fun h6 H =>
        eN H fun r hn => gO [rg [hE 3 (I x3), hE 7 (I x5), hF 8], r0, .canon [] [0, 1, 12, 13]] (by kernel_rfl) (P1 h2 <| P1 (int_lt_of_at h2 hx3) <| P1 (at_map I hx3) <| P1 h4 <| P1 (int_lt_of_at h4 hx5) <| P1 (at_map I hx5) <| P2 (((x3 : Int) != x5) = false) (bneF h6) <| P0) hn)
      (fun h6 H =>
        eN H <| gE func17 [rg [hE 3 (I x3), hE 7 (I x5), hT 8], r0] (by kernel_rfl) (P1 h2 <| P1 (int_lt_of_at h2 hx3) <| P1 (at_map I hx3) <| P1 h4 <| P1 (int_lt_of_at h4 hx5) <| P1 (at_map I hx5) <| P2 (((x3 : Int) != x5) = true) (bneT h6) <| P0)))
    (fun h1 H =>
      eN H <| gE func17 [rg [hF 0], r0] (by kernel_rfl) (P2 ((decide (t3 < t2)) = false) (decide_eq_false h1) <| P0))
theorem ww_sameInts : ∀ s r, loop Bw_sameInts s = some r → Wc X 17 0 (Kw_sameInts s) (Zw_sameInts s) (RB r) ((fun _ => []) r) := Nx.all nw_sameInts
theorem cw_sameInts {a0 : (List Int)} {a1 : (List Int)} {r : Bool} (H : Dw_sameInts a0 a1 = some r) : Ct X.P X.gl 17 [sl 1 I a0, sl 1 I a1] [] (RB r) [] :=
  Ct.of func17 (c := bdy f17) (by kernel_rfl) (by kernel_rfl) <|
  gS [r0] (by kernel_rfl) P0 <|
  eIf H (fun h1 H =>
    gO [rg [hF 4], r0, .canon [] [0, 1, 12, 13]] (by kernel_rfl) (P2 (((((a0.length : Nat) : Int) : Int) != ((a1.length : Nat) : Int)) = false) (bneF h1) <| P0) (ww_sameInts _ _ H))
  (fun h1 H =>
    eW RB (fun _ => []) H <| gE func17 [rg [hT 4], r0] (by kernel_rfl) (P2 (((((a0.length : Nat) : Int) : Int) != ((a1.length : Nat) : Int)) = true) (bneT h1) <| P0))
/-! loop example/g00886/impl DieAt -/
def Ri_DieAt (r : Int × Bool) : List D := [I r.1, .bool r.2]
theorem ci_DieAt {a0 : Int} {a1 : Int} {r : Int × Bool} (H : Di_DieAt a0 a1 = some r) : Ct X.P X.gl 18 [I a0, I a1] [] (Ri_DieAt r) [] :=
  Ct.of func18 (c := bdy f18) (by kernel_rfl) (by kernel_rfl) <|
  eBind H fun r1 hr1 H =>
  gS [r0] (by kernel_rfl) P0 <|
  eIf H (fun h2 H =>
    eBind H fun r3 hr3 H =>
    eIf H (fun h4 H =>
      eBind H fun r5 hr5 H =>
      eW Ri_DieAt (fun _ => []) H <| gE func18 [rg [{ i := 1, call := some { cl := true, auto := true, ins := [], res := (RB r1), G' := [] }, dec := some true }, { i := 5, call := some { cl := true, auto := true, ins := [], res := (RB r3), G' := [] }, dec := some true }], rg [hC 2 true [] (RI r5) []]] (by kernel_rfl) (P1 (ci_isSeed hr1) <| P2 (r1 = true) (h2) <| P1 (ci_isPlaceOfDie hr3) <| P2 (r3 = true) (h4) <| P1 (ci_dieAt hr5) <| P0))
    (fun h4 H =>
      eW Ri_DieAt (fun _ => []) H <| gE func18 [rg [{ i := 1, call := some { cl := true, auto := true, ins := [], res := (RB r1), G' := [] }, dec := some true }, { i := 5, call := some { cl := true, auto := true, ins := [], res := (RB r3), G' := [] }, dec := some false }], r0] (by kernel_rfl) (P1 (ci_isSeed hr1) <| P2 (r1 = true) (h2) <| P1 (ci_isPlaceOfDie hr3) <| P2 (r3 = false) (eqF h4) <| P0)))
  (fun h2 H =>
    eW Ri_DieAt (fun _ => []) H <| gE func18 [rg [{ i := 1, call := some { cl := true, auto := true, ins := [], res := (RB r1), G' := [] }, dec := some false }], r0] (by kernel_rfl) (P1 (ci_isSeed hr1) <| P2 (r1 = false) (eqF h2) <| P0))
/-! loop example/g00886/spec DrawShuffleBy -/
def Rs_DrawShuffleBy (r : Int × Int) : List D := [I r.1, I r.2]
theorem cs_DrawShuffleBy {a0 : (List Int)} {r : Int × Int} (H : Ds_DrawShuffleBy a0 = some r) : Ct X.P X.gl 19 [sl 1 (D.int .u8) a0] [] (Rs_DrawShuffleBy r) [] :=
  Ct.of func19 (c := bdy f19) (by kernel_rfl) (by kernel_rfl) <|
  eBind H fun r1 hr1 H =>
  eBind H fun r2 hr2 H =>
  eW Rs_DrawShuffleBy (fun _ => []) H <| gE func19 [r0, r0, rg [hC 1 true [0] (Rs_l1Cur_anySeed r1) (Ns_l1Cur_anySeed r1), { i := 4, frz := [1], call := some { cl := true, auto := true, ins := [0], res := (Rs_l1Cur_among r2), G' := (Ns_l1Cur_among r2) } }]] (by kernel_rfl) (PI (1 : Nat) <| P1 (cs_l1Cur_anySeed hr1) <| PI (1 : Nat) <| P1 (cs_l1Cur_among hr2) <| P0)
/-! loop example/g00886/impl numberBelow -/
theorem ci_numberBelow {a0 : Int} {a1 : Int} {a2 : Int} {r : Int} (H : Di_numberBelow a0 a1 a2 = some r) : Ct X.P X.gl 73 [I a0, I a1, I a2] [] (RI r) [] :=
  Ct.of func73 (c := bdy f73) (by kernel_rfl) (by kernel_rfl) <|
  eBind H fun r1 hr1 H =>
  eCk H fun h2 H =>
  eW RI (fun _ => []) H <| gE func73 [r0, rg [hC 4 false [] (Ri_mixParts r1) []], r0] (by kernel_rfl) (P1 (ci_mixParts hr1) <| P2 (¬ (a2 : Int) = 0) h2 <| P0)
/-! loop example/g00886/impl ShuffleBy -/
def Ri_ShuffleBy (r : (List Int) × Bool) : List D := [ow 1 I r.1, .bool r.2]
noncomputable def Ki_ShuffleBy : Si_ShuffleBy → List Item
  | .h1 .. => nav 300 4 [false] [.code (bdy f20)]
  | .h2 .. => nav 300 6 [false, false] [.code (bdy f20)]
def Zi_ShuffleBy : Si_ShuffleBy → St
  | .h1 seed0 n1 t2 t3 l4 => ⟨sts 56 [(0, I seed0), (1, I n1), (6, .ref 0 1 none), (20, I t2), (21, I t3)], [some ⟨false, false, 1, l4.length, List.map I l4⟩]⟩
  | .h2 seed0 k1 l2 => ⟨sts 56 [(0, I seed0), (6, .ref 0 1 none), (8, I k1)], [some ⟨false, false, 1, l2.length, List.map I l2⟩]⟩
abbrev Qi_ShuffleBy := Nx X 20 0 Ki_ShuffleBy Zi_ShuffleBy Ri_ShuffleBy (fun _ => [])
theorem ni_ShuffleBy : ∀ s o, Bi_ShuffleBy s = some o → Qi_ShuffleBy (Ki_ShuffleBy s) (Zi_ShuffleBy s) o
  | .h1 seed0 n1 t2 t3 l4, o, H =>
    eIf H (fun h1 H =>
      eCk H fun h2 H =>
      eN H fun r hn => gO [rg [hT 0], r0, rg [hA 3 ((l4 ++ [t3]).length) (List.map I (l4 ++ [t3]))], r0, .canon [2] [0, 1, 6, 20, 21]] (by kernel_rfl) (P2 ((decide (t3 < t2)) = true) (decide_eq_true h1) <| P1 (apL l4 [t3]) <| P1 (apB h2) <| P1 (apM I l4 [t3]) <| P0) hn)
    (fun h1 H =>
      eN H fun r hn => gO [rg [hF 0], r0, .canon [0] [0, 6, 8]] (by kernel_rfl) (P2 ((decide (t3 < t2)) = false) (decide_eq_false h1) <| P0) hn)
  | .h2 seed0 k1 l2, o, H =>
    eIf H (fun h1 H =>
      eBind H fun r2 hr2 H =>
      eCk H fun h3 H =>
      eBind H fun x4 hx4 H =>
      eCk H fun h5 H =>
      eBind H fun x6 hx6 H =>
      eCk H fun h7 H =>
      eBind H fun x8 hx8 H =>
      eCk H fun h9 H =>
      eBind H fun x10 hx10 H =>
      eN H fun r hn => gO [rg [hT 1], rg [hC 4 true [] (RI r2) []], rg [hE 3 (I x4)], rg [hE 5 (I x6), hA 7 ((List.set l2 (Int.toNat k1) x6).length) (List.map I (List.set l2 (Int.toNat k1) x6))], rg [hA 4 ((List.set (List.set l2 (Int.toNat k1) x6) (Int.toNat r2) x4).length) (List.map I (List.set (List.set l2 (Int.toNat k1) x6) (Int.toNat r2) x4))], r0, .canon [0] [0, 6, 8]] (by kernel_rfl) (P2 ((decide (k1 ≥ 1)) = true) (decide_eq_true h1) <| P1 (ci_numberBelow hr2) <| P1 h3 <| P1 (int_lt_of_at h3 hx4) <| P1 (at_map I hx4) <| P1 h5 <| P1 (int_lt_of_at h5 hx6) <| P1 (at_map I hx6) <| P1 h7 <| P1 (int_lt_of_at h7 hx8) <| P1 (lt_of_at hx8) <| P2 (setCells (List.map I l2) (Int.toNat k1) 0 [I x6] = List.map I (List.set l2 (Int.toNat k1) x6)) (setCells_map hx8 rfl) <| P1 (setLen l2 (Int.toNat k1) x6) <| P1 h9 <| P1 (int_lt_of_at h9 hx10) <| P1 (lt_of_at hx10) <| P2 (setCells (List.map I (List.set l2 (Int.toNat k1) x6)) (Int.toNat r2) 0 [I x4] = List.map I (List.set (List.set l2 (Int.toNat k1) x6) (Int.toNat r2) x4)) (setCells_map hx10 rfl) <| P1 (setLen (List.set l2 (Int.toNat k1) x6) (Int.toNat r2) x4) <| P0) hn)
    (fun h1 H =>
      eN H <| gE func20 [rg [hF 1], r0] (by kernel_rfl) (P2 ((decide (k1 ≥ 1)) = false) (decide_eq_false h1) <| P0))
theorem wi_ShuffleBy : ∀ s r, loop Bi_ShuffleBy s = some r → Wc X 20 0 (Ki_ShuffleBy s) (Zi_ShuffleBy s) (Ri_ShuffleBy r) ((fun _ => []) r) := Nx.all ni_ShuffleBy
theorem ci_ShuffleBy {a0 : Int} {a1 : Int} {r : (List Int) × Bool} (H : Di_ShuffleBy a0 a1 = some r) : Ct X.P X.gl 20 [I a0, I a1] [] (Ri_ShuffleBy r) [] :=
  Ct.of func20 (c := bdy f20) (by kernel_rfl) (by kernel_rfl) <|
  eBind H fun r1 hr1 H =>
  gS [r0] (by kernel_rfl) P0 <|
  eIf H (fun h2 H =>
    eBind H fun r3 hr3 H =>
    eIf H (fun h4 H =>
      gO [rg [{ i := 1, call := some { cl := true, auto := true, ins := [], res := (RB r1), G' := [] }, dec := some true }, { i := 5, call := some { cl := true, auto := true, ins := [], res := (RB r3), G' := [] }, dec := some true }], r0, r0, .canon [0] [0, 1, 6, 20, 21]] (by kernel_rfl) (P1 (ci_isSeed hr1) <| P2 (r1 = true) (h2) <| P1 (ci_inRange hr3) <| P2 (r3 = true) (h4) <| P0) (wi_ShuffleBy _ _ H))
    (fun h4 H =>
      eW Ri_ShuffleBy (fun _ => []) H <| gE func20 [rg [{ i := 1, call := some { cl := true, auto := true, ins := [], res := (RB r1), G' := [] }, dec := some true }, { i := 5, call := some { cl := true, auto := true, ins := [], res := (RB r3), G' := [] }, dec := some false }], r0] (by kernel_rfl) (P1 (ci_isSeed hr1) <| P2 (r1 = true) (h2) <| P1 (ci_inRange hr3) <| P2 (r3 = false) (eqF h4) <| P0)))
  (fun h2 H =>
    eW Ri_ShuffleBy (fun _ => []) H <| gE func20 [rg [{ i := 1, call := some { cl := true, auto := true, ins := [], res := (RB r1), G' := [] }, dec := some false }], r0] (by kernel_rfl) (P1 (ci_isSeed hr1) <| P2 (r1 = false) (eqF h2) <| P0))
/-! loop example/g00886/spec dBelow -/
theorem cs_dBelow {a0 : Int} {a1 : Int} {a2 : Int} {r : Int} (H : Ds_dBelow a0 a1 a2 = some r) : Ct X.P X.gl 76 [I a0, I a1, I a2] [] (RI r) [] :=
  Ct.of func76 (c := bdy f76) (by kernel_rfl) (by kernel_rfl) <|
  eBind H fun r1 hr1 H =>
  eCk H fun h2 H =>
  eW RI (fun _ => []) H <| gE func76 [r0, rg [hC 4 false [] (Rs_dMix r1) []], r0] (by kernel_rfl) (P1 (cs_dMix hr1) <| P2 (¬ (a2 : Int) = 0) h2 <| P0)
/-! loop example/g00886/spec dShuffle -/
def Rs_dShuffle (r : (List Int)) : List D := [ow 1 I r]
noncomputable def Ks_dShuffle : Ss_dShuffle → List Item
  | .h1 .. => nav 300 3 [] [.code (bdy f75)]
  | .h2 .. => nav 300 5 [false] [.code (bdy f75)]
def Zs_dShuffle : Ss_dShuffle → St
  | .h1 seed0 n1 i2 l3 => ⟨sts 46 [(0, I seed0), (1, I n1), (5, .ref 0 1 none), (6, I i2)], [some ⟨false, false, 1, l3.length, List.map I l3⟩]⟩
  | .h2 seed0 k1 l2 => ⟨sts 46 [(0, I seed0), (5, .ref 0 1 none), (7, I k1)], [some ⟨false, false, 1, l2.length, List.map I l2⟩]⟩
abbrev Qs_dShuffle := Nx X 75 0 Ks_dShuffle Zs_dShuffle Rs_dShuffle (fun _ => [])
theorem ns_dShuffle : ∀ s o, Bs_dShuffle s = some o → Qs_dShuffle (Ks_dShuffle s) (Zs_dShuffle s) o
  | .h1 seed0 n1 i2 l3, o, H =>
    eIf H (fun h1 H =>
      eCk H fun h2 H =>
      eN H fun r hn => gO [rg [hT 2], rg [hA 3 ((l3 ++ [i2]).length) (List.map I (l3 ++ [i2]))], r0, .canon [2] [0, 1, 5, 6]] (by kernel_rfl) (P2 ((decide (i2 < n1)) = true) (decide_eq_true h1) <| P1 (apL l3 [i2]) <| P1 (apB h2) <| P1 (apM I l3 [i2]) <| P0) hn)
    (fun h1 H =>
      eN H fun r hn => gO [rg [hF 2], r0, .canon [0] [0, 5, 7]] (by kernel_rfl) (P2 ((decide (i2 < n1)) = false) (decide_eq_false h1) <| P0) hn)
  | .h2 seed0 k1 l2, o, H =>
    eIf H (fun h1 H =>
      eBind H fun r2 hr2 H =>
      eCk H fun h3 H =>
      eBind H fun x4 hx4 H =>
      eCk H fun h5 H =>
      eBind H fun x6 hx6 H =>
      eCk H fun h7 H =>
      eBind H fun x8 hx8 H =>
      eCk H fun h9 H =>
      eBind H fun x10 hx10 H =>
      eN H fun r hn => gO [rg [hT 1], rg [hC 4 true [] (RI r2) []], rg [hE 3 (I x4)], rg [hE 5 (I x6), hA 7 ((List.set l2 (Int.toNat k1) x6).length) (List.map I (List.set l2 (Int.toNat k1) x6))], rg [hA 4 ((List.set (List.set l2 (Int.toNat k1) x6) (Int.toNat r2) x4).length) (List.map I (List.set (List.set l2 (Int.toNat k1) x6) (Int.toNat r2) x4))], r0, .canon [0] [0, 5, 7]] (by kernel_rfl) (P2 ((decide (k1 ≥ 1)) = true) (decide_eq_true h1) <| P1 (cs_dBelow hr2) <| P1 h3 <| P1 (int_lt_of_at h3 hx4) <| P1 (at_map I hx4) <| P1 h5 <| P1 (int_lt_of_at h5 hx6) <| P1 (at_map I hx6) <| P1 h7 <| P1 (int_lt_of_at h7 hx8) <| P1 (lt_of_at hx8) <| P2 (setCells (List.map I l2) (Int.toNat k1) 0 [I x6] = List.map I (List.set l2 (Int.toNat k1) x6)) (setCells_map hx8 rfl) <| P1 (setLen l2 (Int.toNat k1) x6) <| P1 h9 <| P1 (int_lt_of_at h9 hx10) <| P1 (lt_of_at hx10) <| P2 (setCells (List.map I (List.set l2 (Int.toNat k1) x6)) (Int.toNat r2) 0 [I x4] = List.map I (List.set (List.set l2 (Int.toNat k1) x6) (Int.toNat r2) x4)) (setCells_map hx10 rfl) <| P1 (setLen (List.set l2 (Int.toNat k1) x6) (Int.toNat r2) x4) <| P0) hn)
    (fun h1 H =>
      eN H <| gE func75 [rg [hF 1], r0] (by kernel_rfl) (P2 ((decide (k1 ≥ 1)) = false) (decide_eq_false h1) <| P0))
theorem ws_dShuffle : ∀ s r, loop Bs_dShuffle s = some r → Wc X 75 0 (Ks_dShuffle s) (Zs_dShuffle s) (Rs_dShuffle r) ((fun _ => []) r) := Nx.all ns_dShuffle
theorem cs_dShuffle {a0 : Int} {a1 : Int} {r : (List Int)} (H : Ds_dShuffle a0 a1 = some r) : Ct X.P X.gl 75 [I a0, I a1] [] (Rs_dShuffle r) [] :=
  Ct.of func75 (c := bdy f75) (by kernel_rfl) (by kernel_rfl) <|
  gO [r0, r0, r0, .own 5 1, .canon [0] [0, 1, 5, 6]] (by kernel_rfl) P0 (ws_dShuffle _ _ H)
/-! loop example/g00886/spec ShuffleBy -/
def Rs_ShuffleBy (r : (List Int) × Bool) : List D := [ow 1 I r.1, .bool r.2]
theorem cs_ShuffleBy {a0 : Int} {a1 : Int} {r : (List Int) × Bool} (H : Ds_ShuffleBy a0 a1 = some r) : Ct X.P X.gl 21 [I a0, I a1] [] (Rs_ShuffleBy r) [] :=
  Ct.of func21 (c := bdy f21) (by kernel_rfl) (by kernel_rfl) <|
  eBind H fun r1 hr1 H =>
  gS [r0] (by kernel_rfl) P0 <|
  eIf H (fun h2 H =>
    eBind H fun r3 hr3 H =>
    eIf H (fun h4 H =>
      eBind H fun r5 hr5 H =>
      eW Rs_ShuffleBy (fun _ => []) H <| gE func21 [rg [{ i := 1, call := some { cl := true, auto := true, ins := [], res := (RB r1), G' := [] }, dec := some true }, { i := 5, call := some { cl := true, auto := true, ins := [], res := (RB r3), G' := [] }, dec := some true }], rg [hC 2 true [] (Rs_dShuffle r5) []]] (by kernel_rfl) (P1 (cs_dSeed hr1) <| P2 (r1 = true) (h2) <| P1 (cs_l1In hr3) <| P2 (r3 = true) (h4) <| P1 (cs_dShuffle hr5) <| P0))
    (fun h4 H =>
      eW Rs_ShuffleBy (fun _ => []) H <| gE func21 [rg [{ i := 1, call := some { cl := true, auto := true, ins := [], res := (RB r1), G' := [] }, dec := some true }, { i := 5, call := some { cl := true, auto := true, ins := [], res := (RB r3), G' := [] }, dec := some false }], r0] (by kernel_rfl) (P1 (cs_dSeed hr1) <| P2 (r1 = true) (h2) <| P1 (cs_l1In hr3) <| P2 (r3 = false) (eqF h4) <| P0)))
  (fun h2 H =>
    eW Rs_ShuffleBy (fun _ => []) H <| gE func21 [rg [{ i := 1, call := some { cl := true, auto := true, ins := [], res := (RB r1), G' := [] }, dec := some false }], r0] (by kernel_rfl) (P1 (cs_dSeed hr1) <| P2 (r1 = false) (eqF h2) <| P0))
/-! loop example/g00886/spec DrawNumberBelow -/
def Rs_DrawNumberBelow (r : Int × Int × Int) : List D := [I r.1, I r.2.1, I r.2.2]
theorem cs_DrawNumberBelow {a0 : (List Int)} {r : Int × Int × Int} (H : Ds_DrawNumberBelow a0 = some r) : Ct X.P X.gl 22 [sl 1 (D.int .u8) a0] [] (Rs_DrawNumberBelow r) [] :=
  Ct.of func22 (c := bdy f22) (by kernel_rfl) (by kernel_rfl) <|
  eBind H fun r1 hr1 H =>
  eBind H fun r2 hr2 H =>
  eBind H fun r3 hr3 H =>
  eW Rs_DrawNumberBelow (fun _ => []) H <| gE func22 [r0, r0, rg [hC 1 true [0] (Rs_l1Cur_anySeed r1) (Ns_l1Cur_anySeed r1), hC 3 true [0] (Rs_l1Cur_pick r2) (Ns_l1Cur_pick r2), { i := 6, frz := [1], call := some { cl := true, auto := true, ins := [0], res := (Rs_l1Cur_among r3), G' := (Ns_l1Cur_among r3) } }]] (by kernel_rfl) (PI (1 : Nat) <| P1 (cs_l1Cur_anySeed hr1) <| PI (1 : Nat) <| P1 (cs_l1Cur_pick hr2) <| PI (1 : Nat) <| P1 (cs_l1Cur_among hr3) <| P0)
/-! loop example/g00886/impl NumberBelow -/
def Ri_NumberBelow (r : Int × Bool) : List D := [I r.1, .bool r.2]
theorem ci_NumberBelow {a0 : Int} {a1 : Int} {a2 : Int} {r : Int × Bool} (H : Di_NumberBelow a0 a1 a2 = some r) : Ct X.P X.gl 23 [I a0, I a1, I a2] [] (Ri_NumberBelow r) [] :=
  Ct.of func23 (c := bdy f23) (by kernel_rfl) (by kernel_rfl) <|
  eBind H fun r1 hr1 H =>
  gS [r0] (by kernel_rfl) P0 <|
  eIf H (fun h2 H =>
    eBind H fun r3 hr3 H =>
    eIf H (fun h4 H =>
      eBind H fun r5 hr5 H =>
      eIf H (fun h6 H =>
        eBind H fun r7 hr7 H =>
        eW Ri_NumberBelow (fun _ => []) H <| gE func23 [rg [{ i := 1, call := some { cl := true, auto := true, ins := [], res := (RB r1), G' := [] }, dec := some true }, { i := 5, call := some { cl := true, auto := true, ins := [], res := (RB r3), G' := [] }, dec := some true }, { i := 10, call := some { cl := true, auto := true, ins := [], res := (RB r5), G' := [] }, dec := some true }], rg [hC 3 true [] (RI r7) []]] (by kernel_rfl) (P1 (ci_isSeed hr1) <| P2 (r1 = true) (h2) <| P1 (ci_isPlaceOfDie hr3) <| P2 (r3 = true) (h4) <| P1 (ci_inRange hr5) <| P2 (r5 = true) (h6) <| P1 (ci_numberBelow hr7) <| P0))
      (fun h6 H =>
        eW Ri_NumberBelow (fun _ => []) H <| gE func23 [rg [{ i := 1, call := some { cl := true, auto := true, ins := [], res := (RB r1), G' := [] }, dec := some true }, { i := 5, call := some { cl := true, auto := true, ins := [], res := (RB r3), G' := [] }, dec := some true }, { i := 10, call := some { cl := true, auto := true, ins := [], res := (RB r5), G' := [] }, dec := some false }], r0] (by kernel_rfl) (P1 (ci_isSeed hr1) <| P2 (r1 = true) (h2) <| P1 (ci_isPlaceOfDie hr3) <| P2 (r3 = true) (h4) <| P1 (ci_inRange hr5) <| P2 (r5 = false) (eqF h6) <| P0)))
    (fun h4 H =>
      eW Ri_NumberBelow (fun _ => []) H <| gE func23 [rg [{ i := 1, call := some { cl := true, auto := true, ins := [], res := (RB r1), G' := [] }, dec := some true }, { i := 5, call := some { cl := true, auto := true, ins := [], res := (RB r3), G' := [] }, dec := some false }], r0] (by kernel_rfl) (P1 (ci_isSeed hr1) <| P2 (r1 = true) (h2) <| P1 (ci_isPlaceOfDie hr3) <| P2 (r3 = false) (eqF h4) <| P0)))
  (fun h2 H =>
    eW Ri_NumberBelow (fun _ => []) H <| gE func23 [rg [{ i := 1, call := some { cl := true, auto := true, ins := [], res := (RB r1), G' := [] }, dec := some false }], r0] (by kernel_rfl) (P1 (ci_isSeed hr1) <| P2 (r1 = false) (eqF h2) <| P0))
/-! loop example/g00886/spec NumberBelow -/
def Rs_NumberBelow (r : Int × Bool) : List D := [I r.1, .bool r.2]
theorem cs_NumberBelow {a0 : Int} {a1 : Int} {a2 : Int} {r : Int × Bool} (H : Ds_NumberBelow a0 a1 a2 = some r) : Ct X.P X.gl 24 [I a0, I a1, I a2] [] (Rs_NumberBelow r) [] :=
  Ct.of func24 (c := bdy f24) (by kernel_rfl) (by kernel_rfl) <|
  eBind H fun r1 hr1 H =>
  gS [r0] (by kernel_rfl) P0 <|
  eIf H (fun h2 H =>
    eBind H fun r3 hr3 H =>
    eIf H (fun h4 H =>
      eBind H fun r5 hr5 H =>
      eW Rs_NumberBelow (fun _ => []) H <| gE func24 [rg [{ i := 2, call := some { cl := true, auto := true, ins := [], res := (RB r1), G' := [] }, dec := some true }, { i := 6, call := some { cl := true, auto := true, ins := [], res := (RB r3), G' := [] }, dec := some true }], rg [hC 3 true [] (RI r5) []]] (by kernel_rfl) (P1 (cs_dAsked hr1) <| P2 (r1 = true) (h2) <| P1 (cs_l1In hr3) <| P2 (r3 = true) (h4) <| P1 (cs_dBelow hr5) <| P0))
    (fun h4 H =>
      eW Rs_NumberBelow (fun _ => []) H <| gE func24 [rg [{ i := 2, call := some { cl := true, auto := true, ins := [], res := (RB r1), G' := [] }, dec := some true }, { i := 6, call := some { cl := true, auto := true, ins := [], res := (RB r3), G' := [] }, dec := some false }], r0] (by kernel_rfl) (P1 (cs_dAsked hr1) <| P2 (r1 = true) (h2) <| P1 (cs_l1In hr3) <| P2 (r3 = false) (eqF h4) <| P0)))
  (fun h2 H =>
    eW Rs_NumberBelow (fun _ => []) H <| gE func24 [rg [{ i := 2, call := some { cl := true, auto := true, ins := [], res := (RB r1), G' := [] }, dec := some false }], r0] (by kernel_rfl) (P1 (cs_dAsked hr1) <| P2 (r1 = false) (eqF h2) <| P0))
/-! loop example/g00886/spec DrawFacesOf -/
def Rs_DrawFacesOf (r : Int × Int) : List D := [I r.1, I r.2]
theorem cs_DrawFacesOf {a0 : (List Int)} {r : Int × Int} (H : Ds_DrawFacesOf a0 = some r) : Ct X.P X.gl 25 [sl 1 (D.int .u8) a0] [] (Rs_DrawFacesOf r) [] :=
  Ct.of func25 (c := bdy f25) (by kernel_rfl) (by kernel_rfl) <|
  eBind H fun r1 hr1 H =>
  eBind H fun r2 hr2 H =>
  eW Rs_DrawFacesOf (fun _ => []) H <| gE func25 [r0, r0, rg [hC 1 true [0] (Rs_l1Cur_anySeed r1) (Ns_l1Cur_anySeed r1), { i := 4, frz := [1], call := some { cl := true, auto := true, ins := [0], res := (Rs_l1Cur_among r2), G' := (Ns_l1Cur_among r2) } }]] (by kernel_rfl) (PI (1 : Nat) <| P1 (cs_l1Cur_anySeed hr1) <| PI (1 : Nat) <| P1 (cs_l1Cur_among hr2) <| P0)
/-! loop example/g00886/impl FacesOf -/
def Ri_FacesOf (r : (List Int) × Bool) : List D := [ow 1 I r.1, .bool r.2]
noncomputable def Ki_FacesOf : Si_FacesOf → List Item
  | .h1 .. => nav 300 4 [false] [.code (bdy f26)]
def Zi_FacesOf : Si_FacesOf → St
  | .h1 seed0 t1 t2 l3 => ⟨sts 32 [(0, I seed0), (6, .ref 0 1 none), (17, I t1), (18, I t2)], [some ⟨false, false, 1, l3.length, List.map I l3⟩]⟩
abbrev Qi_FacesOf := Nx X 26 0 Ki_FacesOf Zi_FacesOf Ri_FacesOf (fun _ => [])
theorem ni_FacesOf : ∀ s o, Bi_FacesOf s = some o → Qi_FacesOf (Ki_FacesOf s) (Zi_FacesOf s) o
  | .h1 seed0 t1 t2 l3, o, H =>
    eIf H (fun h1 H =>
      eBind H fun r2 hr2 H =>
      eCk H fun h3 H =>
      eBind H fun x4 hx4 H =>
      eCk H fun h5 H =>
      eBind H fun x6 hx6 H =>
      eN H fun r hn => gO [rg [hT 0], r0, rg [hC 3 true [] (RI r2) [], hE 6 (I x4), hA 9 ((List.set l3 (Int.toNat (IntKind.wrap .i64 (r2 - 1))) (IntKind.wrap .i64 (x4 + 1))).length) (List.map I (List.set l3 (Int.toNat (IntKind.wrap .i64 (r2 - 1))) (IntKind.wrap .i64 (x4 + 1))))], r0, .canon [0] [0, 6, 17, 18]] (by kernel_rfl) (P2 ((decide (t2 < t1)) = true) (decide_eq_true h1) <| P1 (ci_dieAt hr2) <| P1 h3 <| P1 (int_lt_of_at h3 hx4) <| P1 (at_map I hx4) <| P1 h5 <| P1 (int_lt_of_at h5 hx6) <| P1 (lt_of_at hx6) <| P2 (setCells (List.map I l3) (Int.toNat (IntKind.wrap .i64 (r2 - 1))) 0 [I (IntKind.wrap .i64 (x4 + 1))] = List.map I (List.set l3 (Int.toNat (IntKind.wrap .i64 (r2 - 1))) (IntKind.wrap .i64 (x4 + 1)))) (setCells_map hx6 rfl) <| P1 (setLen l3 (Int.toNat (IntKind.wrap .i64 (r2 - 1))) (IntKind.wrap .i64 (x4 + 1))) <| P0) hn)
    (fun h1 H =>
      eN H <| gE func26 [rg [hF 0], r0] (by kernel_rfl) (P2 ((decide (t2 < t1)) = false) (decide_eq_false h1) <| P0))
theorem wi_FacesOf : ∀ s r, loop Bi_FacesOf s = some r → Wc X 26 0 (Ki_FacesOf s) (Zi_FacesOf s) (Ri_FacesOf r) ((fun _ => []) r) := Nx.all ni_FacesOf
theorem ci_FacesOf {a0 : Int} {a1 : Int} {r : (List Int) × Bool} (H : Di_FacesOf a0 a1 = some r) : Ct X.P X.gl 26 [I a0, I a1] [] (Ri_FacesOf r) [] :=
  Ct.of func26 (c := bdy f26) (by kernel_rfl) (by kernel_rfl) <|
  eBind H fun r1 hr1 H =>
  gS [r0] (by kernel_rfl) P0 <|
  eIf H (fun h2 H =>
    eBind H fun r3 hr3 H =>
    eIf H (fun h4 H =>
      eCk H fun h5 H =>
      gO [rg [{ i := 1, call := some { cl := true, auto := true, ins := [], res := (RB r1), G' := [] }, dec := some true }, { i := 5, call := some { cl := true, auto := true, ins := [], res := (RB r3), G' := [] }, dec := some true }], rg [hA 0 ((List.replicate (Int.toNat 6) 0).length) (List.map I (List.replicate (Int.toNat 6) 0))], r0, .canon [0] [0, 6, 17, 18]] (by kernel_rfl) (P1 (ci_isSeed hr1) <| P2 (r1 = true) (h2) <| P1 (ci_inRange hr3) <| P2 (r3 = true) (h4) <| PI (6 : Int) <| P2 ((0 : Int) ≤ 6) (by decide) <| P2 (Int.toNat 6 * 8 ≤ 140737488355328) h5 <| P1 (repLen (Int.toNat 6) 0) <| P1 (repMap I (Int.toNat 6) 0) <| P0) (wi_FacesOf _ _ H))
    (fun h4 H =>
      eW Ri_FacesOf (fun _ => []) H <| gE func26 [rg [{ i := 1, call := some { cl := true, auto := true, ins := [], res := (RB r1), G' := [] }, dec := some true }, { i := 5, call := some { cl := true, auto := true, ins := [], res := (RB r3), G' := [] }, dec := some false }], r0] (by kernel_rfl) (P1 (ci_isSeed hr1) <| P2 (r1 = true) (h2) <| P1 (ci_inRange hr3) <| P2 (r3 = false) (eqF h4) <| P0)))
  (fun h2 H =>
    eW Ri_FacesOf (fun _ => []) H <| gE func26 [rg [{ i := 1, call := some { cl := true, auto := true, ins := [], res := (RB r1), G' := [] }, dec := some false }], r0] (by kernel_rfl) (P1 (ci_isSeed hr1) <| P2 (r1 = false) (eqF h2) <| P0))
/-! loop example/g00886/spec FacesOf -/
def Rs_FacesOf (r : (List Int) × Bool) : List D := [ow 1 I r.1, .bool r.2]
noncomputable def Ks_FacesOf : Ss_FacesOf → List Item
  | .h1 .. => nav 300 4 [false] [.code (bdy f27)]
def Zs_FacesOf : Ss_FacesOf → St
  | .h1 seed0 n1 i2 l3 => ⟨sts 32 [(0, I seed0), (1, I n1), (6, .ref 0 1 none), (7, I i2)], [some ⟨false, false, 1, l3.length, List.map I l3⟩]⟩
abbrev Qs_FacesOf := Nx X 27 0 Ks_FacesOf Zs_FacesOf Rs_FacesOf (fun _ => [])
theorem ns_FacesOf : ∀ s o, Bs_FacesOf s = some o → Qs_FacesOf (Ks_FacesOf s) (Zs_FacesOf s) o
  | .h1 seed0 n1 i2 l3, o, H =>
    eIf H (fun h1 H =>
      eBind H fun r2 hr2 H =>
      eCk H fun h3 H =>
      eBind H fun x4 hx4 H =>
      eCk H fun h5 H =>
      eBind H fun x6 hx6 H =>
      eN H fun r hn => gO [rg [hT 2], rg [hC 3 true [] (RI r2) [], hE 6 (I x4), hA 9 ((List.set l3 (Int.toNat (IntKind.wrap .i64 (r2 - 1))) (IntKind.wrap .i64 (x4 + 1))).length) (List.map I (List.set l3 (Int.toNat (IntKind.wrap .i64 (r2 - 1))) (IntKind.wrap .i64 (x4 + 1))))], r0, .canon [0] [0, 1, 6, 7]] (by kernel_rfl) (P2 ((decide (i2 < n1)) = true) (decide_eq_true h1) <| P1 (cs_dDie hr2) <| P1 h3 <| P1 (int_lt_of_at h3 hx4) <| P1 (at_map I hx4) <| P1 h5 <| P1 (int_lt_of_at h5 hx6) <| P1 (lt_of_at hx6) <| P2 (setCells (List.map I l3) (Int.toNat (IntKind.wrap .i64 (r2 - 1))) 0 [I (IntKind.wrap .i64 (x4 + 1))] = List.map I (List.set l3 (Int.toNat (IntKind.wrap .i64 (r2 - 1))) (IntKind.wrap .i64 (x4 + 1)))) (setCells_map hx6 rfl) <| P1 (setLen l3 (Int.toNat (IntKind.wrap .i64 (r2 - 1))) (IntKind.wrap .i64 (x4 + 1))) <| P0) hn)
    (fun h1 H =>
      eN H <| gE func27 [rg [hF 2], r0] (by kernel_rfl) (P2 ((decide (i2 < n1)) = false) (decide_eq_false h1) <| P0))
theorem ws_FacesOf : ∀ s r, loop Bs_FacesOf s = some r → Wc X 27 0 (Ks_FacesOf s) (Zs_FacesOf s) (Rs_FacesOf r) ((fun _ => []) r) := Nx.all ns_FacesOf
theorem cs_FacesOf {a0 : Int} {a1 : Int} {r : (List Int) × Bool} (H : Ds_FacesOf a0 a1 = some r) : Ct X.P X.gl 27 [I a0, I a1] [] (Rs_FacesOf r) [] :=
  Ct.of func27 (c := bdy f27) (by kernel_rfl) (by kernel_rfl) <|
  eBind H fun r1 hr1 H =>
  gS [r0] (by kernel_rfl) P0 <|
  eIf H (fun h2 H =>
    eBind H fun r3 hr3 H =>
    eIf H (fun h4 H =>
      eCk H fun h5 H =>
      gO [rg [{ i := 1, call := some { cl := true, auto := true, ins := [], res := (RB r1), G' := [] }, dec := some true }, { i := 5, call := some { cl := true, auto := true, ins := [], res := (RB r3), G' := [] }, dec := some true }], rg [hA 0 ((List.replicate (Int.toNat 6) 0).length) (List.map I (List.replicate (Int.toNat 6) 0))], r0, .canon [0] [0, 1, 6, 7]] (by kernel_rfl) (P1 (cs_dSeed hr1) <| P2 (r1 = true) (h2) <| P1 (cs_l1In hr3) <| P2 (r3 = true) (h4) <| PI (6 : Int) <| P2 ((0 : Int) ≤ 6) (by decide) <| P2 (Int.toNat 6 * 8 ≤ 140737488355328) h5 <| P1 (repLen (Int.toNat 6) 0) <| P1 (repMap I (Int.toNat 6) 0) <| P0) (ws_FacesOf _ _ H))
    (fun h4 H =>
      eW Rs_FacesOf (fun _ => []) H <| gE func27 [rg [{ i := 1, call := some { cl := true, auto := true, ins := [], res := (RB r1), G' := [] }, dec := some true }, { i := 5, call := some { cl := true, auto := true, ins := [], res := (RB r3), G' := [] }, dec := some false }], r0] (by kernel_rfl) (P1 (cs_dSeed hr1) <| P2 (r1 = true) (h2) <| P1 (cs_l1In hr3) <| P2 (r3 = false) (eqF h4) <| P0)))
  (fun h2 H =>
    eW Rs_FacesOf (fun _ => []) H <| gE func27 [rg [{ i := 1, call := some { cl := true, auto := true, ins := [], res := (RB r1), G' := [] }, dec := some false }], r0] (by kernel_rfl) (P1 (cs_dSeed hr1) <| P2 (r1 = false) (eqF h2) <| P0))
/-! loop example/g00886/laws pSum -/
noncomputable def Kw_pSum : Sw_pSum → List Item
  | .h1 .. => nav 300 3 [] [.code (bdy f28)]
def Zw_pSum : Sw_pSum → St
  | .h1 sum0 t1 t2 t3 => ⟨sts 17 [(3, I sum0), (6, sl 1 I t1), (7, I t2), (8, I t3)], []⟩
abbrev Qw_pSum := Nx X 28 0 Kw_pSum Zw_pSum RI (fun _ => [])
theorem nw_pSum : ∀ s o, Bw_pSum s = some o → Qw_pSum (Kw_pSum s) (Zw_pSum s) o
  | .h1 sum0 t1 t2 t3, o, H =>
    eIf H (fun h1 H =>
      eCk H fun h2 H =>
      eBind H fun x3 hx3 H =>
      eN H fun r hn => gO [rg [hT 0], rg [hE 1 (I x3)], r0, r0, .canon [] [3, 6, 7, 8]] (by kernel_rfl) (P2 ((decide (t3 < t2)) = true) (decide_eq_true h1) <| P1 h2 <| P1 (int_lt_of_at h2 hx3) <| P1 (at_map I hx3) <| P0) hn)
    (fun h1 H =>
      eN H <| gE func28 [rg [hF 0], r0] (by kernel_rfl) (P2 ((decide (t3 < t2)) = false) (decide_eq_false h1) <| P0))
theorem ww_pSum : ∀ s r, loop Bw_pSum s = some r → Wc X 28 0 (Kw_pSum s) (Zw_pSum s) (RI r) ((fun _ => []) r) := Nx.all nw_pSum
theorem cw_pSum {a0 : (List Int)} {r : Int} (H : Dw_pSum a0 = some r) : Ct X.P X.gl 28 [sl 1 I a0] [] (RI r) [] :=
  Ct.of func28 (c := bdy f28) (by kernel_rfl) (by kernel_rfl) <|
  gO [r0, r0, r0, .canon [] [3, 6, 7, 8]] (by kernel_rfl) P0 (ww_pSum _ _ H)
/-! loop example/g00886/laws FnDice -/
noncomputable def Kw_FnDice : Sw_FnDice → List Item
  | .h1 .. => nav 300 7 [false, false] [.code (bdy f4)]
  | .h2 .. => nav 300 14 [false, false, false, false] [.code (bdy f4)]
def Zw_FnDice : Sw_FnDice → St
  | .h1 t0 t1 t2 t3 t4 l5 => ⟨sts 232 [(1, sl 1 (D.int .u8) t0), (5, I t1), (6, I t2), (70, .ref 0 1 none), (71, I t3), (72, I t4)], [some ⟨false, false, 1, l5.length, List.map I l5⟩]⟩
  | .h2 t0 t1 t2 l3 l4 => ⟨sts 232 [(1, sl 1 (D.int .u8) t0), (20, .ref 0 1 none), (22, .ref 1 1 none), (130, .ref 0 1 none), (131, I t1), (132, I t2)], [some ⟨false, false, 1, l3.length, List.map I l3⟩, some ⟨false, false, 1, l4.length, List.map D.bool l4⟩]⟩
abbrev Qw_FnDice := Nx X 4 0 Kw_FnDice Zw_FnDice RB (fun _ => [])
theorem nw_FnDice : ∀ s o, Bw_FnDice s = some o → Qw_FnDice (Kw_FnDice s) (Zw_FnDice s) o
  | .h1 t0 t1 t2 t3 t4 l5, o, H =>
    eIf H (fun h1 H =>
      eCk H fun h2 H =>
      eBind H fun x3 hx3 H =>
      eBind H fun r4 hr4 H =>
      gN [rg [hT 0], rg [hE 2 (I x3)]] (by kernel_rfl) (P2 ((decide (t4 < t3)) = true) (decide_eq_true h1) <| P1 h2 <| P1 (int_lt_of_at h2 hx3) <| P1 (at_map I hx3) <| P0) <|
      eIf H (fun h5 H =>
        gN [rg [hC 4 true [] (Ri_DieAt r4) [], hT 7]] (by kernel_rfl) (P1 (ci_DieAt hr4) <| P2 (r4.2 = true) (h5) <| P0) <|
        eIf H (fun h6 H =>
          eIf H (fun h7 H =>
            eN H <| gE func4 [rg [hF 5, hT 9], r0] (by kernel_rfl) (P2 (((r4.1 : Int) != x3) = false) (bneF h6) <| P2 ((decide (x3 < 1)) = true) (decide_eq_true h7) <| P0))
          (fun h7 H =>
            eIf H (fun h8 H =>
              eN H <| gE func4 [rg [hF 5, hF 9, hT 13], r0] (by kernel_rfl) (P2 (((r4.1 : Int) != x3) = false) (bneF h6) <| P2 ((decide (x3 < 1)) = false) (decide_eq_false h7) <| P2 ((decide (x3 > 6)) = true) (decide_eq_true h8) <| P0))
            (fun h8 H =>
              eN H fun r hn => gO [rg [hF 5, hF 9, hF 13], r0, .canon [0] [1, 5, 6, 70, 71, 72]] (by kernel_rfl) (P2 (((r4.1 : Int) != x3) = false) (bneF h6) <| P2 ((decide (x3 < 1)) = false) (decide_eq_false h7) <| P2 ((decide (x3 > 6)) = false) (decide_eq_false h8) <| P0) hn)))
        (fun h6 H =>
          eN H <| gE func4 [rg [hT 5], r0] (by kernel_rfl) (P2 (((r4.1 : Int) != x3) = true) (bneT h6) <| P0)))
      (fun h5 H =>
        eN H <| gE func4 [rg [hC 4 true [] (Ri_DieAt r4) [], hF 7], r0, r0] (by kernel_rfl) (P1 (ci_DieAt hr4) <| P2 (r4.2 = false) (eqF h5) <| P0)))
    (fun h1 H =>
      eBind H fun r2 hr2 H =>
      eBind H fun r3 hr3 H =>
      eBind H fun r4 hr4 H =>
      gN [rg [hF 0], rg [hC 1 true [] (Rs_DrawShuffleBy r2) []], rg [hC 2 true [] (Ri_ShuffleBy r3) []], rg [hC 2 true [] (Rs_ShuffleBy r4) []]] (by kernel_rfl) (P2 ((decide (t4 < t3)) = false) (decide_eq_false h1) <| P1 (cs_DrawShuffleBy hr2) <| P1 (ci_ShuffleBy hr3) <| P1 (cs_ShuffleBy hr4) <| P0) <|
      eIf H (fun h5 H =>
        eN H <| gE func4 [rg [hT 2], r0] (by kernel_rfl) (P2 ((!(r3.2 == r4.2)) = true) (h5) <| P0))
      (fun h5 H =>
        eBind H fun r6 hr6 H =>
        eIf H (fun h7 H =>
          eCk H fun h8 H =>
          eN H fun r hn => gO [rg [hF 2, { i := 6, call := some { cl := false, auto := true, ins := [], res := (RB r6), G' := [] }, dec := some true }], rg [hA 2 ((List.replicate (Int.toNat ((r4.1.length : Nat) : Int)) false).length) (List.map D.bool (List.replicate (Int.toNat ((r4.1.length : Nat) : Int)) false))], r0, .canon [2, 3] [1, 20, 22, 130, 131, 132]] (by kernel_rfl) (P2 ((!(r3.2 == r4.2)) = false) (eqF h5) <| P1 (cw_sameInts hr6) <| P2 (r6 = true) (h7) <| PI (((r4.1.length : Nat) : Int) : Int) <| P2 ((0 : Int) ≤ ((r4.1.length : Nat) : Int)) (by omega) <| P2 (Int.toNat ((r4.1.length : Nat) : Int) * 1 ≤ 140737488355328) h8 <| P1 (repLen (Int.toNat ((r4.1.length : Nat) : Int)) false) <| P1 (repMap D.bool (Int.toNat ((r4.1.length : Nat) : Int)) false) <| P0) hn)
        (fun h7 H =>
          eN H <| gE func4 [rg [hF 2, { i := 6, call := some { cl := false, auto := true, ins := [], res := (RB r6), G' := [] }, dec := some false }], r0] (by kernel_rfl) (P2 ((!(r3.2 == r4.2)) = false) (eqF h5) <| P1 (cw_sameInts hr6) <| P2 (r6 = false) (eqF h7) <| P0))))
  | .h2 t0 t1 t2 l3 l4, o, H =>
    eIf H (fun h1 H =>
      eCk H fun h2 H =>
      eBind H fun x3 hx3 H =>
      gN [rg [hT 0], rg [hE 1 (I x3)]] (by kernel_rfl) (P2 ((decide (t2 < t1)) = true) (decide_eq_true h1) <| P1 h2 <| P1 (int_lt_of_at h2 hx3) <| P1 (at_map I hx3) <| P0) <|
      eIf H (fun h4 H =>
        eN H <| gE func4 [rg [hT 1], r0] (by kernel_rfl) (P2 ((decide (x3 < 0)) = true) (decide_eq_true h4) <| P0))
      (fun h4 H =>
        eIf H (fun h5 H =>
          eN H <| gE func4 [rg [hF 1, hT 6], r0] (by kernel_rfl) (P2 ((decide (x3 < 0)) = false) (decide_eq_false h4) <| P2 ((decide (x3 ≥ ((l3.length : Nat) : Int))) = true) (decide_eq_true h5) <| P0))
        (fun h5 H =>
          eCk H fun h6 H =>
          eBind H fun x7 hx7 H =>
          eIf H (fun h8 H =>
            eN H <| gE func4 [rg [hF 1, hF 6, { i := 12, el := some (D.bool x7), dec := some true }], r0] (by kernel_rfl) (P2 ((decide (x3 < 0)) = false) (decide_eq_false h4) <| P2 ((decide (x3 ≥ ((l3.length : Nat) : Int))) = false) (decide_eq_false h5) <| P1 h6 <| P1 (int_lt_of_at h6 hx7) <| P1 (at_map D.bool hx7) <| P2 (x7 = true) (h8) <| P0))
          (fun h8 H =>
            eCk H fun h9 H =>
            eBind H fun x10 hx10 H =>
            eN H fun r hn => gO [rg [hF 1, hF 6, { i := 12, el := some (D.bool x7), dec := some false }], rg [hA 3 ((List.set l4 (Int.toNat x3) true).length) (List.map D.bool (List.set l4 (Int.toNat x3) true))], r0, .canon [0, 1] [1, 20, 22, 130, 131, 132]] (by kernel_rfl) (P2 ((decide (x3 < 0)) = false) (decide_eq_false h4) <| P2 ((decide (x3 ≥ ((l3.length : Nat) : Int))) = false) (decide_eq_false h5) <| P1 h6 <| P1 (int_lt_of_at h6 hx7) <| P1 (at_map D.bool hx7) <| P2 (x7 = false) (eqF h8) <| P1 h9 <| P1 (int_lt_of_at h9 hx10) <| P1 (lt_of_at hx10) <| P2 (setCells (List.map D.bool l4) (Int.toNat x3) 0 [.bool true] = List.map D.bool (List.set l4 (Int.toNat x3) true)) (setCells_map hx10 rfl) <| P1 (setLen l4 (Int.toNat x3) true) <| P0) hn))))
    (fun h1 H =>
      eBind H fun r2 hr2 H =>
      eBind H fun r3 hr3 H =>
      gN [rg [hF 0], rg [hC 1 true [] (Rs_DrawNumberBelow r2) []]] (by kernel_rfl) (P2 ((decide (t2 < t1)) = false) (decide_eq_false h1) <| P1 (cs_DrawNumberBelow hr2) <| P0) <|
      eIf H (fun h4 H =>
        eBind H fun r5 hr5 H =>
        eBind H fun r6 hr6 H =>
        eBind H fun r7 hr7 H =>
        gN [rg [hC 3 true [] (Ri_NumberBelow r3) [], hT 6], rg [hC 3 true [] (Rs_NumberBelow r5) []], rg [hC 1 true [] (Rs_DrawFacesOf r6) []]] (by kernel_rfl) (P1 (ci_NumberBelow hr3) <| P2 (r3.2 = true) (h4) <| P1 (cs_NumberBelow hr5) <| P1 (cs_DrawFacesOf hr6) <| P0) <|
        eIf H (fun h8 H =>
          eBind H fun r9 hr9 H =>
          gN [rg [hC 2 true [] (Ri_FacesOf r7) [], hT 5], rg [hC 2 true [] (Rs_FacesOf r9) []]] (by kernel_rfl) (P1 (ci_FacesOf hr7) <| P2 (r7.2 = true) (h8) <| P1 (cs_FacesOf hr9) <| P0) <|
          eIf H (fun h10 H =>
            eIf H (fun h11 H =>
              eIf H (fun h12 H =>
                eIf H (fun h13 H =>
                  eIf H (fun h14 H =>
                    eBind H fun r15 hr15 H =>
                    eIf H (fun h16 H =>
                      eBind H fun r17 hr17 H =>
                      eN H <| gE func4 [rg [hT 2, hT 6, hT 13, hT 17, hT 24, { i := 29, call := some { cl := false, auto := true, ins := [], res := (RB r15), G' := [] }, dec := some true }, hC 36 false [] (RI r17) []]] (by kernel_rfl) (P2 ((true == r5.2) = true) (h10) <| P2 (((r3.1 : Int) == r5.1) = true) (beqT h11) <| P2 ((decide (r3.1 ≥ 0)) = true) (decide_eq_true h12) <| P2 ((decide (r3.1 < r2.2.2)) = true) (decide_eq_true h13) <| P2 ((true == r9.2) = true) (h14) <| P1 (cw_sameInts hr15) <| P2 (r15 = true) (h16) <| P1 (cw_pSum hr17) <| P0))
                    (fun h16 H =>
                      eN H <| gE func4 [rg [hT 2, hT 6, hT 13, hT 17, hT 24, { i := 29, call := some { cl := false, auto := true, ins := [], res := (RB r15), G' := [] }, dec := some false }]] (by kernel_rfl) (P2 ((true == r5.2) = true) (h10) <| P2 (((r3.1 : Int) == r5.1) = true) (beqT h11) <| P2 ((decide (r3.1 ≥ 0)) = true) (decide_eq_true h12) <| P2 ((decide (r3.1 < r2.2.2)) = true) (decide_eq_true h13) <| P2 ((true == r9.2) = true) (h14) <| P1 (cw_sameInts hr15) <| P2 (r15 = false) (eqF h16) <| P0)))
                  (fun h14 H =>
                    eN H <| gE func4 [rg [hT 2, hT 6, hT 13, hT 17, hF 24]] (by kernel_rfl) (P2 ((true == r5.2) = true) (h10) <| P2 (((r3.1 : Int) == r5.1) = true) (beqT h11) <| P2 ((decide (r3.1 ≥ 0)) = true) (decide_eq_true h12) <| P2 ((decide (r3.1 < r2.2.2)) = true) (decide_eq_true h13) <| P2 ((true == r9.2) = false) (eqF h14) <| P0)))
                (fun h13 H =>
                  eN H <| gE func4 [rg [hT 2, hT 6, hT 13, hF 17]] (by kernel_rfl) (P2 ((true == r5.2) = true) (h10) <| P2 (((r3.1 : Int) == r5.1) = true) (beqT h11) <| P2 ((decide (r3.1 ≥ 0)) = true) (decide_eq_true h12) <| P2 ((decide (r3.1 < r2.2.2)) = false) (decide_eq_false h13) <| P0)))
              (fun h12 H =>
                eN H <| gE func4 [rg [hT 2, hT 6, hF 13]] (by kernel_rfl) (P2 ((true == r5.2) = true) (h10) <| P2 (((r3.1 : Int) == r5.1) = true) (beqT h11) <| P2 ((decide (r3.1 ≥ 0)) = false) (decide_eq_false h12) <| P0)))
            (fun h11 H =>
              eN H <| gE func4 [rg [hT 2, hF 6]] (by kernel_rfl) (P2 ((true == r5.2) = true) (h10) <| P2 (((r3.1 : Int) == r5.1) = false) (beqF h11) <| P0)))
          (fun h10 H =>
            eN H <| gE func4 [rg [hF 2]] (by kernel_rfl) (P2 ((true == r5.2) = false) (eqF h10) <| P0)))
        (fun h8 H =>
          eBind H fun r9 hr9 H =>
          gN [rg [hC 2 true [] (Ri_FacesOf r7) [], hF 5], rg [hC 2 true [] (Rs_FacesOf r9) []]] (by kernel_rfl) (P1 (ci_FacesOf hr7) <| P2 (r7.2 = false) (eqF h8) <| P1 (cs_FacesOf hr9) <| P0) <|
          eIf H (fun h10 H =>
            eIf H (fun h11 H =>
              eIf H (fun h12 H =>
                eIf H (fun h13 H =>
                  eIf H (fun h14 H =>
                    eBind H fun r15 hr15 H =>
                    eIf H (fun h16 H =>
                      eN H <| gE func4 [rg [hT 2, hT 6, hT 13, hT 17, hT 24, { i := 29, call := some { cl := false, auto := true, ins := [], res := (RB r15), G' := [] }, dec := some true }]] (by kernel_rfl) (P2 ((true == r5.2) = true) (h10) <| P2 (((r3.1 : Int) == r5.1) = true) (beqT h11) <| P2 ((decide (r3.1 ≥ 0)) = true) (decide_eq_true h12) <| P2 ((decide (r3.1 < r2.2.2)) = true) (decide_eq_true h13) <| P2 ((false == r9.2) = true) (h14) <| P1 (cw_sameInts hr15) <| P2 (r15 = true) (h16) <| P0))
                    (fun h16 H =>
                      eN H <| gE func4 [rg [hT 2, hT 6, hT 13, hT 17, hT 24, { i := 29, call := some { cl := false, auto := true, ins := [], res := (RB r15), G' := [] }, dec := some false }]] (by kernel_rfl) (P2 ((true == r5.2) = true) (h10) <| P2 (((r3.1 : Int) == r5.1) = true) (beqT h11) <| P2 ((decide (r3.1 ≥ 0)) = true) (decide_eq_true h12) <| P2 ((decide (r3.1 < r2.2.2)) = true) (decide_eq_true h13) <| P2 ((false == r9.2) = true) (h14) <| P1 (cw_sameInts hr15) <| P2 (r15 = false) (eqF h16) <| P0)))
                  (fun h14 H =>
                    eN H <| gE func4 [rg [hT 2, hT 6, hT 13, hT 17, hF 24]] (by kernel_rfl) (P2 ((true == r5.2) = true) (h10) <| P2 (((r3.1 : Int) == r5.1) = true) (beqT h11) <| P2 ((decide (r3.1 ≥ 0)) = true) (decide_eq_true h12) <| P2 ((decide (r3.1 < r2.2.2)) = true) (decide_eq_true h13) <| P2 ((false == r9.2) = false) (eqF h14) <| P0)))
                (fun h13 H =>
                  eN H <| gE func4 [rg [hT 2, hT 6, hT 13, hF 17]] (by kernel_rfl) (P2 ((true == r5.2) = true) (h10) <| P2 (((r3.1 : Int) == r5.1) = true) (beqT h11) <| P2 ((decide (r3.1 ≥ 0)) = true) (decide_eq_true h12) <| P2 ((decide (r3.1 < r2.2.2)) = false) (decide_eq_false h13) <| P0)))
              (fun h12 H =>
                eN H <| gE func4 [rg [hT 2, hT 6, hF 13]] (by kernel_rfl) (P2 ((true == r5.2) = true) (h10) <| P2 (((r3.1 : Int) == r5.1) = true) (beqT h11) <| P2 ((decide (r3.1 ≥ 0)) = false) (decide_eq_false h12) <| P0)))
            (fun h11 H =>
              eN H <| gE func4 [rg [hT 2, hF 6]] (by kernel_rfl) (P2 ((true == r5.2) = true) (h10) <| P2 (((r3.1 : Int) == r5.1) = false) (beqF h11) <| P0)))
          (fun h10 H =>
            eN H <| gE func4 [rg [hF 2]] (by kernel_rfl) (P2 ((true == r5.2) = false) (eqF h10) <| P0))))
      (fun h4 H =>
        eBind H fun r5 hr5 H =>
        eBind H fun r6 hr6 H =>
        eBind H fun r7 hr7 H =>
        gN [rg [hC 3 true [] (Ri_NumberBelow r3) [], hF 6], rg [hC 3 true [] (Rs_NumberBelow r5) []], rg [hC 1 true [] (Rs_DrawFacesOf r6) []]] (by kernel_rfl) (P1 (ci_NumberBelow hr3) <| P2 (r3.2 = false) (eqF h4) <| P1 (cs_NumberBelow hr5) <| P1 (cs_DrawFacesOf hr6) <| P0) <|
        eIf H (fun h8 H =>
          eBind H fun r9 hr9 H =>
          gN [rg [hC 2 true [] (Ri_FacesOf r7) [], hT 5], rg [hC 2 true [] (Rs_FacesOf r9) []]] (by kernel_rfl) (P1 (ci_FacesOf hr7) <| P2 (r7.2 = true) (h8) <| P1 (cs_FacesOf hr9) <| P0) <|
          eIf H (fun h10 H =>
            eIf H (fun h11 H =>
              eIf H (fun h12 H =>
                eBind H fun r13 hr13 H =>
                eIf H (fun h14 H =>
                  eBind H fun r15 hr15 H =>
                  eN H <| gE func4 [rg [hT 2, hT 6, hT 24, { i := 29, call := some { cl := false, auto := true, ins := [], res := (RB r13), G' := [] }, dec := some true }, hC 36 false [] (RI r15) []]] (by kernel_rfl) (P2 ((false == r5.2) = true) (h10) <| P2 (((r3.1 : Int) == r5.1) = true) (beqT h11) <| P2 ((true == r9.2) = true) (h12) <| P1 (cw_sameInts hr13) <| P2 (r13 = true) (h14) <| P1 (cw_pSum hr15) <| P0))
                (fun h14 H =>
                  eN H <| gE func4 [rg [hT 2, hT 6, hT 24, { i := 29, call := some { cl := false, auto := true, ins := [], res := (RB r13), G' := [] }, dec := some false }]] (by kernel_rfl) (P2 ((false == r5.2) = true) (h10) <| P2 (((r3.1 : Int) == r5.1) = true) (beqT h11) <| P2 ((true == r9.2) = true) (h12) <| P1 (cw_sameInts hr13) <| P2 (r13 = false) (eqF h14) <| P0)))
              (fun h12 H =>
                eN H <| gE func4 [rg [hT 2, hT 6, hF 24]] (by kernel_rfl) (P2 ((false == r5.2) = true) (h10) <| P2 (((r3.1 : Int) == r5.1) = true) (beqT h11) <| P2 ((true == r9.2) = false) (eqF h12) <| P0)))
            (fun h11 H =>
              eN H <| gE func4 [rg [hT 2, hF 6]] (by kernel_rfl) (P2 ((false == r5.2) = true) (h10) <| P2 (((r3.1 : Int) == r5.1) = false) (beqF h11) <| P0)))
          (fun h10 H =>
            eN H <| gE func4 [rg [hF 2]] (by kernel_rfl) (P2 ((false == r5.2) = false) (eqF h10) <| P0)))
        (fun h8 H =>
          eBind H fun r9 hr9 H =>
          gN [rg [hC 2 true [] (Ri_FacesOf r7) [], hF 5], rg [hC 2 true [] (Rs_FacesOf r9) []]] (by kernel_rfl) (P1 (ci_FacesOf hr7) <| P2 (r7.2 = false) (eqF h8) <| P1 (cs_FacesOf hr9) <| P0) <|
          eIf H (fun h10 H =>
            eIf H (fun h11 H =>
              eIf H (fun h12 H =>
                eBind H fun r13 hr13 H =>
                eIf H (fun h14 H =>
                  eN H <| gE func4 [rg [hT 2, hT 6, hT 24, { i := 29, call := some { cl := false, auto := true, ins := [], res := (RB r13), G' := [] }, dec := some true }]] (by kernel_rfl) (P2 ((false == r5.2) = true) (h10) <| P2 (((r3.1 : Int) == r5.1) = true) (beqT h11) <| P2 ((false == r9.2) = true) (h12) <| P1 (cw_sameInts hr13) <| P2 (r13 = true) (h14) <| P0))
                (fun h14 H =>
                  eN H <| gE func4 [rg [hT 2, hT 6, hT 24, { i := 29, call := some { cl := false, auto := true, ins := [], res := (RB r13), G' := [] }, dec := some false }]] (by kernel_rfl) (P2 ((false == r5.2) = true) (h10) <| P2 (((r3.1 : Int) == r5.1) = true) (beqT h11) <| P2 ((false == r9.2) = true) (h12) <| P1 (cw_sameInts hr13) <| P2 (r13 = false) (eqF h14) <| P0)))
              (fun h12 H =>
                eN H <| gE func4 [rg [hT 2, hT 6, hF 24]] (by kernel_rfl) (P2 ((false == r5.2) = true) (h10) <| P2 (((r3.1 : Int) == r5.1) = true) (beqT h11) <| P2 ((false == r9.2) = false) (eqF h12) <| P0)))
            (fun h11 H =>
              eN H <| gE func4 [rg [hT 2, hF 6]] (by kernel_rfl) (P2 ((false == r5.2) = true) (h10) <| P2 (((r3.1 : Int) == r5.1) = false) (beqF h11) <| P0)))
          (fun h10 H =>
            eN H <| gE func4 [rg [hF 2]] (by kernel_rfl) (P2 ((false == r5.2) = false) (eqF h10) <| P0)))))
theorem ww_FnDice : ∀ s r, loop Bw_FnDice s = some r → Wc X 4 0 (Kw_FnDice s) (Zw_FnDice s) (RB r) ((fun _ => []) r) := Nx.all nw_FnDice
theorem cw_FnDice {a0 : (List Int)} {a1 : (List Int)} {r : Bool} (H : Dw_FnDice a0 a1 = some r) : Ct X.P X.gl 4 [sl 1 (D.int .u8) a0, sl 1 (D.int .u8) a1] [] (RB r) [] :=
  Ct.of func4 (c := bdy f4) (by kernel_rfl) (by kernel_rfl) <|
  eBind H fun r1 hr1 H =>
  gS [r0] (by kernel_rfl) P0 <|
  eIf H (fun h2 H =>
    eW RB (fun _ => []) H <| gE func4 [rg [{ i := 2, call := some { cl := true, auto := true, ins := [], res := (RB r1), G' := [] }, dec := some true }], r0] (by kernel_rfl) (P1 (cw_big hr1) <| P2 (r1 = true) (h2) <| P0))
  (fun h2 H =>
    eBind H fun r3 hr3 H =>
    eBind H fun r4 hr4 H =>
    eBind H fun r5 hr5 H =>
    gS [rg [{ i := 2, call := some { cl := true, auto := true, ins := [], res := (RB r1), G' := [] }, dec := some false }], rg [hC 1 true [] (Rs_DrawDiceFrom r3) []], rg [hC 3 true [] (Ri_DiceFrom r4) []], rg [hC 3 true [] (Rs_DiceFrom r5) []]] (by kernel_rfl) (P1 (cw_big hr1) <| P2 (r1 = false) (eqF h2) <| P1 (cs_DrawDiceFrom hr3) <| P1 (ci_DiceFrom hr4) <| P1 (cs_DiceFrom hr5) <| P0) <|
    eIf H (fun h6 H =>
      eW RB (fun _ => []) H <| gE func4 [rg [hT 2], r0] (by kernel_rfl) (P2 ((!(r4.2 == r5.2)) = true) (h6) <| P0))
    (fun h6 H =>
      eBind H fun r7 hr7 H =>
      eIf H (fun h8 H =>
        gO [rg [hF 2, { i := 6, call := some { cl := false, auto := true, ins := [], res := (RB r7), G' := [] }, dec := some true }], r0, .canon [1] [1, 5, 6, 70, 71, 72]] (by kernel_rfl) (P2 ((!(r4.2 == r5.2)) = false) (eqF h6) <| P1 (cw_sameInts hr7) <| P2 (r7 = true) (h8) <| P0) (ww_FnDice _ _ H))
      (fun h8 H =>
        eW RB (fun _ => []) H <| gE func4 [rg [hF 2, { i := 6, call := some { cl := false, auto := true, ins := [], res := (RB r7), G' := [] }, dec := some false }], r0] (by kernel_rfl) (P2 ((!(r4.2 == r5.2)) = false) (eqF h6) <| P1 (cw_sameInts hr7) <| P2 (r7 = false) (eqF h8) <| P0))))
end Go.Proofs.Ytlniejjcejackaa.Ab
