/- Part of the proof of FnPlacesCard: no condition of its own. -/
import Derived.Test.YtfnhclmdobdkbaaDoorChecked
import Derived.Test.YtfnhclmdobdkbaaDoorB2FnPlacesD
set_option linter.unusedVariables false
set_option linter.unusedSimpArgs false
open Go Go.Proofs Go.Proofs.Tryd
namespace Go.Proofs.YtfnhclmdobdkbaaDoor.Ab
def T : Tab := [(3, ⟨(Ab.TK.int IntKind.i64), 1, 8, (Ab.D.int IntKind.i64 (Int.ofNat 0))⟩),
  (4, ⟨Ab.TK.bool, 1, 1, (Ab.D.bool Bool.false)⟩),
  (5, ⟨(Ab.TK.int IntKind.u8), 1, 1, (Ab.D.int IntKind.u8 (Int.ofNat 0))⟩),
  (22, ⟨(Ab.TK.slice 5), 1, 24, Ab.D.nil⟩),
  (24, ⟨(Ab.TK.slice 3), 1, 24, Ab.D.nil⟩),
  (26, ⟨(Ab.TK.strct [(Ab.FI.mk 0 1 Bool.false), (Ab.FI.mk 1 1 Bool.false), (Ab.FI.mk 2 1 Bool.false), (Ab.FI.mk 3 1 Bool.false), (Ab.FI.mk 4 1 Bool.false)] Option.none), 5, 88, (Ab.D.agg [(Ab.D.int IntKind.i64 (Int.ofNat 0)), (Ab.D.int IntKind.i64 (Int.ofNat 0)), Ab.D.nil, Ab.D.nil, Ab.D.nil])⟩),
  (30, ⟨(Ab.TK.strct [(Ab.FI.mk 0 1 Bool.false), (Ab.FI.mk 1 1 Bool.false)] (Option.some [(Ab.LK.int IntKind.i64), (Ab.LK.int IntKind.i64)])), 2, 16, (Ab.D.agg [(Ab.D.int IntKind.i64 (Int.ofNat 0)), (Ab.D.int IntKind.i64 (Int.ofNat 0))])⟩),
  (74, ⟨(Ab.TK.int IntKind.u64), 1, 8, (Ab.D.int IntKind.u64 (Int.ofNat 0))⟩),
  (76, ⟨(Ab.TK.strct [(Ab.FI.mk 0 1 Bool.false), (Ab.FI.mk 1 1 Bool.false), (Ab.FI.mk 2 1 Bool.false)] Option.none), 3, 40, (Ab.D.agg [Ab.D.nil, (Ab.D.int IntKind.i64 (Int.ofNat 0)), (Ab.D.int IntKind.u64 (Int.ofNat 0))])⟩),
  (115, ⟨(Ab.TK.slice 24), 1, 24, Ab.D.nil⟩),
  (139, ⟨(Ab.TK.arr 6 30), 12, 96, (Ab.D.agg [(Ab.D.int IntKind.i64 (Int.ofNat 0)), (Ab.D.int IntKind.i64 (Int.ofNat 0)), (Ab.D.int IntKind.i64 (Int.ofNat 0)), (Ab.D.int IntKind.i64 (Int.ofNat 0)), (Ab.D.int IntKind.i64 (Int.ofNat 0)), (Ab.D.int IntKind.i64 (Int.ofNat 0)), (Ab.D.int IntKind.i64 (Int.ofNat 0)), (Ab.D.int IntKind.i64 (Int.ofNat 0)), (Ab.D.int IntKind.i64 (Int.ofNat 0)), (Ab.D.int IntKind.i64 (Int.ofNat 0)), (Ab.D.int IntKind.i64 (Int.ofNat 0)), (Ab.D.int IntKind.i64 (Int.ofNat 0))])⟩)]
noncomputable def X : Ctx := ⟨Go.Proofs.Tryd.prog, T, [(0, .fptr 12 gc0 0 0)]⟩
theorem T_ok : TabOK X.P X.T := ⟨by kernel_rfl, by kernel_rfl, by kernel_rfl, by kernel_rfl, by kernel_rfl, by kernel_rfl, by kernel_rfl, by kernel_rfl, by kernel_rfl, by kernel_rfl, by kernel_rfl, trivial⟩
theorem mixed : X.P.follows .mixedOrders = true := Go.Proofs.Tryd.checked.mixed
theorem gO {f : FuncId} {M : Nat} {k k' : List Item} {σ σ' : St} {res : List D} {G' : List Root} (cmds : List Cmd) {ps : List Prop} (h : run X M cmds k σ = some (ps, k', σ')) (hp : AllP ps) (hk : Wc X f M k' σ' res G') : Wc X f M k σ res G' := run_ok T_ok mixed h hp hk
theorem gE {f : FuncId} {M : Nat} {k : List Item} {σ : St} {res : List D} {G' : List Root} {fn : Func} (hf : X.P.funcs[f]? = some fn) (cmds : List Cmd) {ps : List Prop} (h : runFinC X M cmds k σ fn.results.toList res = some (ps, res, G')) (hp : AllP ps) : Wc X f M k σ res G' := runFinC_ok T_ok mixed hf h hp
theorem gS {f : FuncId} {M : Nat} {k : List Item} {σ : St} {res : List D} {G' : List Root} (cmds : List Cmd) {ps : List Prop} (h : runP X M cmds k σ = some ps) (hp : AllP ps) (hk : Wc X f M (runK X M cmds k σ) (runS X M cmds k σ) res G') : Wc X f M k σ res G' := seg_ok T_ok mixed cmds h hp hk
theorem gN {ς ρ : Type} {f : FuncId} {M : Nat} {K : ς → List Item} {Z : ς → St} {R : ρ → List D} {G : ρ → List Root} {k : List Item} {σ : St} {o : ς ⊕ ρ} (cmds : List Cmd) {ps : List Prop} (h : runP X M cmds k σ = some ps) (hp : AllP ps) (hk : Nx X f M K Z R G (runK X M cmds k σ) (runS X M cmds k σ) o) : Nx X f M K Z R G k σ o := segN_ok T_ok mixed cmds h hp hk
theorem nf_3 : ∀ x, (I x).nf := fun x => by simp [D.nf, nfL]
theorem allFl_3 (l : List Int) : AllFl (List.map I l) := allFl_map (fun x c hc => by simp [D.cells] at hc; rcases hc with rfl <;> rfl) l
/-! loop example/g00886/laws big -/
theorem cw_big {a0 : (List Int)} {a1 : (List Int)} {r : Bool} (H : Dw_big a0 a1 = some r) : Ct X.P X.gl 6 [sl 1 (D.int .u8) a0, sl 1 (D.int .u8) a1] [] (RB r) [] :=
  Ct.of func6 (c := bdy f6) (by kernel_rfl) (by kernel_rfl) <|
  gS [r0] (by kernel_rfl) P0 <|
  eIf H (fun h1 H =>
    eW RB (fun _ => []) H <| gE func6 [rg [hT 2]] (by kernel_rfl) (P2 ((decide (((a0.length : Nat) : Int) > 1048576)) = true) (decide_eq_true h1) <| P0))
  (fun h1 H =>
    eW RB (fun _ => []) H <| gE func6 [rg [hF 2]] (by kernel_rfl) (P2 ((decide (((a0.length : Nat) : Int) > 1048576)) = false) (decide_eq_false h1) <| P0))
/-!   loop example/g00886/spec l1Cur  next -/
def Rs_l1Cur_next (r : Int × Gs_l1Cur) : List D := [I r.1]
def Ns_l1Cur_next (r : Int × Gs_l1Cur) : List Root := [⟨false, true, 3, 1, [.agg [sl 1 (D.int .u8) r.2.code, I r.2.at_, .int .u64 r.2.seed]]⟩]
theorem cs_l1Cur_next {a0 : Gs_l1Cur} {r : Int × Gs_l1Cur} (H : Ds_l1Cur_next a0 = some r) : Ct X.P X.gl 116 [.ptr 0 3 0 0] [⟨false, true, 3, 1, [.agg [sl 1 (D.int .u8) a0.code, I a0.at_, .int .u64 a0.seed]]⟩] (Rs_l1Cur_next r) (Ns_l1Cur_next r) :=
  Ct.of func116 (c := bdy f116) (by kernel_rfl) (by kernel_rfl) <|
  gS [r0, r0] (by kernel_rfl) P0 <|
  eIf H (fun h1 H =>
    eCk H fun h2 H =>
    eBind H fun x3 hx3 H =>
    gS [rg [hT 9], rg [hE 9 ((D.int .u8) x3)], r0, r0] (by kernel_rfl) (P2 ((decide (a0.at_ < ((a0.code.length : Nat) : Int))) = true) (decide_eq_true h1) <| P1 h2 <| P1 (int_lt_of_at h2 hx3) <| P1 (at_map (D.int .u8) hx3) <| P0) <|
    eIf H (fun h4 H =>
      eW Rs_l1Cur_next Ns_l1Cur_next H <| gE func116 [rg [hT 9], r0] (by kernel_rfl) (P2 ((decide ((IntKind.wrap .i64 (a0.at_ + 1)) ≤ ((a0.code.length : Nat) : Int))) = true) (decide_eq_true h4) <| P0))
    (fun h4 H =>
      eW Rs_l1Cur_next Ns_l1Cur_next H <| gE func116 [rg [hF 9], r0] (by kernel_rfl) (P2 ((decide ((IntKind.wrap .i64 (a0.at_ + 1)) ≤ ((a0.code.length : Nat) : Int))) = false) (decide_eq_false h4) <| P2 ((0 : Int) ≤ 40) (by decide) <| P0)))
  (fun h1 H =>
    gS [rg [hF 9], r0, r0] (by kernel_rfl) (P2 ((decide (a0.at_ < ((a0.code.length : Nat) : Int))) = false) (decide_eq_false h1) <| P0) <|
    eIf H (fun h2 H =>
      eW Rs_l1Cur_next Ns_l1Cur_next H <| gE func116 [rg [hT 9], r0] (by kernel_rfl) (P2 ((decide ((IntKind.wrap .i64 (a0.at_ + 1)) ≤ ((a0.code.length : Nat) : Int))) = true) (decide_eq_true h2) <| P0))
    (fun h2 H =>
      eW Rs_l1Cur_next Ns_l1Cur_next H <| gE func116 [rg [hF 9], r0] (by kernel_rfl) (P2 ((decide ((IntKind.wrap .i64 (a0.at_ + 1)) ≤ ((a0.code.length : Nat) : Int))) = false) (decide_eq_false h2) <| P2 ((0 : Int) ≤ 40) (by decide) <| P0)))
/-!   loop example/g00886/spec l1Cur  pick -/
def Rs_l1Cur_pick (r : Int × Gs_l1Cur) : List D := [I r.1]
def Ns_l1Cur_pick (r : Int × Gs_l1Cur) : List Root := [⟨false, true, 3, 1, [.agg [sl 1 (D.int .u8) r.2.code, I r.2.at_, .int .u64 r.2.seed]]⟩]
theorem cs_l1Cur_pick {a0 : Gs_l1Cur} {a1 : Int} {r : Int × Gs_l1Cur} (H : Ds_l1Cur_pick a0 a1 = some r) : Ct X.P X.gl 59 [.ptr 0 3 0 0, I a1] [⟨false, true, 3, 1, [.agg [sl 1 (D.int .u8) a0.code, I a0.at_, .int .u64 a0.seed]]⟩] (Rs_l1Cur_pick r) (Ns_l1Cur_pick r) :=
  Ct.of func59 (c := bdy f59) (by kernel_rfl) (by kernel_rfl) <|
  gS [r0] (by kernel_rfl) P0 <|
  eIf H (fun h1 H =>
    eW Rs_l1Cur_pick Ns_l1Cur_pick H <| gE func59 [rg [hT 1], r0] (by kernel_rfl) (P2 ((decide (a1 ≤ 1)) = true) (decide_eq_true h1) <| P0))
  (fun h1 H =>
    eBind H fun r2 hr2 H =>
    gS [rg [hF 1], rg [hC 1 true [0] (Rs_l1Cur_next r2) (Ns_l1Cur_next r2)]] (by kernel_rfl) (P2 ((decide (a1 ≤ 1)) = false) (decide_eq_false h1) <| PI (1 : Nat) <| P1 (cs_l1Cur_next hr2) <| P0) <|
    eIf H (fun h3 H =>
      eBind H fun r4 hr4 H =>
      eCk H fun h5 H =>
      eW Rs_l1Cur_pick Ns_l1Cur_pick H <| gE func59 [rg [hT 1], rg [hC 3 true [0] (Rs_l1Cur_next r4) (Ns_l1Cur_next r4)], r0] (by kernel_rfl) (P2 ((decide (a1 > 200)) = true) (decide_eq_true h3) <| PI (1 : Nat) <| P1 (cs_l1Cur_next hr4) <| P2 (¬ (a1 : Int) = 0) h5 <| P0))
    (fun h3 H =>
      eCk H fun h4 H =>
      eW Rs_l1Cur_pick Ns_l1Cur_pick H <| gE func59 [rg [hF 1], r0] (by kernel_rfl) (P2 ((decide (a1 > 200)) = false) (decide_eq_false h3) <| P2 (¬ (a1 : Int) = 0) h4 <| P0)))
/-! loop example/g00886/spec mSize -/
theorem cs_mSize {a0 : Gi_Map} {r : Int} (H : Ds_mSize a0 = some r) : Ct X.P X.gl 110 [.agg [I a0.Width, I a0.Height, sl 1 I a0.Terrain, sl 1 I a0.Rivers, sl 1 I a0.Roads]] [] (RI r) [] :=
  Ct.of func110 (c := bdy f110) (by kernel_rfl) (by kernel_rfl) <|
  eW RI (fun _ => []) H <| gE func110 [r0, r0] (by kernel_rfl) P0
/-!   loop example/g00886/spec l1Cur  one -/
def Rs_l1Cur_one (r : Bool × Gs_l1Cur) : List D := [.bool r.1]
def Ns_l1Cur_one (r : Bool × Gs_l1Cur) : List Root := [⟨false, true, 3, 1, [.agg [sl 1 (D.int .u8) r.2.code, I r.2.at_, .int .u64 r.2.seed]]⟩]
theorem cs_l1Cur_one {a0 : Gs_l1Cur} {a1 : Int} {r : Bool × Gs_l1Cur} (H : Ds_l1Cur_one a0 a1 = some r) : Ct X.P X.gl 58 [.ptr 0 3 0 0, I a1] [⟨false, true, 3, 1, [.agg [sl 1 (D.int .u8) a0.code, I a0.at_, .int .u64 a0.seed]]⟩] (Rs_l1Cur_one r) (Ns_l1Cur_one r) :=
  Ct.of func58 (c := bdy f58) (by kernel_rfl) (by kernel_rfl) <|
  eBind H fun r1 hr1 H =>
  eW Rs_l1Cur_one Ns_l1Cur_one H <| gE func58 [r0, rg [hC 2 true [0] (Rs_l1Cur_pick r1) (Ns_l1Cur_pick r1)]] (by kernel_rfl) (PI (1 : Nat) <| P1 (cs_l1Cur_pick hr1) <| P0)
/-! loop example/g00886/spec mHex -/
def Rs_mHex (r : Gi_Hex) : List D := [.agg [I r.Q, I r.R]]
theorem cs_mHex {a0 : Gi_Map} {a1 : Int} {r : Gi_Hex} (H : Ds_mHex a0 a1 = some r) : Ct X.P X.gl 54 [.agg [I a0.Width, I a0.Height, sl 1 I a0.Terrain, sl 1 I a0.Rivers, sl 1 I a0.Roads], I a1] [] (Rs_mHex r) [] :=
  Ct.of func54 (c := bdy f54) (by kernel_rfl) (by kernel_rfl) <|
  eCk H fun h1 H =>
  eCk H fun h2 H =>
  eW Rs_mHex (fun _ => []) H <| gE func54 [r0, r0] (by kernel_rfl) (P2 (¬ (a0.Width : Int) = 0) h1 <| P2 (¬ (a0.Width : Int) = 0) h2 <| P0)
/-! loop example/g00886/spec hStep -/
def Rs_hStep (r : Gi_Hex) : List D := [.agg [I r.Q, I r.R]]
theorem cs_hStep {a0 : Gi_Hex} {a1 : Int} {r : Gi_Hex} (H : Ds_hStep a0 a1 = some r) : Ct X.P X.gl 121 [.agg [I a0.Q, I a0.R], I a1] [] (Rs_hStep r) [] :=
  Ct.of func121 (c := bdy f121) (by kernel_rfl) (by kernel_rfl) <|
  eCk H fun h1 H =>
  eBind H fun x2 hx2 H =>
  eCk H fun h3 H =>
  eBind H fun x4 hx4 H =>
  eW Rs_hStep (fun _ => []) H <| gE func121 [r0, rg [hE 5 (I x2), hE 12 (I x4)]] (by kernel_rfl) (P1 h1 <| P1 (int_lt_of_at h1 hx2) <| P1 (at_map I hx2) <| P1 h3 <| P1 (int_lt_of_at h3 hx4) <| P1 (at_map I hx4) <| P0)
/-! loop example/g00886/spec l1In -/
theorem cs_l1In {a0 : Int} {a1 : Int} {a2 : Int} {r : Bool} (H : Ds_l1In a0 a1 a2 = some r) : Ct X.P X.gl 71 [I a0, I a1, I a2] [] (RB r) [] :=
  Ct.of func71 (c := bdy f71) (by kernel_rfl) (by kernel_rfl) <|
  gS [r0] (by kernel_rfl) P0 <|
  eIf H (fun h1 H =>
    eW RB (fun _ => []) H <| gE func71 [rg [hT 2]] (by kernel_rfl) (P2 ((decide (a0 ≥ a1)) = true) (decide_eq_true h1) <| P0))
  (fun h1 H =>
    eW RB (fun _ => []) H <| gE func71 [rg [hF 2]] (by kernel_rfl) (P2 ((decide (a0 ≥ a1)) = false) (decide_eq_false h1) <| P0))
/-! loop example/g00886/spec mIndex -/
theorem cs_mIndex {a0 : Gi_Map} {a1 : Gi_Hex} {r : Int} (H : Ds_mIndex a0 a1 = some r) : Ct X.P X.gl 120 [.agg [I a0.Width, I a0.Height, sl 1 I a0.Terrain, sl 1 I a0.Rivers, sl 1 I a0.Roads], .agg [I a1.Q, I a1.R]] [] (RI r) [] :=
  Ct.of func120 (c := bdy f120) (by kernel_rfl) (by kernel_rfl) <|
  eBind H fun r1 hr1 H =>
  gS [r0] (by kernel_rfl) P0 <|
  eIf H (fun h2 H =>
    eBind H fun r3 hr3 H =>
    eIf H (fun h4 H =>
      eW RI (fun _ => []) H <| gE func120 [rg [{ i := 5, call := some { cl := true, auto := true, ins := [], res := (RB r1), G' := [] }, dec := some true }, { i := 13, call := some { cl := true, auto := true, ins := [], res := (RB r3), G' := [] }, dec := some true }], r0] (by kernel_rfl) (P1 (cs_l1In hr1) <| P2 (r1 = true) (h2) <| P1 (cs_l1In hr3) <| P2 (r3 = true) (h4) <| P0))
    (fun h4 H =>
      eW RI (fun _ => []) H <| gE func120 [rg [{ i := 5, call := some { cl := true, auto := true, ins := [], res := (RB r1), G' := [] }, dec := some true }, { i := 13, call := some { cl := true, auto := true, ins := [], res := (RB r3), G' := [] }, dec := some false }], r0] (by kernel_rfl) (P1 (cs_l1In hr1) <| P2 (r1 = true) (h2) <| P1 (cs_l1In hr3) <| P2 (r3 = false) (eqF h4) <| P0)))
  (fun h2 H =>
    eW RI (fun _ => []) H <| gE func120 [rg [{ i := 5, call := some { cl := true, auto := true, ins := [], res := (RB r1), G' := [] }, dec := some false }], r0] (by kernel_rfl) (P1 (cs_l1In hr1) <| P2 (r1 = false) (eqF h2) <| P0))
/-! loop example/g00886/spec mNext -/
theorem cs_mNext {a0 : Gi_Map} {a1 : Int} {a2 : Int} {r : Int} (H : Ds_mNext a0 a1 a2 = some r) : Ct X.P X.gl 64 [.agg [I a0.Width, I a0.Height, sl 1 I a0.Terrain, sl 1 I a0.Rivers, sl 1 I a0.Roads], I a1, I a2] [] (RI r) [] :=
  Ct.of func64 (c := bdy f64) (by kernel_rfl) (by kernel_rfl) <|
  eBind H fun r1 hr1 H =>
  eBind H fun r2 hr2 H =>
  eBind H fun r3 hr3 H =>
  eW RI (fun _ => []) H <| gE func64 [r0, rg [hC 3 true [] (Rs_mHex r1) [], hC 5 true [] (Rs_hStep r2) [], hC 6 true [] (RI r3) []]] (by kernel_rfl) (P1 (cs_mHex hr1) <| P1 (cs_hStep hr2) <| P1 (cs_mIndex hr3) <| P0)
/-! loop example/g00886/spec mEdge -/
theorem cs_mEdge {a0 : Gi_Map} {a1 : Int} {a2 : Int} {r : Int} (H : Ds_mEdge a0 a1 a2 = some r) : Ct X.P X.gl 119 [.agg [I a0.Width, I a0.Height, sl 1 I a0.Terrain, sl 1 I a0.Rivers, sl 1 I a0.Roads], I a1, I a2] [] (RI r) [] :=
  Ct.of func119 (c := bdy f119) (by kernel_rfl) (by kernel_rfl) <|
  gS [r0] (by kernel_rfl) P0 <|
  eIf H (fun h1 H =>
    eW RI (fun _ => []) H <| gE func119 [rg [hT 1], r0] (by kernel_rfl) (P2 ((decide (a2 < 3)) = true) (decide_eq_true h1) <| P0))
  (fun h1 H =>
    eBind H fun r2 hr2 H =>
    eW RI (fun _ => []) H <| gE func119 [rg [hF 1], rg [hC 3 true [] (RI r2) []]] (by kernel_rfl) (P2 ((decide (a2 < 3)) = false) (decide_eq_false h1) <| P1 (cs_mNext hr2) <| P0))
/-! loop example/g00886/spec l1Put -/
def Rs_l1Put_c0 (r : (List Int)) : List D := [ow 1 I r]
def Ns_l1Put_c0 (r : (List Int)) : List Root := [deadR]
noncomputable def Ks_l1Put_c0 : Ss_l1Put_c0 → List Item
  | .h1 .. => nav 300 2 [] [.code (bdy f101)]
def Zs_l1Put_c0 : Ss_l1Put_c0 → St
  | .h1 n0 k1 l2 => ⟨sts 48 [(0, .ref 1 1 none), (1, I n0), (5, I k1)], [none, some ⟨false, false, 1, l2.length, List.map I l2⟩]⟩
abbrev Qs_l1Put_c0 := Nx X 101 1 Ks_l1Put_c0 Zs_l1Put_c0 Rs_l1Put_c0 Ns_l1Put_c0
theorem ns_l1Put_c0 : ∀ s o, Bs_l1Put_c0 s = some o → Qs_l1Put_c0 (Ks_l1Put_c0 s) (Zs_l1Put_c0 s) o
  | .h1 n0 k1 l2, o, H =>
    eIf H (fun h1 H =>
      eCk H fun h2 H =>
      eBind H fun x3 hx3 H =>
      eIf H (fun h4 H =>
        eN H fun r hn => gO [rg [hT 3, hE 8 (I x3), hT 10], r0, .canon [0, 1] [0, 1, 5]] (by kernel_rfl) (P2 ((decide (k1 < ((l2.length : Nat) : Int))) = true) (decide_eq_true h1) <| P1 h2 <| P1 (int_lt_of_at h2 hx3) <| P1 (at_map I hx3) <| P2 ((decide (x3 < n0)) = true) (decide_eq_true h4) <| P0) hn)
      (fun h4 H =>
        gN [rg [hT 3, hE 8 (I x3), hF 10]] (by kernel_rfl) (P2 ((decide (k1 < ((l2.length : Nat) : Int))) = true) (decide_eq_true h1) <| P1 h2 <| P1 (int_lt_of_at h2 hx3) <| P1 (at_map I hx3) <| P2 ((decide (x3 < n0)) = false) (decide_eq_false h4) <| P0) <|
        eIf H (fun h5 H =>
          eCk H fun h6 H =>
          eBind H fun x7 hx7 H =>
          eIf H (fun h8 H =>
            eN H <| gE func101 [rg [hT 3, hE 8 (I x7), hT 10], r0] (by kernel_rfl) (P2 ((decide (k1 < ((l2.length : Nat) : Int))) = true) (decide_eq_true h5) <| P1 h6 <| P1 (int_lt_of_at h6 hx7) <| P1 (at_map I hx7) <| P2 (((x7 : Int) == n0) = true) (beqT h8) <| P0))
          (fun h8 H =>
            eCk H fun h9 H =>
            eCk H fun h10 H =>
            eCk H fun h11 H =>
            eCk H fun h12 H =>
            eCk H fun h13 H =>
            eCk H fun h14 H =>
            eCk H fun h15 H =>
            eN H <| gE func101 [rg [hT 3, hE 8 (I x7), hF 10], rg [{ i := 4, keep := true, n := (List.take ((Int.toNat k1) - 0) (List.drop 0 l2)).length, xs := List.map I (List.take ((Int.toNat k1) - 0) (List.drop 0 l2)) }], rg [hA 3 (((List.take ((Int.toNat k1) - 0) (List.drop 0 l2)) ++ [n0]).length) (List.map I ((List.take ((Int.toNat k1) - 0) (List.drop 0 l2)) ++ [n0]))], rg [{ i := 4, keep := true, n := (((List.take ((Int.toNat k1) - 0) (List.drop 0 l2)) ++ [n0]) ++ (List.take (l2.length - (Int.toNat k1)) (List.drop (Int.toNat k1) l2))).length, xs := List.map I (((List.take ((Int.toNat k1) - 0) (List.drop 0 l2)) ++ [n0]) ++ (List.take (l2.length - (Int.toNat k1)) (List.drop (Int.toNat k1) l2))) }]] (by kernel_rfl) (P2 ((decide (k1 < ((l2.length : Nat) : Int))) = true) (decide_eq_true h5) <| P1 h6 <| P1 (int_lt_of_at h6 hx7) <| P1 (at_map I hx7) <| P2 (((x7 : Int) == n0) = false) (beqF h8) <| P2 ((0 : Int) ≤ k1) h9 <| P2 ((k1 : Int) ≤ ((l2.length : Nat) : Int)) h10 <| P2 (AllFl (List.map I l2)) (allFl_3 _) <| P2 ((List.take ((Int.toNat k1) - 0) (List.drop 0 l2)).length = ([] : List Int).length + ((Int.toNat k1) - 0)) (by simp <;> omega) <| P2 ((([] : List Int).length + ((Int.toNat k1) - 0)) * 8 ≤ 70368744177664) (by have := h11; simp at this ⊢ <;> omega) <| P2 (List.map I ([] : List Int) ++ List.take ((Int.toNat k1) - 0) (List.drop 0 (List.map I l2)) = List.map I (List.take ((Int.toNat k1) - 0) (List.drop 0 l2))) (by simp [List.map_take, List.map_drop]) <| P1 (apL (List.take ((Int.toNat k1) - 0) (List.drop 0 l2)) [n0]) <| P1 (apB h12) <| P1 (apM I (List.take ((Int.toNat k1) - 0) (List.drop 0 l2)) [n0]) <| P2 ((0 : Int) ≤ k1) h13 <| P2 ((k1 : Int) ≤ ((l2.length : Nat) : Int)) h14 <| P2 (AllFl (List.map I l2)) (allFl_3 _) <| P2 ((((List.take ((Int.toNat k1) - 0) (List.drop 0 l2)) ++ [n0]) ++ (List.take (l2.length - (Int.toNat k1)) (List.drop (Int.toNat k1) l2))).length = ((List.take ((Int.toNat k1) - 0) (List.drop 0 l2)) ++ [n0]).length + (l2.length - (Int.toNat k1))) (by simp <;> omega) <| P2 ((((List.take ((Int.toNat k1) - 0) (List.drop 0 l2)) ++ [n0]).length + (l2.length - (Int.toNat k1))) * 8 ≤ 70368744177664) (by have := h15; simp at this ⊢ <;> omega) <| P2 (List.map I ((List.take ((Int.toNat k1) - 0) (List.drop 0 l2)) ++ [n0]) ++ List.take (l2.length - (Int.toNat k1)) (List.drop (Int.toNat k1) (List.map I l2)) = List.map I (((List.take ((Int.toNat k1) - 0) (List.drop 0 l2)) ++ [n0]) ++ (List.take (l2.length - (Int.toNat k1)) (List.drop (Int.toNat k1) l2)))) (by simp [List.map_take, List.map_drop]) <| P0)))
        (fun h5 H =>
          eCk H fun h6 H =>
          eCk H fun h7 H =>
          eCk H fun h8 H =>
          eCk H fun h9 H =>
          eCk H fun h10 H =>
          eCk H fun h11 H =>
          eCk H fun h12 H =>
          eN H <| gE func101 [rg [hF 3], rg [{ i := 4, keep := true, n := (List.take ((Int.toNat k1) - 0) (List.drop 0 l2)).length, xs := List.map I (List.take ((Int.toNat k1) - 0) (List.drop 0 l2)) }], rg [hA 3 (((List.take ((Int.toNat k1) - 0) (List.drop 0 l2)) ++ [n0]).length) (List.map I ((List.take ((Int.toNat k1) - 0) (List.drop 0 l2)) ++ [n0]))], rg [{ i := 4, keep := true, n := (((List.take ((Int.toNat k1) - 0) (List.drop 0 l2)) ++ [n0]) ++ (List.take (l2.length - (Int.toNat k1)) (List.drop (Int.toNat k1) l2))).length, xs := List.map I (((List.take ((Int.toNat k1) - 0) (List.drop 0 l2)) ++ [n0]) ++ (List.take (l2.length - (Int.toNat k1)) (List.drop (Int.toNat k1) l2))) }]] (by kernel_rfl) (P2 ((decide (k1 < ((l2.length : Nat) : Int))) = false) (decide_eq_false h5) <| P2 ((0 : Int) ≤ k1) h6 <| P2 ((k1 : Int) ≤ ((l2.length : Nat) : Int)) h7 <| P2 (AllFl (List.map I l2)) (allFl_3 _) <| P2 ((List.take ((Int.toNat k1) - 0) (List.drop 0 l2)).length = ([] : List Int).length + ((Int.toNat k1) - 0)) (by simp <;> omega) <| P2 ((([] : List Int).length + ((Int.toNat k1) - 0)) * 8 ≤ 70368744177664) (by have := h8; simp at this ⊢ <;> omega) <| P2 (List.map I ([] : List Int) ++ List.take ((Int.toNat k1) - 0) (List.drop 0 (List.map I l2)) = List.map I (List.take ((Int.toNat k1) - 0) (List.drop 0 l2))) (by simp [List.map_take, List.map_drop]) <| P1 (apL (List.take ((Int.toNat k1) - 0) (List.drop 0 l2)) [n0]) <| P1 (apB h9) <| P1 (apM I (List.take ((Int.toNat k1) - 0) (List.drop 0 l2)) [n0]) <| P2 ((0 : Int) ≤ k1) h10 <| P2 ((k1 : Int) ≤ ((l2.length : Nat) : Int)) h11 <| P2 (AllFl (List.map I l2)) (allFl_3 _) <| P2 ((((List.take ((Int.toNat k1) - 0) (List.drop 0 l2)) ++ [n0]) ++ (List.take (l2.length - (Int.toNat k1)) (List.drop (Int.toNat k1) l2))).length = ((List.take ((Int.toNat k1) - 0) (List.drop 0 l2)) ++ [n0]).length + (l2.length - (Int.toNat k1))) (by simp <;> omega) <| P2 ((((List.take ((Int.toNat k1) - 0) (List.drop 0 l2)) ++ [n0]).length + (l2.length - (Int.toNat k1))) * 8 ≤ 70368744177664) (by have := h12; simp at this ⊢ <;> omega) <| P2 (List.map I ((List.take ((Int.toNat k1) - 0) (List.drop 0 l2)) ++ [n0]) ++ List.take (l2.length - (Int.toNat k1)) (List.drop (Int.toNat k1) (List.map I l2)) = List.map I (((List.take ((Int.toNat k1) - 0) (List.drop 0 l2)) ++ [n0]) ++ (List.take (l2.length - (Int.toNat k1)) (List.drop (Int.toNat k1) l2)))) (by simp [List.map_take, List.map_drop]) <| P0))))
    (fun h1 H =>
      gN [rg [hF 3]] (by kernel_rfl) (P2 ((decide (k1 < ((l2.length : Nat) : Int))) = false) (decide_eq_false h1) <| P0) <|
      eIf H (fun h2 H =>
        eCk H fun h3 H =>
        eBind H fun x4 hx4 H =>
        eIf H (fun h5 H =>
          eN H <| gE func101 [rg [hT 3, hE 8 (I x4), hT 10], r0] (by kernel_rfl) (P2 ((decide (k1 < ((l2.length : Nat) : Int))) = true) (decide_eq_true h2) <| P1 h3 <| P1 (int_lt_of_at h3 hx4) <| P1 (at_map I hx4) <| P2 (((x4 : Int) == n0) = true) (beqT h5) <| P0))
        (fun h5 H =>
          eCk H fun h6 H =>
          eCk H fun h7 H =>
          eCk H fun h8 H =>
          eCk H fun h9 H =>
          eCk H fun h10 H =>
          eCk H fun h11 H =>
          eCk H fun h12 H =>
          eN H <| gE func101 [rg [hT 3, hE 8 (I x4), hF 10], rg [{ i := 4, keep := true, n := (List.take ((Int.toNat k1) - 0) (List.drop 0 l2)).length, xs := List.map I (List.take ((Int.toNat k1) - 0) (List.drop 0 l2)) }], rg [hA 3 (((List.take ((Int.toNat k1) - 0) (List.drop 0 l2)) ++ [n0]).length) (List.map I ((List.take ((Int.toNat k1) - 0) (List.drop 0 l2)) ++ [n0]))], rg [{ i := 4, keep := true, n := (((List.take ((Int.toNat k1) - 0) (List.drop 0 l2)) ++ [n0]) ++ (List.take (l2.length - (Int.toNat k1)) (List.drop (Int.toNat k1) l2))).length, xs := List.map I (((List.take ((Int.toNat k1) - 0) (List.drop 0 l2)) ++ [n0]) ++ (List.take (l2.length - (Int.toNat k1)) (List.drop (Int.toNat k1) l2))) }]] (by kernel_rfl) (P2 ((decide (k1 < ((l2.length : Nat) : Int))) = true) (decide_eq_true h2) <| P1 h3 <| P1 (int_lt_of_at h3 hx4) <| P1 (at_map I hx4) <| P2 (((x4 : Int) == n0) = false) (beqF h5) <| P2 ((0 : Int) ≤ k1) h6 <| P2 ((k1 : Int) ≤ ((l2.length : Nat) : Int)) h7 <| P2 (AllFl (List.map I l2)) (allFl_3 _) <| P2 ((List.take ((Int.toNat k1) - 0) (List.drop 0 l2)).length = ([] : List Int).length + ((Int.toNat k1) - 0)) (by simp <;> omega) <| P2 ((([] : List Int).length + ((Int.toNat k1) - 0)) * 8 ≤ 70368744177664) (by have := h8; simp at this ⊢ <;> omega) <| P2 (List.map I ([] : List Int) ++ List.take ((Int.toNat k1) - 0) (List.drop 0 (List.map I l2)) = List.map I (List.take ((Int.toNat k1) - 0) (List.drop 0 l2))) (by simp [List.map_take, List.map_drop]) <| P1 (apL (List.take ((Int.toNat k1) - 0) (List.drop 0 l2)) [n0]) <| P1 (apB h9) <| P1 (apM I (List.take ((Int.toNat k1) - 0) (List.drop 0 l2)) [n0]) <| P2 ((0 : Int) ≤ k1) h10 <| P2 ((k1 : Int) ≤ ((l2.length : Nat) : Int)) h11 <| P2 (AllFl (List.map I l2)) (allFl_3 _) <| P2 ((((List.take ((Int.toNat k1) - 0) (List.drop 0 l2)) ++ [n0]) ++ (List.take (l2.length - (Int.toNat k1)) (List.drop (Int.toNat k1) l2))).length = ((List.take ((Int.toNat k1) - 0) (List.drop 0 l2)) ++ [n0]).length + (l2.length - (Int.toNat k1))) (by simp <;> omega) <| P2 ((((List.take ((Int.toNat k1) - 0) (List.drop 0 l2)) ++ [n0]).length + (l2.length - (Int.toNat k1))) * 8 ≤ 70368744177664) (by have := h12; simp at this ⊢ <;> omega) <| P2 (List.map I ((List.take ((Int.toNat k1) - 0) (List.drop 0 l2)) ++ [n0]) ++ List.take (l2.length - (Int.toNat k1)) (List.drop (Int.toNat k1) (List.map I l2)) = List.map I (((List.take ((Int.toNat k1) - 0) (List.drop 0 l2)) ++ [n0]) ++ (List.take (l2.length - (Int.toNat k1)) (List.drop (Int.toNat k1) l2)))) (by simp [List.map_take, List.map_drop]) <| P0)))
      (fun h2 H =>
        eCk H fun h3 H =>
        eCk H fun h4 H =>
        eCk H fun h5 H =>
        eCk H fun h6 H =>
        eCk H fun h7 H =>
        eCk H fun h8 H =>
        eCk H fun h9 H =>
        eN H <| gE func101 [rg [hF 3], rg [{ i := 4, keep := true, n := (List.take ((Int.toNat k1) - 0) (List.drop 0 l2)).length, xs := List.map I (List.take ((Int.toNat k1) - 0) (List.drop 0 l2)) }], rg [hA 3 (((List.take ((Int.toNat k1) - 0) (List.drop 0 l2)) ++ [n0]).length) (List.map I ((List.take ((Int.toNat k1) - 0) (List.drop 0 l2)) ++ [n0]))], rg [{ i := 4, keep := true, n := (((List.take ((Int.toNat k1) - 0) (List.drop 0 l2)) ++ [n0]) ++ (List.take (l2.length - (Int.toNat k1)) (List.drop (Int.toNat k1) l2))).length, xs := List.map I (((List.take ((Int.toNat k1) - 0) (List.drop 0 l2)) ++ [n0]) ++ (List.take (l2.length - (Int.toNat k1)) (List.drop (Int.toNat k1) l2))) }]] (by kernel_rfl) (P2 ((decide (k1 < ((l2.length : Nat) : Int))) = false) (decide_eq_false h2) <| P2 ((0 : Int) ≤ k1) h3 <| P2 ((k1 : Int) ≤ ((l2.length : Nat) : Int)) h4 <| P2 (AllFl (List.map I l2)) (allFl_3 _) <| P2 ((List.take ((Int.toNat k1) - 0) (List.drop 0 l2)).length = ([] : List Int).length + ((Int.toNat k1) - 0)) (by simp <;> omega) <| P2 ((([] : List Int).length + ((Int.toNat k1) - 0)) * 8 ≤ 70368744177664) (by have := h5; simp at this ⊢ <;> omega) <| P2 (List.map I ([] : List Int) ++ List.take ((Int.toNat k1) - 0) (List.drop 0 (List.map I l2)) = List.map I (List.take ((Int.toNat k1) - 0) (List.drop 0 l2))) (by simp [List.map_take, List.map_drop]) <| P1 (apL (List.take ((Int.toNat k1) - 0) (List.drop 0 l2)) [n0]) <| P1 (apB h6) <| P1 (apM I (List.take ((Int.toNat k1) - 0) (List.drop 0 l2)) [n0]) <| P2 ((0 : Int) ≤ k1) h7 <| P2 ((k1 : Int) ≤ ((l2.length : Nat) : Int)) h8 <| P2 (AllFl (List.map I l2)) (allFl_3 _) <| P2 ((((List.take ((Int.toNat k1) - 0) (List.drop 0 l2)) ++ [n0]) ++ (List.take (l2.length - (Int.toNat k1)) (List.drop (Int.toNat k1) l2))).length = ((List.take ((Int.toNat k1) - 0) (List.drop 0 l2)) ++ [n0]).length + (l2.length - (Int.toNat k1))) (by simp <;> omega) <| P2 ((((List.take ((Int.toNat k1) - 0) (List.drop 0 l2)) ++ [n0]).length + (l2.length - (Int.toNat k1))) * 8 ≤ 70368744177664) (by have := h9; simp at this ⊢ <;> omega) <| P2 (List.map I ((List.take ((Int.toNat k1) - 0) (List.drop 0 l2)) ++ [n0]) ++ List.take (l2.length - (Int.toNat k1)) (List.drop (Int.toNat k1) (List.map I l2)) = List.map I (((List.take ((Int.toNat k1) - 0) (List.drop 0 l2)) ++ [n0]) ++ (List.take (l2.length - (Int.toNat k1)) (List.drop (Int.toNat k1) l2)))) (by simp [List.map_take, List.map_drop]) <| P0)))
theorem ws_l1Put_c0 : ∀ s r, loop Bs_l1Put_c0 s = some r → Wc X 101 1 (Ks_l1Put_c0 s) (Zs_l1Put_c0 s) (Rs_l1Put_c0 r) (Ns_l1Put_c0 r) := Nx.all ns_l1Put_c0
theorem cs_l1Put_c0 {a0 : (List Int)} {a1 : Int} {r : (List Int)} (H : Ds_l1Put_c0 a0 a1 = some r) : Ct X.P X.gl 101 [.ref 0 1 none, I a1] [⟨false, false, 1, a0.length, List.map I a0⟩] (Rs_l1Put_c0 r) (Ns_l1Put_c0 r) :=
  Ct.of func101 (c := bdy f101) (by kernel_rfl) (by kernel_rfl) <|
  gO [.whole 0, r0, r0, .canon [0, 1] [0, 1, 5]] (by kernel_rfl) (P1 (allFl_3 a0) <| P0) (ws_l1Put_c0 _ _ H)
/-!   loop example/g00886/spec l1Cur  edges -/
def Rs_l1Cur_edges (r : (List Int) × Gs_l1Cur) : List D := [ow 1 I r.1]
def Ns_l1Cur_edges (r : (List Int) × Gs_l1Cur) : List Root := [⟨false, true, 3, 1, [.agg [sl 1 (D.int .u8) r.2.code, I r.2.at_, .int .u64 r.2.seed]]⟩]
noncomputable def Ks_l1Cur_edges : Ss_l1Cur_edges → List Item
  | .h1 .. => nav 300 3 [] [.code (bdy f144)]
def Zs_l1Cur_edges : Ss_l1Cur_edges → St
  | .h1 k0 b1 b2 l3 => ⟨sts 33 [(0, .ptr 0 3 0 0), (3, .ptr 1 5 0 0), (5, .ref 2 1 none), (6, I k0)], [some ⟨false, true, 3, 1, [.agg [sl 1 (D.int .u8) b1.code, I b1.at_, .int .u64 b1.seed]]⟩, some ⟨false, true, 5, 1, [.agg [I b2.Width, I b2.Height, sl 1 I b2.Terrain, sl 1 I b2.Rivers, sl 1 I b2.Roads]]⟩, some ⟨false, false, 1, l3.length, List.map I l3⟩]⟩
abbrev Qs_l1Cur_edges := Nx X 144 1 Ks_l1Cur_edges Zs_l1Cur_edges Rs_l1Cur_edges Ns_l1Cur_edges
theorem ns_l1Cur_edges : ∀ s o, Bs_l1Cur_edges s = some o → Qs_l1Cur_edges (Ks_l1Cur_edges s) (Zs_l1Cur_edges s) o
  | .h1 k0 b1 b2 l3, o, H =>
    eIf H (fun h1 H =>
      eBind H fun r2 hr2 H =>
      eBind H fun r3 hr3 H =>
      eBind H fun r4 hr4 H =>
      eBind H fun r5 hr5 H =>
      gN [rg [hT 1], rg [hC 2 true [] (RI r2) [], hC 3 true [0] (Rs_l1Cur_pick r3) (Ns_l1Cur_pick r3), hC 5 true [0] (Rs_l1Cur_pick r4) (Ns_l1Cur_pick r4)]] (by kernel_rfl) (P2 ((decide (k0 > 0)) = true) (decide_eq_true h1) <| P1 (cs_mSize hr2) <| PI (1 : Nat) <| P1 (cs_l1Cur_pick hr3) <| PI (1 : Nat) <| P1 (cs_l1Cur_pick hr4) <| P0) <|
      eIf H (fun h6 H =>
        eBind H fun r7 hr7 H =>
        eBind H fun r8 hr8 H =>
        eN H fun r hn => gO [rg [hC 3 true [] (RI r5) [], hT 4], rg [hC 4 true [] (RI r7) [], hC 5 true [2] (Rs_l1Put_c0 r8) (Ns_l1Put_c0 r8)], r0, .canon [0, 1, 3] [0, 3, 5, 6]] (by kernel_rfl) (P1 (cs_mNext hr5) <| P2 ((decide (r5 ≥ 0)) = true) (decide_eq_true h6) <| P1 (cs_mEdge hr7) <| P1 (cs_l1Put_c0 hr8) <| P0) hn)
      (fun h6 H =>
        eN H fun r hn => gO [rg [hC 3 true [] (RI r5) [], hF 4], r0, .canon [0, 1, 2] [0, 3, 5, 6]] (by kernel_rfl) (P1 (cs_mNext hr5) <| P2 ((decide (r5 ≥ 0)) = false) (decide_eq_false h6) <| P0) hn))
    (fun h1 H =>
      eN H <| gE func144 [rg [hF 1], r0] (by kernel_rfl) (P2 ((decide (k0 > 0)) = false) (decide_eq_false h1) <| P0))
theorem ws_l1Cur_edges : ∀ s r, loop Bs_l1Cur_edges s = some r → Wc X 144 1 (Ks_l1Cur_edges s) (Zs_l1Cur_edges s) (Rs_l1Cur_edges r) (Ns_l1Cur_edges r) := Nx.all ns_l1Cur_edges
theorem cs_l1Cur_edges {a0 : Gs_l1Cur} {a1 : Gi_Map} {r : (List Int) × Gs_l1Cur} (H : Ds_l1Cur_edges a0 a1 = some r) : Ct X.P X.gl 144 [.ptr 0 3 0 0, .agg [I a1.Width, I a1.Height, sl 1 I a1.Terrain, sl 1 I a1.Rivers, sl 1 I a1.Roads]] [⟨false, true, 3, 1, [.agg [sl 1 (D.int .u8) a0.code, I a0.at_, .int .u64 a0.seed]]⟩] (Rs_l1Cur_edges r) (Ns_l1Cur_edges r) :=
  Ct.of func144 (c := bdy f144) (by kernel_rfl) (by kernel_rfl) <|
  eBind H fun r1 hr1 H =>
  gO [r0, r0, rg [hC 1 true [0] (Rs_l1Cur_pick r1) (Ns_l1Cur_pick r1)], .own 5 1, .canon [0, 1, 2] [0, 3, 5, 6]] (by kernel_rfl) (PI (1 : Nat) <| P1 (cs_l1Cur_pick hr1) <| P0) (ws_l1Cur_edges _ _ H)
/-! loop example/g00886/spec mSize -/
theorem cs_mSize_u0_2_3_4 {a0 : Gi_Map} {r : Int} (H : Ds_mSize a0 = some r) : Ct X.P X.gl 110 [.agg [I a0.Width, I a0.Height, .hid, .hid, .hid]] [] (RI r) [] :=
  Ct.of func110 (c := bdy f110) (by kernel_rfl) (by kernel_rfl) <|
  eW RI (fun _ => []) H <| gE func110 [r0, r0] (by kernel_rfl) P0
/-! loop example/g00886/spec mHex -/
def Rs_mHex_u0_2_3_4 (r : Gi_Hex) : List D := [.agg [I r.Q, I r.R]]
theorem cs_mHex_u0_2_3_4 {a0 : Gi_Map} {a1 : Int} {r : Gi_Hex} (H : Ds_mHex a0 a1 = some r) : Ct X.P X.gl 54 [.agg [I a0.Width, I a0.Height, .hid, .hid, .hid], I a1] [] (Rs_mHex_u0_2_3_4 r) [] :=
  Ct.of func54 (c := bdy f54) (by kernel_rfl) (by kernel_rfl) <|
  eCk H fun h1 H =>
  eCk H fun h2 H =>
  eW Rs_mHex_u0_2_3_4 (fun _ => []) H <| gE func54 [r0, r0] (by kernel_rfl) (P2 (¬ (a0.Width : Int) = 0) h1 <| P2 (¬ (a0.Width : Int) = 0) h2 <| P0)
/-! loop example/g00886/spec mIndex -/
theorem cs_mIndex_u0_2_3_4 {a0 : Gi_Map} {a1 : Gi_Hex} {r : Int} (H : Ds_mIndex a0 a1 = some r) : Ct X.P X.gl 120 [.agg [I a0.Width, I a0.Height, .hid, .hid, .hid], .agg [I a1.Q, I a1.R]] [] (RI r) [] :=
  Ct.of func120 (c := bdy f120) (by kernel_rfl) (by kernel_rfl) <|
  eBind H fun r1 hr1 H =>
  gS [r0] (by kernel_rfl) P0 <|
  eIf H (fun h2 H =>
    eBind H fun r3 hr3 H =>
    eIf H (fun h4 H =>
      eW RI (fun _ => []) H <| gE func120 [rg [{ i := 5, call := some { cl := true, auto := true, ins := [], res := (RB r1), G' := [] }, dec := some true }, { i := 13, call := some { cl := true, auto := true, ins := [], res := (RB r3), G' := [] }, dec := some true }], r0] (by kernel_rfl) (P1 (cs_l1In hr1) <| P2 (r1 = true) (h2) <| P1 (cs_l1In hr3) <| P2 (r3 = true) (h4) <| P0))
    (fun h4 H =>
      eW RI (fun _ => []) H <| gE func120 [rg [{ i := 5, call := some { cl := true, auto := true, ins := [], res := (RB r1), G' := [] }, dec := some true }, { i := 13, call := some { cl := true, auto := true, ins := [], res := (RB r3), G' := [] }, dec := some false }], r0] (by kernel_rfl) (P1 (cs_l1In hr1) <| P2 (r1 = true) (h2) <| P1 (cs_l1In hr3) <| P2 (r3 = false) (eqF h4) <| P0)))
  (fun h2 H =>
    eW RI (fun _ => []) H <| gE func120 [rg [{ i := 5, call := some { cl := true, auto := true, ins := [], res := (RB r1), G' := [] }, dec := some false }], r0] (by kernel_rfl) (P1 (cs_l1In hr1) <| P2 (r1 = false) (eqF h2) <| P0))
/-! loop example/g00886/spec mNext -/
theorem cs_mNext_u0_2_3_4 {a0 : Gi_Map} {a1 : Int} {a2 : Int} {r : Int} (H : Ds_mNext a0 a1 a2 = some r) : Ct X.P X.gl 64 [.agg [I a0.Width, I a0.Height, .hid, .hid, .hid], I a1, I a2] [] (RI r) [] :=
  Ct.of func64 (c := bdy f64) (by kernel_rfl) (by kernel_rfl) <|
  eBind H fun r1 hr1 H =>
  eBind H fun r2 hr2 H =>
  eBind H fun r3 hr3 H =>
  eW RI (fun _ => []) H <| gE func64 [r0, rg [{ i := 3, call := some { cl := true, ins := [], args := [.agg [I a0.Width, I a0.Height, .hid, .hid, .hid], I a1], res := Rs_mHex_u0_2_3_4 r1, G' := [] } }, hC 5 true [] (Rs_hStep r2) [], { i := 6, call := some { cl := true, ins := [], args := [.agg [I a0.Width, I a0.Height, .hid, .hid, .hid], .agg [I r2.Q, I r2.R]], res := RI r3, G' := [] } }]] (by kernel_rfl) (PI (a0.Width : Int) <| PI (a0.Height : Int) <| PI (a1 : Int) <| P1 (cs_mHex_u0_2_3_4 hr1) <| P1 (cs_hStep hr2) <| PI (a0.Width : Int) <| PI (a0.Height : Int) <| PI (r2.Q : Int) <| PI (r2.R : Int) <| P1 (cs_mIndex_u0_2_3_4 hr3) <| P0)
/-! loop example/g00886/spec mEdge -/
theorem cs_mEdge_u0_2_3_4 {a0 : Gi_Map} {a1 : Int} {a2 : Int} {r : Int} (H : Ds_mEdge a0 a1 a2 = some r) : Ct X.P X.gl 119 [.agg [I a0.Width, I a0.Height, .hid, .hid, .hid], I a1, I a2] [] (RI r) [] :=
  Ct.of func119 (c := bdy f119) (by kernel_rfl) (by kernel_rfl) <|
  gS [r0] (by kernel_rfl) P0 <|
  eIf H (fun h1 H =>
    eW RI (fun _ => []) H <| gE func119 [rg [hT 1], r0] (by kernel_rfl) (P2 ((decide (a2 < 3)) = true) (decide_eq_true h1) <| P0))
  (fun h1 H =>
    eBind H fun r2 hr2 H =>
    eW RI (fun _ => []) H <| gE func119 [rg [hF 1], rg [{ i := 3, call := some { cl := true, ins := [], args := [.agg [I a0.Width, I a0.Height, .hid, .hid, .hid], I a1, I a2], res := RI r2, G' := [] } }]] (by kernel_rfl) (P2 ((decide (a2 < 3)) = false) (decide_eq_false h1) <| PI (a0.Width : Int) <| PI (a0.Height : Int) <| PI (a1 : Int) <| PI (a2 : Int) <| P1 (cs_mNext_u0_2_3_4 hr2) <| P0))
/-!   loop example/g00886/spec l1Cur  edges -/
def Rs_l1Cur_edges_u1_2_3_4 (r : (List Int) × Gs_l1Cur) : List D := [ow 1 I r.1]
def Ns_l1Cur_edges_u1_2_3_4 (r : (List Int) × Gs_l1Cur) : List Root := [⟨false, true, 3, 1, [.agg [sl 1 (D.int .u8) r.2.code, I r.2.at_, .int .u64 r.2.seed]]⟩]
noncomputable def Ks_l1Cur_edges_u1_2_3_4 : Ss_l1Cur_edges → List Item
  | .h1 .. => nav 300 3 [] [.code (bdy f144)]
def Zs_l1Cur_edges_u1_2_3_4 : Ss_l1Cur_edges → St
  | .h1 k0 b1 b2 l3 => ⟨sts 33 [(0, .ptr 0 3 0 0), (3, .ptr 1 5 0 0), (5, .ref 2 1 none), (6, I k0)], [some ⟨false, true, 3, 1, [.agg [sl 1 (D.int .u8) b1.code, I b1.at_, .int .u64 b1.seed]]⟩, some ⟨false, true, 5, 1, [.agg [I b2.Width, I b2.Height, .hid, .hid, .hid]]⟩, some ⟨false, false, 1, l3.length, List.map I l3⟩]⟩
abbrev Qs_l1Cur_edges_u1_2_3_4 := Nx X 144 1 Ks_l1Cur_edges_u1_2_3_4 Zs_l1Cur_edges_u1_2_3_4 Rs_l1Cur_edges_u1_2_3_4 Ns_l1Cur_edges_u1_2_3_4
theorem ns_l1Cur_edges_u1_2_3_4 : ∀ s o, Bs_l1Cur_edges s = some o → Qs_l1Cur_edges_u1_2_3_4 (Ks_l1Cur_edges_u1_2_3_4 s) (Zs_l1Cur_edges_u1_2_3_4 s) o
  | .h1 k0 b1 b2 l3, o, H =>
    eIf H (fun h1 H =>
      eBind H fun r2 hr2 H =>
      eBind H fun r3 hr3 H =>
      eBind H fun r4 hr4 H =>
      eBind H fun r5 hr5 H =>
      gN [rg [hT 1], rg [{ i := 2, call := some { cl := true, ins := [], args := [.agg [I b2.Width, I b2.Height, .hid, .hid, .hid]], res := RI r2, G' := [] } }, hC 3 true [0] (Rs_l1Cur_pick r3) (Ns_l1Cur_pick r3), hC 5 true [0] (Rs_l1Cur_pick r4) (Ns_l1Cur_pick r4)]] (by kernel_rfl) (P2 ((decide (k0 > 0)) = true) (decide_eq_true h1) <| PI (b2.Width : Int) <| PI (b2.Height : Int) <| P1 (cs_mSize_u0_2_3_4 hr2) <| PI (1 : Nat) <| P1 (cs_l1Cur_pick hr3) <| PI (1 : Nat) <| P1 (cs_l1Cur_pick hr4) <| P0) <|
      eIf H (fun h6 H =>
        eBind H fun r7 hr7 H =>
        eBind H fun r8 hr8 H =>
        eN H fun r hn => gO [rg [{ i := 3, call := some { cl := true, ins := [], args := [.agg [I b2.Width, I b2.Height, .hid, .hid, .hid], I r3.1, I r4.1], res := RI r5, G' := [] } }, hT 4], rg [{ i := 4, call := some { cl := true, ins := [], args := [.agg [I b2.Width, I b2.Height, .hid, .hid, .hid], I r3.1, I r4.1], res := RI r7, G' := [] } }, hC 5 true [2] (Rs_l1Put_c0 r8) (Ns_l1Put_c0 r8)], r0, .canon [0, 1, 3] [0, 3, 5, 6]] (by kernel_rfl) (PI (b2.Width : Int) <| PI (b2.Height : Int) <| PI (r3.1 : Int) <| PI (r4.1 : Int) <| P1 (cs_mNext_u0_2_3_4 hr5) <| P2 ((decide (r5 ≥ 0)) = true) (decide_eq_true h6) <| PI (b2.Width : Int) <| PI (b2.Height : Int) <| PI (r3.1 : Int) <| PI (r4.1 : Int) <| P1 (cs_mEdge_u0_2_3_4 hr7) <| P1 (cs_l1Put_c0 hr8) <| P0) hn)
      (fun h6 H =>
        eN H fun r hn => gO [rg [{ i := 3, call := some { cl := true, ins := [], args := [.agg [I b2.Width, I b2.Height, .hid, .hid, .hid], I r3.1, I r4.1], res := RI r5, G' := [] } }, hF 4], r0, .canon [0, 1, 2] [0, 3, 5, 6]] (by kernel_rfl) (PI (b2.Width : Int) <| PI (b2.Height : Int) <| PI (r3.1 : Int) <| PI (r4.1 : Int) <| P1 (cs_mNext_u0_2_3_4 hr5) <| P2 ((decide (r5 ≥ 0)) = false) (decide_eq_false h6) <| P0) hn))
    (fun h1 H =>
      eN H <| gE func144 [rg [hF 1], r0] (by kernel_rfl) (P2 ((decide (k0 > 0)) = false) (decide_eq_false h1) <| P0))
theorem ws_l1Cur_edges_u1_2_3_4 : ∀ s r, loop Bs_l1Cur_edges s = some r → Wc X 144 1 (Ks_l1Cur_edges_u1_2_3_4 s) (Zs_l1Cur_edges_u1_2_3_4 s) (Rs_l1Cur_edges_u1_2_3_4 r) (Ns_l1Cur_edges_u1_2_3_4 r) := Nx.all ns_l1Cur_edges_u1_2_3_4
theorem cs_l1Cur_edges_u1_2_3_4 {a0 : Gs_l1Cur} {a1 : Gi_Map} {r : (List Int) × Gs_l1Cur} (H : Ds_l1Cur_edges a0 a1 = some r) : Ct X.P X.gl 144 [.ptr 0 3 0 0, .agg [I a1.Width, I a1.Height, .hid, .hid, .hid]] [⟨false, true, 3, 1, [.agg [sl 1 (D.int .u8) a0.code, I a0.at_, .int .u64 a0.seed]]⟩] (Rs_l1Cur_edges_u1_2_3_4 r) (Ns_l1Cur_edges_u1_2_3_4 r) :=
  Ct.of func144 (c := bdy f144) (by kernel_rfl) (by kernel_rfl) <|
  eBind H fun r1 hr1 H =>
  gO [r0, r0, rg [hC 1 true [0] (Rs_l1Cur_pick r1) (Ns_l1Cur_pick r1)], .own 5 1, .canon [0, 1, 2] [0, 3, 5, 6]] (by kernel_rfl) (PI (1 : Nat) <| P1 (cs_l1Cur_pick hr1) <| P0) (ws_l1Cur_edges_u1_2_3_4 _ _ H)
/-!   loop example/g00886/spec l1Cur  mapOf -/
def Rs_l1Cur_mapOf (r : Gi_Map × Gs_l1Cur) : List D := [.agg [I r.1.Width, I r.1.Height, ow 1 I r.1.Terrain, ow 1 I r.1.Rivers, ow 1 I r.1.Roads]]
def Ns_l1Cur_mapOf (r : Gi_Map × Gs_l1Cur) : List Root := [⟨false, true, 3, 1, [.agg [sl 1 (D.int .u8) r.2.code, I r.2.at_, .int .u64 r.2.seed]]⟩]
noncomputable def Ks_l1Cur_mapOf : Ss_l1Cur_mapOf → List Item
  | .h1 .. => nav 300 3 [] [.code (bdy f109)]
  | .h2 .. => nav 300 9 [true, true] [.code (bdy f109)]
def Zs_l1Cur_mapOf : Ss_l1Cur_mapOf → St
  | .h1 terrains0 i1 b2 b3 b4 b5 b6 => ⟨sts 41 [(0, .ptr 0 3 0 0), (1, I terrains0), (4, .ptr 1 5 0 0), (5, .ptr 2 5 0 0), (6, I i1)], [some ⟨false, true, 3, 1, [.agg [sl 1 (D.int .u8) b2.code, I b2.at_, .int .u64 b2.seed]]⟩, some ⟨false, true, 5, 1, [.agg [I b3, I b4, .nil, .nil, .nil]]⟩, some ⟨false, true, 5, 1, [.agg [I b5, I b6, .nil, .nil, .nil]]⟩]⟩
  | .h2 terrains0 i1 b2 b3 b4 b5 b6 l7 => ⟨sts 41 [(0, .ptr 0 3 0 0), (1, I terrains0), (4, .ptr 1 5 0 0), (5, .ptr 2 5 0 0), (6, I i1)], [some ⟨false, true, 3, 1, [.agg [sl 1 (D.int .u8) b2.code, I b2.at_, .int .u64 b2.seed]]⟩, some ⟨false, true, 5, 1, [.agg [I b3, I b4, .nil, .nil, .nil]]⟩, some ⟨false, true, 5, 1, [.agg [I b5, I b6, .ref 3 1 none, .nil, .nil]]⟩, some ⟨false, false, 1, l7.length, List.map I l7⟩]⟩
abbrev Qs_l1Cur_mapOf := Nx X 109 1 Ks_l1Cur_mapOf Zs_l1Cur_mapOf Rs_l1Cur_mapOf Ns_l1Cur_mapOf
theorem ns_l1Cur_mapOf : ∀ s o, Bs_l1Cur_mapOf s = some o → Qs_l1Cur_mapOf (Ks_l1Cur_mapOf s) (Zs_l1Cur_mapOf s) o
  | .h1 terrains0 i1 b2 b3 b4 b5 b6, o, H =>
    have H := (Bs_l1Cur_mapOf.eq_1 ..).symm.trans H
    eBind H fun r1 hr1 H =>
    eIf H (fun h2 H =>
      eBind H fun r3 hr3 H =>
      gN [rg [{ i := 2, call := some { cl := true, ins := [], args := [.agg [I b5, I b6, sl 1 I [], sl 1 I [], sl 1 I []]], res := RI r1, G' := [] } }, hT 3], r0] (by kernel_rfl) (PI (b5 : Int) <| PI (b6 : Int) <| PI (0 : Nat) <| PI ([] : List D) <| PI (0 : Nat) <| PI ([] : List D) <| PI (0 : Nat) <| PI ([] : List D) <| P1 (cs_mSize hr1) <| P2 ((decide (i1 < r1)) = true) (decide_eq_true h2) <| P0) <|
      eIf H (fun h4 H =>
        eBind H fun r5 hr5 H =>
        eCk H fun h6 H =>
        eN H fun r hn => gO [rg [{ i := 1, call := some { cl := true, auto := true, ins := [0], res := (Rs_l1Cur_one r3), G' := (Ns_l1Cur_one r3) }, dec := some true }], rg [hC 2 true [0] (Rs_l1Cur_pick r5) (Ns_l1Cur_pick r5)], rg [hA 4 ([r5.1].length) (List.map I [r5.1])], r0, .canon [0, 1, 2, 4] [0, 1, 4, 5, 6]] (by kernel_rfl) (PI (1 : Nat) <| P1 (cs_l1Cur_one hr3) <| P2 (r3.1 = true) (h4) <| PI (1 : Nat) <| P1 (cs_l1Cur_pick hr5) <| P2 ([r5.1].length = 0 + [r5.1].length) (by simp <;> omega) <| P2 ((0 + [r5.1].length) * 8 ≤ 70368744177664) (by have := h6; simp at this ⊢ <;> omega) <| P2 (([] : List D) ++ List.map I [r5.1] = List.map I [r5.1]) (by simp) <| P0) hn)
      (fun h4 H =>
        eCk H fun h5 H =>
        eN H fun r hn => gO [rg [{ i := 1, call := some { cl := true, auto := true, ins := [0], res := (Rs_l1Cur_one r3), G' := (Ns_l1Cur_one r3) }, dec := some false }], rg [hA 4 ([0].length) (List.map I [0])], r0, .canon [0, 1, 2, 4] [0, 1, 4, 5, 6]] (by kernel_rfl) (PI (1 : Nat) <| P1 (cs_l1Cur_one hr3) <| P2 (r3.1 = false) (eqF h4) <| P2 ([0].length = 0 + [0].length) (by simp <;> omega) <| P2 ((0 + [0].length) * 8 ≤ 70368744177664) (by have := h5; simp at this ⊢ <;> omega) <| P2 (([] : List D) ++ List.map I [0] = List.map I [0]) (by simp) <| P0) hn))
    (fun h2 H =>
      eBind H fun r3 hr3 H =>
      eBind H fun r4 hr4 H =>
      eN H <| gE func109 [rg [{ i := 2, call := some { cl := true, ins := [], args := [.agg [I b5, I b6, sl 1 I [], sl 1 I [], sl 1 I []]], res := RI r1, G' := [] } }, hF 3], rg [{ i := 2, call := some { cl := true, ins := [0], args := [.ptr 0 3 0 0, .agg [I b5, I b6, sl 1 I [], sl 1 I [], sl 1 I []]], res := Rs_l1Cur_edges r3, G' := Ns_l1Cur_edges r3 } }], rg [{ i := 2, call := some { cl := true, ins := [0], args := [.ptr 0 3 0 0, .agg [I b5, I b6, .hid, .hid, .hid]], res := Rs_l1Cur_edges_u1_2_3_4 r4, G' := Ns_l1Cur_edges_u1_2_3_4 r4 } }], r0] (by kernel_rfl) (PI (b5 : Int) <| PI (b6 : Int) <| PI (0 : Nat) <| PI ([] : List D) <| PI (0 : Nat) <| PI ([] : List D) <| PI (0 : Nat) <| PI ([] : List D) <| P1 (cs_mSize hr1) <| P2 ((decide (i1 < r1)) = false) (decide_eq_false h2) <| PI (0 : Nat) <| PI (0 : Nat) <| PI (b5 : Int) <| PI (b6 : Int) <| PI (0 : Nat) <| PI ([] : List D) <| PI (0 : Nat) <| PI ([] : List D) <| PI (0 : Nat) <| PI ([] : List D) <| PI (1 : Nat) <| P1 (cs_l1Cur_edges hr3) <| PI (0 : Nat) <| PI (0 : Nat) <| PI (b5 : Int) <| PI (b6 : Int) <| PI (1 : Nat) <| P1 (cs_l1Cur_edges_u1_2_3_4 hr4) <| P0))
  | .h2 terrains0 i1 b2 b3 b4 b5 b6 l7, o, H =>
    have H := (Bs_l1Cur_mapOf.eq_2 ..).symm.trans H
    eBind H fun r1 hr1 H =>
    eIf H (fun h2 H =>
      eBind H fun r3 hr3 H =>
      gN [rg [{ i := 2, call := some { cl := false, ins := [], args := [.agg [I b5, I b6, sl 1 I l7, sl 1 I [], sl 1 I []]], res := RI r1, G' := [] } }, hT 3], r0] (by kernel_rfl) (PI (b5 : Int) <| PI (b6 : Int) <| PL I l7 <| PI (0 : Nat) <| PI ([] : List D) <| PI (0 : Nat) <| PI ([] : List D) <| P1 (cs_mSize hr1) <| P2 ((decide (i1 < r1)) = true) (decide_eq_true h2) <| P0) <|
      eIf H (fun h4 H =>
        eBind H fun r5 hr5 H =>
        eCk H fun h6 H =>
        eN H fun r hn => gO [rg [{ i := 1, call := some { cl := true, auto := true, ins := [0], res := (Rs_l1Cur_one r3), G' := (Ns_l1Cur_one r3) }, dec := some true }], rg [hC 2 true [0] (Rs_l1Cur_pick r5) (Ns_l1Cur_pick r5)], rg [hA 4 ((l7 ++ [r5.1]).length) (List.map I (l7 ++ [r5.1]))], r0, .canon [0, 1, 2, 5] [0, 1, 4, 5, 6]] (by kernel_rfl) (PI (1 : Nat) <| P1 (cs_l1Cur_one hr3) <| P2 (r3.1 = true) (h4) <| PI (1 : Nat) <| P1 (cs_l1Cur_pick hr5) <| P1 (apL l7 [r5.1]) <| P1 (apB h6) <| P1 (apM I l7 [r5.1]) <| P0) hn)
      (fun h4 H =>
        eCk H fun h5 H =>
        eN H fun r hn => gO [rg [{ i := 1, call := some { cl := true, auto := true, ins := [0], res := (Rs_l1Cur_one r3), G' := (Ns_l1Cur_one r3) }, dec := some false }], rg [hA 4 ((l7 ++ [0]).length) (List.map I (l7 ++ [0]))], r0, .canon [0, 1, 2, 5] [0, 1, 4, 5, 6]] (by kernel_rfl) (PI (1 : Nat) <| P1 (cs_l1Cur_one hr3) <| P2 (r3.1 = false) (eqF h4) <| P1 (apL l7 [0]) <| P1 (apB h5) <| P1 (apM I l7 [0]) <| P0) hn))
    (fun h2 H =>
      eBind H fun r3 hr3 H =>
      eBind H fun r4 hr4 H =>
      eN H <| gE func109 [rg [{ i := 2, call := some { cl := false, ins := [], args := [.agg [I b5, I b6, sl 1 I l7, sl 1 I [], sl 1 I []]], res := RI r1, G' := [] } }, hF 3], rg [{ i := 2, call := some { cl := true, ins := [0], args := [.ptr 0 3 0 0, .agg [I b5, I b6, .hid, .hid, .hid]], res := Rs_l1Cur_edges_u1_2_3_4 r3, G' := Ns_l1Cur_edges_u1_2_3_4 r3 } }], rg [{ i := 2, call := some { cl := true, ins := [0], args := [.ptr 0 3 0 0, .agg [I b5, I b6, .hid, .hid, .hid]], res := Rs_l1Cur_edges_u1_2_3_4 r4, G' := Ns_l1Cur_edges_u1_2_3_4 r4 } }], r0] (by kernel_rfl) (PI (b5 : Int) <| PI (b6 : Int) <| PL I l7 <| PI (0 : Nat) <| PI ([] : List D) <| PI (0 : Nat) <| PI ([] : List D) <| P1 (cs_mSize hr1) <| P2 ((decide (i1 < r1)) = false) (decide_eq_false h2) <| PI (0 : Nat) <| PI (0 : Nat) <| PI (b5 : Int) <| PI (b6 : Int) <| PI (1 : Nat) <| P1 (cs_l1Cur_edges_u1_2_3_4 hr3) <| PI (0 : Nat) <| PI (0 : Nat) <| PI (b5 : Int) <| PI (b6 : Int) <| PI (1 : Nat) <| P1 (cs_l1Cur_edges_u1_2_3_4 hr4) <| P0))
theorem ws_l1Cur_mapOf : ∀ s r, loop Bs_l1Cur_mapOf s = some r → Wc X 109 1 (Ks_l1Cur_mapOf s) (Zs_l1Cur_mapOf s) (Rs_l1Cur_mapOf r) (Ns_l1Cur_mapOf r) := Nx.all ns_l1Cur_mapOf
theorem cs_l1Cur_mapOf {a0 : Gs_l1Cur} {a1 : Int} {r : Gi_Map × Gs_l1Cur} (H : Ds_l1Cur_mapOf a0 a1 = some r) : Ct X.P X.gl 109 [.ptr 0 3 0 0, I a1] [⟨false, true, 3, 1, [.agg [sl 1 (D.int .u8) a0.code, I a0.at_, .int .u64 a0.seed]]⟩] (Rs_l1Cur_mapOf r) (Ns_l1Cur_mapOf r) :=
  Ct.of func109 (c := bdy f109) (by kernel_rfl) (by kernel_rfl) <|
  eBind H fun r1 hr1 H =>
  eBind H fun r2 hr2 H =>
  gO [r0, rg [hC 1 true [0] (Rs_l1Cur_pick r1) (Ns_l1Cur_pick r1), hC 4 true [0] (Rs_l1Cur_pick r2) (Ns_l1Cur_pick r2)], r0, .canon [0, 1, 2] [0, 1, 4, 5, 6]] (by kernel_rfl) (PI (1 : Nat) <| P1 (cs_l1Cur_pick hr1) <| PI (1 : Nat) <| P1 (cs_l1Cur_pick hr2) <| P0) (ws_l1Cur_mapOf _ _ H)
/-!   loop example/g00886/spec l1Cur  among -/
def Rs_l1Cur_among (r : Int × Gs_l1Cur) : List D := [I r.1]
def Ns_l1Cur_among (r : Int × Gs_l1Cur) : List Root := [⟨false, true, 3, 1, [.agg [sl 1 (D.int .u8) r.2.code, I r.2.at_, .int .u64 r.2.seed]]⟩]
theorem cs_l1Cur_among {a0 : Gs_l1Cur} {a1 : (List Int)} {r : Int × Gs_l1Cur} (H : Ds_l1Cur_among a0 a1 = some r) : Ct X.P X.gl 68 [.ptr 0 3 0 0, sl 1 I a1] [⟨false, true, 3, 1, [.agg [sl 1 (D.int .u8) a0.code, I a0.at_, .int .u64 a0.seed]]⟩] (Rs_l1Cur_among r) (Ns_l1Cur_among r) :=
  Ct.of func68 (c := bdy f68) (by kernel_rfl) (by kernel_rfl) <|
  eBind H fun r1 hr1 H =>
  eCk H fun h2 H =>
  eBind H fun x3 hx3 H =>
  eW Rs_l1Cur_among Ns_l1Cur_among H <| gE func68 [r0, rg [hC 4 true [0] (Rs_l1Cur_pick r1) (Ns_l1Cur_pick r1), hE 6 (I x3)]] (by kernel_rfl) (PI (1 : Nat) <| P1 (cs_l1Cur_pick hr1) <| P1 h2 <| P1 (int_lt_of_at h2 hx3) <| P1 (at_map I hx3) <| P0)
/-!   loop example/g00886/spec l1Cur  anyMap -/
def Rs_l1Cur_anyMap (r : Gi_Map × Gs_l1Cur) : List D := [.agg [I r.1.Width, I r.1.Height, ow 1 I r.1.Terrain, ow 1 I r.1.Rivers, ow 1 I r.1.Roads]]
def Ns_l1Cur_anyMap (r : Gi_Map × Gs_l1Cur) : List Root := [⟨false, true, 3, 1, [.agg [sl 1 (D.int .u8) r.2.code, I r.2.at_, .int .u64 r.2.seed]]⟩]
theorem cs_l1Cur_anyMap {a0 : Gs_l1Cur} {r : Gi_Map × Gs_l1Cur} (H : Ds_l1Cur_anyMap a0 = some r) : Ct X.P X.gl 49 [.ptr 0 3 0 0] [⟨false, true, 3, 1, [.agg [sl 1 (D.int .u8) a0.code, I a0.at_, .int .u64 a0.seed]]⟩] (Rs_l1Cur_anyMap r) (Ns_l1Cur_anyMap r) :=
  Ct.of func49 (c := bdy f49) (by kernel_rfl) (by kernel_rfl) <|
  eBind H fun r1 hr1 H =>
  eBind H fun r2 hr2 H =>
  gS [r0, rg [hC 1 true [0] (Rs_l1Cur_mapOf r1) (Ns_l1Cur_mapOf r1)], rg [hC 1 true [0] (Rs_l1Cur_pick r2) (Ns_l1Cur_pick r2)]] (by kernel_rfl) (PI (1 : Nat) <| P1 (cs_l1Cur_mapOf hr1) <| PI (1 : Nat) <| P1 (cs_l1Cur_pick hr2) <| P0) <|
  eIf H (fun h3 H =>
    eBind H fun r4 hr4 H =>
    eW Rs_l1Cur_anyMap Ns_l1Cur_anyMap H <| gE func49 [rg [hT 0], rg [{ i := 5, frz := [8], call := some { cl := true, auto := true, ins := [0], res := (Rs_l1Cur_among r4), G' := (Ns_l1Cur_among r4) } }], r0] (by kernel_rfl) (P2 (((r2.1 : Int) == 0) = true) (beqT h3) <| PI (1 : Nat) <| P1 (cs_l1Cur_among hr4) <| P0))
  (fun h3 H =>
    gS [rg [hF 0]] (by kernel_rfl) (P2 (((r2.1 : Int) == 0) = false) (beqF h3) <| P0) <|
    eIf H (fun h4 H =>
      eBind H fun r5 hr5 H =>
      eBind H fun x6 hx6 H =>
      eW Rs_l1Cur_anyMap Ns_l1Cur_anyMap H <| gE func49 [rg [hT 0], rg [{ i := 4, frz := [8], call := some { cl := true, auto := true, ins := [0], res := (Rs_l1Cur_among r5), G' := (Ns_l1Cur_among r5) } }, hA 6 ((List.set r1.1.Terrain (Int.toNat 0) r5.1).length) (List.map I (List.set r1.1.Terrain (Int.toNat 0) r5.1))], r0] (by kernel_rfl) (P2 (((r2.1 : Int) == 1) = true) (beqT h4) <| PI (1 : Nat) <| P1 (cs_l1Cur_among hr5) <| P2 ((0 : Int) ≤ 0) (by decide) <| P1 (int_lt_of_at (by decide : (0 : Int) ≤ 0) hx6) <| P1 (lt_of_at hx6) <| P2 (setCells (List.map I r1.1.Terrain) (Int.toNat 0) 0 [I r5.1] = List.map I (List.set r1.1.Terrain (Int.toNat 0) r5.1)) (setCells_map hx6 rfl) <| P1 (setLen r1.1.Terrain (Int.toNat 0) r5.1) <| P0))
    (fun h4 H =>
      gS [rg [hF 0]] (by kernel_rfl) (P2 (((r2.1 : Int) == 1) = false) (beqF h4) <| P0) <|
      eIf H (fun h5 H =>
        eBind H fun r6 hr6 H =>
        eBind H fun r7 hr7 H =>
        eBind H fun r8 hr8 H =>
        eCk H fun h9 H =>
        eW Rs_l1Cur_anyMap Ns_l1Cur_anyMap H <| gE func49 [rg [hT 0], rg [hC 4 false [] (RI r6) [], hC 7 false [] (RI r7) [], { i := 11, frz := [8], call := some { cl := true, auto := true, ins := [0], res := (Rs_l1Cur_among r8), G' := (Ns_l1Cur_among r8) } }, hA 13 ((r1.1.Rivers ++ [r8.1]).length) (List.map I (r1.1.Rivers ++ [r8.1]))], r0] (by kernel_rfl) (P2 (((r2.1 : Int) == 2) = true) (beqT h5) <| P1 (cs_mSize hr6) <| P1 (cs_mSize hr7) <| PI (1 : Nat) <| P1 (cs_l1Cur_among hr8) <| P1 (apL r1.1.Rivers [r8.1]) <| P1 (apB h9) <| P1 (apM I r1.1.Rivers [r8.1]) <| P0))
      (fun h5 H =>
        gS [rg [hF 0]] (by kernel_rfl) (P2 (((r2.1 : Int) == 2) = false) (beqF h5) <| P0) <|
        eIf H (fun h6 H =>
          eCk H fun h7 H =>
          eW Rs_l1Cur_anyMap Ns_l1Cur_anyMap H <| gE func49 [rg [hT 0], rg [{ i := 3, keep := true, n := ([2] ++ r1.1.Roads).length, xs := List.map I ([2] ++ r1.1.Roads) }], r0] (by kernel_rfl) (P2 (((r2.1 : Int) == 3) = true) (beqT h6) <| P2 (AllFl (List.map I r1.1.Roads)) (allFl_3 _) <| P1 (apL [2] r1.1.Roads) <| P1 (apB h7) <| P1 (apM I [2] r1.1.Roads) <| P0))
        (fun h6 H =>
          eW Rs_l1Cur_anyMap Ns_l1Cur_anyMap H <| gE func49 [rg [hF 0], r0] (by kernel_rfl) (P2 (((r2.1 : Int) == 3) = false) (beqF h6) <| P0)))))
/-! loop example/g00886/spec l1Most -/
theorem cs_l1Most {a0 : Int} {a1 : Int} {r : Int} (H : Ds_l1Most a0 a1 = some r) : Ct X.P X.gl 111 [I a0, I a1] [] (RI r) [] :=
  Ct.of func111 (c := bdy f111) (by kernel_rfl) (by kernel_rfl) <|
  gS [r0] (by kernel_rfl) P0 <|
  eIf H (fun h1 H =>
    eW RI (fun _ => []) H <| gE func111 [rg [hT 2], r0] (by kernel_rfl) (P2 ((decide (a0 > a1)) = true) (decide_eq_true h1) <| P0))
  (fun h1 H =>
    eW RI (fun _ => []) H <| gE func111 [rg [hF 2], r0] (by kernel_rfl) (P2 ((decide (a0 > a1)) = false) (decide_eq_false h1) <| P0))
/-!   loop example/g00886/spec l1Cur  place -/
def Rs_l1Cur_place_u1_2_3_4 (r : Int × Gs_l1Cur) : List D := [I r.1]
def Ns_l1Cur_place_u1_2_3_4 (r : Int × Gs_l1Cur) : List Root := [⟨false, true, 3, 1, [.agg [sl 1 (D.int .u8) r.2.code, I r.2.at_, .int .u64 r.2.seed]]⟩]
theorem cs_l1Cur_place_u1_2_3_4 {a0 : Gs_l1Cur} {a1 : Gi_Map} {r : Int × Gs_l1Cur} (H : Ds_l1Cur_place a0 a1 = some r) : Ct X.P X.gl 50 [.ptr 0 3 0 0, .agg [I a1.Width, I a1.Height, .hid, .hid, .hid]] [⟨false, true, 3, 1, [.agg [sl 1 (D.int .u8) a0.code, I a0.at_, .int .u64 a0.seed]]⟩] (Rs_l1Cur_place_u1_2_3_4 r) (Ns_l1Cur_place_u1_2_3_4 r) :=
  Ct.of func50 (c := bdy f50) (by kernel_rfl) (by kernel_rfl) <|
  eBind H fun r1 hr1 H =>
  gS [r0] (by kernel_rfl) P0 <|
  eIf H (fun h2 H =>
    eBind H fun r3 hr3 H =>
    eBind H fun r4 hr4 H =>
    eW Rs_l1Cur_place_u1_2_3_4 Ns_l1Cur_place_u1_2_3_4 H <| gE func50 [rg [{ i := 1, call := some { cl := true, auto := true, ins := [0], res := (Rs_l1Cur_one r1), G' := (Ns_l1Cur_one r1) }, dec := some true }], rg [{ i := 2, call := some { cl := true, ins := [], args := [.agg [I a1.Width, I a1.Height, .hid, .hid, .hid]], res := RI r3, G' := [] } }, { i := 4, frz := [2], call := some { cl := true, auto := true, ins := [0], res := (Rs_l1Cur_among r4), G' := (Ns_l1Cur_among r4) } }]] (by kernel_rfl) (PI (1 : Nat) <| P1 (cs_l1Cur_one hr1) <| P2 (r1.1 = true) (h2) <| PI (a1.Width : Int) <| PI (a1.Height : Int) <| P1 (cs_mSize_u0_2_3_4 hr3) <| PI (1 : Nat) <| P1 (cs_l1Cur_among hr4) <| P0))
  (fun h2 H =>
    eBind H fun r3 hr3 H =>
    eBind H fun r4 hr4 H =>
    eBind H fun r5 hr5 H =>
    eW Rs_l1Cur_place_u1_2_3_4 Ns_l1Cur_place_u1_2_3_4 H <| gE func50 [rg [{ i := 1, call := some { cl := true, auto := true, ins := [0], res := (Rs_l1Cur_one r1), G' := (Ns_l1Cur_one r1) }, dec := some false }], rg [{ i := 2, call := some { cl := true, ins := [], args := [.agg [I a1.Width, I a1.Height, .hid, .hid, .hid]], res := RI r3, G' := [] } }, hC 3 true [] (RI r4) [], hC 4 true [0] (Rs_l1Cur_pick r5) (Ns_l1Cur_pick r5)]] (by kernel_rfl) (PI (1 : Nat) <| P1 (cs_l1Cur_one hr1) <| P2 (r1.1 = false) (eqF h2) <| PI (a1.Width : Int) <| PI (a1.Height : Int) <| P1 (cs_mSize_u0_2_3_4 hr3) <| P1 (cs_l1Most hr4) <| PI (1 : Nat) <| P1 (cs_l1Cur_pick hr5) <| P0))
/-! loop example/g00886/spec DrawHexAt -/
def Rs_DrawHexAt (r : Gi_Map × Int) : List D := [.agg [I r.1.Width, I r.1.Height, ow 1 I r.1.Terrain, ow 1 I r.1.Rivers, ow 1 I r.1.Roads], I r.2]
theorem cs_DrawHexAt {a0 : (List Int)} {r : Gi_Map × Int} (H : Ds_DrawHexAt a0 = some r) : Ct X.P X.gl 7 [sl 1 (D.int .u8) a0] [] (Rs_DrawHexAt r) [] :=
  Ct.of func7 (c := bdy f7) (by kernel_rfl) (by kernel_rfl) <|
  eBind H fun r1 hr1 H =>
  eBind H fun r2 hr2 H =>
  eW Rs_DrawHexAt (fun _ => []) H <| gE func7 [r0, r0, rg [hC 1 true [1] (Rs_l1Cur_anyMap r1) (Ns_l1Cur_anyMap r1)], rg [{ i := 3, call := some { cl := true, ins := [1], args := [.ptr 0 3 0 0, .agg [I r1.1.Width, I r1.1.Height, .hid, .hid, .hid]], res := Rs_l1Cur_place_u1_2_3_4 r2, G' := Ns_l1Cur_place_u1_2_3_4 r2 } }]] (by kernel_rfl) (PI (1 : Nat) <| P1 (cs_l1Cur_anyMap hr1) <| PI (0 : Nat) <| PI (0 : Nat) <| PI (r1.1.Width : Int) <| PI (r1.1.Height : Int) <| PI (1 : Nat) <| P1 (cs_l1Cur_place_u1_2_3_4 hr2) <| P0)
/-! loop example/g00886/impl inRange -/
theorem ci_inRange {a0 : Int} {a1 : Int} {a2 : Int} {r : Bool} (H : Di_inRange a0 a1 a2 = some r) : Ct X.P X.gl 69 [I a0, I a1, I a2] [] (RB r) [] :=
  Ct.of func69 (c := bdy f69) (by kernel_rfl) (by kernel_rfl) <|
  gS [r0] (by kernel_rfl) P0 <|
  eIf H (fun h1 H =>
    eW RB (fun _ => []) H <| gE func69 [rg [hT 2]] (by kernel_rfl) (P2 ((decide (a1 ≤ a0)) = true) (decide_eq_true h1) <| P0))
  (fun h1 H =>
    eW RB (fun _ => []) H <| gE func69 [rg [hF 2]] (by kernel_rfl) (P2 ((decide (a1 ≤ a0)) = false) (decide_eq_false h1) <| P0))
/-! loop example/g00886/impl isIndex -/
theorem ci_isIndex {a0 : Int} {a1 : Int} {r : Bool} (H : Di_isIndex a0 a1 = some r) : Ct X.P X.gl 77 [I a0, I a1] [] (RB r) [] :=
  Ct.of func77 (c := bdy f77) (by kernel_rfl) (by kernel_rfl) <|
  eBind H fun r1 hr1 H =>
  eW RB (fun _ => []) H <| gE func77 [r0, rg [hC 3 true [] (RB r1) []]] (by kernel_rfl) (P1 (ci_inRange hr1) <| P0)
/-! loop example/g00886/impl increasing -/
noncomputable def Ki_increasing : Si_increasing → List Item
  | .h1 .. => nav 300 2 [] [.code (bdy f112)]
def Zi_increasing : Si_increasing → St
  | .h1 list0 i1 => ⟨sts 20 [(0, sl 1 I list0), (3, I i1)], []⟩
abbrev Qi_increasing := Nx X 112 0 Ki_increasing Zi_increasing RB (fun _ => [])
theorem ni_increasing : ∀ s o, Bi_increasing s = some o → Qi_increasing (Ki_increasing s) (Zi_increasing s) o
  | .h1 list0 i1, o, H =>
    eIf H (fun h1 H =>
      eCk H fun h2 H =>
      eBind H fun x3 hx3 H =>
      eCk H fun h4 H =>
      eBind H fun x5 hx5 H =>
      gN [rg [hT 3]] (by kernel_rfl) (P2 ((decide (i1 < ((list0.length : Nat) : Int))) = true) (decide_eq_true h1) <| P0) <|
      eIf H (fun h6 H =>
        eN H <| gE func112 [rg [hE 4 (I x3), hE 8 (I x5), hT 9], r0] (by kernel_rfl) (P1 h2 <| P1 (int_lt_of_at h2 hx3) <| P1 (at_map I hx3) <| P1 h4 <| P1 (int_lt_of_at h4 hx5) <| P1 (at_map I hx5) <| P2 ((decide (x3 ≥ x5)) = true) (decide_eq_true h6) <| P0))
      (fun h6 H =>
        eN H fun r hn => gO [rg [hE 4 (I x3), hE 8 (I x5), hF 9], r0, .canon [] [0, 3]] (by kernel_rfl) (P1 h2 <| P1 (int_lt_of_at h2 hx3) <| P1 (at_map I hx3) <| P1 h4 <| P1 (int_lt_of_at h4 hx5) <| P1 (at_map I hx5) <| P2 ((decide (x3 ≥ x5)) = false) (decide_eq_false h6) <| P0) hn))
    (fun h1 H =>
      eN H <| gE func112 [rg [hF 3], r0] (by kernel_rfl) (P2 ((decide (i1 < ((list0.length : Nat) : Int))) = false) (decide_eq_false h1) <| P0))
theorem wi_increasing : ∀ s r, loop Bi_increasing s = some r → Wc X 112 0 (Ki_increasing s) (Zi_increasing s) (RB r) ((fun _ => []) r) := Nx.all ni_increasing
theorem ci_increasing {a0 : (List Int)} {r : Bool} (H : Di_increasing a0 = some r) : Ct X.P X.gl 112 [sl 1 I a0] [] (RB r) [] :=
  Ct.of func112 (c := bdy f112) (by kernel_rfl) (by kernel_rfl) <|
  gO [r0, r0, .canon [] [0, 3]] (by kernel_rfl) P0 (wi_increasing _ _ H)
/-! loop example/g00886/impl hexOf -/
def Ri_hexOf (r : Gi_Hex) : List D := [.agg [I r.Q, I r.R]]
theorem ci_hexOf {a0 : Gi_Map} {a1 : Int} {r : Gi_Hex} (H : Di_hexOf a0 a1 = some r) : Ct X.P X.gl 52 [.agg [I a0.Width, I a0.Height, sl 1 I a0.Terrain, sl 1 I a0.Rivers, sl 1 I a0.Roads], I a1] [] (Ri_hexOf r) [] :=
  Ct.of func52 (c := bdy f52) (by kernel_rfl) (by kernel_rfl) <|
  eCk H fun h1 H =>
  eCk H fun h2 H =>
  eW Ri_hexOf (fun _ => []) H <| gE func52 [r0, r0] (by kernel_rfl) (P2 (¬ (a0.Width : Int) = 0) h1 <| P2 (¬ (a0.Width : Int) = 0) h2 <| P0)
/-! loop example/g00886/impl stepBy -/
def Ri_stepBy (r : Gi_Hex) : List D := [.agg [I r.Q, I r.R]]
theorem ci_stepBy {a0 : Gi_Hex} {a1 : Int} {a2 : Int} {r : Gi_Hex} (H : Di_stepBy a0 a1 a2 = some r) : Ct X.P X.gl 122 [.agg [I a0.Q, I a0.R], I a1, I a2] [] (Ri_stepBy r) [] :=
  Ct.of func122 (c := bdy f122) (by kernel_rfl) (by kernel_rfl) <|
  eCk H fun h1 H =>
  eBind H fun x2 hx2 H =>
  eCk H fun h3 H =>
  eBind H fun x4 hx4 H =>
  eW Ri_stepBy (fun _ => []) H <| gE func122 [r0, rg [{ i := 6, xs := [I x2.Q] }, { i := 15, xs := [I x4.R] }]] (by kernel_rfl) (P1 h1 <| P2 (a1 < ((6 : Nat) : Int)) (int_lt_of_at h1 hx2) <| P2 (getCells gc0 0 (0 + Int.toNat a1 * 2 + 0) 1 = some [I x2.Q]) (flat_at (enc := gi_Hex) (w := 2) (off := 0) (fun _ => rfl) hx2 (by omega) (by decide)) <| P1 h3 <| P2 (a1 < ((6 : Nat) : Int)) (int_lt_of_at h3 hx4) <| P2 (getCells gc0 0 (0 + Int.toNat a1 * 2 + 1) 1 = some [I x4.R]) (flat_at (enc := gi_Hex) (w := 2) (off := 1) (fun _ => rfl) hx4 (by omega) (by decide)) <| P0)
/-! loop example/g00886/impl indexOf -/
theorem ci_indexOf {a0 : Gi_Map} {a1 : Gi_Hex} {r : Int} (H : Di_indexOf a0 a1 = some r) : Ct X.P X.gl 56 [.agg [I a0.Width, I a0.Height, sl 1 I a0.Terrain, sl 1 I a0.Rivers, sl 1 I a0.Roads], .agg [I a1.Q, I a1.R]] [] (RI r) [] :=
  Ct.of func56 (c := bdy f56) (by kernel_rfl) (by kernel_rfl) <|
  eBind H fun r1 hr1 H =>
  gS [r0] (by kernel_rfl) P0 <|
  eIf H (fun h2 H =>
    eBind H fun r3 hr3 H =>
    eIf H (fun h4 H =>
      eW RI (fun _ => []) H <| gE func56 [rg [{ i := 4, call := some { cl := true, auto := true, ins := [], res := (RB r1), G' := [] }, dec := some true }, { i := 11, call := some { cl := true, auto := true, ins := [], res := (RB r3), G' := [] }, dec := some true }], r0] (by kernel_rfl) (P1 (ci_isIndex hr1) <| P2 (r1 = true) (h2) <| P1 (ci_isIndex hr3) <| P2 (r3 = true) (h4) <| P0))
    (fun h4 H =>
      eW RI (fun _ => []) H <| gE func56 [rg [{ i := 4, call := some { cl := true, auto := true, ins := [], res := (RB r1), G' := [] }, dec := some true }, { i := 11, call := some { cl := true, auto := true, ins := [], res := (RB r3), G' := [] }, dec := some false }], r0] (by kernel_rfl) (P1 (ci_isIndex hr1) <| P2 (r1 = true) (h2) <| P1 (ci_isIndex hr3) <| P2 (r3 = false) (eqF h4) <| P0)))
  (fun h2 H =>
    eW RI (fun _ => []) H <| gE func56 [rg [{ i := 4, call := some { cl := true, auto := true, ins := [], res := (RB r1), G' := [] }, dec := some false }], r0] (by kernel_rfl) (P1 (ci_isIndex hr1) <| P2 (r1 = false) (eqF h2) <| P0))
/-! loop example/g00886/impl nextTo -/
theorem ci_nextTo {a0 : Gi_Map} {a1 : Int} {a2 : Int} {r : Int} (H : Di_nextTo a0 a1 a2 = some r) : Ct X.P X.gl 67 [.agg [I a0.Width, I a0.Height, sl 1 I a0.Terrain, sl 1 I a0.Rivers, sl 1 I a0.Roads], I a1, I a2] [] (RI r) [] :=
  Ct.of func67 (c := bdy f67) (by kernel_rfl) (by kernel_rfl) <|
  eBind H fun r1 hr1 H =>
  eBind H fun r2 hr2 H =>
  eBind H fun r3 hr3 H =>
  eW RI (fun _ => []) H <| gE func67 [r0, rg [hC 3 true [] (Ri_hexOf r1) [], hC 5 true [] (Ri_stepBy r2) [], hC 6 true [] (RI r3) []]] (by kernel_rfl) (P1 (ci_hexOf hr1) <| P1 (ci_stepBy hr2) <| P1 (ci_indexOf hr3) <| P0)
/-! loop example/g00886/impl isEdge -/
theorem ci_isEdge {a0 : Gi_Map} {a1 : Int} {r : Bool} (H : Di_isEdge a0 a1 = some r) : Ct X.P X.gl 113 [.agg [I a0.Width, I a0.Height, sl 1 I a0.Terrain, sl 1 I a0.Rivers, sl 1 I a0.Roads], I a1] [] (RB r) [] :=
  Ct.of func113 (c := bdy f113) (by kernel_rfl) (by kernel_rfl) <|
  eBind H fun r1 hr1 H =>
  gS [r0] (by kernel_rfl) P0 <|
  eIf H (fun h2 H =>
    eBind H fun r3 hr3 H =>
    eW RB (fun _ => []) H <| gE func113 [rg [{ i := 8, call := some { cl := true, auto := true, ins := [], res := (RB r1), G' := [] }, dec := some true }, hC 15 true [] (RI r3) []]] (by kernel_rfl) (P1 (ci_inRange hr1) <| P2 (r1 = true) (h2) <| P2 (¬ (3 : Int) = 0) (by decide) <| P2 (¬ (3 : Int) = 0) (by decide) <| P1 (ci_nextTo hr3) <| P0))
  (fun h2 H =>
    eW RB (fun _ => []) H <| gE func113 [rg [{ i := 8, call := some { cl := true, auto := true, ins := [], res := (RB r1), G' := [] }, dec := some false }]] (by kernel_rfl) (P1 (ci_inRange hr1) <| P2 (r1 = false) (eqF h2) <| P0))
/-! loop example/g00886/impl IsMap -/
noncomputable def Ki_IsMap : Si_IsMap → List Item
  | .h1 .. => nav 300 3 [false] [.code (bdy f55)]
  | .h2 .. => nav 300 5 [false, false] [.code (bdy f55)]
  | .h3 .. => nav 300 9 [false, false, true, false] [.code (bdy f55)]
def Zi_IsMap : Si_IsMap → St
  | .h1 t0 t1 t2 b3 => ⟨sts 66 [(1, .ptr 0 5 0 0), (31, sl 1 I t0), (32, I t1), (33, I t2)], [some ⟨false, true, 5, 1, [.agg [I b3.Width, I b3.Height, sl 1 I b3.Terrain, sl 1 I b3.Rivers, sl 1 I b3.Roads]]⟩]⟩
  | .h2 t0 t1 b2 l3 => ⟨sts 66 [(1, .ptr 0 5 0 0), (45, .ref 1 1 none), (46, I t0), (47, I t1)], [some ⟨false, true, 5, 1, [.agg [I b2.Width, I b2.Height, sl 1 I b2.Terrain, sl 1 I b2.Rivers, sl 1 I b2.Roads]]⟩, some ⟨false, false, 1, l3.length, List.map (sl 1 I) l3⟩]⟩
  | .h3 t0 t1 t2 t3 t4 b5 l6 => ⟨sts 66 [(1, .ptr 0 5 0 0), (45, .ref 1 1 none), (46, I t0), (47, I t1), (54, sl 1 I t2), (55, I t3), (56, I t4)], [some ⟨false, true, 5, 1, [.agg [I b5.Width, I b5.Height, sl 1 I b5.Terrain, sl 1 I b5.Rivers, sl 1 I b5.Roads]]⟩, some ⟨false, false, 1, l6.length, List.map (sl 1 I) l6⟩]⟩
abbrev Qi_IsMap := Nx X 55 0 Ki_IsMap Zi_IsMap RB (fun _ => [])
theorem ni_IsMap : ∀ s o, Bi_IsMap s = some o → Qi_IsMap (Ki_IsMap s) (Zi_IsMap s) o
  | .h1 t0 t1 t2 b3, o, H =>
    eIf H (fun h1 H =>
      eCk H fun h2 H =>
      eBind H fun x3 hx3 H =>
      eBind H fun r4 hr4 H =>
      gN [rg [hT 0], rg [hE 1 (I x3)]] (by kernel_rfl) (P2 ((decide (t2 < t1)) = true) (decide_eq_true h1) <| P1 h2 <| P1 (int_lt_of_at h2 hx3) <| P1 (at_map I hx3) <| P0) <|
      eIf H (fun h5 H =>
        eN H fun r hn => gO [rg [{ i := 1, call := some { cl := true, auto := true, ins := [], res := (RB r4), G' := [] }, dec := some true }], r0, .canon [0] [1, 31, 32, 33]] (by kernel_rfl) (P1 (ci_isIndex hr4) <| P2 (r4 = true) (h5) <| P0) hn)
      (fun h5 H =>
        eN H <| gE func55 [rg [{ i := 1, call := some { cl := true, auto := true, ins := [], res := (RB r4), G' := [] }, dec := some false }], r0] (by kernel_rfl) (P1 (ci_isIndex hr4) <| P2 (r4 = false) (eqF h5) <| P0)))
    (fun h1 H =>
      eN H fun r hn => gO [rg [hF 0], r0, .canon [0, 1] [1, 45, 46, 47]] (by kernel_rfl) (P2 ((decide (t2 < t1)) = false) (decide_eq_false h1) <| P0) hn)
  | .h2 t0 t1 b2 l3, o, H =>
    eIf H (fun h1 H =>
      eCk H fun h2 H =>
      eBind H fun x3 hx3 H =>
      eBind H fun r4 hr4 H =>
      gN [rg [hT 0], rg [hE 1 ((sl 1 I) x3)]] (by kernel_rfl) (P2 ((decide (t1 < t0)) = true) (decide_eq_true h1) <| P1 h2 <| P1 (int_lt_of_at h2 hx3) <| P1 (at_map (sl 1 I) hx3) <| P0) <|
      eIf H (fun h5 H =>
        eN H fun r hn => gO [rg [{ i := 1, call := some { cl := true, auto := true, ins := [], res := (RB r4), G' := [] }, dec := some true }], r0, .canon [0, 1] [1, 45, 46, 47, 54, 55, 56]] (by kernel_rfl) (P1 (ci_increasing hr4) <| P2 (r4 = true) (h5) <| P0) hn)
      (fun h5 H =>
        eN H <| gE func55 [rg [{ i := 1, call := some { cl := true, auto := true, ins := [], res := (RB r4), G' := [] }, dec := some false }], r0] (by kernel_rfl) (P1 (ci_increasing hr4) <| P2 (r4 = false) (eqF h5) <| P0)))
    (fun h1 H =>
      eN H <| gE func55 [rg [hF 0], r0] (by kernel_rfl) (P2 ((decide (t1 < t0)) = false) (decide_eq_false h1) <| P0))
  | .h3 t0 t1 t2 t3 t4 b5 l6, o, H =>
    eIf H (fun h1 H =>
      eCk H fun h2 H =>
      eBind H fun x3 hx3 H =>
      eBind H fun r4 hr4 H =>
      gN [rg [hT 0], rg [hE 1 (I x3)]] (by kernel_rfl) (P2 ((decide (t4 < t3)) = true) (decide_eq_true h1) <| P1 h2 <| P1 (int_lt_of_at h2 hx3) <| P1 (at_map I hx3) <| P0) <|
      eIf H (fun h5 H =>
        eN H fun r hn => gO [rg [{ i := 2, call := some { cl := true, auto := true, ins := [], res := (RB r4), G' := [] }, dec := some true }], r0, .canon [0, 1] [1, 45, 46, 47, 54, 55, 56]] (by kernel_rfl) (P1 (ci_isEdge hr4) <| P2 (r4 = true) (h5) <| P0) hn)
      (fun h5 H =>
        eN H <| gE func55 [rg [{ i := 2, call := some { cl := true, auto := true, ins := [], res := (RB r4), G' := [] }, dec := some false }], r0] (by kernel_rfl) (P1 (ci_isEdge hr4) <| P2 (r4 = false) (eqF h5) <| P0)))
    (fun h1 H =>
      eN H fun r hn => gO [rg [hF 0], r0, .canon [0, 1] [1, 45, 46, 47]] (by kernel_rfl) (P2 ((decide (t4 < t3)) = false) (decide_eq_false h1) <| P0) hn)
theorem wi_IsMap : ∀ s r, loop Bi_IsMap s = some r → Wc X 55 0 (Ki_IsMap s) (Zi_IsMap s) (RB r) ((fun _ => []) r) := Nx.all ni_IsMap
theorem ci_IsMap {a0 : Gi_Map} {r : Bool} (H : Di_IsMap a0 = some r) : Ct X.P X.gl 55 [.agg [I a0.Width, I a0.Height, sl 1 I a0.Terrain, sl 1 I a0.Rivers, sl 1 I a0.Roads]] [] (RB r) [] :=
  Ct.of func55 (c := bdy f55) (by kernel_rfl) (by kernel_rfl) <|
  eBind H fun r1 hr1 H =>
  gS [r0] (by kernel_rfl) P0 <|
  eIf H (fun h2 H =>
    eBind H fun r3 hr3 H =>
    eIf H (fun h4 H =>
      eIf H (fun h5 H =>
        gO [rg [{ i := 2, call := some { cl := true, auto := true, ins := [], res := (RB r1), G' := [] }, dec := some true }, { i := 7, call := some { cl := true, auto := true, ins := [], res := (RB r3), G' := [] }, dec := some true }, hF 19], r0, .canon [0] [1, 31, 32, 33]] (by kernel_rfl) (P1 (ci_inRange hr1) <| P2 (r1 = true) (h2) <| P1 (ci_inRange hr3) <| P2 (r3 = true) (h4) <| P2 (((((a0.Terrain.length : Nat) : Int) : Int) != (IntKind.wrap .i64 (a0.Width * a0.Height))) = false) (bneF h5) <| P0) (wi_IsMap _ _ H))
      (fun h5 H =>
        eW RB (fun _ => []) H <| gE func55 [rg [{ i := 2, call := some { cl := true, auto := true, ins := [], res := (RB r1), G' := [] }, dec := some true }, { i := 7, call := some { cl := true, auto := true, ins := [], res := (RB r3), G' := [] }, dec := some true }, hT 19], r0] (by kernel_rfl) (P1 (ci_inRange hr1) <| P2 (r1 = true) (h2) <| P1 (ci_inRange hr3) <| P2 (r3 = true) (h4) <| P2 (((((a0.Terrain.length : Nat) : Int) : Int) != (IntKind.wrap .i64 (a0.Width * a0.Height))) = true) (bneT h5) <| P0)))
    (fun h4 H =>
      eW RB (fun _ => []) H <| gE func55 [rg [{ i := 2, call := some { cl := true, auto := true, ins := [], res := (RB r1), G' := [] }, dec := some true }, { i := 7, call := some { cl := true, auto := true, ins := [], res := (RB r3), G' := [] }, dec := some false }], r0] (by kernel_rfl) (P1 (ci_inRange hr1) <| P2 (r1 = true) (h2) <| P1 (ci_inRange hr3) <| P2 (r3 = false) (eqF h4) <| P0)))
  (fun h2 H =>
    eW RB (fun _ => []) H <| gE func55 [rg [{ i := 2, call := some { cl := true, auto := true, ins := [], res := (RB r1), G' := [] }, dec := some false }], r0] (by kernel_rfl) (P1 (ci_inRange hr1) <| P2 (r1 = false) (eqF h2) <| P0))
/-! loop example/g00886/impl isPlace -/
theorem ci_isPlace {a0 : Gi_Map} {a1 : Int} {r : Bool} (H : Di_isPlace a0 a1 = some r) : Ct X.P X.gl 51 [.agg [I a0.Width, I a0.Height, sl 1 I a0.Terrain, sl 1 I a0.Rivers, sl 1 I a0.Roads], I a1] [] (RB r) [] :=
  Ct.of func51 (c := bdy f51) (by kernel_rfl) (by kernel_rfl) <|
  eBind H fun r1 hr1 H =>
  gS [r0] (by kernel_rfl) P0 <|
  eIf H (fun h2 H =>
    eBind H fun r3 hr3 H =>
    eW RB (fun _ => []) H <| gE func51 [rg [{ i := 1, call := some { cl := true, auto := true, ins := [], res := (RB r1), G' := [] }, dec := some true }, hC 9 true [] (RB r3) []]] (by kernel_rfl) (P1 (ci_IsMap hr1) <| P2 (r1 = true) (h2) <| P1 (ci_isIndex hr3) <| P0))
  (fun h2 H =>
    eW RB (fun _ => []) H <| gE func51 [rg [{ i := 1, call := some { cl := true, auto := true, ins := [], res := (RB r1), G' := [] }, dec := some false }]] (by kernel_rfl) (P1 (ci_IsMap hr1) <| P2 (r1 = false) (eqF h2) <| P0))
/-! loop example/g00886/impl HexAt -/
def Ri_HexAt (r : Gi_Hex × Bool) : List D := [.agg [I r.1.Q, I r.1.R], .bool r.2]
theorem ci_HexAt {a0 : Gi_Map} {a1 : Int} {r : Gi_Hex × Bool} (H : Di_HexAt a0 a1 = some r) : Ct X.P X.gl 8 [.agg [I a0.Width, I a0.Height, sl 1 I a0.Terrain, sl 1 I a0.Rivers, sl 1 I a0.Roads], I a1] [] (Ri_HexAt r) [] :=
  Ct.of func8 (c := bdy f8) (by kernel_rfl) (by kernel_rfl) <|
  eBind H fun r1 hr1 H =>
  gS [r0] (by kernel_rfl) P0 <|
  eIf H (fun h2 H =>
    eBind H fun r3 hr3 H =>
    eW Ri_HexAt (fun _ => []) H <| gE func8 [rg [{ i := 2, call := some { cl := true, auto := true, ins := [], res := (RB r1), G' := [] }, dec := some true }], rg [hC 2 true [] (Ri_hexOf r3) []]] (by kernel_rfl) (P1 (ci_isPlace hr1) <| P2 (r1 = true) (h2) <| P1 (ci_hexOf hr3) <| P0))
  (fun h2 H =>
    eW Ri_HexAt (fun _ => []) H <| gE func8 [rg [{ i := 2, call := some { cl := true, auto := true, ins := [], res := (RB r1), G' := [] }, dec := some false }], r0] (by kernel_rfl) (P1 (ci_isPlace hr1) <| P2 (r1 = false) (eqF h2) <| P0))
/-! loop example/g00886/spec l1All -/
noncomputable def Ks_l1All : Ss_l1All → List Item
  | .h1 .. => nav 300 2 [] [.code (bdy f114)]
def Zs_l1All : Ss_l1All → St
  | .h1 lo0 vhi1 t2 t3 t4 => ⟨sts 21 [(1, I lo0), (2, I vhi1), (9, sl 1 I t2), (10, I t3), (11, I t4)], []⟩
abbrev Qs_l1All := Nx X 114 0 Ks_l1All Zs_l1All RB (fun _ => [])
theorem ns_l1All : ∀ s o, Bs_l1All s = some o → Qs_l1All (Ks_l1All s) (Zs_l1All s) o
  | .h1 lo0 vhi1 t2 t3 t4, o, H =>
    eIf H (fun h1 H =>
      eCk H fun h2 H =>
      eBind H fun x3 hx3 H =>
      eBind H fun r4 hr4 H =>
      gN [rg [hT 0], rg [hE 1 (I x3)]] (by kernel_rfl) (P2 ((decide (t4 < t3)) = true) (decide_eq_true h1) <| P1 h2 <| P1 (int_lt_of_at h2 hx3) <| P1 (at_map I hx3) <| P0) <|
      eIf H (fun h5 H =>
        eN H fun r hn => gO [rg [{ i := 3, call := some { cl := true, auto := true, ins := [], res := (RB r4), G' := [] }, dec := some true }], r0, .canon [] [1, 2, 9, 10, 11]] (by kernel_rfl) (P1 (cs_l1In hr4) <| P2 (r4 = true) (h5) <| P0) hn)
      (fun h5 H =>
        eN H <| gE func114 [rg [{ i := 3, call := some { cl := true, auto := true, ins := [], res := (RB r4), G' := [] }, dec := some false }], r0] (by kernel_rfl) (P1 (cs_l1In hr4) <| P2 (r4 = false) (eqF h5) <| P0)))
    (fun h1 H =>
      eN H <| gE func114 [rg [hF 0], r0] (by kernel_rfl) (P2 ((decide (t4 < t3)) = false) (decide_eq_false h1) <| P0))
theorem ws_l1All : ∀ s r, loop Bs_l1All s = some r → Wc X 114 0 (Ks_l1All s) (Zs_l1All s) (RB r) ((fun _ => []) r) := Nx.all ns_l1All
theorem cs_l1All {a0 : (List Int)} {a1 : Int} {a2 : Int} {r : Bool} (H : Ds_l1All a0 a1 a2 = some r) : Ct X.P X.gl 114 [sl 1 I a0, I a1, I a2] [] (RB r) [] :=
  Ct.of func114 (c := bdy f114) (by kernel_rfl) (by kernel_rfl) <|
  gO [r0, r0, .canon [] [1, 2, 9, 10, 11]] (by kernel_rfl) P0 (ws_l1All _ _ H)
/-! loop example/g00886/spec l1Rising -/
noncomputable def Ks_l1Rising : Ss_l1Rising → List Item
  | .h1 .. => nav 300 2 [] [.code (bdy f145)]
def Zs_l1Rising : Ss_l1Rising → St
  | .h1 l0 lo1 vhi2 t3 t4 t5 => ⟨sts 35 [(0, sl 1 I l0), (1, I lo1), (2, I vhi2), (9, sl 1 I t3), (10, I t4), (11, I t5)], []⟩
abbrev Qs_l1Rising := Nx X 145 0 Ks_l1Rising Zs_l1Rising RB (fun _ => [])
theorem ns_l1Rising : ∀ s o, Bs_l1Rising s = some o → Qs_l1Rising (Ks_l1Rising s) (Zs_l1Rising s) o
  | .h1 l0 lo1 vhi2 t3 t4 t5, o, H =>
    eIf H (fun h1 H =>
      eCk H fun h2 H =>
      eBind H fun x3 hx3 H =>
      eBind H fun r4 hr4 H =>
      gN [rg [hT 0], rg [hE 2 (I x3)]] (by kernel_rfl) (P2 ((decide (t5 < t4)) = true) (decide_eq_true h1) <| P1 h2 <| P1 (int_lt_of_at h2 hx3) <| P1 (at_map I hx3) <| P0) <|
      eIf H (fun h5 H =>
        eIf H (fun h6 H =>
          eCk H fun h7 H =>
          eBind H fun x8 hx8 H =>
          eIf H (fun h9 H =>
            eN H <| gE func145 [rg [{ i := 3, call := some { cl := true, auto := true, ins := [], res := (RB r4), G' := [] }, dec := some true }, hT 7, hE 13 (I x8), hT 15], r0] (by kernel_rfl) (P1 (cs_l1In hr4) <| P2 (r4 = true) (h5) <| P2 ((decide (t5 > 0)) = true) (decide_eq_true h6) <| P1 h7 <| P1 (int_lt_of_at h7 hx8) <| P1 (at_map I hx8) <| P2 ((decide (x8 ≥ x3)) = true) (decide_eq_true h9) <| P0))
          (fun h9 H =>
            eN H fun r hn => gO [rg [{ i := 3, call := some { cl := true, auto := true, ins := [], res := (RB r4), G' := [] }, dec := some true }, hT 7, hE 13 (I x8), hF 15], r0, .canon [] [0, 1, 2, 9, 10, 11]] (by kernel_rfl) (P1 (cs_l1In hr4) <| P2 (r4 = true) (h5) <| P2 ((decide (t5 > 0)) = true) (decide_eq_true h6) <| P1 h7 <| P1 (int_lt_of_at h7 hx8) <| P1 (at_map I hx8) <| P2 ((decide (x8 ≥ x3)) = false) (decide_eq_false h9) <| P0) hn))
        (fun h6 H =>
          eN H fun r hn => gO [rg [{ i := 3, call := some { cl := true, auto := true, ins := [], res := (RB r4), G' := [] }, dec := some true }, hF 7], r0, .canon [] [0, 1, 2, 9, 10, 11]] (by kernel_rfl) (P1 (cs_l1In hr4) <| P2 (r4 = true) (h5) <| P2 ((decide (t5 > 0)) = false) (decide_eq_false h6) <| P0) hn))
      (fun h5 H =>
        eN H <| gE func145 [rg [{ i := 3, call := some { cl := true, auto := true, ins := [], res := (RB r4), G' := [] }, dec := some false }], r0] (by kernel_rfl) (P1 (cs_l1In hr4) <| P2 (r4 = false) (eqF h5) <| P0)))
    (fun h1 H =>
      eN H <| gE func145 [rg [hF 0], r0] (by kernel_rfl) (P2 ((decide (t5 < t4)) = false) (decide_eq_false h1) <| P0))
theorem ws_l1Rising : ∀ s r, loop Bs_l1Rising s = some r → Wc X 145 0 (Ks_l1Rising s) (Zs_l1Rising s) (RB r) ((fun _ => []) r) := Nx.all ns_l1Rising
theorem cs_l1Rising {a0 : (List Int)} {a1 : Int} {a2 : Int} {r : Bool} (H : Ds_l1Rising a0 a1 a2 = some r) : Ct X.P X.gl 145 [sl 1 I a0, I a1, I a2] [] (RB r) [] :=
  Ct.of func145 (c := bdy f145) (by kernel_rfl) (by kernel_rfl) <|
  gO [r0, r0, .canon [] [0, 1, 2, 9, 10, 11]] (by kernel_rfl) P0 (ws_l1Rising _ _ H)
/-! loop example/g00886/spec mEdges -/
noncomputable def Ks_mEdges : Ss_mEdges → List Item
  | .h1 .. => nav 300 2 [] [.code (bdy f115)]
def Zs_mEdges : Ss_mEdges → St
  | .h1 l0 t1 t2 t3 b4 => ⟨sts 36 [(1, sl 1 I l0), (2, .ptr 0 5 0 0), (7, sl 1 I t1), (8, I t2), (9, I t3)], [some ⟨false, true, 5, 1, [.agg [I b4.Width, I b4.Height, sl 1 I b4.Terrain, sl 1 I b4.Rivers, sl 1 I b4.Roads]]⟩]⟩
abbrev Qs_mEdges := Nx X 115 0 Ks_mEdges Zs_mEdges RB (fun _ => [])
theorem ns_mEdges : ∀ s o, Bs_mEdges s = some o → Qs_mEdges (Ks_mEdges s) (Zs_mEdges s) o
  | .h1 l0 t1 t2 t3 b4, o, H =>
    eIf H (fun h1 H =>
      eCk H fun h2 H =>
      eBind H fun x3 hx3 H =>
      eBind H fun r4 hr4 H =>
      eBind H fun r5 hr5 H =>
      gN [rg [hT 0], rg [hE 1 (I x3)]] (by kernel_rfl) (P2 ((decide (t3 < t2)) = true) (decide_eq_true h1) <| P1 h2 <| P1 (int_lt_of_at h2 hx3) <| P1 (at_map I hx3) <| P0) <|
      eIf H (fun h6 H =>
        eBind H fun r7 hr7 H =>
        eIf H (fun h8 H =>
          eN H <| gE func115 [rg [hC 2 true [] (RI r4) [], { i := 5, call := some { cl := true, auto := true, ins := [], res := (RB r5), G' := [] }, dec := some true }, hC 13 true [] (RI r7) [], hT 14], r0] (by kernel_rfl) (P1 (cs_mSize hr4) <| P1 (cs_l1In hr5) <| P2 (r5 = true) (h6) <| P2 (¬ (3 : Int) = 0) (by decide) <| P2 (¬ (3 : Int) = 0) (by decide) <| P1 (cs_mNext hr7) <| P2 ((decide (r7 < 0)) = true) (decide_eq_true h8) <| P0))
        (fun h8 H =>
          eN H fun r hn => gO [rg [hC 2 true [] (RI r4) [], { i := 5, call := some { cl := true, auto := true, ins := [], res := (RB r5), G' := [] }, dec := some true }, hC 13 true [] (RI r7) [], hF 14], r0, .canon [0] [1, 2, 7, 8, 9]] (by kernel_rfl) (P1 (cs_mSize hr4) <| P1 (cs_l1In hr5) <| P2 (r5 = true) (h6) <| P2 (¬ (3 : Int) = 0) (by decide) <| P2 (¬ (3 : Int) = 0) (by decide) <| P1 (cs_mNext hr7) <| P2 ((decide (r7 < 0)) = false) (decide_eq_false h8) <| P0) hn))
      (fun h6 H =>
        eN H <| gE func115 [rg [hC 2 true [] (RI r4) [], { i := 5, call := some { cl := true, auto := true, ins := [], res := (RB r5), G' := [] }, dec := some false }], r0] (by kernel_rfl) (P1 (cs_mSize hr4) <| P1 (cs_l1In hr5) <| P2 (r5 = false) (eqF h6) <| P0)))
    (fun h1 H =>
      eBind H fun r2 hr2 H =>
      eBind H fun r3 hr3 H =>
      eN H <| gE func115 [rg [hF 0], rg [hC 2 true [] (RI r2) [], hC 5 true [] (RB r3) []]] (by kernel_rfl) (P2 ((decide (t3 < t2)) = false) (decide_eq_false h1) <| P1 (cs_mSize hr2) <| P1 (cs_l1Rising hr3) <| P0))
theorem ws_mEdges : ∀ s r, loop Bs_mEdges s = some r → Wc X 115 0 (Ks_mEdges s) (Zs_mEdges s) (RB r) ((fun _ => []) r) := Nx.all ns_mEdges
theorem cs_mEdges {a0 : Gi_Map} {a1 : (List Int)} {r : Bool} (H : Ds_mEdges a0 a1 = some r) : Ct X.P X.gl 115 [.agg [I a0.Width, I a0.Height, sl 1 I a0.Terrain, sl 1 I a0.Rivers, sl 1 I a0.Roads], sl 1 I a1] [] (RB r) [] :=
  Ct.of func115 (c := bdy f115) (by kernel_rfl) (by kernel_rfl) <|
  gO [r0, r0, .canon [0] [1, 2, 7, 8, 9]] (by kernel_rfl) P0 (ws_mEdges _ _ H)
/-! loop example/g00886/spec mGood -/
theorem cs_mGood {a0 : Gi_Map} {r : Bool} (H : Ds_mGood a0 = some r) : Ct X.P X.gl 57 [.agg [I a0.Width, I a0.Height, sl 1 I a0.Terrain, sl 1 I a0.Rivers, sl 1 I a0.Roads]] [] (RB r) [] :=
  Ct.of func57 (c := bdy f57) (by kernel_rfl) (by kernel_rfl) <|
  eBind H fun r1 hr1 H =>
  gS [r0] (by kernel_rfl) P0 <|
  eIf H (fun h2 H =>
    eBind H fun r3 hr3 H =>
    eIf H (fun h4 H =>
      eBind H fun r5 hr5 H =>
      eIf H (fun h6 H =>
        eBind H fun r7 hr7 H =>
        eIf H (fun h8 H =>
          eBind H fun r9 hr9 H =>
          eIf H (fun h10 H =>
            eBind H fun r11 hr11 H =>
            eW RB (fun _ => []) H <| gE func57 [rg [{ i := 2, call := some { cl := true, auto := true, ins := [], res := (RB r1), G' := [] }, dec := some true }, { i := 6, call := some { cl := true, auto := true, ins := [], res := (RB r3), G' := [] }, dec := some true }, hC 13 true [] (RI r5) [], hT 14, { i := 19, call := some { cl := true, auto := true, ins := [], res := (RB r7), G' := [] }, dec := some true }, { i := 25, call := some { cl := true, auto := true, ins := [], res := (RB r9), G' := [] }, dec := some true }, hC 31 true [] (RB r11) []]] (by kernel_rfl) (P1 (cs_l1In hr1) <| P2 (r1 = true) (h2) <| P1 (cs_l1In hr3) <| P2 (r3 = true) (h4) <| P1 (cs_mSize hr5) <| P2 (((((a0.Terrain.length : Nat) : Int) : Int) == r5) = true) (beqT h6) <| P1 (cs_l1All hr7) <| P2 (r7 = true) (h8) <| P1 (cs_mEdges hr9) <| P2 (r9 = true) (h10) <| P1 (cs_mEdges hr11) <| P0))
          (fun h10 H =>
            eW RB (fun _ => []) H <| gE func57 [rg [{ i := 2, call := some { cl := true, auto := true, ins := [], res := (RB r1), G' := [] }, dec := some true }, { i := 6, call := some { cl := true, auto := true, ins := [], res := (RB r3), G' := [] }, dec := some true }, hC 13 true [] (RI r5) [], hT 14, { i := 19, call := some { cl := true, auto := true, ins := [], res := (RB r7), G' := [] }, dec := some true }, { i := 25, call := some { cl := true, auto := true, ins := [], res := (RB r9), G' := [] }, dec := some false }]] (by kernel_rfl) (P1 (cs_l1In hr1) <| P2 (r1 = true) (h2) <| P1 (cs_l1In hr3) <| P2 (r3 = true) (h4) <| P1 (cs_mSize hr5) <| P2 (((((a0.Terrain.length : Nat) : Int) : Int) == r5) = true) (beqT h6) <| P1 (cs_l1All hr7) <| P2 (r7 = true) (h8) <| P1 (cs_mEdges hr9) <| P2 (r9 = false) (eqF h10) <| P0)))
        (fun h8 H =>
          eW RB (fun _ => []) H <| gE func57 [rg [{ i := 2, call := some { cl := true, auto := true, ins := [], res := (RB r1), G' := [] }, dec := some true }, { i := 6, call := some { cl := true, auto := true, ins := [], res := (RB r3), G' := [] }, dec := some true }, hC 13 true [] (RI r5) [], hT 14, { i := 19, call := some { cl := true, auto := true, ins := [], res := (RB r7), G' := [] }, dec := some false }]] (by kernel_rfl) (P1 (cs_l1In hr1) <| P2 (r1 = true) (h2) <| P1 (cs_l1In hr3) <| P2 (r3 = true) (h4) <| P1 (cs_mSize hr5) <| P2 (((((a0.Terrain.length : Nat) : Int) : Int) == r5) = true) (beqT h6) <| P1 (cs_l1All hr7) <| P2 (r7 = false) (eqF h8) <| P0)))
      (fun h6 H =>
        eW RB (fun _ => []) H <| gE func57 [rg [{ i := 2, call := some { cl := true, auto := true, ins := [], res := (RB r1), G' := [] }, dec := some true }, { i := 6, call := some { cl := true, auto := true, ins := [], res := (RB r3), G' := [] }, dec := some true }, hC 13 true [] (RI r5) [], hF 14]] (by kernel_rfl) (P1 (cs_l1In hr1) <| P2 (r1 = true) (h2) <| P1 (cs_l1In hr3) <| P2 (r3 = true) (h4) <| P1 (cs_mSize hr5) <| P2 (((((a0.Terrain.length : Nat) : Int) : Int) == r5) = false) (beqF h6) <| P0)))
    (fun h4 H =>
      eW RB (fun _ => []) H <| gE func57 [rg [{ i := 2, call := some { cl := true, auto := true, ins := [], res := (RB r1), G' := [] }, dec := some true }, { i := 6, call := some { cl := true, auto := true, ins := [], res := (RB r3), G' := [] }, dec := some false }]] (by kernel_rfl) (P1 (cs_l1In hr1) <| P2 (r1 = true) (h2) <| P1 (cs_l1In hr3) <| P2 (r3 = false) (eqF h4) <| P0)))
  (fun h2 H =>
    eW RB (fun _ => []) H <| gE func57 [rg [{ i := 2, call := some { cl := true, auto := true, ins := [], res := (RB r1), G' := [] }, dec := some false }]] (by kernel_rfl) (P1 (cs_l1In hr1) <| P2 (r1 = false) (eqF h2) <| P0))
/-! loop example/g00886/spec mOn -/
theorem cs_mOn {a0 : Gi_Map} {a1 : Int} {r : Bool} (H : Ds_mOn a0 a1 = some r) : Ct X.P X.gl 53 [.agg [I a0.Width, I a0.Height, sl 1 I a0.Terrain, sl 1 I a0.Rivers, sl 1 I a0.Roads], I a1] [] (RB r) [] :=
  Ct.of func53 (c := bdy f53) (by kernel_rfl) (by kernel_rfl) <|
  eBind H fun r1 hr1 H =>
  gS [r0] (by kernel_rfl) P0 <|
  eIf H (fun h2 H =>
    eBind H fun r3 hr3 H =>
    eBind H fun r4 hr4 H =>
    eW RB (fun _ => []) H <| gE func53 [rg [{ i := 1, call := some { cl := true, auto := true, ins := [], res := (RB r1), G' := [] }, dec := some true }, hC 5 true [] (RI r3) [], hC 7 true [] (RB r4) []]] (by kernel_rfl) (P1 (cs_mGood hr1) <| P2 (r1 = true) (h2) <| P1 (cs_mSize hr3) <| P1 (cs_l1In hr4) <| P0))
  (fun h2 H =>
    eW RB (fun _ => []) H <| gE func53 [rg [{ i := 1, call := some { cl := true, auto := true, ins := [], res := (RB r1), G' := [] }, dec := some false }]] (by kernel_rfl) (P1 (cs_mGood hr1) <| P2 (r1 = false) (eqF h2) <| P0))
/-! loop example/g00886/spec HexAt -/
def Rs_HexAt (r : Gi_Hex × Bool) : List D := [.agg [I r.1.Q, I r.1.R], .bool r.2]
theorem cs_HexAt {a0 : Gi_Map} {a1 : Int} {r : Gi_Hex × Bool} (H : Ds_HexAt a0 a1 = some r) : Ct X.P X.gl 9 [.agg [I a0.Width, I a0.Height, sl 1 I a0.Terrain, sl 1 I a0.Rivers, sl 1 I a0.Roads], I a1] [] (Rs_HexAt r) [] :=
  Ct.of func9 (c := bdy f9) (by kernel_rfl) (by kernel_rfl) <|
  eBind H fun r1 hr1 H =>
  gS [r0] (by kernel_rfl) P0 <|
  eIf H (fun h2 H =>
    eBind H fun r3 hr3 H =>
    eW Rs_HexAt (fun _ => []) H <| gE func9 [rg [{ i := 2, call := some { cl := true, auto := true, ins := [], res := (RB r1), G' := [] }, dec := some true }], rg [hC 2 true [] (Rs_mHex r3) []]] (by kernel_rfl) (P1 (cs_mOn hr1) <| P2 (r1 = true) (h2) <| P1 (cs_mHex hr3) <| P0))
  (fun h2 H =>
    eW Rs_HexAt (fun _ => []) H <| gE func9 [rg [{ i := 2, call := some { cl := true, auto := true, ins := [], res := (RB r1), G' := [] }, dec := some false }], r0] (by kernel_rfl) (P1 (cs_mOn hr1) <| P2 (r1 = false) (eqF h2) <| P0))
/-! loop example/g00886/impl IndexOf -/
def Ri_IndexOf (r : Int × Bool) : List D := [I r.1, .bool r.2]
theorem ci_IndexOf {a0 : Gi_Map} {a1 : Gi_Hex} {r : Int × Bool} (H : Di_IndexOf a0 a1 = some r) : Ct X.P X.gl 10 [.agg [I a0.Width, I a0.Height, sl 1 I a0.Terrain, sl 1 I a0.Rivers, sl 1 I a0.Roads], .agg [I a1.Q, I a1.R]] [] (Ri_IndexOf r) [] :=
  Ct.of func10 (c := bdy f10) (by kernel_rfl) (by kernel_rfl) <|
  eBind H fun r1 hr1 H =>
  gS [r0] (by kernel_rfl) P0 <|
  eIf H (fun h2 H =>
    eBind H fun r3 hr3 H =>
    eIf H (fun h4 H =>
      eW Ri_IndexOf (fun _ => []) H <| gE func10 [rg [{ i := 1, call := some { cl := true, auto := true, ins := [], res := (RB r1), G' := [] }, dec := some true }, hC 6 true [] (RI r3) [], hT 7], r0] (by kernel_rfl) (P1 (ci_IsMap hr1) <| P2 (r1 = true) (h2) <| P1 (ci_indexOf hr3) <| P2 ((decide (r3 < 0)) = true) (decide_eq_true h4) <| P0))
    (fun h4 H =>
      eBind H fun r5 hr5 H =>
      eW Ri_IndexOf (fun _ => []) H <| gE func10 [rg [{ i := 1, call := some { cl := true, auto := true, ins := [], res := (RB r1), G' := [] }, dec := some true }, hC 6 true [] (RI r3) [], hF 7], rg [hC 2 true [] (RI r5) []]] (by kernel_rfl) (P1 (ci_IsMap hr1) <| P2 (r1 = true) (h2) <| P1 (ci_indexOf hr3) <| P2 ((decide (r3 < 0)) = false) (decide_eq_false h4) <| P1 (ci_indexOf hr5) <| P0)))
  (fun h2 H =>
    eW Ri_IndexOf (fun _ => []) H <| gE func10 [rg [{ i := 1, call := some { cl := true, auto := true, ins := [], res := (RB r1), G' := [] }, dec := some false }], r0] (by kernel_rfl) (P1 (ci_IsMap hr1) <| P2 (r1 = false) (eqF h2) <| P0))
/-! loop example/g00886/spec DrawHasRiver -/
def Rs_DrawHasRiver (r : Gi_Map × Int × Int) : List D := [.agg [I r.1.Width, I r.1.Height, ow 1 I r.1.Terrain, ow 1 I r.1.Rivers, ow 1 I r.1.Roads], I r.2.1, I r.2.2]
theorem cs_DrawHasRiver {a0 : (List Int)} {r : Gi_Map × Int × Int} (H : Ds_DrawHasRiver a0 = some r) : Ct X.P X.gl 11 [sl 1 (D.int .u8) a0] [] (Rs_DrawHasRiver r) [] :=
  Ct.of func11 (c := bdy f11) (by kernel_rfl) (by kernel_rfl) <|
  eBind H fun r1 hr1 H =>
  gS [r0, r0, rg [hC 1 true [1] (Rs_l1Cur_anyMap r1) (Ns_l1Cur_anyMap r1)]] (by kernel_rfl) (PI (1 : Nat) <| P1 (cs_l1Cur_anyMap hr1) <| P0) <|
  eIf H (fun h2 H =>
    eBind H fun r3 hr3 H =>
    eIf H (fun h4 H =>
      eBind H fun r5 hr5 H =>
      eIf H (fun h6 H =>
        eBind H fun r7 hr7 H =>
        eCk H fun h8 H =>
        eBind H fun x9 hx9 H =>
        eW Rs_DrawHasRiver (fun _ => []) H <| gE func11 [rg [hT 3, { i := 6, call := some { cl := false, auto := true, ins := [], res := (RB r3), G' := [] }, dec := some true }, { i := 10, call := some { cl := true, auto := true, ins := [1], res := (Rs_l1Cur_one r5), G' := (Ns_l1Cur_one r5) }, dec := some true }], rg [hC 6 true [1] (Rs_l1Cur_pick r7) (Ns_l1Cur_pick r7), hE 8 (I x9)], r0] (by kernel_rfl) (P2 ((decide (((r1.1.Rivers.length : Nat) : Int) > 0)) = true) (decide_eq_true h2) <| P1 (cs_mGood hr3) <| P2 (r3 = true) (h4) <| PI (1 : Nat) <| P1 (cs_l1Cur_one hr5) <| P2 (r5.1 = true) (h6) <| PI (1 : Nat) <| P1 (cs_l1Cur_pick hr7) <| P1 h8 <| P1 (int_lt_of_at h8 hx9) <| P1 (at_map I hx9) <| P2 (¬ (3 : Int) = 0) (by decide) <| P2 (¬ (3 : Int) = 0) (by decide) <| P0))
      (fun h6 H =>
        eBind H fun r7 hr7 H =>
        eBind H fun r8 hr8 H =>
        eW Rs_DrawHasRiver (fun _ => []) H <| gE func11 [rg [hT 3, { i := 6, call := some { cl := false, auto := true, ins := [], res := (RB r3), G' := [] }, dec := some true }, { i := 10, call := some { cl := true, auto := true, ins := [1], res := (Rs_l1Cur_one r5), G' := (Ns_l1Cur_one r5) }, dec := some false }], rg [{ i := 3, call := some { cl := true, ins := [1], args := [.ptr 0 3 0 0, .agg [I r1.1.Width, I r1.1.Height, .hid, .hid, .hid]], res := Rs_l1Cur_place_u1_2_3_4 r7, G' := Ns_l1Cur_place_u1_2_3_4 r7 } }, hC 5 true [1] (Rs_l1Cur_pick r8) (Ns_l1Cur_pick r8)]] (by kernel_rfl) (P2 ((decide (((r1.1.Rivers.length : Nat) : Int) > 0)) = true) (decide_eq_true h2) <| P1 (cs_mGood hr3) <| P2 (r3 = true) (h4) <| PI (1 : Nat) <| P1 (cs_l1Cur_one hr5) <| P2 (r5.1 = false) (eqF h6) <| PI (0 : Nat) <| PI (0 : Nat) <| PI (r1.1.Width : Int) <| PI (r1.1.Height : Int) <| PI (1 : Nat) <| P1 (cs_l1Cur_place_u1_2_3_4 hr7) <| PI (1 : Nat) <| P1 (cs_l1Cur_pick hr8) <| P0)))
    (fun h4 H =>
      eBind H fun r5 hr5 H =>
      eBind H fun r6 hr6 H =>
      eW Rs_DrawHasRiver (fun _ => []) H <| gE func11 [rg [hT 3, { i := 6, call := some { cl := false, auto := true, ins := [], res := (RB r3), G' := [] }, dec := some false }], rg [{ i := 3, call := some { cl := true, ins := [1], args := [.ptr 0 3 0 0, .agg [I r1.1.Width, I r1.1.Height, .hid, .hid, .hid]], res := Rs_l1Cur_place_u1_2_3_4 r5, G' := Ns_l1Cur_place_u1_2_3_4 r5 } }, hC 5 true [1] (Rs_l1Cur_pick r6) (Ns_l1Cur_pick r6)]] (by kernel_rfl) (P2 ((decide (((r1.1.Rivers.length : Nat) : Int) > 0)) = true) (decide_eq_true h2) <| P1 (cs_mGood hr3) <| P2 (r3 = false) (eqF h4) <| PI (0 : Nat) <| PI (0 : Nat) <| PI (r1.1.Width : Int) <| PI (r1.1.Height : Int) <| PI (1 : Nat) <| P1 (cs_l1Cur_place_u1_2_3_4 hr5) <| PI (1 : Nat) <| P1 (cs_l1Cur_pick hr6) <| P0)))
  (fun h2 H =>
    eBind H fun r3 hr3 H =>
    eBind H fun r4 hr4 H =>
    eW Rs_DrawHasRiver (fun _ => []) H <| gE func11 [rg [hF 3], rg [{ i := 3, call := some { cl := true, ins := [1], args := [.ptr 0 3 0 0, .agg [I r1.1.Width, I r1.1.Height, .hid, .hid, .hid]], res := Rs_l1Cur_place_u1_2_3_4 r3, G' := Ns_l1Cur_place_u1_2_3_4 r3 } }, hC 5 true [1] (Rs_l1Cur_pick r4) (Ns_l1Cur_pick r4)]] (by kernel_rfl) (P2 ((decide (((r1.1.Rivers.length : Nat) : Int) > 0)) = false) (decide_eq_false h2) <| PI (0 : Nat) <| PI (0 : Nat) <| PI (r1.1.Width : Int) <| PI (r1.1.Height : Int) <| PI (1 : Nat) <| P1 (cs_l1Cur_place_u1_2_3_4 hr3) <| PI (1 : Nat) <| P1 (cs_l1Cur_pick hr4) <| P0))
/-! loop example/g00886/impl isDirection -/
theorem ci_isDirection {a0 : Int} {r : Bool} (H : Di_isDirection a0 = some r) : Ct X.P X.gl 66 [I a0] [] (RB r) [] :=
  Ct.of func66 (c := bdy f66) (by kernel_rfl) (by kernel_rfl) <|
  eBind H fun r1 hr1 H =>
  eW RB (fun _ => []) H <| gE func66 [r0, rg [hC 1 true [] (RB r1) []]] (by kernel_rfl) (P1 (ci_inRange hr1) <| P0)
/-! loop example/g00886/impl edgeOf -/
theorem ci_edgeOf {a0 : Gi_Map} {a1 : Int} {a2 : Int} {r : Int} (H : Di_edgeOf a0 a1 a2 = some r) : Ct X.P X.gl 117 [.agg [I a0.Width, I a0.Height, sl 1 I a0.Terrain, sl 1 I a0.Rivers, sl 1 I a0.Roads], I a1, I a2] [] (RI r) [] :=
  Ct.of func117 (c := bdy f117) (by kernel_rfl) (by kernel_rfl) <|
  eBind H fun r1 hr1 H =>
  gS [r0, rg [hC 3 true [] (RI r1) []]] (by kernel_rfl) (P1 (ci_nextTo hr1) <| P0) <|
  eIf H (fun h2 H =>
    eW RI (fun _ => []) H <| gE func117 [rg [hT 1], r0] (by kernel_rfl) (P2 ((decide (r1 < 0)) = true) (decide_eq_true h2) <| P0))
  (fun h2 H =>
    gS [rg [hF 1]] (by kernel_rfl) (P2 ((decide (r1 < 0)) = false) (decide_eq_false h2) <| P0) <|
    eIf H (fun h3 H =>
      eW RI (fun _ => []) H <| gE func117 [rg [hT 1], r0] (by kernel_rfl) (P2 ((decide (a2 < 3)) = true) (decide_eq_true h3) <| P0))
    (fun h3 H =>
      eW RI (fun _ => []) H <| gE func117 [rg [hF 1], r0] (by kernel_rfl) (P2 ((decide (a2 < 3)) = false) (decide_eq_false h3) <| P0)))
/-! loop example/g00886/impl EdgeOf -/
def Ri_EdgeOf (r : Int × Bool) : List D := [I r.1, .bool r.2]
theorem ci_EdgeOf {a0 : Gi_Map} {a1 : Int} {a2 : Int} {r : Int × Bool} (H : Di_EdgeOf a0 a1 a2 = some r) : Ct X.P X.gl 60 [.agg [I a0.Width, I a0.Height, sl 1 I a0.Terrain, sl 1 I a0.Rivers, sl 1 I a0.Roads], I a1, I a2] [] (Ri_EdgeOf r) [] :=
  Ct.of func60 (c := bdy f60) (by kernel_rfl) (by kernel_rfl) <|
  eBind H fun r1 hr1 H =>
  gS [r0] (by kernel_rfl) P0 <|
  eIf H (fun h2 H =>
    eBind H fun r3 hr3 H =>
    eIf H (fun h4 H =>
      eBind H fun r5 hr5 H =>
      eIf H (fun h6 H =>
        eW Ri_EdgeOf (fun _ => []) H <| gE func60 [rg [{ i := 2, call := some { cl := true, auto := true, ins := [], res := (RB r1), G' := [] }, dec := some true }, { i := 6, call := some { cl := true, auto := true, ins := [], res := (RB r3), G' := [] }, dec := some true }, hC 13 true [] (RI r5) [], hT 14], r0] (by kernel_rfl) (P1 (ci_isPlace hr1) <| P2 (r1 = true) (h2) <| P1 (ci_isDirection hr3) <| P2 (r3 = true) (h4) <| P1 (ci_nextTo hr5) <| P2 ((decide (r5 < 0)) = true) (decide_eq_true h6) <| P0))
      (fun h6 H =>
        eBind H fun r7 hr7 H =>
        eW Ri_EdgeOf (fun _ => []) H <| gE func60 [rg [{ i := 2, call := some { cl := true, auto := true, ins := [], res := (RB r1), G' := [] }, dec := some true }, { i := 6, call := some { cl := true, auto := true, ins := [], res := (RB r3), G' := [] }, dec := some true }, hC 13 true [] (RI r5) [], hF 14], rg [hC 3 true [] (RI r7) []]] (by kernel_rfl) (P1 (ci_isPlace hr1) <| P2 (r1 = true) (h2) <| P1 (ci_isDirection hr3) <| P2 (r3 = true) (h4) <| P1 (ci_nextTo hr5) <| P2 ((decide (r5 < 0)) = false) (decide_eq_false h6) <| P1 (ci_edgeOf hr7) <| P0)))
    (fun h4 H =>
      eW Ri_EdgeOf (fun _ => []) H <| gE func60 [rg [{ i := 2, call := some { cl := true, auto := true, ins := [], res := (RB r1), G' := [] }, dec := some true }, { i := 6, call := some { cl := true, auto := true, ins := [], res := (RB r3), G' := [] }, dec := some false }], r0] (by kernel_rfl) (P1 (ci_isPlace hr1) <| P2 (r1 = true) (h2) <| P1 (ci_isDirection hr3) <| P2 (r3 = false) (eqF h4) <| P0)))
  (fun h2 H =>
    eW Ri_EdgeOf (fun _ => []) H <| gE func60 [rg [{ i := 2, call := some { cl := true, auto := true, ins := [], res := (RB r1), G' := [] }, dec := some false }], r0] (by kernel_rfl) (P1 (ci_isPlace hr1) <| P2 (r1 = false) (eqF h2) <| P0))
/-! slices Index   int int  -/
noncomputable def Kslices_Index_int : Sslices_Index_int → List Item
  | .h1 .. => nav 300 2 [] [.code (bdy f118)]
def Zslices_Index_int : Sslices_Index_int → St
  | .h1 s0 v1 t2 t3 => ⟨sts 19 [(0, sl 1 I s0), (1, I v1), (7, I t2), (8, I t3)], []⟩
abbrev Qslices_Index_int := Nx X 118 0 Kslices_Index_int Zslices_Index_int RI (fun _ => [])
theorem nslices_Index_int : ∀ s o, Bslices_Index_int s = some o → Qslices_Index_int (Kslices_Index_int s) (Zslices_Index_int s) o
  | .h1 s0 v1 t2 t3, o, H =>
    eIf H (fun h1 H =>
      eCk H fun h2 H =>
      eBind H fun x3 hx3 H =>
      gN [rg [hT 0], r0] (by kernel_rfl) (P2 ((decide (t3 < t2)) = true) (decide_eq_true h1) <| P0) <|
      eIf H (fun h4 H =>
        eN H <| gE func118 [rg [hE 4 (I x3), hT 5], r0] (by kernel_rfl) (P1 h2 <| P1 (int_lt_of_at h2 hx3) <| P1 (at_map I hx3) <| P2 (((v1 : Int) == x3) = true) (beqT h4) <| P0))
      (fun h4 H =>
        eN H fun r hn => gO [rg [hE 4 (I x3), hF 5], r0, .canon [] [0, 1, 7, 8]] (by kernel_rfl) (P1 h2 <| P1 (int_lt_of_at h2 hx3) <| P1 (at_map I hx3) <| P2 (((v1 : Int) == x3) = false) (beqF h4) <| P0) hn))
    (fun h1 H =>
      eN H <| gE func118 [rg [hF 0], r0] (by kernel_rfl) (P2 ((decide (t3 < t2)) = false) (decide_eq_false h1) <| P0))
theorem wslices_Index_int : ∀ s r, loop Bslices_Index_int s = some r → Wc X 118 0 (Kslices_Index_int s) (Zslices_Index_int s) (RI r) ((fun _ => []) r) := Nx.all nslices_Index_int
theorem cslices_Index_int {a0 : (List Int)} {a1 : Int} {r : Int} (H : Dslices_Index_int a0 a1 = some r) : Ct X.P X.gl 118 [sl 1 I a0, I a1] [] (RI r) [] :=
  Ct.of func118 (c := bdy f118) (by kernel_rfl) (by kernel_rfl) <|
  gO [r0, r0, .canon [] [0, 1, 7, 8]] (by kernel_rfl) P0 (wslices_Index_int _ _ H)
/-! slices Contains   int int  -/
theorem cslices_Contains_int {a0 : (List Int)} {a1 : Int} {r : Bool} (H : Dslices_Contains_int a0 a1 = some r) : Ct X.P X.gl 61 [sl 1 I a0, I a1] [] (RB r) [] :=
  Ct.of func61 (c := bdy f61) (by kernel_rfl) (by kernel_rfl) <|
  eBind H fun r1 hr1 H =>
  eW RB (fun _ => []) H <| gE func61 [r0, rg [hC 2 true [] (RI r1) []]] (by kernel_rfl) (P1 (cslices_Index_int hr1) <| P0)
/-! loop example/g00886/impl HasRiver -/
def Ri_HasRiver (r : Bool × Bool) : List D := [.bool r.1, .bool r.2]
theorem ci_HasRiver {a0 : Gi_Map} {a1 : Int} {a2 : Int} {r : Bool × Bool} (H : Di_HasRiver a0 a1 a2 = some r) : Ct X.P X.gl 12 [.agg [I a0.Width, I a0.Height, sl 1 I a0.Terrain, sl 1 I a0.Rivers, sl 1 I a0.Roads], I a1, I a2] [] (Ri_HasRiver r) [] :=
  Ct.of func12 (c := bdy f12) (by kernel_rfl) (by kernel_rfl) <|
  eBind H fun r1 hr1 H =>
  gS [r0] (by kernel_rfl) P0 <|
  eIf H (fun h2 H =>
    eBind H fun r3 hr3 H =>
    eW Ri_HasRiver (fun _ => []) H <| gE func12 [rg [hC 3 true [] (Ri_EdgeOf r1) [], hT 6], rg [hC 5 true [] (RB r3) []]] (by kernel_rfl) (P1 (ci_EdgeOf hr1) <| P2 (r1.2 = true) (h2) <| P1 (cslices_Contains_int hr3) <| P0))
  (fun h2 H =>
    eW Ri_HasRiver (fun _ => []) H <| gE func12 [rg [hC 3 true [] (Ri_EdgeOf r1) [], hF 6], r0] (by kernel_rfl) (P1 (ci_EdgeOf hr1) <| P2 (r1.2 = false) (eqF h2) <| P0))
/-! loop example/g00886/spec mPair -/
theorem cs_mPair {a0 : Gi_Map} {a1 : Int} {a2 : Int} {r : Bool} (H : Ds_mPair a0 a1 a2 = some r) : Ct X.P X.gl 62 [.agg [I a0.Width, I a0.Height, sl 1 I a0.Terrain, sl 1 I a0.Rivers, sl 1 I a0.Roads], I a1, I a2] [] (RB r) [] :=
  Ct.of func62 (c := bdy f62) (by kernel_rfl) (by kernel_rfl) <|
  eBind H fun r1 hr1 H =>
  gS [r0] (by kernel_rfl) P0 <|
  eIf H (fun h2 H =>
    eBind H fun r3 hr3 H =>
    eIf H (fun h4 H =>
      eBind H fun r5 hr5 H =>
      eW RB (fun _ => []) H <| gE func62 [rg [{ i := 2, call := some { cl := true, auto := true, ins := [], res := (RB r1), G' := [] }, dec := some true }, { i := 5, call := some { cl := true, auto := true, ins := [], res := (RB r3), G' := [] }, dec := some true }, hC 11 true [] (RI r5) []]] (by kernel_rfl) (P1 (cs_mOn hr1) <| P2 (r1 = true) (h2) <| P1 (cs_l1In hr3) <| P2 (r3 = true) (h4) <| P1 (cs_mNext hr5) <| P0))
    (fun h4 H =>
      eW RB (fun _ => []) H <| gE func62 [rg [{ i := 2, call := some { cl := true, auto := true, ins := [], res := (RB r1), G' := [] }, dec := some true }, { i := 5, call := some { cl := true, auto := true, ins := [], res := (RB r3), G' := [] }, dec := some false }]] (by kernel_rfl) (P1 (cs_mOn hr1) <| P2 (r1 = true) (h2) <| P1 (cs_l1In hr3) <| P2 (r3 = false) (eqF h4) <| P0)))
  (fun h2 H =>
    eW RB (fun _ => []) H <| gE func62 [rg [{ i := 2, call := some { cl := true, auto := true, ins := [], res := (RB r1), G' := [] }, dec := some false }]] (by kernel_rfl) (P1 (cs_mOn hr1) <| P2 (r1 = false) (eqF h2) <| P0))
/-! loop example/g00886/spec l1Has -/
noncomputable def Ks_l1Has : Ss_l1Has → List Item
  | .h1 .. => nav 300 2 [] [.code (bdy f98)]
def Zs_l1Has : Ss_l1Has → St
  | .h1 n0 t1 t2 t3 => ⟨sts 17 [(1, I n0), (7, sl 1 I t1), (8, I t2), (9, I t3)], []⟩
abbrev Qs_l1Has := Nx X 98 0 Ks_l1Has Zs_l1Has RB (fun _ => [])
theorem ns_l1Has : ∀ s o, Bs_l1Has s = some o → Qs_l1Has (Ks_l1Has s) (Zs_l1Has s) o
  | .h1 n0 t1 t2 t3, o, H =>
    eIf H (fun h1 H =>
      eCk H fun h2 H =>
      eBind H fun x3 hx3 H =>
      gN [rg [hT 0], rg [hE 1 (I x3)]] (by kernel_rfl) (P2 ((decide (t3 < t2)) = true) (decide_eq_true h1) <| P1 h2 <| P1 (int_lt_of_at h2 hx3) <| P1 (at_map I hx3) <| P0) <|
      eIf H (fun h4 H =>
        eN H <| gE func98 [rg [hT 2], r0] (by kernel_rfl) (P2 (((x3 : Int) == n0) = true) (beqT h4) <| P0))
      (fun h4 H =>
        eN H fun r hn => gO [rg [hF 2], r0, .canon [] [1, 7, 8, 9]] (by kernel_rfl) (P2 (((x3 : Int) == n0) = false) (beqF h4) <| P0) hn))
    (fun h1 H =>
      eN H <| gE func98 [rg [hF 0], r0] (by kernel_rfl) (P2 ((decide (t3 < t2)) = false) (decide_eq_false h1) <| P0))
theorem ws_l1Has : ∀ s r, loop Bs_l1Has s = some r → Wc X 98 0 (Ks_l1Has s) (Zs_l1Has s) (RB r) ((fun _ => []) r) := Nx.all ns_l1Has
theorem cs_l1Has {a0 : (List Int)} {a1 : Int} {r : Bool} (H : Ds_l1Has a0 a1 = some r) : Ct X.P X.gl 98 [sl 1 I a0, I a1] [] (RB r) [] :=
  Ct.of func98 (c := bdy f98) (by kernel_rfl) (by kernel_rfl) <|
  gO [r0, r0, .canon [] [1, 7, 8, 9]] (by kernel_rfl) P0 (ws_l1Has _ _ H)
/-! loop example/g00886/spec mRiver -/
theorem cs_mRiver {a0 : Gi_Map} {a1 : Int} {a2 : Int} {r : Bool} (H : Ds_mRiver a0 a1 a2 = some r) : Ct X.P X.gl 63 [.agg [I a0.Width, I a0.Height, sl 1 I a0.Terrain, sl 1 I a0.Rivers, sl 1 I a0.Roads], I a1, I a2] [] (RB r) [] :=
  Ct.of func63 (c := bdy f63) (by kernel_rfl) (by kernel_rfl) <|
  eBind H fun r1 hr1 H =>
  eBind H fun r2 hr2 H =>
  eW RB (fun _ => []) H <| gE func63 [r0, rg [hC 5 true [] (RI r1) [], hC 6 true [] (RB r2) []]] (by kernel_rfl) (P1 (cs_mEdge hr1) <| P1 (cs_l1Has hr2) <| P0)
/-! loop example/g00886/spec HasRiver -/
def Rs_HasRiver (r : Bool × Bool) : List D := [.bool r.1, .bool r.2]
theorem cs_HasRiver {a0 : Gi_Map} {a1 : Int} {a2 : Int} {r : Bool × Bool} (H : Ds_HasRiver a0 a1 a2 = some r) : Ct X.P X.gl 13 [.agg [I a0.Width, I a0.Height, sl 1 I a0.Terrain, sl 1 I a0.Rivers, sl 1 I a0.Roads], I a1, I a2] [] (Rs_HasRiver r) [] :=
  Ct.of func13 (c := bdy f13) (by kernel_rfl) (by kernel_rfl) <|
  eBind H fun r1 hr1 H =>
  gS [r0] (by kernel_rfl) P0 <|
  eIf H (fun h2 H =>
    eBind H fun r3 hr3 H =>
    eW Rs_HasRiver (fun _ => []) H <| gE func13 [rg [{ i := 3, call := some { cl := true, auto := true, ins := [], res := (RB r1), G' := [] }, dec := some true }], rg [hC 3 true [] (RB r3) []]] (by kernel_rfl) (P1 (cs_mPair hr1) <| P2 (r1 = true) (h2) <| P1 (cs_mRiver hr3) <| P0))
  (fun h2 H =>
    eW Rs_HasRiver (fun _ => []) H <| gE func13 [rg [{ i := 3, call := some { cl := true, auto := true, ins := [], res := (RB r1), G' := [] }, dec := some false }], r0] (by kernel_rfl) (P1 (cs_mPair hr1) <| P2 (r1 = false) (eqF h2) <| P0))
/-! loop example/g00886/spec DrawHasRoad -/
def Rs_DrawHasRoad (r : Gi_Map × Int × Int) : List D := [.agg [I r.1.Width, I r.1.Height, ow 1 I r.1.Terrain, ow 1 I r.1.Rivers, ow 1 I r.1.Roads], I r.2.1, I r.2.2]
theorem cs_DrawHasRoad {a0 : (List Int)} {r : Gi_Map × Int × Int} (H : Ds_DrawHasRoad a0 = some r) : Ct X.P X.gl 14 [sl 1 (D.int .u8) a0] [] (Rs_DrawHasRoad r) [] :=
  Ct.of func14 (c := bdy f14) (by kernel_rfl) (by kernel_rfl) <|
  eBind H fun r1 hr1 H =>
  gS [r0, r0, rg [hC 1 true [1] (Rs_l1Cur_anyMap r1) (Ns_l1Cur_anyMap r1)]] (by kernel_rfl) (PI (1 : Nat) <| P1 (cs_l1Cur_anyMap hr1) <| P0) <|
  eIf H (fun h2 H =>
    eBind H fun r3 hr3 H =>
    eIf H (fun h4 H =>
      eBind H fun r5 hr5 H =>
      eIf H (fun h6 H =>
        eBind H fun r7 hr7 H =>
        eCk H fun h8 H =>
        eBind H fun x9 hx9 H =>
        eBind H fun r10 hr10 H =>
        eW Rs_DrawHasRoad (fun _ => []) H <| gE func14 [rg [hT 3, { i := 6, call := some { cl := false, auto := true, ins := [], res := (RB r3), G' := [] }, dec := some true }, { i := 10, call := some { cl := true, auto := true, ins := [1], res := (Rs_l1Cur_one r5), G' := (Ns_l1Cur_one r5) }, dec := some true }], rg [hC 6 true [1] (Rs_l1Cur_pick r7) (Ns_l1Cur_pick r7), hE 8 (I x9)], rg [hC 6 false [] (RI r10) []]] (by kernel_rfl) (P2 ((decide (((r1.1.Roads.length : Nat) : Int) > 0)) = true) (decide_eq_true h2) <| P1 (cs_mGood hr3) <| P2 (r3 = true) (h4) <| PI (1 : Nat) <| P1 (cs_l1Cur_one hr5) <| P2 (r5.1 = true) (h6) <| PI (1 : Nat) <| P1 (cs_l1Cur_pick hr7) <| P1 h8 <| P1 (int_lt_of_at h8 hx9) <| P1 (at_map I hx9) <| P2 (¬ (3 : Int) = 0) (by decide) <| P2 (¬ (3 : Int) = 0) (by decide) <| P1 (cs_mNext hr10) <| P2 (¬ (3 : Int) = 0) (by decide) <| P0))
      (fun h6 H =>
        eBind H fun r7 hr7 H =>
        eBind H fun r8 hr8 H =>
        eW Rs_DrawHasRoad (fun _ => []) H <| gE func14 [rg [hT 3, { i := 6, call := some { cl := false, auto := true, ins := [], res := (RB r3), G' := [] }, dec := some true }, { i := 10, call := some { cl := true, auto := true, ins := [1], res := (Rs_l1Cur_one r5), G' := (Ns_l1Cur_one r5) }, dec := some false }], rg [{ i := 3, call := some { cl := true, ins := [1], args := [.ptr 0 3 0 0, .agg [I r1.1.Width, I r1.1.Height, .hid, .hid, .hid]], res := Rs_l1Cur_place_u1_2_3_4 r7, G' := Ns_l1Cur_place_u1_2_3_4 r7 } }, hC 5 true [1] (Rs_l1Cur_pick r8) (Ns_l1Cur_pick r8)]] (by kernel_rfl) (P2 ((decide (((r1.1.Roads.length : Nat) : Int) > 0)) = true) (decide_eq_true h2) <| P1 (cs_mGood hr3) <| P2 (r3 = true) (h4) <| PI (1 : Nat) <| P1 (cs_l1Cur_one hr5) <| P2 (r5.1 = false) (eqF h6) <| PI (0 : Nat) <| PI (0 : Nat) <| PI (r1.1.Width : Int) <| PI (r1.1.Height : Int) <| PI (1 : Nat) <| P1 (cs_l1Cur_place_u1_2_3_4 hr7) <| PI (1 : Nat) <| P1 (cs_l1Cur_pick hr8) <| P0)))
    (fun h4 H =>
      eBind H fun r5 hr5 H =>
      eBind H fun r6 hr6 H =>
      eW Rs_DrawHasRoad (fun _ => []) H <| gE func14 [rg [hT 3, { i := 6, call := some { cl := false, auto := true, ins := [], res := (RB r3), G' := [] }, dec := some false }], rg [{ i := 3, call := some { cl := true, ins := [1], args := [.ptr 0 3 0 0, .agg [I r1.1.Width, I r1.1.Height, .hid, .hid, .hid]], res := Rs_l1Cur_place_u1_2_3_4 r5, G' := Ns_l1Cur_place_u1_2_3_4 r5 } }, hC 5 true [1] (Rs_l1Cur_pick r6) (Ns_l1Cur_pick r6)]] (by kernel_rfl) (P2 ((decide (((r1.1.Roads.length : Nat) : Int) > 0)) = true) (decide_eq_true h2) <| P1 (cs_mGood hr3) <| P2 (r3 = false) (eqF h4) <| PI (0 : Nat) <| PI (0 : Nat) <| PI (r1.1.Width : Int) <| PI (r1.1.Height : Int) <| PI (1 : Nat) <| P1 (cs_l1Cur_place_u1_2_3_4 hr5) <| PI (1 : Nat) <| P1 (cs_l1Cur_pick hr6) <| P0)))
  (fun h2 H =>
    eBind H fun r3 hr3 H =>
    eBind H fun r4 hr4 H =>
    eW Rs_DrawHasRoad (fun _ => []) H <| gE func14 [rg [hF 3], rg [{ i := 3, call := some { cl := true, ins := [1], args := [.ptr 0 3 0 0, .agg [I r1.1.Width, I r1.1.Height, .hid, .hid, .hid]], res := Rs_l1Cur_place_u1_2_3_4 r3, G' := Ns_l1Cur_place_u1_2_3_4 r3 } }, hC 5 true [1] (Rs_l1Cur_pick r4) (Ns_l1Cur_pick r4)]] (by kernel_rfl) (P2 ((decide (((r1.1.Roads.length : Nat) : Int) > 0)) = false) (decide_eq_false h2) <| PI (0 : Nat) <| PI (0 : Nat) <| PI (r1.1.Width : Int) <| PI (r1.1.Height : Int) <| PI (1 : Nat) <| P1 (cs_l1Cur_place_u1_2_3_4 hr3) <| PI (1 : Nat) <| P1 (cs_l1Cur_pick hr4) <| P0))
/-! loop example/g00886/impl HasRoad -/
def Ri_HasRoad (r : Bool × Bool) : List D := [.bool r.1, .bool r.2]
theorem ci_HasRoad {a0 : Gi_Map} {a1 : Int} {a2 : Int} {r : Bool × Bool} (H : Di_HasRoad a0 a1 a2 = some r) : Ct X.P X.gl 15 [.agg [I a0.Width, I a0.Height, sl 1 I a0.Terrain, sl 1 I a0.Rivers, sl 1 I a0.Roads], I a1, I a2] [] (Ri_HasRoad r) [] :=
  Ct.of func15 (c := bdy f15) (by kernel_rfl) (by kernel_rfl) <|
  eBind H fun r1 hr1 H =>
  gS [r0] (by kernel_rfl) P0 <|
  eIf H (fun h2 H =>
    eBind H fun r3 hr3 H =>
    eW Ri_HasRoad (fun _ => []) H <| gE func15 [rg [hC 3 true [] (Ri_EdgeOf r1) [], hT 6], rg [hC 5 true [] (RB r3) []]] (by kernel_rfl) (P1 (ci_EdgeOf hr1) <| P2 (r1.2 = true) (h2) <| P1 (cslices_Contains_int hr3) <| P0))
  (fun h2 H =>
    eW Ri_HasRoad (fun _ => []) H <| gE func15 [rg [hC 3 true [] (Ri_EdgeOf r1) [], hF 6], r0] (by kernel_rfl) (P1 (ci_EdgeOf hr1) <| P2 (r1.2 = false) (eqF h2) <| P0))
/-! loop example/g00886/spec mRoad -/
theorem cs_mRoad {a0 : Gi_Map} {a1 : Int} {a2 : Int} {r : Bool} (H : Ds_mRoad a0 a1 a2 = some r) : Ct X.P X.gl 65 [.agg [I a0.Width, I a0.Height, sl 1 I a0.Terrain, sl 1 I a0.Rivers, sl 1 I a0.Roads], I a1, I a2] [] (RB r) [] :=
  Ct.of func65 (c := bdy f65) (by kernel_rfl) (by kernel_rfl) <|
  eBind H fun r1 hr1 H =>
  eBind H fun r2 hr2 H =>
  eW RB (fun _ => []) H <| gE func65 [r0, rg [hC 5 true [] (RI r1) [], hC 6 true [] (RB r2) []]] (by kernel_rfl) (P1 (cs_mEdge hr1) <| P1 (cs_l1Has hr2) <| P0)
/-! loop example/g00886/spec HasRoad -/
def Rs_HasRoad (r : Bool × Bool) : List D := [.bool r.1, .bool r.2]
theorem cs_HasRoad {a0 : Gi_Map} {a1 : Int} {a2 : Int} {r : Bool × Bool} (H : Ds_HasRoad a0 a1 a2 = some r) : Ct X.P X.gl 16 [.agg [I a0.Width, I a0.Height, sl 1 I a0.Terrain, sl 1 I a0.Rivers, sl 1 I a0.Roads], I a1, I a2] [] (Rs_HasRoad r) [] :=
  Ct.of func16 (c := bdy f16) (by kernel_rfl) (by kernel_rfl) <|
  eBind H fun r1 hr1 H =>
  gS [r0] (by kernel_rfl) P0 <|
  eIf H (fun h2 H =>
    eBind H fun r3 hr3 H =>
    eW Rs_HasRoad (fun _ => []) H <| gE func16 [rg [{ i := 3, call := some { cl := true, auto := true, ins := [], res := (RB r1), G' := [] }, dec := some true }], rg [hC 3 true [] (RB r3) []]] (by kernel_rfl) (P1 (cs_mPair hr1) <| P2 (r1 = true) (h2) <| P1 (cs_mRoad hr3) <| P0))
  (fun h2 H =>
    eW Rs_HasRoad (fun _ => []) H <| gE func16 [rg [{ i := 3, call := some { cl := true, auto := true, ins := [], res := (RB r1), G' := [] }, dec := some false }], r0] (by kernel_rfl) (P1 (cs_mPair hr1) <| P2 (r1 = false) (eqF h2) <| P0))
/-! loop example/g00886/impl NextTo -/
def Ri_NextTo (r : Int × Bool) : List D := [I r.1, .bool r.2]
theorem ci_NextTo {a0 : Gi_Map} {a1 : Int} {a2 : Int} {r : Int × Bool} (H : Di_NextTo a0 a1 a2 = some r) : Ct X.P X.gl 17 [.agg [I a0.Width, I a0.Height, sl 1 I a0.Terrain, sl 1 I a0.Rivers, sl 1 I a0.Roads], I a1, I a2] [] (Ri_NextTo r) [] :=
  Ct.of func17 (c := bdy f17) (by kernel_rfl) (by kernel_rfl) <|
  eBind H fun r1 hr1 H =>
  gS [r0] (by kernel_rfl) P0 <|
  eIf H (fun h2 H =>
    eBind H fun r3 hr3 H =>
    eIf H (fun h4 H =>
      eBind H fun r5 hr5 H =>
      eIf H (fun h6 H =>
        eW Ri_NextTo (fun _ => []) H <| gE func17 [rg [{ i := 2, call := some { cl := true, auto := true, ins := [], res := (RB r1), G' := [] }, dec := some true }, { i := 6, call := some { cl := true, auto := true, ins := [], res := (RB r3), G' := [] }, dec := some true }, hC 13 true [] (RI r5) [], hT 14], r0] (by kernel_rfl) (P1 (ci_isPlace hr1) <| P2 (r1 = true) (h2) <| P1 (ci_isDirection hr3) <| P2 (r3 = true) (h4) <| P1 (ci_nextTo hr5) <| P2 ((decide (r5 < 0)) = true) (decide_eq_true h6) <| P0))
      (fun h6 H =>
        eBind H fun r7 hr7 H =>
        eW Ri_NextTo (fun _ => []) H <| gE func17 [rg [{ i := 2, call := some { cl := true, auto := true, ins := [], res := (RB r1), G' := [] }, dec := some true }, { i := 6, call := some { cl := true, auto := true, ins := [], res := (RB r3), G' := [] }, dec := some true }, hC 13 true [] (RI r5) [], hF 14], rg [hC 3 true [] (RI r7) []]] (by kernel_rfl) (P1 (ci_isPlace hr1) <| P2 (r1 = true) (h2) <| P1 (ci_isDirection hr3) <| P2 (r3 = true) (h4) <| P1 (ci_nextTo hr5) <| P2 ((decide (r5 < 0)) = false) (decide_eq_false h6) <| P1 (ci_nextTo hr7) <| P0)))
    (fun h4 H =>
      eW Ri_NextTo (fun _ => []) H <| gE func17 [rg [{ i := 2, call := some { cl := true, auto := true, ins := [], res := (RB r1), G' := [] }, dec := some true }, { i := 6, call := some { cl := true, auto := true, ins := [], res := (RB r3), G' := [] }, dec := some false }], r0] (by kernel_rfl) (P1 (ci_isPlace hr1) <| P2 (r1 = true) (h2) <| P1 (ci_isDirection hr3) <| P2 (r3 = false) (eqF h4) <| P0)))
  (fun h2 H =>
    eW Ri_NextTo (fun _ => []) H <| gE func17 [rg [{ i := 2, call := some { cl := true, auto := true, ins := [], res := (RB r1), G' := [] }, dec := some false }], r0] (by kernel_rfl) (P1 (ci_isPlace hr1) <| P2 (r1 = false) (eqF h2) <| P0))
/-! loop example/g00886/spec DrawNearOn -/
def Rs_DrawNearOn (r : Gi_Map × Int × Int) : List D := [.agg [I r.1.Width, I r.1.Height, ow 1 I r.1.Terrain, ow 1 I r.1.Rivers, ow 1 I r.1.Roads], I r.2.1, I r.2.2]
theorem cs_DrawNearOn {a0 : (List Int)} {r : Gi_Map × Int × Int} (H : Ds_DrawNearOn a0 = some r) : Ct X.P X.gl 18 [sl 1 (D.int .u8) a0] [] (Rs_DrawNearOn r) [] :=
  Ct.of func18 (c := bdy f18) (by kernel_rfl) (by kernel_rfl) <|
  eBind H fun r1 hr1 H =>
  eBind H fun r2 hr2 H =>
  eBind H fun r3 hr3 H =>
  eW Rs_DrawNearOn (fun _ => []) H <| gE func18 [r0, r0, rg [hC 1 true [1] (Rs_l1Cur_anyMap r1) (Ns_l1Cur_anyMap r1)], rg [{ i := 3, call := some { cl := true, ins := [1], args := [.ptr 0 3 0 0, .agg [I r1.1.Width, I r1.1.Height, .hid, .hid, .hid]], res := Rs_l1Cur_place_u1_2_3_4 r2, G' := Ns_l1Cur_place_u1_2_3_4 r2 } }, { i := 6, frz := [8], call := some { cl := true, auto := true, ins := [1], res := (Rs_l1Cur_among r3), G' := (Ns_l1Cur_among r3) } }]] (by kernel_rfl) (PI (1 : Nat) <| P1 (cs_l1Cur_anyMap hr1) <| PI (0 : Nat) <| PI (0 : Nat) <| PI (r1.1.Width : Int) <| PI (r1.1.Height : Int) <| PI (1 : Nat) <| P1 (cs_l1Cur_place_u1_2_3_4 hr2) <| PI (1 : Nat) <| P1 (cs_l1Cur_among hr3) <| P0)
/-! loop example/g00886/impl absOf -/
theorem ci_absOf {a0 : Int} {r : Int} (H : Di_absOf a0 = some r) : Ct X.P X.gl 123 [I a0] [] (RI r) [] :=
  Ct.of func123 (c := bdy f123) (by kernel_rfl) (by kernel_rfl) <|
  gS [r0] (by kernel_rfl) P0 <|
  eIf H (fun h1 H =>
    eW RI (fun _ => []) H <| gE func123 [rg [hT 1], r0] (by kernel_rfl) (P2 ((decide (a0 < 0)) = true) (decide_eq_true h1) <| P0))
  (fun h1 H =>
    eW RI (fun _ => []) H <| gE func123 [rg [hF 1], r0] (by kernel_rfl) (P2 ((decide (a0 < 0)) = false) (decide_eq_false h1) <| P0))
/-! loop example/g00886/impl distance -/
theorem ci_distance {a0 : Gi_Hex} {a1 : Gi_Hex} {r : Int} (H : Di_distance a0 a1 = some r) : Ct X.P X.gl 70 [.agg [I a0.Q, I a0.R], .agg [I a1.Q, I a1.R]] [] (RI r) [] :=
  Ct.of func70 (c := bdy f70) (by kernel_rfl) (by kernel_rfl) <|
  eBind H fun r1 hr1 H =>
  eBind H fun r2 hr2 H =>
  eBind H fun r3 hr3 H =>
  eW RI (fun _ => []) H <| gE func70 [r0, r0, rg [hC 1 true [] (RI r1) [], hC 3 true [] (RI r2) [], hC 8 true [] (RI r3) []]] (by kernel_rfl) (P1 (ci_absOf hr1) <| P1 (ci_absOf hr2) <| P1 (ci_absOf hr3) <| P2 (¬ (2 : Int) = 0) (by decide) <| P0)
/-! loop example/g00886/impl NearOn -/
def Ri_NearOn (r : (List Int) × Bool) : List D := [ow 1 I r.1, .bool r.2]
noncomputable def Ki_NearOn : Si_NearOn → List Item
  | .h1 .. => nav 300 4 [false] [.code (bdy f19)]
def Zi_NearOn : Si_NearOn → St
  | .h1 i0 vradius1 t2 t3 b4 l5 => ⟨sts 41 [(1, I i0), (2, I vradius1), (3, .ptr 0 5 0 0), (8, .ref 1 1 none), (22, I t2), (23, I t3)], [some ⟨false, true, 5, 1, [.agg [I b4.Width, I b4.Height, sl 1 I b4.Terrain, sl 1 I b4.Rivers, sl 1 I b4.Roads]]⟩, some ⟨false, false, 1, l5.length, List.map I l5⟩]⟩
abbrev Qi_NearOn := Nx X 19 0 Ki_NearOn Zi_NearOn Ri_NearOn (fun _ => [])
theorem ni_NearOn : ∀ s o, Bi_NearOn s = some o → Qi_NearOn (Ki_NearOn s) (Zi_NearOn s) o
  | .h1 i0 vradius1 t2 t3 b4 l5, o, H =>
    eIf H (fun h1 H =>
      eBind H fun r2 hr2 H =>
      eBind H fun r3 hr3 H =>
      eBind H fun r4 hr4 H =>
      gN [rg [hT 0], r0] (by kernel_rfl) (P2 ((decide (t3 < t2)) = true) (decide_eq_true h1) <| P0) <|
      eIf H (fun h5 H =>
        eCk H fun h6 H =>
        eN H fun r hn => gO [rg [hC 2 true [] (Ri_hexOf r2) [], hC 5 true [] (Ri_hexOf r3) [], hC 6 true [] (RI r4) [], hT 8], rg [hA 3 ((l5 ++ [t3]).length) (List.map I (l5 ++ [t3]))], r0, .canon [0, 3] [1, 2, 3, 8, 22, 23]] (by kernel_rfl) (P1 (ci_hexOf hr2) <| P1 (ci_hexOf hr3) <| P1 (ci_distance hr4) <| P2 ((decide (r4 ≤ vradius1)) = true) (decide_eq_true h5) <| P1 (apL l5 [t3]) <| P1 (apB h6) <| P1 (apM I l5 [t3]) <| P0) hn)
      (fun h5 H =>
        eN H fun r hn => gO [rg [hC 2 true [] (Ri_hexOf r2) [], hC 5 true [] (Ri_hexOf r3) [], hC 6 true [] (RI r4) [], hF 8], r0, .canon [0, 1] [1, 2, 3, 8, 22, 23]] (by kernel_rfl) (P1 (ci_hexOf hr2) <| P1 (ci_hexOf hr3) <| P1 (ci_distance hr4) <| P2 ((decide (r4 ≤ vradius1)) = false) (decide_eq_false h5) <| P0) hn))
    (fun h1 H =>
      eN H <| gE func19 [rg [hF 0], r0] (by kernel_rfl) (P2 ((decide (t3 < t2)) = false) (decide_eq_false h1) <| P0))
theorem wi_NearOn : ∀ s r, loop Bi_NearOn s = some r → Wc X 19 0 (Ki_NearOn s) (Zi_NearOn s) (Ri_NearOn r) ((fun _ => []) r) := Nx.all ni_NearOn
theorem ci_NearOn {a0 : Gi_Map} {a1 : Int} {a2 : Int} {r : (List Int) × Bool} (H : Di_NearOn a0 a1 a2 = some r) : Ct X.P X.gl 19 [.agg [I a0.Width, I a0.Height, sl 1 I a0.Terrain, sl 1 I a0.Rivers, sl 1 I a0.Roads], I a1, I a2] [] (Ri_NearOn r) [] :=
  Ct.of func19 (c := bdy f19) (by kernel_rfl) (by kernel_rfl) <|
  eBind H fun r1 hr1 H =>
  gS [r0] (by kernel_rfl) P0 <|
  eIf H (fun h2 H =>
    eBind H fun r3 hr3 H =>
    eIf H (fun h4 H =>
      gO [rg [{ i := 2, call := some { cl := true, auto := true, ins := [], res := (RB r1), G' := [] }, dec := some true }, { i := 6, call := some { cl := true, auto := true, ins := [], res := (RB r3), G' := [] }, dec := some true }], r0, r0, .canon [0, 1] [1, 2, 3, 8, 22, 23]] (by kernel_rfl) (P1 (ci_isPlace hr1) <| P2 (r1 = true) (h2) <| P1 (ci_inRange hr3) <| P2 (r3 = true) (h4) <| P0) (wi_NearOn _ _ H))
    (fun h4 H =>
      eW Ri_NearOn (fun _ => []) H <| gE func19 [rg [{ i := 2, call := some { cl := true, auto := true, ins := [], res := (RB r1), G' := [] }, dec := some true }, { i := 6, call := some { cl := true, auto := true, ins := [], res := (RB r3), G' := [] }, dec := some false }], r0] (by kernel_rfl) (P1 (ci_isPlace hr1) <| P2 (r1 = true) (h2) <| P1 (ci_inRange hr3) <| P2 (r3 = false) (eqF h4) <| P0)))
  (fun h2 H =>
    eW Ri_NearOn (fun _ => []) H <| gE func19 [rg [{ i := 2, call := some { cl := true, auto := true, ins := [], res := (RB r1), G' := [] }, dec := some false }], r0] (by kernel_rfl) (P1 (ci_isPlace hr1) <| P2 (r1 = false) (eqF h2) <| P0))
/-! loop example/g00886/spec l1Abs -/
theorem cs_l1Abs {a0 : Int} {r : Int} (H : Ds_l1Abs a0 = some r) : Ct X.P X.gl 146 [I a0] [] (RI r) [] :=
  Ct.of func146 (c := bdy f146) (by kernel_rfl) (by kernel_rfl) <|
  eBind H fun r1 hr1 H =>
  eW RI (fun _ => []) H <| gE func146 [r0, rg [hC 3 true [] (RI r1) []]] (by kernel_rfl) (P1 (cs_l1Most hr1) <| P0)
/-! loop example/g00886/spec hDistance -/
theorem cs_hDistance {a0 : Gi_Hex} {a1 : Gi_Hex} {r : Int} (H : Ds_hDistance a0 a1 = some r) : Ct X.P X.gl 124 [.agg [I a0.Q, I a0.R], .agg [I a1.Q, I a1.R]] [] (RI r) [] :=
  Ct.of func124 (c := bdy f124) (by kernel_rfl) (by kernel_rfl) <|
  eBind H fun r1 hr1 H =>
  eBind H fun r2 hr2 H =>
  eBind H fun r3 hr3 H =>
  eW RI (fun _ => []) H <| gE func124 [r0, r0, rg [hC 1 true [] (RI r1) [], hC 3 true [] (RI r2) [], hC 8 true [] (RI r3) []]] (by kernel_rfl) (P1 (cs_l1Abs hr1) <| P1 (cs_l1Abs hr2) <| P1 (cs_l1Abs hr3) <| P2 (¬ (2 : Int) = 0) (by decide) <| P0)
/-! loop example/g00886/spec mNear -/
def Rs_mNear (r : (List Int)) : List D := [ow 1 I r]
noncomputable def Ks_mNear : Ss_mNear → List Item
  | .h1 .. => nav 300 3 [] [.code (bdy f72)]
def Zs_mNear : Ss_mNear → St
  | .h1 i0 vradius1 k2 b3 l4 => ⟨sts 29 [(1, I i0), (2, I vradius1), (3, .ptr 0 5 0 0), (7, .ref 1 1 none), (8, I k2)], [some ⟨false, true, 5, 1, [.agg [I b3.Width, I b3.Height, sl 1 I b3.Terrain, sl 1 I b3.Rivers, sl 1 I b3.Roads]]⟩, some ⟨false, false, 1, l4.length, List.map I l4⟩]⟩
abbrev Qs_mNear := Nx X 72 0 Ks_mNear Zs_mNear Rs_mNear (fun _ => [])
theorem ns_mNear : ∀ s o, Bs_mNear s = some o → Qs_mNear (Ks_mNear s) (Zs_mNear s) o
  | .h1 i0 vradius1 k2 b3 l4, o, H =>
    have H := (Bs_mNear.eq_1 ..).symm.trans H
    eBind H fun r1 hr1 H =>
    eIf H (fun h2 H =>
      eBind H fun r3 hr3 H =>
      eBind H fun r4 hr4 H =>
      eBind H fun r5 hr5 H =>
      gN [rg [hC 2 true [] (RI r1) [], hT 3]] (by kernel_rfl) (P1 (cs_mSize hr1) <| P2 ((decide (k2 < r1)) = true) (decide_eq_true h2) <| P0) <|
      eIf H (fun h6 H =>
        eCk H fun h7 H =>
        eN H fun r hn => gO [rg [hC 2 true [] (Rs_mHex r3) [], hC 5 true [] (Rs_mHex r4) [], hC 6 true [] (RI r5) [], hT 8], rg [hA 3 ((l4 ++ [k2]).length) (List.map I (l4 ++ [k2]))], r0, .canon [0, 3] [1, 2, 3, 7, 8]] (by kernel_rfl) (P1 (cs_mHex hr3) <| P1 (cs_mHex hr4) <| P1 (cs_hDistance hr5) <| P2 ((decide (r5 ≤ vradius1)) = true) (decide_eq_true h6) <| P1 (apL l4 [k2]) <| P1 (apB h7) <| P1 (apM I l4 [k2]) <| P0) hn)
      (fun h6 H =>
        eN H fun r hn => gO [rg [hC 2 true [] (Rs_mHex r3) [], hC 5 true [] (Rs_mHex r4) [], hC 6 true [] (RI r5) [], hF 8], r0, .canon [0, 1] [1, 2, 3, 7, 8]] (by kernel_rfl) (P1 (cs_mHex hr3) <| P1 (cs_mHex hr4) <| P1 (cs_hDistance hr5) <| P2 ((decide (r5 ≤ vradius1)) = false) (decide_eq_false h6) <| P0) hn))
    (fun h2 H =>
      eN H <| gE func72 [rg [hC 2 true [] (RI r1) [], hF 3], r0] (by kernel_rfl) (P1 (cs_mSize hr1) <| P2 ((decide (k2 < r1)) = false) (decide_eq_false h2) <| P0))
theorem ws_mNear : ∀ s r, loop Bs_mNear s = some r → Wc X 72 0 (Ks_mNear s) (Zs_mNear s) (Rs_mNear r) ((fun _ => []) r) := Nx.all ns_mNear
theorem cs_mNear {a0 : Gi_Map} {a1 : Int} {a2 : Int} {r : (List Int)} (H : Ds_mNear a0 a1 a2 = some r) : Ct X.P X.gl 72 [.agg [I a0.Width, I a0.Height, sl 1 I a0.Terrain, sl 1 I a0.Rivers, sl 1 I a0.Roads], I a1, I a2] [] (Rs_mNear r) [] :=
  Ct.of func72 (c := bdy f72) (by kernel_rfl) (by kernel_rfl) <|
  gO [r0, r0, r0, .own 7 1, .canon [0, 1] [1, 2, 3, 7, 8]] (by kernel_rfl) P0 (ws_mNear _ _ H)
/-! loop example/g00886/spec NearOn -/
def Rs_NearOn (r : (List Int) × Bool) : List D := [ow 1 I r.1, .bool r.2]
theorem cs_NearOn {a0 : Gi_Map} {a1 : Int} {a2 : Int} {r : (List Int) × Bool} (H : Ds_NearOn a0 a1 a2 = some r) : Ct X.P X.gl 20 [.agg [I a0.Width, I a0.Height, sl 1 I a0.Terrain, sl 1 I a0.Rivers, sl 1 I a0.Roads], I a1, I a2] [] (Rs_NearOn r) [] :=
  Ct.of func20 (c := bdy f20) (by kernel_rfl) (by kernel_rfl) <|
  eBind H fun r1 hr1 H =>
  gS [r0] (by kernel_rfl) P0 <|
  eIf H (fun h2 H =>
    eBind H fun r3 hr3 H =>
    eIf H (fun h4 H =>
      eBind H fun r5 hr5 H =>
      eW Rs_NearOn (fun _ => []) H <| gE func20 [rg [{ i := 2, call := some { cl := true, auto := true, ins := [], res := (RB r1), G' := [] }, dec := some true }, { i := 6, call := some { cl := true, auto := true, ins := [], res := (RB r3), G' := [] }, dec := some true }], rg [hC 3 true [] (Rs_mNear r5) []]] (by kernel_rfl) (P1 (cs_mOn hr1) <| P2 (r1 = true) (h2) <| P1 (cs_l1In hr3) <| P2 (r3 = true) (h4) <| P1 (cs_mNear hr5) <| P0))
    (fun h4 H =>
      eW Rs_NearOn (fun _ => []) H <| gE func20 [rg [{ i := 2, call := some { cl := true, auto := true, ins := [], res := (RB r1), G' := [] }, dec := some true }, { i := 6, call := some { cl := true, auto := true, ins := [], res := (RB r3), G' := [] }, dec := some false }], r0] (by kernel_rfl) (P1 (cs_mOn hr1) <| P2 (r1 = true) (h2) <| P1 (cs_l1In hr3) <| P2 (r3 = false) (eqF h4) <| P0)))
  (fun h2 H =>
    eW Rs_NearOn (fun _ => []) H <| gE func20 [rg [{ i := 2, call := some { cl := true, auto := true, ins := [], res := (RB r1), G' := [] }, dec := some false }], r0] (by kernel_rfl) (P1 (cs_mOn hr1) <| P2 (r1 = false) (eqF h2) <| P0))
/-! loop example/g00886/laws sameInts -/
noncomputable def Kw_sameInts : Sw_sameInts → List Item
  | .h1 .. => nav 300 3 [false] [.code (bdy f21)]
def Zw_sameInts : Sw_sameInts → St
  | .h1 va0 b1 t2 t3 => ⟨sts 26 [(0, sl 1 I va0), (1, sl 1 I b1), (12, I t2), (13, I t3)], []⟩
abbrev Qw_sameInts := Nx X 21 0 Kw_sameInts Zw_sameInts RB (fun _ => [])
theorem nw_sameInts : ∀ s o, Bw_sameInts s = some o → Qw_sameInts (Kw_sameInts s) (Zw_sameInts s) o
  | .h1 va0 b1 t2 t3, o, H =>
    eIf H (fun h1 H =>
      eCk H fun h2 H =>
      eBind H fun x3 hx3 H =>
      eCk H fun h4 H =>
      eBind H fun x5 hx5 H =>
      gN [rg [hT 0], r0] (by kernel_rfl) (P2 ((decide (t3 < t2)) = true) (decide_eq_true h1) <| P0) <|
      eIf H (fun h6 H =>
        eN H fun r hn => gO [rg [hE 3 (I x3), hE 7 (I x5), hF 8], r0, .canon [] [0, 1, 12, 13]] (by kernel_rfl) (P1 h2 <| P1 (int_lt_of_at h2 hx3) <| P1 (at_map I hx3) <| P1 h4 <| P1 (int_lt_of_at h4 hx5) <| P1 (at_map I hx5) <| P2 (((x3 : Int) != x5) = false) (bneF h6) <| P0) hn)
      (fun h6 H =>
        eN H <| gE func21 [rg [hE 3 (I x3), hE 7 (I x5), hT 8], r0] (by kernel_rfl) (P1 h2 <| P1 (int_lt_of_at h2 hx3) <| P1 (at_map I hx3) <| P1 h4 <| P1 (int_lt_of_at h4 hx5) <| P1 (at_map I hx5) <| P2 (((x3 : Int) != x5) = true) (bneT h6) <| P0)))
    (fun h1 H =>
      eN H <| gE func21 [rg [hF 0], r0] (by kernel_rfl) (P2 ((decide (t3 < t2)) = false) (decide_eq_false h1) <| P0))
theorem ww_sameInts : ∀ s r, loop Bw_sameInts s = some r → Wc X 21 0 (Kw_sameInts s) (Zw_sameInts s) (RB r) ((fun _ => []) r) := Nx.all nw_sameInts
theorem cw_sameInts {a0 : (List Int)} {a1 : (List Int)} {r : Bool} (H : Dw_sameInts a0 a1 = some r) : Ct X.P X.gl 21 [sl 1 I a0, sl 1 I a1] [] (RB r) [] :=
  Ct.of func21 (c := bdy f21) (by kernel_rfl) (by kernel_rfl) <|
  gS [r0] (by kernel_rfl) P0 <|
  eIf H (fun h1 H =>
    gO [rg [hF 4], r0, .canon [] [0, 1, 12, 13]] (by kernel_rfl) (P2 (((((a0.length : Nat) : Int) : Int) != ((a1.length : Nat) : Int)) = false) (bneF h1) <| P0) (ww_sameInts _ _ H))
  (fun h1 H =>
    eW RB (fun _ => []) H <| gE func21 [rg [hT 4], r0] (by kernel_rfl) (P2 (((((a0.length : Nat) : Int) : Int) != ((a1.length : Nat) : Int)) = true) (bneT h1) <| P0))
/-! loop example/g00886/laws FnPlaces -/
noncomputable def Kw_FnPlaces : Sw_FnPlaces → List Item
  | .h1 .. => nav 300 9 [false, false, true, false] [.code (bdy f3)]
  | .h2 .. => nav 300 21 [false, false, true, false, false, false, true, false] [.code (bdy f3)]
def Zw_FnPlaces : Sw_FnPlaces → St
  | .h1 t0 => ⟨sts 192 [(1, sl 1 (D.int .u8) t0)], []⟩
  | .h2 t0 => ⟨sts 192 [(1, sl 1 (D.int .u8) t0)], []⟩
abbrev Qw_FnPlaces := Nx X 3 0 Kw_FnPlaces Zw_FnPlaces RB (fun _ => [])
theorem nw_FnPlaces : ∀ s o, Bw_FnPlaces s = some o → Qw_FnPlaces (Kw_FnPlaces s) (Zw_FnPlaces s) o
  | .h1 t0, o, H =>
    eBind H fun r1 hr1 H =>
    eBind H fun r2 hr2 H =>
    eBind H fun r3 hr3 H =>
    gN [rg [hC 1 true [] (Rs_DrawHasRiver r1) []], rg [hC 3 false [] (Ri_HasRiver r2) []], rg [hC 3 false [] (Rs_HasRiver r3) []]] (by kernel_rfl) (P1 (cs_DrawHasRiver hr1) <| P1 (ci_HasRiver hr2) <| P1 (cs_HasRiver hr3) <| P0) <|
    eIf H (fun h4 H =>
      eN H <| gE func3 [rg [hT 2], r0] (by kernel_rfl) (P2 ((!(r2.2 == r3.2)) = true) (h4) <| P0))
    (fun h4 H =>
      eIf H (fun h5 H =>
        eN H <| gE func3 [rg [hF 2, hT 6], r0] (by kernel_rfl) (P2 ((!(r2.2 == r3.2)) = false) (eqF h4) <| P2 ((!(r2.1 == r3.1)) = true) (h5) <| P0))
      (fun h5 H =>
        eBind H fun r6 hr6 H =>
        eBind H fun r7 hr7 H =>
        gN [rg [hF 2, hF 6], rg [hC 1 true [] (Rs_DrawHasRoad r6) []]] (by kernel_rfl) (P2 ((!(r2.2 == r3.2)) = false) (eqF h4) <| P2 ((!(r2.1 == r3.1)) = false) (eqF h5) <| P1 (cs_DrawHasRoad hr6) <| P0) <|
        eIf H (fun h8 H =>
          eBind H fun r9 hr9 H =>
          gN [rg [hC 3 false [] (Ri_HasRoad r7) [], hT 6], rg [hC 3 false [] (Rs_HasRoad r9) []]] (by kernel_rfl) (P1 (ci_HasRoad hr7) <| P2 (r7.2 = true) (h8) <| P1 (cs_HasRoad hr9) <| P0) <|
          eIf H (fun h10 H =>
            eN H <| gE func3 [rg [hT 2], r0] (by kernel_rfl) (P2 ((!(true == r9.2)) = true) (h10) <| P0))
          (fun h10 H =>
            eIf H (fun h11 H =>
              eN H <| gE func3 [rg [hF 2, hT 6], r0] (by kernel_rfl) (P2 ((!(true == r9.2)) = false) (eqF h10) <| P2 ((!(r7.1 == r9.1)) = true) (h11) <| P0))
            (fun h11 H =>
              eBind H fun r12 hr12 H =>
              gN [rg [hF 2, hF 6], r0] (by kernel_rfl) (P2 ((!(true == r9.2)) = false) (eqF h10) <| P2 ((!(r7.1 == r9.1)) = false) (eqF h11) <| P0) <|
              eIf H (fun h13 H =>
                eBind H fun r14 hr14 H =>
                gN [rg [hC 3 false [] (Ri_NextTo r12) [], hT 6]] (by kernel_rfl) (P1 (ci_NextTo hr12) <| P2 (r12.2 = true) (h13) <| P0) <|
                eIf H (fun h15 H =>
                  gN [rg [hC 5 false [] (Ri_HasRoad r14) [], hT 8]] (by kernel_rfl) (P2 (¬ (6 : Int) = 0) (by decide) <| P1 (ci_HasRoad hr14) <| P2 (r14.2 = true) (h15) <| P0) <|
                  eIf H (fun h16 H =>
                    eN H <| gE func3 [rg [hT 9], r0] (by kernel_rfl) (P2 ((!(r14.1 == r9.1)) = true) (h16) <| P0))
                  (fun h16 H =>
                    eN H fun r hn => gO [rg [hF 9], .canon [] [1]] (by kernel_rfl) (P2 ((!(r14.1 == r9.1)) = false) (eqF h16) <| P0) hn))
                (fun h15 H =>
                  eN H <| gE func3 [rg [hC 5 false [] (Ri_HasRoad r14) [], hF 8], r0, r0] (by kernel_rfl) (P2 (¬ (6 : Int) = 0) (by decide) <| P1 (ci_HasRoad hr14) <| P2 (r14.2 = false) (eqF h15) <| P0)))
              (fun h13 H =>
                eBind H fun r14 hr14 H =>
                eN H <| gE func3 [rg [hC 3 false [] (Ri_NextTo r12) [], hF 6], rg [hC 5 false [] (Ri_HasRoad r14) []], r0, r0] (by kernel_rfl) (P1 (ci_NextTo hr12) <| P2 (r12.2 = false) (eqF h13) <| P2 (¬ (6 : Int) = 0) (by decide) <| P1 (ci_HasRoad hr14) <| P0)))))
        (fun h8 H =>
          eBind H fun r9 hr9 H =>
          gN [rg [hC 3 false [] (Ri_HasRoad r7) [], hF 6], rg [hC 3 false [] (Rs_HasRoad r9) []]] (by kernel_rfl) (P1 (ci_HasRoad hr7) <| P2 (r7.2 = false) (eqF h8) <| P1 (cs_HasRoad hr9) <| P0) <|
          eIf H (fun h10 H =>
            eN H <| gE func3 [rg [hT 2], r0] (by kernel_rfl) (P2 ((!(false == r9.2)) = true) (h10) <| P0))
          (fun h10 H =>
            eIf H (fun h11 H =>
              eN H <| gE func3 [rg [hF 2, hT 6], r0] (by kernel_rfl) (P2 ((!(false == r9.2)) = false) (eqF h10) <| P2 ((!(r7.1 == r9.1)) = true) (h11) <| P0))
            (fun h11 H =>
              eN H fun r hn => gO [rg [hF 2, hF 6], r0, .canon [] [1]] (by kernel_rfl) (P2 ((!(false == r9.2)) = false) (eqF h10) <| P2 ((!(r7.1 == r9.1)) = false) (eqF h11) <| P0) hn)))))
  | .h2 t0, o, H =>
    eBind H fun r1 hr1 H =>
    eBind H fun r2 hr2 H =>
    eBind H fun r3 hr3 H =>
    gN [rg [hC 1 true [] (Rs_DrawNearOn r1) []], rg [hC 3 false [] (Ri_NearOn r2) []], rg [hC 3 false [] (Rs_NearOn r3) []]] (by kernel_rfl) (P1 (cs_DrawNearOn hr1) <| P2 (nfL (List.flatMap D.cells (Ri_NearOn r2))) ⟨nfL_map nf_3 _, trivial, trivial⟩ <| P2 (nfG []) trivial <| P1 (ci_NearOn hr2) <| P2 (nfL (List.flatMap D.cells (Rs_NearOn r3))) ⟨nfL_map nf_3 _, trivial, trivial⟩ <| P2 (nfG []) trivial <| P1 (cs_NearOn hr3) <| P0) <|
    eIf H (fun h4 H =>
      eBind H fun r5 hr5 H =>
      eN H <| gE func3 [rg [hT 2, hC 6 false [] (RB r5) []]] (by kernel_rfl) (P2 ((r2.2 == r3.2) = true) (h4) <| P1 (cw_sameInts hr5) <| P0))
    (fun h4 H =>
      eN H <| gE func3 [rg [hF 2]] (by kernel_rfl) (P2 ((r2.2 == r3.2) = false) (eqF h4) <| P0))
theorem ww_FnPlaces : ∀ s r, loop Bw_FnPlaces s = some r → Wc X 3 0 (Kw_FnPlaces s) (Zw_FnPlaces s) (RB r) ((fun _ => []) r) := Nx.all nw_FnPlaces
theorem cw_FnPlaces {a0 : (List Int)} {a1 : (List Int)} {r : Bool} (H : Dw_FnPlaces a0 a1 = some r) : Ct X.P X.gl 3 [sl 1 (D.int .u8) a0, sl 1 (D.int .u8) a1] [] (RB r) [] :=
  Ct.of func3 (c := bdy f3) (by kernel_rfl) (by kernel_rfl) <|
  eBind H fun r1 hr1 H =>
  gS [r0] (by kernel_rfl) P0 <|
  eIf H (fun h2 H =>
    eW RB (fun _ => []) H <| gE func3 [rg [{ i := 2, call := some { cl := true, auto := true, ins := [], res := (RB r1), G' := [] }, dec := some true }], r0] (by kernel_rfl) (P1 (cw_big hr1) <| P2 (r1 = true) (h2) <| P0))
  (fun h2 H =>
    eBind H fun r3 hr3 H =>
    eBind H fun r4 hr4 H =>
    gS [rg [{ i := 2, call := some { cl := true, auto := true, ins := [], res := (RB r1), G' := [] }, dec := some false }], rg [hC 1 true [] (Rs_DrawHexAt r3) []]] (by kernel_rfl) (P1 (cw_big hr1) <| P2 (r1 = false) (eqF h2) <| P1 (cs_DrawHexAt hr3) <| P0) <|
    eIf H (fun h5 H =>
      eBind H fun r6 hr6 H =>
      gS [rg [hC 2 false [] (Ri_HexAt r4) [], hT 5], rg [hC 2 false [] (Rs_HexAt r6) []]] (by kernel_rfl) (P2 (nfL (List.flatMap D.cells (Ri_HexAt r4))) ⟨trivial, trivial, trivial, trivial⟩ <| P2 (nfG []) trivial <| P1 (ci_HexAt hr4) <| P2 (r4.2 = true) (h5) <| P2 (nfL (List.flatMap D.cells (Rs_HexAt r6))) ⟨trivial, trivial, trivial, trivial⟩ <| P2 (nfG []) trivial <| P1 (cs_HexAt hr6) <| P0) <|
      eIf H (fun h7 H =>
        eW RB (fun _ => []) H <| gE func3 [rg [hT 2], r0] (by kernel_rfl) (P2 ((!(true == r6.2)) = true) (h7) <| P0))
      (fun h7 H =>
        eIf H (fun h8 H =>
          eW RB (fun _ => []) H <| gE func3 [rg [hF 2, hT 6], r0] (by kernel_rfl) (P2 ((!(true == r6.2)) = false) (eqF h7) <| P2 ((!((r4.1.Q == r6.1.Q) && (r4.1.R == r6.1.R))) = true) (h8) <| P0))
        (fun h8 H =>
          eBind H fun r9 hr9 H =>
          gS [rg [hF 2, hF 6], r0] (by kernel_rfl) (P2 ((!(true == r6.2)) = false) (eqF h7) <| P2 ((!((r4.1.Q == r6.1.Q) && (r4.1.R == r6.1.R))) = false) (eqF h8) <| P0) <|
          eIf H (fun h10 H =>
            gS [rg [hC 2 false [] (Ri_IndexOf r9) [], hT 5]] (by kernel_rfl) (P1 (ci_IndexOf hr9) <| P2 (r9.2 = true) (h10) <| P0) <|
            eIf H (fun h11 H =>
              gO [rg [hF 5], .canon [] [1]] (by kernel_rfl) (P2 (((r9.1 : Int) != r3.2) = false) (bneF h11) <| P0) (ww_FnPlaces _ _ H))
            (fun h11 H =>
              eW RB (fun _ => []) H <| gE func3 [rg [hT 5], r0] (by kernel_rfl) (P2 (((r9.1 : Int) != r3.2) = true) (bneT h11) <| P0)))
          (fun h10 H =>
            eW RB (fun _ => []) H <| gE func3 [rg [hC 2 false [] (Ri_IndexOf r9) [], hF 5], r0, r0] (by kernel_rfl) (P1 (ci_IndexOf hr9) <| P2 (r9.2 = false) (eqF h10) <| P0)))))
    (fun h5 H =>
      eBind H fun r6 hr6 H =>
      gS [rg [hC 2 false [] (Ri_HexAt r4) [], hF 5], rg [hC 2 false [] (Rs_HexAt r6) []]] (by kernel_rfl) (P2 (nfL (List.flatMap D.cells (Ri_HexAt r4))) ⟨trivial, trivial, trivial, trivial⟩ <| P2 (nfG []) trivial <| P1 (ci_HexAt hr4) <| P2 (r4.2 = false) (eqF h5) <| P2 (nfL (List.flatMap D.cells (Rs_HexAt r6))) ⟨trivial, trivial, trivial, trivial⟩ <| P2 (nfG []) trivial <| P1 (cs_HexAt hr6) <| P0) <|
      eIf H (fun h7 H =>
        eW RB (fun _ => []) H <| gE func3 [rg [hT 2], r0] (by kernel_rfl) (P2 ((!(false == r6.2)) = true) (h7) <| P0))
      (fun h7 H =>
        eIf H (fun h8 H =>
          eW RB (fun _ => []) H <| gE func3 [rg [hF 2, hT 6], r0] (by kernel_rfl) (P2 ((!(false == r6.2)) = false) (eqF h7) <| P2 ((!((r4.1.Q == r6.1.Q) && (r4.1.R == r6.1.R))) = true) (h8) <| P0))
        (fun h8 H =>
          gO [rg [hF 2, hF 6], r0, .canon [] [1]] (by kernel_rfl) (P2 ((!(false == r6.2)) = false) (eqF h7) <| P2 ((!((r4.1.Q == r6.1.Q) && (r4.1.R == r6.1.R))) = false) (eqF h8) <| P0) (ww_FnPlaces _ _ H)))))
end Go.Proofs.YtfnhclmdobdkbaaDoor.Ab
