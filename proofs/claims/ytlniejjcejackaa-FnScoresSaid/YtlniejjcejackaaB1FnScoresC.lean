/- Part of the proof of FnScores: no condition of its own. -/
import Derived.Test.YtlniejjcejackaaChecked
import Derived.Test.YtlniejjcejackaaB1FnScoresD
set_option linter.unusedVariables false
set_option linter.unusedSimpArgs false
open Go Go.Proofs Go.Proofs.Try
namespace Go.Proofs.Ytlniejjcejackaa.Ab
def T : Tab := [(3, ⟨(Ab.TK.int IntKind.i64), 1, 8, (Ab.D.int IntKind.i64 (Int.ofNat 0))⟩),
  (4, ⟨Ab.TK.bool, 1, 1, (Ab.D.bool Bool.false)⟩),
  (5, ⟨(Ab.TK.int IntKind.u8), 1, 1, (Ab.D.int IntKind.u8 (Int.ofNat 0))⟩),
  (22, ⟨(Ab.TK.slice 5), 1, 24, Ab.D.nil⟩),
  (38, ⟨(Ab.TK.slice 3), 1, 24, Ab.D.nil⟩),
  (54, ⟨(Ab.TK.slice 103), 1, 24, Ab.D.nil⟩),
  (55, ⟨(Ab.TK.slice 38), 1, 24, Ab.D.nil⟩),
  (57, ⟨(Ab.TK.strct [(Ab.FI.mk 0 1 Bool.false), (Ab.FI.mk 1 1 Bool.false), (Ab.FI.mk 2 1 Bool.false)] Option.none), 3, 56, (Ab.D.agg [Ab.D.nil, (Ab.D.int IntKind.i64 (Int.ofNat 0)), Ab.D.nil])⟩),
  (74, ⟨(Ab.TK.int IntKind.u64), 1, 8, (Ab.D.int IntKind.u64 (Int.ofNat 0))⟩),
  (76, ⟨(Ab.TK.strct [(Ab.FI.mk 0 1 Bool.false), (Ab.FI.mk 1 1 Bool.false), (Ab.FI.mk 2 1 Bool.false)] Option.none), 3, 40, (Ab.D.agg [Ab.D.nil, (Ab.D.int IntKind.i64 (Int.ofNat 0)), (Ab.D.int IntKind.u64 (Int.ofNat 0))])⟩),
  (103, ⟨(Ab.TK.strct [(Ab.FI.mk 0 1 Bool.false), (Ab.FI.mk 1 1 Bool.false)] (Option.some [(Ab.LK.int IntKind.i64), (Ab.LK.int IntKind.i64)])), 2, 16, (Ab.D.agg [(Ab.D.int IntKind.i64 (Int.ofNat 0)), (Ab.D.int IntKind.i64 (Int.ofNat 0))])⟩)]
noncomputable def X : Ctx := ⟨Go.Proofs.Try.prog, T, []⟩
theorem T_ok : TabOK X.P X.T := ⟨by kernel_rfl, by kernel_rfl, by kernel_rfl, by kernel_rfl, by kernel_rfl, by kernel_rfl, by kernel_rfl, by kernel_rfl, by kernel_rfl, by kernel_rfl, by kernel_rfl, trivial⟩
theorem mixed : X.P.follows .mixedOrders = true := Go.Proofs.Try.checked.mixed
theorem gO {f : FuncId} {M : Nat} {k k' : List Item} {σ σ' : St} {res : List D} {G' : List Root} (cmds : List Cmd) {ps : List Prop} (h : run X M cmds k σ = some (ps, k', σ')) (hp : AllP ps) (hk : Wc X f M k' σ' res G') : Wc X f M k σ res G' := run_ok T_ok mixed h hp hk
theorem gE {f : FuncId} {M : Nat} {k : List Item} {σ : St} {res : List D} {G' : List Root} {fn : Func} (hf : X.P.funcs[f]? = some fn) (cmds : List Cmd) {ps : List Prop} (h : runFinC X M cmds k σ fn.results.toList res = some (ps, res, G')) (hp : AllP ps) : Wc X f M k σ res G' := runFinC_ok T_ok mixed hf h hp
theorem gS {f : FuncId} {M : Nat} {k : List Item} {σ : St} {res : List D} {G' : List Root} (cmds : List Cmd) {ps : List Prop} (h : runP X M cmds k σ = some ps) (hp : AllP ps) (hk : Wc X f M (runK X M cmds k σ) (runS X M cmds k σ) res G') : Wc X f M k σ res G' := seg_ok T_ok mixed cmds h hp hk
theorem gN {ς ρ : Type} {f : FuncId} {M : Nat} {K : ς → List Item} {Z : ς → St} {R : ρ → List D} {G : ρ → List Root} {k : List Item} {σ : St} {o : ς ⊕ ρ} (cmds : List Cmd) {ps : List Prop} (h : runP X M cmds k σ = some ps) (hp : AllP ps) (hk : Nx X f M K Z R G (runK X M cmds k σ) (runS X M cmds k σ) o) : Nx X f M K Z R G k σ o := segN_ok T_ok mixed cmds h hp hk
theorem ero_38 : ∀ x, ((ow 1 I) x).er = ((sl 1 I) x).er := fun x => er_ow (fun _ => rfl) _ x
theorem allOw_38 (l : List (List Int)) : AllOw (List.map (ow 1 I) l) := allOw_map (fun x c hc => by simp [ow, D.cells] at hc; rcases hc with rfl <;> rfl) l
theorem allFl_103 (l : List Gi_Odds) : AllFl (List.map gi_Odds l) := allFl_map (fun x c hc => by simp [gi_Odds, D.cells] at hc; rcases hc with rfl | rfl <;> rfl) l
/-!   loop example/g00886/spec l1Cur  next -/
def Rs_l1Cur_next (r : Int × Gs_l1Cur) : List D := [I r.1]
def Ns_l1Cur_next (r : Int × Gs_l1Cur) : List Root := [⟨false, true, 3, 1, [.agg [sl 1 (D.int .u8) r.2.code, I r.2.at_, .int .u64 r.2.seed]]⟩]
theorem cs_l1Cur_next {a0 : Gs_l1Cur} {r : Int × Gs_l1Cur} (H : Ds_l1Cur_next a0 = some r) : Ct X.P X.gl 108 [.ptr 0 3 0 0] [⟨false, true, 3, 1, [.agg [sl 1 (D.int .u8) a0.code, I a0.at_, .int .u64 a0.seed]]⟩] (Rs_l1Cur_next r) (Ns_l1Cur_next r) :=
  Ct.of func108 (c := bdy f108) (by kernel_rfl) (by kernel_rfl) <|
  gS [r0, r0] (by kernel_rfl) P0 <|
  eIf H (fun h1 H =>
    eCk H fun h2 H =>
    eBind H fun x3 hx3 H =>
    gS [rg [hT 9], rg [hE 9 ((D.int .u8) x3)], r0, r0] (by kernel_rfl) (P2 ((decide (a0.at_ < ((a0.code.length : Nat) : Int))) = true) (decide_eq_true h1) <| P1 h2 <| P1 (int_lt_of_at h2 hx3) <| P1 (at_map (D.int .u8) hx3) <| P0) <|
    eIf H (fun h4 H =>
      eW Rs_l1Cur_next Ns_l1Cur_next H <| gE func108 [rg [hT 9], r0] (by kernel_rfl) (P2 ((decide ((IntKind.wrap .i64 (a0.at_ + 1)) ≤ ((a0.code.length : Nat) : Int))) = true) (decide_eq_true h4) <| P0))
    (fun h4 H =>
      eW Rs_l1Cur_next Ns_l1Cur_next H <| gE func108 [rg [hF 9], r0] (by kernel_rfl) (P2 ((decide ((IntKind.wrap .i64 (a0.at_ + 1)) ≤ ((a0.code.length : Nat) : Int))) = false) (decide_eq_false h4) <| P2 ((0 : Int) ≤ 40) (by decide) <| P0)))
  (fun h1 H =>
    gS [rg [hF 9], r0, r0] (by kernel_rfl) (P2 ((decide (a0.at_ < ((a0.code.length : Nat) : Int))) = false) (decide_eq_false h1) <| P0) <|
    eIf H (fun h2 H =>
      eW Rs_l1Cur_next Ns_l1Cur_next H <| gE func108 [rg [hT 9], r0] (by kernel_rfl) (P2 ((decide ((IntKind.wrap .i64 (a0.at_ + 1)) ≤ ((a0.code.length : Nat) : Int))) = true) (decide_eq_true h2) <| P0))
    (fun h2 H =>
      eW Rs_l1Cur_next Ns_l1Cur_next H <| gE func108 [rg [hF 9], r0] (by kernel_rfl) (P2 ((decide ((IntKind.wrap .i64 (a0.at_ + 1)) ≤ ((a0.code.length : Nat) : Int))) = false) (decide_eq_false h2) <| P2 ((0 : Int) ≤ 40) (by decide) <| P0)))
/-!   loop example/g00886/spec l1Cur  pick -/
def Rs_l1Cur_pick (r : Int × Gs_l1Cur) : List D := [I r.1]
def Ns_l1Cur_pick (r : Int × Gs_l1Cur) : List Root := [⟨false, true, 3, 1, [.agg [sl 1 (D.int .u8) r.2.code, I r.2.at_, .int .u64 r.2.seed]]⟩]
theorem cs_l1Cur_pick {a0 : Gs_l1Cur} {a1 : Int} {r : Int × Gs_l1Cur} (H : Ds_l1Cur_pick a0 a1 = some r) : Ct X.P X.gl 65 [.ptr 0 3 0 0, I a1] [⟨false, true, 3, 1, [.agg [sl 1 (D.int .u8) a0.code, I a0.at_, .int .u64 a0.seed]]⟩] (Rs_l1Cur_pick r) (Ns_l1Cur_pick r) :=
  Ct.of func65 (c := bdy f65) (by kernel_rfl) (by kernel_rfl) <|
  gS [r0] (by kernel_rfl) P0 <|
  eIf H (fun h1 H =>
    eW Rs_l1Cur_pick Ns_l1Cur_pick H <| gE func65 [rg [hT 1], r0] (by kernel_rfl) (P2 ((decide (a1 ≤ 1)) = true) (decide_eq_true h1) <| P0))
  (fun h1 H =>
    eBind H fun r2 hr2 H =>
    gS [rg [hF 1], rg [hC 1 true [0] (Rs_l1Cur_next r2) (Ns_l1Cur_next r2)]] (by kernel_rfl) (P2 ((decide (a1 ≤ 1)) = false) (decide_eq_false h1) <| PI (1 : Nat) <| P1 (cs_l1Cur_next hr2) <| P0) <|
    eIf H (fun h3 H =>
      eBind H fun r4 hr4 H =>
      eCk H fun h5 H =>
      eW Rs_l1Cur_pick Ns_l1Cur_pick H <| gE func65 [rg [hT 1], rg [hC 3 true [0] (Rs_l1Cur_next r4) (Ns_l1Cur_next r4)], r0] (by kernel_rfl) (P2 ((decide (a1 > 200)) = true) (decide_eq_true h3) <| PI (1 : Nat) <| P1 (cs_l1Cur_next hr4) <| P2 (¬ (a1 : Int) = 0) h5 <| P0))
    (fun h3 H =>
      eCk H fun h4 H =>
      eW Rs_l1Cur_pick Ns_l1Cur_pick H <| gE func65 [rg [hF 1], r0] (by kernel_rfl) (P2 ((decide (a1 > 200)) = false) (decide_eq_false h3) <| P2 (¬ (a1 : Int) = 0) h4 <| P0)))
/-! loop example/g00886/spec l1Least -/
theorem cs_l1Least {a0 : Int} {a1 : Int} {r : Int} (H : Ds_l1Least a0 a1 = some r) : Ct X.P X.gl 118 [I a0, I a1] [] (RI r) [] :=
  Ct.of func118 (c := bdy f118) (by kernel_rfl) (by kernel_rfl) <|
  gS [r0] (by kernel_rfl) P0 <|
  eIf H (fun h1 H =>
    eW RI (fun _ => []) H <| gE func118 [rg [hT 2], r0] (by kernel_rfl) (P2 ((decide (a0 < a1)) = true) (decide_eq_true h1) <| P0))
  (fun h1 H =>
    eW RI (fun _ => []) H <| gE func118 [rg [hF 2], r0] (by kernel_rfl) (P2 ((decide (a0 < a1)) = false) (decide_eq_false h1) <| P0))
/-! loop example/g00886/spec kRows -/
theorem cs_kRows {a0 : Int} {r : Int} (H : Ds_kRows a0 = some r) : Ct X.P X.gl 114 [I a0] [] (RI r) [] :=
  Ct.of func114 (c := bdy f114) (by kernel_rfl) (by kernel_rfl) <|
  eW RI (fun _ => []) H <| gE func114 [r0, r0] (by kernel_rfl) P0
/-!   loop example/g00886/spec l1Cur  one -/
def Rs_l1Cur_one (r : Bool × Gs_l1Cur) : List D := [.bool r.1]
def Ns_l1Cur_one (r : Bool × Gs_l1Cur) : List Root := [⟨false, true, 3, 1, [.agg [sl 1 (D.int .u8) r.2.code, I r.2.at_, .int .u64 r.2.seed]]⟩]
theorem cs_l1Cur_one {a0 : Gs_l1Cur} {a1 : Int} {r : Bool × Gs_l1Cur} (H : Ds_l1Cur_one a0 a1 = some r) : Ct X.P X.gl 106 [.ptr 0 3 0 0, I a1] [⟨false, true, 3, 1, [.agg [sl 1 (D.int .u8) a0.code, I a0.at_, .int .u64 a0.seed]]⟩] (Rs_l1Cur_one r) (Ns_l1Cur_one r) :=
  Ct.of func106 (c := bdy f106) (by kernel_rfl) (by kernel_rfl) <|
  eBind H fun r1 hr1 H =>
  eW Rs_l1Cur_one Ns_l1Cur_one H <| gE func106 [r0, rg [hC 2 true [0] (Rs_l1Cur_pick r1) (Ns_l1Cur_pick r1)]] (by kernel_rfl) (PI (1 : Nat) <| P1 (cs_l1Cur_pick hr1) <| P0)
/-!   loop example/g00886/spec l1Cur  combatTable -/
def Rs_l1Cur_combatTable (r : Gi_CombatTable × Gs_l1Cur) : List D := [.agg [ow 2 gi_Odds r.1.Columns, I r.1.Dice, ow 1 (ow 1 I) r.1.Results]]
def Ns_l1Cur_combatTable (r : Gi_CombatTable × Gs_l1Cur) : List Root := [⟨false, true, 3, 1, [.agg [sl 1 (D.int .u8) r.2.code, I r.2.at_, .int .u64 r.2.seed]]⟩]
noncomputable def Ks_l1Cur_combatTable : Ss_l1Cur_combatTable → List Item
  | .h1 .. => nav 300 8 [] [.code (bdy f116)]
  | .h2 .. => nav 300 11 [true] [.code (bdy f116)]
  | .h3 .. => nav 300 14 [true, false] [.code (bdy f116)]
  | .h4 .. => nav 300 17 [true, false, true] [.code (bdy f116)]
def Zs_l1Cur_combatTable : Ss_l1Cur_combatTable → St
  | .h1 t0 t1 b2 b3 b4 l5 l6 => ⟨sts 98 [(0, .ptr 0 3 0 0), (2, .ptr 1 3 0 0), (6, .ptr 2 3 0 0), (7, .ref 3 1 none), (8, I t0), (9, I t1)], [some ⟨false, true, 3, 1, [.agg [sl 1 (D.int .u8) b2.code, I b2.at_, .int .u64 b2.seed]]⟩, some ⟨false, true, 3, 1, [.agg [.nil, I b3, .nil]]⟩, some ⟨false, true, 3, 1, [.agg [.ref 4 2 none, I b4, .nil]]⟩, some ⟨false, false, 1, l5.length, List.map I l5⟩, some ⟨false, false, 2, l6.length, List.map gi_Odds l6⟩]⟩
  | .h2 t0 t1 t2 t3 b4 b5 b6 l7 l8 l9 => ⟨sts 98 [(0, .ptr 0 3 0 0), (2, .ptr 1 3 0 0), (6, .ptr 2 3 0 0), (7, .ref 3 1 none), (8, I t0), (9, I t1), (10, .ref 4 1 none), (50, I t2), (51, I t3)], [some ⟨false, true, 3, 1, [.agg [sl 1 (D.int .u8) b4.code, I b4.at_, .int .u64 b4.seed]]⟩, some ⟨false, true, 3, 1, [.agg [.nil, I b5, .nil]]⟩, some ⟨false, true, 3, 1, [.agg [.ref 5 2 none, I b6, .nil]]⟩, some ⟨false, false, 1, l7.length, List.map I l7⟩, some ⟨false, false, 1, l8.length, List.map I l8⟩, some ⟨false, false, 2, l9.length, List.map gi_Odds l9⟩]⟩
  | .h3 t0 t1 b2 b3 b4 l5 l6 l7 => ⟨sts 98 [(0, .ptr 0 3 0 0), (2, .ptr 1 3 0 0), (6, .ptr 2 3 0 0), (7, .ref 3 1 none), (8, I t0), (9, I t1)], [some ⟨false, true, 3, 1, [.agg [sl 1 (D.int .u8) b2.code, I b2.at_, .int .u64 b2.seed]]⟩, some ⟨false, true, 3, 1, [.agg [.nil, I b3, .nil]]⟩, some ⟨false, true, 3, 1, [.agg [.ref 4 2 none, I b4, .ref 5 1 none]]⟩, some ⟨false, false, 1, l5.length, List.map I l5⟩, some ⟨false, false, 2, l6.length, List.map gi_Odds l6⟩, some ⟨false, false, 1, l7.length, List.map (ow 1 I) l7⟩]⟩
  | .h4 t0 t1 t2 t3 b4 b5 b6 l7 l8 l9 l10 => ⟨sts 98 [(0, .ptr 0 3 0 0), (2, .ptr 1 3 0 0), (6, .ptr 2 3 0 0), (7, .ref 3 1 none), (8, I t0), (9, I t1), (10, .ref 4 1 none), (50, I t2), (51, I t3)], [some ⟨false, true, 3, 1, [.agg [sl 1 (D.int .u8) b4.code, I b4.at_, .int .u64 b4.seed]]⟩, some ⟨false, true, 3, 1, [.agg [.nil, I b5, .nil]]⟩, some ⟨false, true, 3, 1, [.agg [.ref 5 2 none, I b6, .ref 6 1 none]]⟩, some ⟨false, false, 1, l7.length, List.map I l7⟩, some ⟨false, false, 1, l8.length, List.map I l8⟩, some ⟨false, false, 2, l9.length, List.map gi_Odds l9⟩, some ⟨false, false, 1, l10.length, List.map (ow 1 I) l10⟩]⟩
abbrev Qs_l1Cur_combatTable := Nx X 116 1 Ks_l1Cur_combatTable Zs_l1Cur_combatTable Rs_l1Cur_combatTable Ns_l1Cur_combatTable
theorem ns_l1Cur_combatTable : ∀ s o, Bs_l1Cur_combatTable s = some o → Qs_l1Cur_combatTable (Ks_l1Cur_combatTable s) (Zs_l1Cur_combatTable s) o
  | .h1 t0 t1 b2 b3 b4 l5 l6, o, H =>
    eIf H (fun h1 H =>
      eN H fun r hn => gO [rg [hT 2], r0, r0, .own 10 1, .canon [0, 1, 2, 3, 5, 4] [0, 2, 6, 7, 8, 9, 10, 50, 51]] (by kernel_rfl) (P2 ((decide (t1 < t0)) = true) (decide_eq_true h1) <| P0) hn)
    (fun h1 H =>
      eBind H fun r2 hr2 H =>
      gN [rg [hF 2]] (by kernel_rfl) (P2 ((decide (t1 < t0)) = false) (decide_eq_false h1) <| P0) <|
      eIf H (fun h3 H =>
        eBind H fun r4 hr4 H =>
        (nomatch H))
      (fun h3 H =>
        eN H <| gE func116 [rg [{ i := 1, call := some { cl := true, auto := true, ins := [0], res := (Rs_l1Cur_one r2), G' := (Ns_l1Cur_one r2) }, dec := some false }], r0] (by kernel_rfl) (PI (1 : Nat) <| P1 (cs_l1Cur_one hr2) <| P2 (r2.1 = false) (eqF h3) <| P0)))
  | .h2 t0 t1 t2 t3 b4 b5 b6 l7 l8 l9, o, H =>
    eIf H (fun h1 H =>
      eCk H fun h2 H =>
      eBind H fun r3 hr3 H =>
      eBind H fun r4 hr4 H =>
      eCk H fun h5 H =>
      eBind H fun x6 hx6 H =>
      eCk H fun h7 H =>
      eN H fun r hn => gO [rg [hT 0], r0, rg [hC 11 true [0] (Rs_l1Cur_pick r3) (Ns_l1Cur_pick r3), hC 14 true [] (RI r4) [], hE 16 (I x6), hA 18 ((l8 ++ [x6]).length) (List.map I (l8 ++ [x6]))], r0, .canon [0, 1, 2, 3, 7, 5] [0, 2, 6, 7, 8, 9, 10, 50, 51]] (by kernel_rfl) (P2 ((decide (t3 < t2)) = true) (decide_eq_true h1) <| P2 (¬ (t0 : Int) = 0) h2 <| P2 (¬ (3 : Int) = 0) (by decide) <| PI (1 : Nat) <| P1 (cs_l1Cur_pick hr3) <| P2 (¬ (2 : Int) = 0) (by decide) <| P1 (cs_l1Least hr4) <| P1 h5 <| P1 (int_lt_of_at h5 hx6) <| P1 (at_map I hx6) <| P1 (apL l8 [x6]) <| P1 (apB h7) <| P1 (apM I l8 [x6]) <| P0) hn)
    (fun h1 H =>
      eCk H fun h2 H =>
      eN H fun r hn => gO [rg [hF 0], rg [{ i := 3, post := [.put 6 0 0 4 (List.map (ow 1 I) [l8]), .own 6 1] }, hA 4 ([l8].length) (List.map (ow 1 I) [l8])], r0, .canon [0, 1, 2, 3, 5, 7] [0, 2, 6, 7, 8, 9]] (by kernel_rfl) (P2 ((decide (t3 < t2)) = false) (decide_eq_false h1) <| P2 (getCells [.ref 4 1 none] 0 0 1 = some [.ref 4 1 none]) rfl <| P2 (setCells [.ref 4 1 none] 0 0 [ow 1 I l8] = List.map (ow 1 I) [l8]) rfl <| P1 (allOw_38 [l8]) <| P2 ((1 : Nat) = 1) rfl <| P2 ([l8].length = 0 + [l8].length) (by simp <;> omega) <| P2 ((0 + [l8].length) * 24 ≤ 70368744177664) (by have := h2; simp at this ⊢ <;> omega) <| P2 (([] : List D) ++ List.map (ow 1 I) [l8] = List.map (ow 1 I) [l8]) (by simp) <| P0) hn)
  | .h3 t0 t1 b2 b3 b4 l5 l6 l7, o, H =>
    eIf H (fun h1 H =>
      eN H fun r hn => gO [rg [hT 2], r0, r0, .own 10 1, .canon [0, 1, 2, 3, 6, 4, 5] [0, 2, 6, 7, 8, 9, 10, 50, 51]] (by kernel_rfl) (P2 ((decide (t1 < t0)) = true) (decide_eq_true h1) <| P0) hn)
    (fun h1 H =>
      eBind H fun r2 hr2 H =>
      gN [rg [hF 2]] (by kernel_rfl) (P2 ((decide (t1 < t0)) = false) (decide_eq_false h1) <| P0) <|
      eIf H (fun h3 H =>
        eBind H fun r4 hr4 H =>
        eCk H fun h5 H =>
        eBind H fun x6 hx6 H =>
        eBind H fun r7 hr7 H =>
        eBind H fun r8 hr8 H =>
        eCk H fun h9 H =>
        eBind H fun x10 hx10 H =>
        eN H <| gE func116 [rg [{ i := 1, call := some { cl := true, auto := true, ins := [0], res := (Rs_l1Cur_one r2), G' := (Ns_l1Cur_one r2) }, dec := some true }], rg [hC 4 true [0] (Rs_l1Cur_pick r4) (Ns_l1Cur_pick r4), { i := 6, pre := [.take 5 (Int.toNat r4.1) 0 1 x6.length (List.map I x6) (List.set (List.map (ow 1 I) l7) (Int.toNat r4.1) (.ref 6 1 none))], el := some (.ref 6 1 none) }, hC 11 true [0] (Rs_l1Cur_pick r7) (Ns_l1Cur_pick r7), hC 13 true [0] (Rs_l1Cur_pick r8) (Ns_l1Cur_pick r8), { i := 15, xs := List.map I (List.set x6 (Int.toNat r7.1) r8.1), n := (List.set x6 (Int.toNat r7.1) r8.1).length, post := [.put 5 (Int.toNat r4.1) 0 6 (List.map (ow 1 I) (List.set l7 (Int.toNat r4.1) (List.set x6 (Int.toNat r7.1) r8.1))), .own 5 (List.set l7 (Int.toNat r4.1) (List.set x6 (Int.toNat r7.1) r8.1)).length], xtra := [5] }], r0] (by kernel_rfl) (PI (1 : Nat) <| P1 (cs_l1Cur_one hr2) <| P2 (r2.1 = true) (h3) <| PI (1 : Nat) <| P1 (cs_l1Cur_pick hr4) <| P1 h5 <| P1 (int_lt_of_at h5 hx6) <| P2 (getCells (List.map (ow 1 I) l7) (Int.toNat r4.1) 0 1 = some [ow 1 I x6]) (getCells_at hx6 rfl) <| P2 (setCells (List.map (ow 1 I) l7) (Int.toNat r4.1) 0 [.ref 6 1 none] = List.set (List.map (ow 1 I) l7) (Int.toNat r4.1) (.ref 6 1 none)) (setCells_mapD hx6 rfl) <| P1 (at_set (f := (ow 1 I)) (.ref 6 1 none) hx6) <| PI (1 : Nat) <| P1 (cs_l1Cur_pick hr7) <| PI (1 : Nat) <| P1 (cs_l1Cur_pick hr8) <| P1 h9 <| P1 (int_lt_of_at h9 hx10) <| P1 (lt_of_at hx10) <| P2 (setCells (List.map I x6) (Int.toNat r7.1) 0 [I r8.1] = List.map I (List.set x6 (Int.toNat r7.1) r8.1)) (setCells_map hx10 rfl) <| P1 (setLen x6 (Int.toNat r7.1) r8.1) <| P2 (getCells (List.set (List.map (ow 1 I) l7) (Int.toNat r4.1) (.ref 6 1 none)) (Int.toNat r4.1) 0 1 = some [.ref 6 1 none]) (getCells_set hx6 rfl) <| P2 (setCells (List.set (List.map (ow 1 I) l7) (Int.toNat r4.1) (.ref 6 1 none)) (Int.toNat r4.1) 0 [ow 1 I (List.set x6 (Int.toNat r7.1) r8.1)] = List.map (ow 1 I) (List.set l7 (Int.toNat r4.1) (List.set x6 (Int.toNat r7.1) r8.1))) (setCells_set hx6 rfl) <| P1 (allOw_38 (List.set l7 (Int.toNat r4.1) (List.set x6 (Int.toNat r7.1) r8.1))) <| P1 (setLen l7 (Int.toNat r4.1) (List.set x6 (Int.toNat r7.1) r8.1)) <| P0))
      (fun h3 H =>
        eN H <| gE func116 [rg [{ i := 1, call := some { cl := true, auto := true, ins := [0], res := (Rs_l1Cur_one r2), G' := (Ns_l1Cur_one r2) }, dec := some false }], r0] (by kernel_rfl) (PI (1 : Nat) <| P1 (cs_l1Cur_one hr2) <| P2 (r2.1 = false) (eqF h3) <| P0)))
  | .h4 t0 t1 t2 t3 b4 b5 b6 l7 l8 l9 l10, o, H =>
    eIf H (fun h1 H =>
      eCk H fun h2 H =>
      eBind H fun r3 hr3 H =>
      eBind H fun r4 hr4 H =>
      eCk H fun h5 H =>
      eBind H fun x6 hx6 H =>
      eCk H fun h7 H =>
      eN H fun r hn => gO [rg [hT 0], r0, rg [hC 11 true [0] (Rs_l1Cur_pick r3) (Ns_l1Cur_pick r3), hC 14 true [] (RI r4) [], hE 16 (I x6), hA 18 ((l8 ++ [x6]).length) (List.map I (l8 ++ [x6]))], r0, .canon [0, 1, 2, 3, 8, 5, 6] [0, 2, 6, 7, 8, 9, 10, 50, 51]] (by kernel_rfl) (P2 ((decide (t3 < t2)) = true) (decide_eq_true h1) <| P2 (¬ (t0 : Int) = 0) h2 <| P2 (¬ (3 : Int) = 0) (by decide) <| PI (1 : Nat) <| P1 (cs_l1Cur_pick hr3) <| P2 (¬ (2 : Int) = 0) (by decide) <| P1 (cs_l1Least hr4) <| P1 h5 <| P1 (int_lt_of_at h5 hx6) <| P1 (at_map I hx6) <| P1 (apL l8 [x6]) <| P1 (apB h7) <| P1 (apM I l8 [x6]) <| P0) hn)
    (fun h1 H =>
      eCk H fun h2 H =>
      eN H fun r hn => gO [rg [hF 0], rg [{ i := 3, post := [.put 7 0 0 4 (List.map (ow 1 I) [l8]), .own 7 1] }, hA 4 ((l10 ++ [l8]).length) (List.map (ow 1 I) (l10 ++ [l8]))], r0, .canon [0, 1, 2, 3, 5, 8] [0, 2, 6, 7, 8, 9]] (by kernel_rfl) (P2 ((decide (t3 < t2)) = false) (decide_eq_false h1) <| P2 (getCells [.ref 4 1 none] 0 0 1 = some [.ref 4 1 none]) rfl <| P2 (setCells [.ref 4 1 none] 0 0 [ow 1 I l8] = List.map (ow 1 I) [l8]) rfl <| P1 (allOw_38 [l8]) <| P2 ((1 : Nat) = 1) rfl <| P1 (apL l10 [l8]) <| P1 (apB h2) <| P1 (apM (ow 1 I) l10 [l8]) <| P0) hn)
theorem ws_l1Cur_combatTable : ∀ s r, loop Bs_l1Cur_combatTable s = some r → Wc X 116 1 (Ks_l1Cur_combatTable s) (Zs_l1Cur_combatTable s) (Rs_l1Cur_combatTable r) (Ns_l1Cur_combatTable r) := Nx.all ns_l1Cur_combatTable
theorem cs_l1Cur_combatTable {a0 : Gs_l1Cur} {r : Gi_CombatTable × Gs_l1Cur} (H : Ds_l1Cur_combatTable a0 = some r) : Ct X.P X.gl 116 [.ptr 0 3 0 0] [⟨false, true, 3, 1, [.agg [sl 1 (D.int .u8) a0.code, I a0.at_, .int .u64 a0.seed]]⟩] (Rs_l1Cur_combatTable r) (Ns_l1Cur_combatTable r) :=
  Ct.of func116 (c := bdy f116) (by kernel_rfl) (by kernel_rfl) <|
  eBind H fun r1 hr1 H =>
  eBind H fun r2 hr2 H =>
  eBind H fun r3 hr3 H =>
  eCk H fun h4 H =>
  eCk H fun h5 H =>
  eCk H fun h6 H =>
  eCk H fun h7 H =>
  eBind H fun r8 hr8 H =>
  eBind H fun r9 hr9 H =>
  gO [r0, r0, rg [hC 1 true [0] (Rs_l1Cur_pick r1) (Ns_l1Cur_pick r1)], rg [hC 1 true [0] (Rs_l1Cur_pick r2) (Ns_l1Cur_pick r2)], rg [hC 6 true [] (RI r3) [], { i := 8, keep := true, n := (List.take ((Int.toNat r3) - (Int.toNat r1.1)) (List.drop (Int.toNat r1.1) [(Gi_Odds.mk 1 3), (Gi_Odds.mk 1 2), (Gi_Odds.mk 1 1), (Gi_Odds.mk 3 2), (Gi_Odds.mk 2 1), (Gi_Odds.mk 3 1), (Gi_Odds.mk 5 1), (Gi_Odds.mk 7 1)])).length, xs := List.map gi_Odds (List.take ((Int.toNat r3) - (Int.toNat r1.1)) (List.drop (Int.toNat r1.1) [(Gi_Odds.mk 1 3), (Gi_Odds.mk 1 2), (Gi_Odds.mk 1 1), (Gi_Odds.mk 3 2), (Gi_Odds.mk 2 1), (Gi_Odds.mk 3 1), (Gi_Odds.mk 5 1), (Gi_Odds.mk 7 1)])) }, hC 10 true [0] (Rs_l1Cur_pick r8) (Ns_l1Cur_pick r8)], r0, rg [hC 2 true [] (RI r9) []], r0, .canon [0, 1, 5, 6, 4] [0, 2, 6, 7, 8, 9]] (by kernel_rfl) (PI (1 : Nat) <| P1 (cs_l1Cur_pick hr1) <| PI (1 : Nat) <| P1 (cs_l1Cur_pick hr2) <| P1 (cs_l1Least hr3) <| P2 ((0 : Int) ≤ r1.1) h4 <| P2 ((r1.1 : Int) ≤ r3) h5 <| P2 ((r3 : Int) ≤ (([(Gi_Odds.mk 1 3), (Gi_Odds.mk 1 2), (Gi_Odds.mk 1 1), (Gi_Odds.mk 3 2), (Gi_Odds.mk 2 1), (Gi_Odds.mk 3 1), (Gi_Odds.mk 5 1), (Gi_Odds.mk 7 1)].length : Nat) : Int)) h6 <| P2 (AllFl (List.map gi_Odds [(Gi_Odds.mk 1 3), (Gi_Odds.mk 1 2), (Gi_Odds.mk 1 1), (Gi_Odds.mk 3 2), (Gi_Odds.mk 2 1), (Gi_Odds.mk 3 1), (Gi_Odds.mk 5 1), (Gi_Odds.mk 7 1)])) (allFl_103 _) <| P2 ((List.take ((Int.toNat r3) - (Int.toNat r1.1)) (List.drop (Int.toNat r1.1) [(Gi_Odds.mk 1 3), (Gi_Odds.mk 1 2), (Gi_Odds.mk 1 1), (Gi_Odds.mk 3 2), (Gi_Odds.mk 2 1), (Gi_Odds.mk 3 1), (Gi_Odds.mk 5 1), (Gi_Odds.mk 7 1)])).length = ([] : List Gi_Odds).length + ((Int.toNat r3) - (Int.toNat r1.1))) (by first | (simp <;> omega) | (simp only [List.length_append, List.length_take, List.length_drop, List.length_nil] <;> omega)) <| P2 ((([] : List Gi_Odds).length + ((Int.toNat r3) - (Int.toNat r1.1))) * 16 ≤ 70368744177664) (by have := h7; first | (simp at this ⊢ <;> omega) | (simp only [List.length_append, List.length_take, List.length_drop, List.length_nil] at this ⊢ <;> omega)) <| P2 (List.map gi_Odds ([] : List Gi_Odds) ++ List.take ((Int.toNat r3) - (Int.toNat r1.1)) (List.drop (Int.toNat r1.1) (List.map gi_Odds [(Gi_Odds.mk 1 3), (Gi_Odds.mk 1 2), (Gi_Odds.mk 1 1), (Gi_Odds.mk 3 2), (Gi_Odds.mk 2 1), (Gi_Odds.mk 3 1), (Gi_Odds.mk 5 1), (Gi_Odds.mk 7 1)])) = List.map gi_Odds (List.take ((Int.toNat r3) - (Int.toNat r1.1)) (List.drop (Int.toNat r1.1) [(Gi_Odds.mk 1 3), (Gi_Odds.mk 1 2), (Gi_Odds.mk 1 1), (Gi_Odds.mk 3 2), (Gi_Odds.mk 2 1), (Gi_Odds.mk 3 1), (Gi_Odds.mk 5 1), (Gi_Odds.mk 7 1)]))) (by simp [List.map_take, List.map_drop]) <| PI (1 : Nat) <| P1 (cs_l1Cur_pick hr8) <| P1 (cs_kRows hr9) <| P0) (ws_l1Cur_combatTable _ _ H)
/-!   loop example/g00886/spec l1Cur  among -/
def Rs_l1Cur_among (r : Int × Gs_l1Cur) : List D := [I r.1]
def Ns_l1Cur_among (r : Int × Gs_l1Cur) : List Root := [⟨false, true, 3, 1, [.agg [sl 1 (D.int .u8) r.2.code, I r.2.at_, .int .u64 r.2.seed]]⟩]
theorem cs_l1Cur_among {a0 : Gs_l1Cur} {a1 : (List Int)} {r : Int × Gs_l1Cur} (H : Ds_l1Cur_among a0 a1 = some r) : Ct X.P X.gl 64 [.ptr 0 3 0 0, sl 1 I a1] [⟨false, true, 3, 1, [.agg [sl 1 (D.int .u8) a0.code, I a0.at_, .int .u64 a0.seed]]⟩] (Rs_l1Cur_among r) (Ns_l1Cur_among r) :=
  Ct.of func64 (c := bdy f64) (by kernel_rfl) (by kernel_rfl) <|
  eBind H fun r1 hr1 H =>
  eCk H fun h2 H =>
  eBind H fun x3 hx3 H =>
  eW Rs_l1Cur_among Ns_l1Cur_among H <| gE func64 [r0, rg [hC 4 true [0] (Rs_l1Cur_pick r1) (Ns_l1Cur_pick r1), hE 6 (I x3)]] (by kernel_rfl) (PI (1 : Nat) <| P1 (cs_l1Cur_pick hr1) <| P1 h2 <| P1 (int_lt_of_at h2 hx3) <| P1 (at_map I hx3) <| P0)
/-!   loop example/g00886/spec l1Cur  anyCombatTable -/
def Rs_l1Cur_anyCombatTable (r : Gi_CombatTable × Gs_l1Cur) : List D := [.agg [ow 2 gi_Odds r.1.Columns, I r.1.Dice, ow 1 (ow 1 I) r.1.Results]]
def Ns_l1Cur_anyCombatTable (r : Gi_CombatTable × Gs_l1Cur) : List Root := [⟨false, true, 3, 1, [.agg [sl 1 (D.int .u8) r.2.code, I r.2.at_, .int .u64 r.2.seed]]⟩]
theorem cs_l1Cur_anyCombatTable {a0 : Gs_l1Cur} {r : Gi_CombatTable × Gs_l1Cur} (H : Ds_l1Cur_anyCombatTable a0 = some r) : Ct X.P X.gl 91 [.ptr 0 3 0 0] [⟨false, true, 3, 1, [.agg [sl 1 (D.int .u8) a0.code, I a0.at_, .int .u64 a0.seed]]⟩] (Rs_l1Cur_anyCombatTable r) (Ns_l1Cur_anyCombatTable r) :=
  Ct.of func91 (c := bdy f91) (by kernel_rfl) (by kernel_rfl) <|
  eBind H fun r1 hr1 H =>
  eBind H fun r2 hr2 H =>
  gS [r0, rg [hC 1 true [0] (Rs_l1Cur_combatTable r1) (Ns_l1Cur_combatTable r1)], rg [hC 1 true [0] (Rs_l1Cur_pick r2) (Ns_l1Cur_pick r2)]] (by kernel_rfl) (PI (1 : Nat) <| P1 (cs_l1Cur_combatTable hr1) <| PI (1 : Nat) <| P1 (cs_l1Cur_pick hr2) <| P0) <|
  eIf H (fun h3 H =>
    eBind H fun r4 hr4 H =>
    eBind H fun r5 hr5 H =>
    eBind H fun x6 hx6 H =>
    eW Rs_l1Cur_anyCombatTable Ns_l1Cur_anyCombatTable H <| gE func91 [rg [hT 0], rg [{ i := 4, frz := [6], call := some { cl := true, auto := true, ins := [0], res := (Rs_l1Cur_among r4), G' := (Ns_l1Cur_among r4) } }, { i := 7, frz := [7], call := some { cl := true, auto := true, ins := [0], res := (Rs_l1Cur_among r5), G' := (Ns_l1Cur_among r5) } }, hA 10 ((List.set r1.1.Columns (Int.toNat 0) (Gi_Odds.mk r4.1 r5.1)).length) (List.map gi_Odds (List.set r1.1.Columns (Int.toNat 0) (Gi_Odds.mk r4.1 r5.1)))], r0] (by kernel_rfl) (P2 (((r2.1 : Int) == 0) = true) (beqT h3) <| PI (1 : Nat) <| P1 (cs_l1Cur_among hr4) <| PI (1 : Nat) <| P1 (cs_l1Cur_among hr5) <| P2 ((0 : Int) ≤ 0) (by decide) <| P1 (int_lt_of_at (by decide : (0 : Int) ≤ 0) hx6) <| P1 (lt_of_at hx6) <| P2 (setCells (List.map gi_Odds r1.1.Columns) (Int.toNat 0) 0 [I r4.1, I r5.1] = List.map gi_Odds (List.set r1.1.Columns (Int.toNat 0) (Gi_Odds.mk r4.1 r5.1))) (setCells_map hx6 rfl) <| P1 (setLen r1.1.Columns (Int.toNat 0) (Gi_Odds.mk r4.1 r5.1)) <| P0))
  (fun h3 H =>
    gS [rg [hF 0]] (by kernel_rfl) (P2 (((r2.1 : Int) == 0) = false) (beqF h3) <| P0) <|
    eIf H (fun h4 H =>
      eBind H fun r5 hr5 H =>
      eW Rs_l1Cur_anyCombatTable Ns_l1Cur_anyCombatTable H <| gE func91 [rg [hT 0], rg [{ i := 2, frz := [6], call := some { cl := true, auto := true, ins := [0], res := (Rs_l1Cur_among r5), G' := (Ns_l1Cur_among r5) } }], r0] (by kernel_rfl) (P2 (((r2.1 : Int) == 1) = true) (beqT h4) <| PI (1 : Nat) <| P1 (cs_l1Cur_among hr5) <| P0))
    (fun h4 H =>
      gS [rg [hF 0]] (by kernel_rfl) (P2 (((r2.1 : Int) == 1) = false) (beqF h4) <| P0) <|
      eIf H (fun h5 H =>
        eBind H fun x6 hx6 H =>
        eBind H fun r7 hr7 H =>
        eBind H fun x8 hx8 H =>
        eW Rs_l1Cur_anyCombatTable Ns_l1Cur_anyCombatTable H <| gE func91 [rg [hT 0], rg [{ i := 3, pre := [.take 4 (Int.toNat 0) 0 1 x6.length (List.map I x6) (List.set (List.map (ow 1 I) r1.1.Results) (Int.toNat 0) (.ref 6 1 none))], el := some (.ref 6 1 none) }, { i := 6, frz := [7], call := some { cl := true, auto := true, ins := [0], res := (Rs_l1Cur_among r7), G' := (Ns_l1Cur_among r7) } }, { i := 8, xs := List.map I (List.set x6 (Int.toNat 0) r7.1), n := (List.set x6 (Int.toNat 0) r7.1).length, post := [.put 4 (Int.toNat 0) 0 6 (List.map (ow 1 I) (List.set r1.1.Results (Int.toNat 0) (List.set x6 (Int.toNat 0) r7.1))), .own 4 (List.set r1.1.Results (Int.toNat 0) (List.set x6 (Int.toNat 0) r7.1)).length], xtra := [4] }], r0] (by kernel_rfl) (P2 (((r2.1 : Int) == 2) = true) (beqT h5) <| P2 ((0 : Int) ≤ 0) (by decide) <| P1 (int_lt_of_at (by decide : (0 : Int) ≤ 0) hx6) <| P2 (getCells (List.map (ow 1 I) r1.1.Results) (Int.toNat 0) 0 1 = some [ow 1 I x6]) (getCells_at hx6 rfl) <| P2 (setCells (List.map (ow 1 I) r1.1.Results) (Int.toNat 0) 0 [.ref 6 1 none] = List.set (List.map (ow 1 I) r1.1.Results) (Int.toNat 0) (.ref 6 1 none)) (setCells_mapD hx6 rfl) <| P1 (at_set (f := (ow 1 I)) (.ref 6 1 none) hx6) <| PI (1 : Nat) <| P1 (cs_l1Cur_among hr7) <| P2 ((0 : Int) ≤ 0) (by decide) <| P1 (int_lt_of_at (by decide : (0 : Int) ≤ 0) hx8) <| P1 (lt_of_at hx8) <| P2 (setCells (List.map I x6) (Int.toNat 0) 0 [I r7.1] = List.map I (List.set x6 (Int.toNat 0) r7.1)) (setCells_map hx8 rfl) <| P1 (setLen x6 (Int.toNat 0) r7.1) <| P2 (getCells (List.set (List.map (ow 1 I) r1.1.Results) (Int.toNat 0) (.ref 6 1 none)) (Int.toNat 0) 0 1 = some [.ref 6 1 none]) (getCells_set hx6 rfl) <| P2 (setCells (List.set (List.map (ow 1 I) r1.1.Results) (Int.toNat 0) (.ref 6 1 none)) (Int.toNat 0) 0 [ow 1 I (List.set x6 (Int.toNat 0) r7.1)] = List.map (ow 1 I) (List.set r1.1.Results (Int.toNat 0) (List.set x6 (Int.toNat 0) r7.1))) (setCells_set hx6 rfl) <| P1 (allOw_38 (List.set r1.1.Results (Int.toNat 0) (List.set x6 (Int.toNat 0) r7.1))) <| P1 (setLen r1.1.Results (Int.toNat 0) (List.set x6 (Int.toNat 0) r7.1)) <| P0))
      (fun h5 H =>
        gS [rg [hF 0]] (by kernel_rfl) (P2 (((r2.1 : Int) == 2) = false) (beqF h5) <| P0) <|
        eIf H (fun h6 H =>
          eBind H fun x7 hx7 H =>
          eCk H fun h8 H =>
          eBind H fun x9 hx9 H =>
          eW Rs_l1Cur_anyCombatTable Ns_l1Cur_anyCombatTable H <| gE func91 [rg [hT 0], rg [{ i := 5, pre := [.take 4 (Int.toNat 1) 0 1 x7.length (List.map I x7) (List.set (List.map (ow 1 I) r1.1.Results) (Int.toNat 1) (.ref 6 1 none))], el := some (.ref 6 1 none) }, hA 7 ((x7 ++ [0]).length) (List.map I (x7 ++ [0])), { i := 9, xs := List.set (List.map (ow 1 I) r1.1.Results) (Int.toNat 1) (.ref 8 1 none), keep := true, post := [.put 4 (Int.toNat 1) 0 8 (List.map (ow 1 I) (List.set r1.1.Results (Int.toNat 1) (x7 ++ [0]))), .own 4 (List.set r1.1.Results (Int.toNat 1) (x7 ++ [0])).length] }], r0] (by kernel_rfl) (P2 (((r2.1 : Int) == 3) = true) (beqT h6) <| P2 ((0 : Int) ≤ 1) (by decide) <| P1 (int_lt_of_at (by decide : (0 : Int) ≤ 1) hx7) <| P2 (getCells (List.map (ow 1 I) r1.1.Results) (Int.toNat 1) 0 1 = some [ow 1 I x7]) (getCells_at hx7 rfl) <| P2 (setCells (List.map (ow 1 I) r1.1.Results) (Int.toNat 1) 0 [.ref 6 1 none] = List.set (List.map (ow 1 I) r1.1.Results) (Int.toNat 1) (.ref 6 1 none)) (setCells_mapD hx7 rfl) <| P1 (at_set (f := (ow 1 I)) (.ref 6 1 none) hx7) <| P1 (apL x7 [0]) <| P1 (apB h8) <| P1 (apM I x7 [0]) <| P2 ((0 : Int) ≤ 1) (by decide) <| P1 (int_lt_of_at (by decide : (0 : Int) ≤ 1) hx9) <| P1 (lt_of_at hx7) <| P2 (setCells (List.set (List.map (ow 1 I) r1.1.Results) (Int.toNat 1) (.ref 6 1 none)) (Int.toNat 1) 0 [.ref 8 1 none] = List.set (List.map (ow 1 I) r1.1.Results) (Int.toNat 1) (.ref 8 1 none)) (setCells_setD hx7 rfl) <| P2 (getCells (List.set (List.map (ow 1 I) r1.1.Results) (Int.toNat 1) (.ref 8 1 none)) (Int.toNat 1) 0 1 = some [.ref 8 1 none]) (getCells_set hx7 rfl) <| P2 (setCells (List.set (List.map (ow 1 I) r1.1.Results) (Int.toNat 1) (.ref 8 1 none)) (Int.toNat 1) 0 [ow 1 I (x7 ++ [0])] = List.map (ow 1 I) (List.set r1.1.Results (Int.toNat 1) (x7 ++ [0]))) (setCells_set hx7 rfl) <| P1 (allOw_38 (List.set r1.1.Results (Int.toNat 1) (x7 ++ [0]))) <| P1 (setLen r1.1.Results (Int.toNat 1) (x7 ++ [0])) <| P0))
        (fun h6 H =>
          gS [rg [hF 0]] (by kernel_rfl) (P2 (((r2.1 : Int) == 3) = false) (beqF h6) <| P0) <|
          eIf H (fun h7 H =>
            eCk H fun h8 H =>
            eW Rs_l1Cur_anyCombatTable Ns_l1Cur_anyCombatTable H <| gE func91 [rg [hT 0], rg [{ i := 4, keep := true, n := (r1.1.Columns ++ r1.1.Columns).length, xs := List.map gi_Odds (r1.1.Columns ++ r1.1.Columns) }], r0] (by kernel_rfl) (P2 (((r2.1 : Int) == 4) = true) (beqT h7) <| P2 (AllFl (List.map gi_Odds r1.1.Columns)) (allFl_103 _) <| P1 (apL r1.1.Columns r1.1.Columns) <| P1 (apB h8) <| P1 (apM gi_Odds r1.1.Columns r1.1.Columns) <| P0))
          (fun h7 H =>
            eW Rs_l1Cur_anyCombatTable Ns_l1Cur_anyCombatTable H <| gE func91 [rg [hF 0], r0] (by kernel_rfl) (P2 (((r2.1 : Int) == 4) = false) (beqF h7) <| P0))))))
/-! loop example/g00886/spec DrawIsCombatTable -/
def Rs_DrawIsCombatTable (r : Gi_CombatTable) : List D := [.agg [ow 2 gi_Odds r.Columns, I r.Dice, ow 1 (ow 1 I) r.Results]]
theorem cs_DrawIsCombatTable {a0 : (List Int)} {r : Gi_CombatTable} (H : Ds_DrawIsCombatTable a0 = some r) : Ct X.P X.gl 86 [sl 1 (D.int .u8) a0] [] (Rs_DrawIsCombatTable r) [] :=
  Ct.of func86 (c := bdy f86) (by kernel_rfl) (by kernel_rfl) <|
  eBind H fun r1 hr1 H =>
  eW Rs_DrawIsCombatTable (fun _ => []) H <| gE func86 [r0, r0, rg [hC 1 true [1] (Rs_l1Cur_anyCombatTable r1) (Ns_l1Cur_anyCombatTable r1)]] (by kernel_rfl) (PI (1 : Nat) <| P1 (cs_l1Cur_anyCombatTable hr1) <| P0)
/-! loop example/g00886/spec DrawIsMonotone -/
def Rs_DrawIsMonotone (r : Gi_CombatTable) : List D := [.agg [ow 2 gi_Odds r.Columns, I r.Dice, ow 1 (ow 1 I) r.Results]]
theorem cs_DrawIsMonotone {a0 : (List Int)} {r : Gi_CombatTable} (H : Ds_DrawIsMonotone a0 = some r) : Ct X.P X.gl 43 [sl 1 (D.int .u8) a0] [] (Rs_DrawIsMonotone r) [] :=
  Ct.of func43 (c := bdy f43) (by kernel_rfl) (by kernel_rfl) <|
  eBind H fun r1 hr1 H =>
  eW Rs_DrawIsMonotone (fun _ => []) H <| gE func43 [r0, rg [hC 1 true [] (Rs_DrawIsCombatTable r1) []]] (by kernel_rfl) (P1 (cs_DrawIsCombatTable hr1) <| P0)
/-! loop example/g00886/impl inRange -/
theorem ci_inRange {a0 : Int} {a1 : Int} {a2 : Int} {r : Bool} (H : Di_inRange a0 a1 a2 = some r) : Ct X.P X.gl 68 [I a0, I a1, I a2] [] (RB r) [] :=
  Ct.of func68 (c := bdy f68) (by kernel_rfl) (by kernel_rfl) <|
  gS [r0] (by kernel_rfl) P0 <|
  eIf H (fun h1 H =>
    eW RB (fun _ => []) H <| gE func68 [rg [hT 2]] (by kernel_rfl) (P2 ((decide (a1 ≤ a0)) = true) (decide_eq_true h1) <| P0))
  (fun h1 H =>
    eW RB (fun _ => []) H <| gE func68 [rg [hF 2]] (by kernel_rfl) (P2 ((decide (a1 ≤ a0)) = false) (decide_eq_false h1) <| P0))
/-! loop example/g00886/impl isResult -/
theorem ci_isResult {a0 : Int} {r : Bool} (H : Di_isResult a0 = some r) : Ct X.P X.gl 100 [I a0] [] (RB r) [] :=
  Ct.of func100 (c := bdy f100) (by kernel_rfl) (by kernel_rfl) <|
  eBind H fun r1 hr1 H =>
  eW RB (fun _ => []) H <| gE func100 [r0, rg [hC 1 true [] (RB r1) []]] (by kernel_rfl) (P1 (ci_inRange hr1) <| P0)
/-! loop example/g00886/impl IsCombatTable 1 -/
theorem ci_IsCombatTable_1 {a0 : Int} {r : Bool} (H : Di_IsCombatTable_1 a0 = some r) : Ct X.P X.gl 113 [I a0] [] (RB r) [] :=
  Ct.of func113 (c := bdy f113) (by kernel_rfl) (by kernel_rfl) <|
  eBind H fun r1 hr1 H =>
  eW RB (fun _ => []) H <| gE func113 [r0, rg [hC 1 true [] (RB r1) []]] (by kernel_rfl) (P1 (ci_isResult hr1) <| P0)
/-! slices IndexFunc   int int  -/
noncomputable def Kslices_IndexFunc_int_i_IsCombatTable_1 : Sslices_IndexFunc_int_i_IsCombatTable_1 → List Item
  | .h1 .. => nav 300 2 [] [.code (bdy f127)]
def Zslices_IndexFunc_int_i_IsCombatTable_1 : Sslices_IndexFunc_int_i_IsCombatTable_1 → St
  | .h1 s0 t1 t2 => ⟨sts 19 [(0, sl 1 I s0), (1, .fn 113 []), (7, I t1), (8, I t2)], []⟩
abbrev Qslices_IndexFunc_int_i_IsCombatTable_1 := Nx X 127 0 Kslices_IndexFunc_int_i_IsCombatTable_1 Zslices_IndexFunc_int_i_IsCombatTable_1 RI (fun _ => [])
theorem nslices_IndexFunc_int_i_IsCombatTable_1 : ∀ s o, Bslices_IndexFunc_int_i_IsCombatTable_1 s = some o → Qslices_IndexFunc_int_i_IsCombatTable_1 (Kslices_IndexFunc_int_i_IsCombatTable_1 s) (Zslices_IndexFunc_int_i_IsCombatTable_1 s) o
  | .h1 s0 t1 t2, o, H =>
    eIf H (fun h1 H =>
      eCk H fun h2 H =>
      eBind H fun x3 hx3 H =>
      eBind H fun r4 hr4 H =>
      gN [rg [hT 0], r0] (by kernel_rfl) (P2 ((decide (t2 < t1)) = true) (decide_eq_true h1) <| P0) <|
      eIf H (fun h5 H =>
        eN H <| gE func127 [rg [hE 4 (I x3), { i := 5, call := some { cl := true, auto := true, ins := [], res := (RB r4), G' := [] }, dec := some true }], r0] (by kernel_rfl) (P1 h2 <| P1 (int_lt_of_at h2 hx3) <| P1 (at_map I hx3) <| P1 (ci_IsCombatTable_1 hr4) <| P2 (r4 = true) (h5) <| P0))
      (fun h5 H =>
        eN H fun r hn => gO [rg [hE 4 (I x3), { i := 5, call := some { cl := true, auto := true, ins := [], res := (RB r4), G' := [] }, dec := some false }], r0, .canon [] [0, 1, 7, 8]] (by kernel_rfl) (P1 h2 <| P1 (int_lt_of_at h2 hx3) <| P1 (at_map I hx3) <| P1 (ci_IsCombatTable_1 hr4) <| P2 (r4 = false) (eqF h5) <| P0) hn))
    (fun h1 H =>
      eN H <| gE func127 [rg [hF 0], r0] (by kernel_rfl) (P2 ((decide (t2 < t1)) = false) (decide_eq_false h1) <| P0))
theorem wslices_IndexFunc_int_i_IsCombatTable_1 : ∀ s r, loop Bslices_IndexFunc_int_i_IsCombatTable_1 s = some r → Wc X 127 0 (Kslices_IndexFunc_int_i_IsCombatTable_1 s) (Zslices_IndexFunc_int_i_IsCombatTable_1 s) (RI r) ((fun _ => []) r) := Nx.all nslices_IndexFunc_int_i_IsCombatTable_1
theorem cslices_IndexFunc_int_i_IsCombatTable_1 {a0 : (List Int)} {r : Int} (H : Dslices_IndexFunc_int_i_IsCombatTable_1 a0 = some r) : Ct X.P X.gl 127 [sl 1 I a0, .fn 113 []] [] (RI r) [] :=
  Ct.of func127 (c := bdy f127) (by kernel_rfl) (by kernel_rfl) <|
  gO [r0, r0, .canon [] [0, 1, 7, 8]] (by kernel_rfl) P0 (wslices_IndexFunc_int_i_IsCombatTable_1 _ _ H)
/-! slices ContainsFunc   int int  -/
theorem cslices_ContainsFunc_int_i_IsCombatTable_1 {a0 : (List Int)} {r : Bool} (H : Dslices_ContainsFunc_int_i_IsCombatTable_1 a0 = some r) : Ct X.P X.gl 112 [sl 1 I a0, .fn 113 []] [] (RB r) [] :=
  Ct.of func112 (c := bdy f112) (by kernel_rfl) (by kernel_rfl) <|
  eBind H fun r1 hr1 H =>
  eW RB (fun _ => []) H <| gE func112 [r0, rg [hC 2 true [] (RI r1) []]] (by kernel_rfl) (P1 (cslices_IndexFunc_int_i_IsCombatTable_1 hr1) <| P0)
/-! loop example/g00886/impl IsCombatTable -/
noncomputable def Ki_IsCombatTable : Si_IsCombatTable → List Item
  | .h1 .. => nav 300 3 [false] [.code (bdy f87)]
  | .h2 .. => nav 300 5 [false, false] [.code (bdy f87)]
def Zi_IsCombatTable : Si_IsCombatTable → St
  | .h1 t0 t1 t2 b3 => ⟨sts 90 [(1, .ptr 0 3 0 0), (29, sl 2 gi_Odds t0), (30, I t1), (31, I t2)], [some ⟨false, true, 3, 1, [.agg [sl 2 gi_Odds b3.Columns, I b3.Dice, sl 1 (sl 1 I) b3.Results]]⟩]⟩
  | .h2 t0 t1 t2 b3 => ⟨sts 90 [(1, .ptr 0 3 0 0), (73, sl 1 (sl 1 I) t0), (74, I t1), (75, I t2)], [some ⟨false, true, 3, 1, [.agg [sl 2 gi_Odds b3.Columns, I b3.Dice, sl 1 (sl 1 I) b3.Results]]⟩]⟩
abbrev Qi_IsCombatTable := Nx X 87 0 Ki_IsCombatTable Zi_IsCombatTable RB (fun _ => [])
theorem ni_IsCombatTable : ∀ s o, Bi_IsCombatTable s = some o → Qi_IsCombatTable (Ki_IsCombatTable s) (Zi_IsCombatTable s) o
  | .h1 t0 t1 t2 b3, o, H =>
    eIf H (fun h1 H =>
      eCk H fun h2 H =>
      eBind H fun x3 hx3 H =>
      eBind H fun r4 hr4 H =>
      gN [rg [hT 0], rg [hE 2 (gi_Odds x3)]] (by kernel_rfl) (P2 ((decide (t2 < t1)) = true) (decide_eq_true h1) <| P1 h2 <| P1 (int_lt_of_at h2 hx3) <| P1 (at_map gi_Odds hx3) <| P0) <|
      eIf H (fun h5 H =>
        eBind H fun r6 hr6 H =>
        eIf H (fun h7 H =>
          gN [rg [{ i := 2, call := some { cl := true, auto := true, ins := [], res := (RB r4), G' := [] }, dec := some true }, { i := 7, call := some { cl := true, auto := true, ins := [], res := (RB r6), G' := [] }, dec := some true }]] (by kernel_rfl) (P1 (ci_inRange hr4) <| P2 (r4 = true) (h5) <| P1 (ci_inRange hr6) <| P2 (r6 = true) (h7) <| P0) <|
          eIf H (fun h8 H =>
            eCk H fun h9 H =>
            eBind H fun x10 hx10 H =>
            eCk H fun h11 H =>
            eBind H fun x12 hx12 H =>
            eIf H (fun h13 H =>
              eN H <| gE func87 [rg [hT 1, hE 9 (gi_Odds x10), hE 21 (gi_Odds x12), hT 23], r0] (by kernel_rfl) (P2 ((decide (t2 > 0)) = true) (decide_eq_true h8) <| P1 h9 <| P1 (int_lt_of_at h9 hx10) <| P1 (at_map gi_Odds hx10) <| P1 h11 <| P1 (int_lt_of_at h11 hx12) <| P1 (at_map gi_Odds hx12) <| P2 ((decide ((IntKind.wrap .i64 (x10.Num * x3.Den)) ≥ (IntKind.wrap .i64 (x3.Num * x12.Den)))) = true) (decide_eq_true h13) <| P0))
            (fun h13 H =>
              eN H fun r hn => gO [rg [hT 1, hE 9 (gi_Odds x10), hE 21 (gi_Odds x12), hF 23], r0, .canon [0] [1, 29, 30, 31]] (by kernel_rfl) (P2 ((decide (t2 > 0)) = true) (decide_eq_true h8) <| P1 h9 <| P1 (int_lt_of_at h9 hx10) <| P1 (at_map gi_Odds hx10) <| P1 h11 <| P1 (int_lt_of_at h11 hx12) <| P1 (at_map gi_Odds hx12) <| P2 ((decide ((IntKind.wrap .i64 (x10.Num * x3.Den)) ≥ (IntKind.wrap .i64 (x3.Num * x12.Den)))) = false) (decide_eq_false h13) <| P0) hn))
          (fun h8 H =>
            eN H fun r hn => gO [rg [hF 1], r0, .canon [0] [1, 29, 30, 31]] (by kernel_rfl) (P2 ((decide (t2 > 0)) = false) (decide_eq_false h8) <| P0) hn))
        (fun h7 H =>
          eN H <| gE func87 [rg [{ i := 2, call := some { cl := true, auto := true, ins := [], res := (RB r4), G' := [] }, dec := some true }, { i := 7, call := some { cl := true, auto := true, ins := [], res := (RB r6), G' := [] }, dec := some false }], r0] (by kernel_rfl) (P1 (ci_inRange hr4) <| P2 (r4 = true) (h5) <| P1 (ci_inRange hr6) <| P2 (r6 = false) (eqF h7) <| P0)))
      (fun h5 H =>
        eN H <| gE func87 [rg [{ i := 2, call := some { cl := true, auto := true, ins := [], res := (RB r4), G' := [] }, dec := some false }], r0] (by kernel_rfl) (P1 (ci_inRange hr4) <| P2 (r4 = false) (eqF h5) <| P0)))
    (fun h1 H =>
      eN H fun r hn => gO [rg [hF 0], r0, .canon [0] [1, 73, 74, 75]] (by kernel_rfl) (P2 ((decide (t2 < t1)) = false) (decide_eq_false h1) <| P0) hn)
  | .h2 t0 t1 t2 b3, o, H =>
    eIf H (fun h1 H =>
      eCk H fun h2 H =>
      eBind H fun x3 hx3 H =>
      gN [rg [hT 0], rg [hE 1 ((sl 1 I) x3)]] (by kernel_rfl) (P2 ((decide (t2 < t1)) = true) (decide_eq_true h1) <| P1 h2 <| P1 (int_lt_of_at h2 hx3) <| P1 (at_map (sl 1 I) hx3) <| P0) <|
      eIf H (fun h4 H =>
        eBind H fun r5 hr5 H =>
        eIf H (fun h6 H =>
          eN H <| gE func87 [rg [hF 5, { i := 8, call := some { cl := true, auto := true, ins := [], res := (RB r5), G' := [] }, dec := some true }], r0] (by kernel_rfl) (P2 (((((x3.length : Nat) : Int) : Int) != ((b3.Columns.length : Nat) : Int)) = false) (bneF h4) <| P1 (cslices_ContainsFunc_int_i_IsCombatTable_1 hr5) <| P2 (r5 = true) (h6) <| P0))
        (fun h6 H =>
          eN H fun r hn => gO [rg [hF 5, { i := 8, call := some { cl := true, auto := true, ins := [], res := (RB r5), G' := [] }, dec := some false }], r0, .canon [0] [1, 73, 74, 75]] (by kernel_rfl) (P2 (((((x3.length : Nat) : Int) : Int) != ((b3.Columns.length : Nat) : Int)) = false) (bneF h4) <| P1 (cslices_ContainsFunc_int_i_IsCombatTable_1 hr5) <| P2 (r5 = false) (eqF h6) <| P0) hn))
      (fun h4 H =>
        eN H <| gE func87 [rg [hT 5], r0] (by kernel_rfl) (P2 (((((x3.length : Nat) : Int) : Int) != ((b3.Columns.length : Nat) : Int)) = true) (bneT h4) <| P0)))
    (fun h1 H =>
      eN H <| gE func87 [rg [hF 0], r0] (by kernel_rfl) (P2 ((decide (t2 < t1)) = false) (decide_eq_false h1) <| P0))
theorem wi_IsCombatTable : ∀ s r, loop Bi_IsCombatTable s = some r → Wc X 87 0 (Ki_IsCombatTable s) (Zi_IsCombatTable s) (RB r) ((fun _ => []) r) := Nx.all ni_IsCombatTable
theorem ci_IsCombatTable {a0 : Gi_CombatTable} {r : Bool} (H : Di_IsCombatTable a0 = some r) : Ct X.P X.gl 87 [.agg [sl 2 gi_Odds a0.Columns, I a0.Dice, sl 1 (sl 1 I) a0.Results]] [] (RB r) [] :=
  Ct.of func87 (c := bdy f87) (by kernel_rfl) (by kernel_rfl) <|
  eBind H fun r1 hr1 H =>
  gS [r0] (by kernel_rfl) P0 <|
  eIf H (fun h2 H =>
    eBind H fun r3 hr3 H =>
    eIf H (fun h4 H =>
      eIf H (fun h5 H =>
        gO [rg [{ i := 3, call := some { cl := true, auto := true, ins := [], res := (RB r1), G' := [] }, dec := some true }, { i := 8, call := some { cl := true, auto := true, ins := [], res := (RB r3), G' := [] }, dec := some true }, hF 19], r0, .canon [0] [1, 29, 30, 31]] (by kernel_rfl) (P1 (ci_inRange hr1) <| P2 (r1 = true) (h2) <| P1 (ci_inRange hr3) <| P2 (r3 = true) (h4) <| P2 (((((a0.Results.length : Nat) : Int) : Int) != (IntKind.wrap .i64 ((IntKind.wrap .i64 (5 * a0.Dice)) + 1))) = false) (bneF h5) <| P0) (wi_IsCombatTable _ _ H))
      (fun h5 H =>
        eW RB (fun _ => []) H <| gE func87 [rg [{ i := 3, call := some { cl := true, auto := true, ins := [], res := (RB r1), G' := [] }, dec := some true }, { i := 8, call := some { cl := true, auto := true, ins := [], res := (RB r3), G' := [] }, dec := some true }, hT 19], r0] (by kernel_rfl) (P1 (ci_inRange hr1) <| P2 (r1 = true) (h2) <| P1 (ci_inRange hr3) <| P2 (r3 = true) (h4) <| P2 (((((a0.Results.length : Nat) : Int) : Int) != (IntKind.wrap .i64 ((IntKind.wrap .i64 (5 * a0.Dice)) + 1))) = true) (bneT h5) <| P0)))
    (fun h4 H =>
      eW RB (fun _ => []) H <| gE func87 [rg [{ i := 3, call := some { cl := true, auto := true, ins := [], res := (RB r1), G' := [] }, dec := some true }, { i := 8, call := some { cl := true, auto := true, ins := [], res := (RB r3), G' := [] }, dec := some false }], r0] (by kernel_rfl) (P1 (ci_inRange hr1) <| P2 (r1 = true) (h2) <| P1 (ci_inRange hr3) <| P2 (r3 = false) (eqF h4) <| P0)))
  (fun h2 H =>
    eW RB (fun _ => []) H <| gE func87 [rg [{ i := 3, call := some { cl := true, auto := true, ins := [], res := (RB r1), G' := [] }, dec := some false }], r0] (by kernel_rfl) (P1 (ci_inRange hr1) <| P2 (r1 = false) (eqF h2) <| P0))
/-! loop example/g00886/impl scoreOf -/
theorem ci_scoreOf {a0 : Int} {r : Int} (H : Di_scoreOf a0 = some r) : Ct X.P X.gl 88 [I a0] [] (RI r) [] :=
  Ct.of func88 (c := bdy f88) (by kernel_rfl) (by kernel_rfl) <|
  gS [r0, r0] (by kernel_rfl) P0 <|
  eIf H (fun h1 H =>
    eW RI (fun _ => []) H <| gE func88 [rg [hT 0], r0] (by kernel_rfl) (P2 (((a0 : Int) == 6) = true) (beqT h1) <| P0))
  (fun h1 H =>
    gS [rg [hF 0]] (by kernel_rfl) (P2 (((a0 : Int) == 6) = false) (beqF h1) <| P0) <|
    eIf H (fun h2 H =>
      eW RI (fun _ => []) H <| gE func88 [rg [hT 0], r0] (by kernel_rfl) (P2 (((a0 : Int) == 5) = true) (beqT h2) <| P0))
    (fun h2 H =>
      gS [rg [hF 0]] (by kernel_rfl) (P2 (((a0 : Int) == 5) = false) (beqF h2) <| P0) <|
      eIf H (fun h3 H =>
        eW RI (fun _ => []) H <| gE func88 [rg [hT 0], r0] (by kernel_rfl) (P2 (((a0 : Int) == 4) = true) (beqT h3) <| P0))
      (fun h3 H =>
        gS [rg [hF 0]] (by kernel_rfl) (P2 (((a0 : Int) == 4) = false) (beqF h3) <| P0) <|
        eIf H (fun h4 H =>
          eW RI (fun _ => []) H <| gE func88 [rg [hT 0], r0] (by kernel_rfl) (P2 (((a0 : Int) == 1) = true) (beqT h4) <| P0))
        (fun h4 H =>
          gS [rg [hF 0]] (by kernel_rfl) (P2 (((a0 : Int) == 1) = false) (beqF h4) <| P0) <|
          eIf H (fun h5 H =>
            eW RI (fun _ => []) H <| gE func88 [rg [hT 0], r0] (by kernel_rfl) (P2 (((a0 : Int) == 2) = true) (beqT h5) <| P0))
          (fun h5 H =>
            gS [rg [hF 0]] (by kernel_rfl) (P2 (((a0 : Int) == 2) = false) (beqF h5) <| P0) <|
            eIf H (fun h6 H =>
              eW RI (fun _ => []) H <| gE func88 [rg [hT 0], r0] (by kernel_rfl) (P2 (((a0 : Int) == 3) = true) (beqT h6) <| P0))
            (fun h6 H =>
              eW RI (fun _ => []) H <| gE func88 [rg [hF 0], r0] (by kernel_rfl) (P2 (((a0 : Int) == 3) = false) (beqF h6) <| P0)))))))
/-! loop example/g00886/impl IsMonotone -/
def Ri_IsMonotone (r : Bool × Bool) : List D := [.bool r.1, .bool r.2]
noncomputable def Ki_IsMonotone : Si_IsMonotone → List Item
  | .h1 .. => nav 300 3 [false] [.code (bdy f44)]
  | .h2 .. => nav 300 6 [false, true] [.code (bdy f44)]
def Zi_IsMonotone : Si_IsMonotone → St
  | .h1 t0 t1 t2 b3 => ⟨sts 63 [(1, .ptr 0 3 0 0), (11, sl 1 (sl 1 I) t0), (12, I t1), (13, I t2)], [some ⟨false, true, 3, 1, [.agg [sl 2 gi_Odds b3.Columns, I b3.Dice, sl 1 (sl 1 I) b3.Results]]⟩]⟩
  | .h2 vr0 vrow1 t2 t3 t4 t5 t6 b7 => ⟨sts 63 [(1, .ptr 0 3 0 0), (4, I vr0), (5, sl 1 I vrow1), (11, sl 1 (sl 1 I) t2), (12, I t3), (13, I t4), (19, I t5), (20, I t6)], [some ⟨false, true, 3, 1, [.agg [sl 2 gi_Odds b7.Columns, I b7.Dice, sl 1 (sl 1 I) b7.Results]]⟩]⟩
abbrev Qi_IsMonotone := Nx X 44 0 Ki_IsMonotone Zi_IsMonotone Ri_IsMonotone (fun _ => [])
theorem ni_IsMonotone : ∀ s o, Bi_IsMonotone s = some o → Qi_IsMonotone (Ki_IsMonotone s) (Zi_IsMonotone s) o
  | .h1 t0 t1 t2 b3, o, H =>
    eIf H (fun h1 H =>
      eCk H fun h2 H =>
      eBind H fun x3 hx3 H =>
      eN H fun r hn => gO [rg [hT 0], rg [hE 2 ((sl 1 I) x3)], r0, .canon [0] [1, 4, 5, 11, 12, 13, 19, 20]] (by kernel_rfl) (P2 ((decide (t2 < t1)) = true) (decide_eq_true h1) <| P1 h2 <| P1 (int_lt_of_at h2 hx3) <| P1 (at_map (sl 1 I) hx3) <| P0) hn)
    (fun h1 H =>
      eN H <| gE func44 [rg [hF 0], r0] (by kernel_rfl) (P2 ((decide (t2 < t1)) = false) (decide_eq_false h1) <| P0))
  | .h2 vr0 vrow1 t2 t3 t4 t5 t6 b7, o, H =>
    eIf H (fun h1 H =>
      gN [rg [hT 0], r0] (by kernel_rfl) (P2 ((decide (t6 < t5)) = true) (decide_eq_true h1) <| P0) <|
      eIf H (fun h2 H =>
        eCk H fun h3 H =>
        eBind H fun x4 hx4 H =>
        eBind H fun r5 hr5 H =>
        eCk H fun h6 H =>
        eBind H fun x7 hx7 H =>
        eBind H fun r8 hr8 H =>
        eIf H (fun h9 H =>
          eN H <| gE func44 [rg [hT 1, hE 7 (I x4), hC 8 true [] (RI r5) [], hE 12 (I x7), hC 13 true [] (RI r8) [], hT 14], r0] (by kernel_rfl) (P2 ((decide (t6 > 0)) = true) (decide_eq_true h2) <| P1 h3 <| P1 (int_lt_of_at h3 hx4) <| P1 (at_map I hx4) <| P1 (ci_scoreOf hr5) <| P1 h6 <| P1 (int_lt_of_at h6 hx7) <| P1 (at_map I hx7) <| P1 (ci_scoreOf hr8) <| P2 ((decide (r5 > r8)) = true) (decide_eq_true h9) <| P0))
        (fun h9 H =>
          eIf H (fun h10 H =>
            eCk H fun h11 H =>
            eBind H fun x12 hx12 H =>
            eCk H fun h13 H =>
            eBind H fun x14 hx14 H =>
            eBind H fun r15 hr15 H =>
            eCk H fun h16 H =>
            eBind H fun x17 hx17 H =>
            eBind H fun r18 hr18 H =>
            eIf H (fun h19 H =>
              eN H <| gE func44 [rg [hT 1, hE 7 (I x4), hC 8 true [] (RI r5) [], hE 12 (I x7), hC 13 true [] (RI r8) [], hF 14, hT 18, hE 25 ((sl 1 I) x12), hE 28 (I x14), hC 29 true [] (RI r15) [], hE 33 (I x17), hC 34 true [] (RI r18) [], hT 35], r0] (by kernel_rfl) (P2 ((decide (t6 > 0)) = true) (decide_eq_true h2) <| P1 h3 <| P1 (int_lt_of_at h3 hx4) <| P1 (at_map I hx4) <| P1 (ci_scoreOf hr5) <| P1 h6 <| P1 (int_lt_of_at h6 hx7) <| P1 (at_map I hx7) <| P1 (ci_scoreOf hr8) <| P2 ((decide (r5 > r8)) = false) (decide_eq_false h9) <| P2 ((decide (vr0 > 0)) = true) (decide_eq_true h10) <| P1 h11 <| P1 (int_lt_of_at h11 hx12) <| P1 (at_map (sl 1 I) hx12) <| P1 h13 <| P1 (int_lt_of_at h13 hx14) <| P1 (at_map I hx14) <| P1 (ci_scoreOf hr15) <| P1 h16 <| P1 (int_lt_of_at h16 hx17) <| P1 (at_map I hx17) <| P1 (ci_scoreOf hr18) <| P2 ((decide (r15 > r18)) = true) (decide_eq_true h19) <| P0))
            (fun h19 H =>
              eN H fun r hn => gO [rg [hT 1, hE 7 (I x4), hC 8 true [] (RI r5) [], hE 12 (I x7), hC 13 true [] (RI r8) [], hF 14, hT 18, hE 25 ((sl 1 I) x12), hE 28 (I x14), hC 29 true [] (RI r15) [], hE 33 (I x17), hC 34 true [] (RI r18) [], hF 35], r0, .canon [0] [1, 4, 5, 11, 12, 13, 19, 20]] (by kernel_rfl) (P2 ((decide (t6 > 0)) = true) (decide_eq_true h2) <| P1 h3 <| P1 (int_lt_of_at h3 hx4) <| P1 (at_map I hx4) <| P1 (ci_scoreOf hr5) <| P1 h6 <| P1 (int_lt_of_at h6 hx7) <| P1 (at_map I hx7) <| P1 (ci_scoreOf hr8) <| P2 ((decide (r5 > r8)) = false) (decide_eq_false h9) <| P2 ((decide (vr0 > 0)) = true) (decide_eq_true h10) <| P1 h11 <| P1 (int_lt_of_at h11 hx12) <| P1 (at_map (sl 1 I) hx12) <| P1 h13 <| P1 (int_lt_of_at h13 hx14) <| P1 (at_map I hx14) <| P1 (ci_scoreOf hr15) <| P1 h16 <| P1 (int_lt_of_at h16 hx17) <| P1 (at_map I hx17) <| P1 (ci_scoreOf hr18) <| P2 ((decide (r15 > r18)) = false) (decide_eq_false h19) <| P0) hn))
          (fun h10 H =>
            eN H fun r hn => gO [rg [hT 1, hE 7 (I x4), hC 8 true [] (RI r5) [], hE 12 (I x7), hC 13 true [] (RI r8) [], hF 14, hF 18], r0, .canon [0] [1, 4, 5, 11, 12, 13, 19, 20]] (by kernel_rfl) (P2 ((decide (t6 > 0)) = true) (decide_eq_true h2) <| P1 h3 <| P1 (int_lt_of_at h3 hx4) <| P1 (at_map I hx4) <| P1 (ci_scoreOf hr5) <| P1 h6 <| P1 (int_lt_of_at h6 hx7) <| P1 (at_map I hx7) <| P1 (ci_scoreOf hr8) <| P2 ((decide (r5 > r8)) = false) (decide_eq_false h9) <| P2 ((decide (vr0 > 0)) = false) (decide_eq_false h10) <| P0) hn)))
      (fun h2 H =>
        eIf H (fun h3 H =>
          eCk H fun h4 H =>
          eBind H fun x5 hx5 H =>
          eCk H fun h6 H =>
          eBind H fun x7 hx7 H =>
          eBind H fun r8 hr8 H =>
          eCk H fun h9 H =>
          eBind H fun x10 hx10 H =>
          eBind H fun r11 hr11 H =>
          eIf H (fun h12 H =>
            eN H <| gE func44 [rg [hF 1, hT 18, hE 25 ((sl 1 I) x5), hE 28 (I x7), hC 29 true [] (RI r8) [], hE 33 (I x10), hC 34 true [] (RI r11) [], hT 35], r0] (by kernel_rfl) (P2 ((decide (t6 > 0)) = false) (decide_eq_false h2) <| P2 ((decide (vr0 > 0)) = true) (decide_eq_true h3) <| P1 h4 <| P1 (int_lt_of_at h4 hx5) <| P1 (at_map (sl 1 I) hx5) <| P1 h6 <| P1 (int_lt_of_at h6 hx7) <| P1 (at_map I hx7) <| P1 (ci_scoreOf hr8) <| P1 h9 <| P1 (int_lt_of_at h9 hx10) <| P1 (at_map I hx10) <| P1 (ci_scoreOf hr11) <| P2 ((decide (r8 > r11)) = true) (decide_eq_true h12) <| P0))
          (fun h12 H =>
            eN H fun r hn => gO [rg [hF 1, hT 18, hE 25 ((sl 1 I) x5), hE 28 (I x7), hC 29 true [] (RI r8) [], hE 33 (I x10), hC 34 true [] (RI r11) [], hF 35], r0, .canon [0] [1, 4, 5, 11, 12, 13, 19, 20]] (by kernel_rfl) (P2 ((decide (t6 > 0)) = false) (decide_eq_false h2) <| P2 ((decide (vr0 > 0)) = true) (decide_eq_true h3) <| P1 h4 <| P1 (int_lt_of_at h4 hx5) <| P1 (at_map (sl 1 I) hx5) <| P1 h6 <| P1 (int_lt_of_at h6 hx7) <| P1 (at_map I hx7) <| P1 (ci_scoreOf hr8) <| P1 h9 <| P1 (int_lt_of_at h9 hx10) <| P1 (at_map I hx10) <| P1 (ci_scoreOf hr11) <| P2 ((decide (r8 > r11)) = false) (decide_eq_false h12) <| P0) hn))
        (fun h3 H =>
          eN H fun r hn => gO [rg [hF 1, hF 18], r0, .canon [0] [1, 4, 5, 11, 12, 13, 19, 20]] (by kernel_rfl) (P2 ((decide (t6 > 0)) = false) (decide_eq_false h2) <| P2 ((decide (vr0 > 0)) = false) (decide_eq_false h3) <| P0) hn)))
    (fun h1 H =>
      eN H fun r hn => gO [rg [hF 0], r0, .canon [0] [1, 11, 12, 13]] (by kernel_rfl) (P2 ((decide (t6 < t5)) = false) (decide_eq_false h1) <| P0) hn)
theorem wi_IsMonotone : ∀ s r, loop Bi_IsMonotone s = some r → Wc X 44 0 (Ki_IsMonotone s) (Zi_IsMonotone s) (Ri_IsMonotone r) ((fun _ => []) r) := Nx.all ni_IsMonotone
theorem ci_IsMonotone {a0 : Gi_CombatTable} {r : Bool × Bool} (H : Di_IsMonotone a0 = some r) : Ct X.P X.gl 44 [.agg [sl 2 gi_Odds a0.Columns, I a0.Dice, sl 1 (sl 1 I) a0.Results]] [] (Ri_IsMonotone r) [] :=
  Ct.of func44 (c := bdy f44) (by kernel_rfl) (by kernel_rfl) <|
  eBind H fun r1 hr1 H =>
  gS [r0] (by kernel_rfl) P0 <|
  eIf H (fun h2 H =>
    gO [rg [{ i := 1, call := some { cl := true, auto := true, ins := [], res := (RB r1), G' := [] }, dec := some true }], r0, .canon [0] [1, 11, 12, 13]] (by kernel_rfl) (P1 (ci_IsCombatTable hr1) <| P2 (r1 = true) (h2) <| P0) (wi_IsMonotone _ _ H))
  (fun h2 H =>
    eW Ri_IsMonotone (fun _ => []) H <| gE func44 [rg [{ i := 1, call := some { cl := true, auto := true, ins := [], res := (RB r1), G' := [] }, dec := some false }], r0] (by kernel_rfl) (P1 (ci_IsCombatTable hr1) <| P2 (r1 = false) (eqF h2) <| P0))
/-! loop example/g00886/spec l1In -/
theorem cs_l1In {a0 : Int} {a1 : Int} {a2 : Int} {r : Bool} (H : Ds_l1In a0 a1 a2 = some r) : Ct X.P X.gl 71 [I a0, I a1, I a2] [] (RB r) [] :=
  Ct.of func71 (c := bdy f71) (by kernel_rfl) (by kernel_rfl) <|
  gS [r0] (by kernel_rfl) P0 <|
  eIf H (fun h1 H =>
    eW RB (fun _ => []) H <| gE func71 [rg [hT 2]] (by kernel_rfl) (P2 ((decide (a0 ≥ a1)) = true) (decide_eq_true h1) <| P0))
  (fun h1 H =>
    eW RB (fun _ => []) H <| gE func71 [rg [hF 2]] (by kernel_rfl) (P2 ((decide (a0 ≥ a1)) = false) (decide_eq_false h1) <| P0))
/-! loop example/g00886/spec l1All -/
noncomputable def Ks_l1All : Ss_l1All → List Item
  | .h1 .. => nav 300 2 [] [.code (bdy f115)]
def Zs_l1All : Ss_l1All → St
  | .h1 lo0 vhi1 t2 t3 t4 => ⟨sts 21 [(1, I lo0), (2, I vhi1), (9, sl 1 I t2), (10, I t3), (11, I t4)], []⟩
abbrev Qs_l1All := Nx X 115 0 Ks_l1All Zs_l1All RB (fun _ => [])
theorem ns_l1All : ∀ s o, Bs_l1All s = some o → Qs_l1All (Ks_l1All s) (Zs_l1All s) o
  | .h1 lo0 vhi1 t2 t3 t4, o, H =>
    eIf H (fun h1 H =>
      eCk H fun h2 H =>
      eBind H fun x3 hx3 H =>
      eBind H fun r4 hr4 H =>
      gN [rg [hT 0], rg [hE 1 (I x3)]] (by kernel_rfl) (P2 ((decide (t4 < t3)) = true) (decide_eq_true h1) <| P1 h2 <| P1 (int_lt_of_at h2 hx3) <| P1 (at_map I hx3) <| P0) <|
      eIf H (fun h5 H =>
        eN H fun r hn => gO [rg [{ i := 3, call := some { cl := true, auto := true, ins := [], res := (RB r4), G' := [] }, dec := some true }], r0, .canon [] [1, 2, 9, 10, 11]] (by kernel_rfl) (P1 (cs_l1In hr4) <| P2 (r4 = true) (h5) <| P0) hn)
      (fun h5 H =>
        eN H <| gE func115 [rg [{ i := 3, call := some { cl := true, auto := true, ins := [], res := (RB r4), G' := [] }, dec := some false }], r0] (by kernel_rfl) (P1 (cs_l1In hr4) <| P2 (r4 = false) (eqF h5) <| P0)))
    (fun h1 H =>
      eN H <| gE func115 [rg [hF 0], r0] (by kernel_rfl) (P2 ((decide (t4 < t3)) = false) (decide_eq_false h1) <| P0))
theorem ws_l1All : ∀ s r, loop Bs_l1All s = some r → Wc X 115 0 (Ks_l1All s) (Zs_l1All s) (RB r) ((fun _ => []) r) := Nx.all ns_l1All
theorem cs_l1All {a0 : (List Int)} {a1 : Int} {a2 : Int} {r : Bool} (H : Ds_l1All a0 a1 a2 = some r) : Ct X.P X.gl 115 [sl 1 I a0, I a1, I a2] [] (RB r) [] :=
  Ct.of func115 (c := bdy f115) (by kernel_rfl) (by kernel_rfl) <|
  gO [r0, r0, .canon [] [1, 2, 9, 10, 11]] (by kernel_rfl) P0 (ws_l1All _ _ H)
/-! loop example/g00886/spec kGood -/
noncomputable def Ks_kGood : Ss_kGood → List Item
  | .h1 .. => nav 300 3 [false] [.code (bdy f89)]
  | .h2 .. => nav 300 5 [false, false] [.code (bdy f89)]
def Zs_kGood : Ss_kGood → St
  | .h1 t0 t1 t2 b3 => ⟨sts 90 [(1, .ptr 0 3 0 0), (28, sl 2 gi_Odds t0), (29, I t1), (30, I t2)], [some ⟨false, true, 3, 1, [.agg [sl 2 gi_Odds b3.Columns, I b3.Dice, sl 1 (sl 1 I) b3.Results]]⟩]⟩
  | .h2 t0 t1 t2 b3 => ⟨sts 90 [(1, .ptr 0 3 0 0), (72, sl 1 (sl 1 I) t0), (73, I t1), (74, I t2)], [some ⟨false, true, 3, 1, [.agg [sl 2 gi_Odds b3.Columns, I b3.Dice, sl 1 (sl 1 I) b3.Results]]⟩]⟩
abbrev Qs_kGood := Nx X 89 0 Ks_kGood Zs_kGood RB (fun _ => [])
theorem ns_kGood : ∀ s o, Bs_kGood s = some o → Qs_kGood (Ks_kGood s) (Zs_kGood s) o
  | .h1 t0 t1 t2 b3, o, H =>
    eIf H (fun h1 H =>
      eCk H fun h2 H =>
      eBind H fun x3 hx3 H =>
      eBind H fun r4 hr4 H =>
      gN [rg [hT 0], rg [hE 2 (gi_Odds x3)]] (by kernel_rfl) (P2 ((decide (t2 < t1)) = true) (decide_eq_true h1) <| P1 h2 <| P1 (int_lt_of_at h2 hx3) <| P1 (at_map gi_Odds hx3) <| P0) <|
      eIf H (fun h5 H =>
        eBind H fun r6 hr6 H =>
        eIf H (fun h7 H =>
          gN [rg [{ i := 2, call := some { cl := true, auto := true, ins := [], res := (RB r4), G' := [] }, dec := some true }, { i := 7, call := some { cl := true, auto := true, ins := [], res := (RB r6), G' := [] }, dec := some true }]] (by kernel_rfl) (P1 (cs_l1In hr4) <| P2 (r4 = true) (h5) <| P1 (cs_l1In hr6) <| P2 (r6 = true) (h7) <| P0) <|
          eIf H (fun h8 H =>
            eCk H fun h9 H =>
            eBind H fun x10 hx10 H =>
            eCk H fun h11 H =>
            eBind H fun x12 hx12 H =>
            eIf H (fun h13 H =>
              eN H <| gE func89 [rg [hT 1, hE 9 (gi_Odds x10), hE 21 (gi_Odds x12), hT 23], r0] (by kernel_rfl) (P2 ((decide (t2 > 0)) = true) (decide_eq_true h8) <| P1 h9 <| P1 (int_lt_of_at h9 hx10) <| P1 (at_map gi_Odds hx10) <| P1 h11 <| P1 (int_lt_of_at h11 hx12) <| P1 (at_map gi_Odds hx12) <| P2 ((decide ((IntKind.wrap .i64 (x10.Num * x3.Den)) ≥ (IntKind.wrap .i64 (x3.Num * x12.Den)))) = true) (decide_eq_true h13) <| P0))
            (fun h13 H =>
              eN H fun r hn => gO [rg [hT 1, hE 9 (gi_Odds x10), hE 21 (gi_Odds x12), hF 23], r0, .canon [0] [1, 28, 29, 30]] (by kernel_rfl) (P2 ((decide (t2 > 0)) = true) (decide_eq_true h8) <| P1 h9 <| P1 (int_lt_of_at h9 hx10) <| P1 (at_map gi_Odds hx10) <| P1 h11 <| P1 (int_lt_of_at h11 hx12) <| P1 (at_map gi_Odds hx12) <| P2 ((decide ((IntKind.wrap .i64 (x10.Num * x3.Den)) ≥ (IntKind.wrap .i64 (x3.Num * x12.Den)))) = false) (decide_eq_false h13) <| P0) hn))
          (fun h8 H =>
            eN H fun r hn => gO [rg [hF 1], r0, .canon [0] [1, 28, 29, 30]] (by kernel_rfl) (P2 ((decide (t2 > 0)) = false) (decide_eq_false h8) <| P0) hn))
        (fun h7 H =>
          eN H <| gE func89 [rg [{ i := 2, call := some { cl := true, auto := true, ins := [], res := (RB r4), G' := [] }, dec := some true }, { i := 7, call := some { cl := true, auto := true, ins := [], res := (RB r6), G' := [] }, dec := some false }], r0] (by kernel_rfl) (P1 (cs_l1In hr4) <| P2 (r4 = true) (h5) <| P1 (cs_l1In hr6) <| P2 (r6 = false) (eqF h7) <| P0)))
      (fun h5 H =>
        eN H <| gE func89 [rg [{ i := 2, call := some { cl := true, auto := true, ins := [], res := (RB r4), G' := [] }, dec := some false }], r0] (by kernel_rfl) (P1 (cs_l1In hr4) <| P2 (r4 = false) (eqF h5) <| P0)))
    (fun h1 H =>
      eN H fun r hn => gO [rg [hF 0], r0, .canon [0] [1, 72, 73, 74]] (by kernel_rfl) (P2 ((decide (t2 < t1)) = false) (decide_eq_false h1) <| P0) hn)
  | .h2 t0 t1 t2 b3, o, H =>
    eIf H (fun h1 H =>
      eCk H fun h2 H =>
      eBind H fun x3 hx3 H =>
      gN [rg [hT 0], rg [hE 1 ((sl 1 I) x3)]] (by kernel_rfl) (P2 ((decide (t2 < t1)) = true) (decide_eq_true h1) <| P1 h2 <| P1 (int_lt_of_at h2 hx3) <| P1 (at_map (sl 1 I) hx3) <| P0) <|
      eIf H (fun h4 H =>
        eBind H fun r5 hr5 H =>
        eIf H (fun h6 H =>
          eN H fun r hn => gO [rg [hF 5, { i := 8, call := some { cl := true, auto := true, ins := [], res := (RB r5), G' := [] }, dec := some true }], r0, .canon [0] [1, 72, 73, 74]] (by kernel_rfl) (P2 (((((x3.length : Nat) : Int) : Int) != ((b3.Columns.length : Nat) : Int)) = false) (bneF h4) <| P1 (cs_l1All hr5) <| P2 (r5 = true) (h6) <| P0) hn)
        (fun h6 H =>
          eN H <| gE func89 [rg [hF 5, { i := 8, call := some { cl := true, auto := true, ins := [], res := (RB r5), G' := [] }, dec := some false }], r0] (by kernel_rfl) (P2 (((((x3.length : Nat) : Int) : Int) != ((b3.Columns.length : Nat) : Int)) = false) (bneF h4) <| P1 (cs_l1All hr5) <| P2 (r5 = false) (eqF h6) <| P0)))
      (fun h4 H =>
        eN H <| gE func89 [rg [hT 5], r0] (by kernel_rfl) (P2 (((((x3.length : Nat) : Int) : Int) != ((b3.Columns.length : Nat) : Int)) = true) (bneT h4) <| P0)))
    (fun h1 H =>
      eN H <| gE func89 [rg [hF 0], r0] (by kernel_rfl) (P2 ((decide (t2 < t1)) = false) (decide_eq_false h1) <| P0))
theorem ws_kGood : ∀ s r, loop Bs_kGood s = some r → Wc X 89 0 (Ks_kGood s) (Zs_kGood s) (RB r) ((fun _ => []) r) := Nx.all ns_kGood
theorem cs_kGood {a0 : Gi_CombatTable} {r : Bool} (H : Ds_kGood a0 = some r) : Ct X.P X.gl 89 [.agg [sl 2 gi_Odds a0.Columns, I a0.Dice, sl 1 (sl 1 I) a0.Results]] [] (RB r) [] :=
  Ct.of func89 (c := bdy f89) (by kernel_rfl) (by kernel_rfl) <|
  eBind H fun r1 hr1 H =>
  gS [r0] (by kernel_rfl) P0 <|
  eIf H (fun h2 H =>
    eBind H fun r3 hr3 H =>
    eIf H (fun h4 H =>
      eBind H fun r5 hr5 H =>
      eIf H (fun h6 H =>
        gO [rg [{ i := 3, call := some { cl := true, auto := true, ins := [], res := (RB r1), G' := [] }, dec := some true }, { i := 8, call := some { cl := true, auto := true, ins := [], res := (RB r3), G' := [] }, dec := some true }, hC 17 true [] (RI r5) [], hF 18], r0, .canon [0] [1, 28, 29, 30]] (by kernel_rfl) (P1 (cs_l1In hr1) <| P2 (r1 = true) (h2) <| P1 (cs_l1In hr3) <| P2 (r3 = true) (h4) <| P1 (cs_kRows hr5) <| P2 (((((a0.Results.length : Nat) : Int) : Int) != r5) = false) (bneF h6) <| P0) (ws_kGood _ _ H))
      (fun h6 H =>
        eW RB (fun _ => []) H <| gE func89 [rg [{ i := 3, call := some { cl := true, auto := true, ins := [], res := (RB r1), G' := [] }, dec := some true }, { i := 8, call := some { cl := true, auto := true, ins := [], res := (RB r3), G' := [] }, dec := some true }, hC 17 true [] (RI r5) [], hT 18], r0] (by kernel_rfl) (P1 (cs_l1In hr1) <| P2 (r1 = true) (h2) <| P1 (cs_l1In hr3) <| P2 (r3 = true) (h4) <| P1 (cs_kRows hr5) <| P2 (((((a0.Results.length : Nat) : Int) : Int) != r5) = true) (bneT h6) <| P0)))
    (fun h4 H =>
      eW RB (fun _ => []) H <| gE func89 [rg [{ i := 3, call := some { cl := true, auto := true, ins := [], res := (RB r1), G' := [] }, dec := some true }, { i := 8, call := some { cl := true, auto := true, ins := [], res := (RB r3), G' := [] }, dec := some false }], r0] (by kernel_rfl) (P1 (cs_l1In hr1) <| P2 (r1 = true) (h2) <| P1 (cs_l1In hr3) <| P2 (r3 = false) (eqF h4) <| P0)))
  (fun h2 H =>
    eW RB (fun _ => []) H <| gE func89 [rg [{ i := 3, call := some { cl := true, auto := true, ins := [], res := (RB r1), G' := [] }, dec := some false }], r0] (by kernel_rfl) (P1 (cs_l1In hr1) <| P2 (r1 = false) (eqF h2) <| P0))
/-! loop example/g00886/spec kScore -/
theorem cs_kScore {a0 : Int} {r : Int} (H : Ds_kScore a0 = some r) : Ct X.P X.gl 90 [I a0] [] (RI r) [] :=
  Ct.of func90 (c := bdy f90) (by kernel_rfl) (by kernel_rfl) <|
  gS [r0] (by kernel_rfl) P0 <|
  eIf H (fun h1 H =>
    eW RI (fun _ => []) H <| gE func90 [rg [hT 1], r0] (by kernel_rfl) (P2 (((a0 : Int) == 7) = true) (beqT h1) <| P0))
  (fun h1 H =>
    gS [rg [hF 1]] (by kernel_rfl) (P2 (((a0 : Int) == 7) = false) (beqF h1) <| P0) <|
    eIf H (fun h2 H =>
      eW RI (fun _ => []) H <| gE func90 [rg [hT 1], r0] (by kernel_rfl) (P2 ((decide (a0 ≥ 4)) = true) (decide_eq_true h2) <| P0))
    (fun h2 H =>
      eW RI (fun _ => []) H <| gE func90 [rg [hF 1], r0] (by kernel_rfl) (P2 ((decide (a0 ≥ 4)) = false) (decide_eq_false h2) <| P0)))
/-! loop example/g00886/spec IsMonotone -/
def Rs_IsMonotone (r : Bool × Bool) : List D := [.bool r.1, .bool r.2]
noncomputable def Ks_IsMonotone : Ss_IsMonotone → List Item
  | .h1 .. => nav 300 3 [false] [.code (bdy f45)]
  | .h2 .. => nav 300 6 [false, true] [.code (bdy f45)]
def Zs_IsMonotone : Ss_IsMonotone → St
  | .h1 t0 t1 t2 b3 => ⟨sts 60 [(1, .ptr 0 3 0 0), (12, sl 1 (sl 1 I) t0), (13, I t1), (14, I t2)], [some ⟨false, true, 3, 1, [.agg [sl 2 gi_Odds b3.Columns, I b3.Dice, sl 1 (sl 1 I) b3.Results]]⟩]⟩
  | .h2 i0 vrow1 t2 t3 t4 t5 t6 t7 b8 => ⟨sts 60 [(1, .ptr 0 3 0 0), (4, I i0), (5, sl 1 I vrow1), (12, sl 1 (sl 1 I) t2), (13, I t3), (14, I t4), (19, sl 1 I t5), (20, I t6), (21, I t7)], [some ⟨false, true, 3, 1, [.agg [sl 2 gi_Odds b8.Columns, I b8.Dice, sl 1 (sl 1 I) b8.Results]]⟩]⟩
abbrev Qs_IsMonotone := Nx X 45 0 Ks_IsMonotone Zs_IsMonotone Rs_IsMonotone (fun _ => [])
theorem ns_IsMonotone : ∀ s o, Bs_IsMonotone s = some o → Qs_IsMonotone (Ks_IsMonotone s) (Zs_IsMonotone s) o
  | .h1 t0 t1 t2 b3, o, H =>
    eIf H (fun h1 H =>
      eCk H fun h2 H =>
      eBind H fun x3 hx3 H =>
      eN H fun r hn => gO [rg [hT 0], rg [hE 2 ((sl 1 I) x3)], r0, .canon [0] [1, 4, 5, 12, 13, 14, 19, 20, 21]] (by kernel_rfl) (P2 ((decide (t2 < t1)) = true) (decide_eq_true h1) <| P1 h2 <| P1 (int_lt_of_at h2 hx3) <| P1 (at_map (sl 1 I) hx3) <| P0) hn)
    (fun h1 H =>
      eN H <| gE func45 [rg [hF 0], r0] (by kernel_rfl) (P2 ((decide (t2 < t1)) = false) (decide_eq_false h1) <| P0))
  | .h2 i0 vrow1 t2 t3 t4 t5 t6 t7 b8, o, H =>
    eIf H (fun h1 H =>
      eCk H fun h2 H =>
      eBind H fun x3 hx3 H =>
      gN [rg [hT 0], rg [hE 2 (I x3)]] (by kernel_rfl) (P2 ((decide (t7 < t6)) = true) (decide_eq_true h1) <| P1 h2 <| P1 (int_lt_of_at h2 hx3) <| P1 (at_map I hx3) <| P0) <|
      eIf H (fun h4 H =>
        eCk H fun h5 H =>
        eBind H fun x6 hx6 H =>
        eBind H fun r7 hr7 H =>
        eBind H fun r8 hr8 H =>
        eIf H (fun h9 H =>
          eN H <| gE func45 [rg [hT 1, hE 7 (I x6), hC 8 true [] (RI r7) [], hC 10 true [] (RI r8) [], hT 11], r0] (by kernel_rfl) (P2 ((decide (t7 > 0)) = true) (decide_eq_true h4) <| P1 h5 <| P1 (int_lt_of_at h5 hx6) <| P1 (at_map I hx6) <| P1 (cs_kScore hr7) <| P1 (cs_kScore hr8) <| P2 ((decide (r7 > r8)) = true) (decide_eq_true h9) <| P0))
        (fun h9 H =>
          eIf H (fun h10 H =>
            eCk H fun h11 H =>
            eBind H fun x12 hx12 H =>
            eCk H fun h13 H =>
            eBind H fun x14 hx14 H =>
            eBind H fun r15 hr15 H =>
            eBind H fun r16 hr16 H =>
            eIf H (fun h17 H =>
              eN H <| gE func45 [rg [hT 1, hE 7 (I x6), hC 8 true [] (RI r7) [], hC 10 true [] (RI r8) [], hF 11, hT 15, hE 22 ((sl 1 I) x12), hE 25 (I x14), hC 26 true [] (RI r15) [], hC 28 true [] (RI r16) [], hT 29], r0] (by kernel_rfl) (P2 ((decide (t7 > 0)) = true) (decide_eq_true h4) <| P1 h5 <| P1 (int_lt_of_at h5 hx6) <| P1 (at_map I hx6) <| P1 (cs_kScore hr7) <| P1 (cs_kScore hr8) <| P2 ((decide (r7 > r8)) = false) (decide_eq_false h9) <| P2 ((decide (i0 > 0)) = true) (decide_eq_true h10) <| P1 h11 <| P1 (int_lt_of_at h11 hx12) <| P1 (at_map (sl 1 I) hx12) <| P1 h13 <| P1 (int_lt_of_at h13 hx14) <| P1 (at_map I hx14) <| P1 (cs_kScore hr15) <| P1 (cs_kScore hr16) <| P2 ((decide (r15 > r16)) = true) (decide_eq_true h17) <| P0))
            (fun h17 H =>
              eN H fun r hn => gO [rg [hT 1, hE 7 (I x6), hC 8 true [] (RI r7) [], hC 10 true [] (RI r8) [], hF 11, hT 15, hE 22 ((sl 1 I) x12), hE 25 (I x14), hC 26 true [] (RI r15) [], hC 28 true [] (RI r16) [], hF 29], r0, .canon [0] [1, 4, 5, 12, 13, 14, 19, 20, 21]] (by kernel_rfl) (P2 ((decide (t7 > 0)) = true) (decide_eq_true h4) <| P1 h5 <| P1 (int_lt_of_at h5 hx6) <| P1 (at_map I hx6) <| P1 (cs_kScore hr7) <| P1 (cs_kScore hr8) <| P2 ((decide (r7 > r8)) = false) (decide_eq_false h9) <| P2 ((decide (i0 > 0)) = true) (decide_eq_true h10) <| P1 h11 <| P1 (int_lt_of_at h11 hx12) <| P1 (at_map (sl 1 I) hx12) <| P1 h13 <| P1 (int_lt_of_at h13 hx14) <| P1 (at_map I hx14) <| P1 (cs_kScore hr15) <| P1 (cs_kScore hr16) <| P2 ((decide (r15 > r16)) = false) (decide_eq_false h17) <| P0) hn))
          (fun h10 H =>
            eN H fun r hn => gO [rg [hT 1, hE 7 (I x6), hC 8 true [] (RI r7) [], hC 10 true [] (RI r8) [], hF 11, hF 15], r0, .canon [0] [1, 4, 5, 12, 13, 14, 19, 20, 21]] (by kernel_rfl) (P2 ((decide (t7 > 0)) = true) (decide_eq_true h4) <| P1 h5 <| P1 (int_lt_of_at h5 hx6) <| P1 (at_map I hx6) <| P1 (cs_kScore hr7) <| P1 (cs_kScore hr8) <| P2 ((decide (r7 > r8)) = false) (decide_eq_false h9) <| P2 ((decide (i0 > 0)) = false) (decide_eq_false h10) <| P0) hn)))
      (fun h4 H =>
        eIf H (fun h5 H =>
          eCk H fun h6 H =>
          eBind H fun x7 hx7 H =>
          eCk H fun h8 H =>
          eBind H fun x9 hx9 H =>
          eBind H fun r10 hr10 H =>
          eBind H fun r11 hr11 H =>
          eIf H (fun h12 H =>
            eN H <| gE func45 [rg [hF 1, hT 15, hE 22 ((sl 1 I) x7), hE 25 (I x9), hC 26 true [] (RI r10) [], hC 28 true [] (RI r11) [], hT 29], r0] (by kernel_rfl) (P2 ((decide (t7 > 0)) = false) (decide_eq_false h4) <| P2 ((decide (i0 > 0)) = true) (decide_eq_true h5) <| P1 h6 <| P1 (int_lt_of_at h6 hx7) <| P1 (at_map (sl 1 I) hx7) <| P1 h8 <| P1 (int_lt_of_at h8 hx9) <| P1 (at_map I hx9) <| P1 (cs_kScore hr10) <| P1 (cs_kScore hr11) <| P2 ((decide (r10 > r11)) = true) (decide_eq_true h12) <| P0))
          (fun h12 H =>
            eN H fun r hn => gO [rg [hF 1, hT 15, hE 22 ((sl 1 I) x7), hE 25 (I x9), hC 26 true [] (RI r10) [], hC 28 true [] (RI r11) [], hF 29], r0, .canon [0] [1, 4, 5, 12, 13, 14, 19, 20, 21]] (by kernel_rfl) (P2 ((decide (t7 > 0)) = false) (decide_eq_false h4) <| P2 ((decide (i0 > 0)) = true) (decide_eq_true h5) <| P1 h6 <| P1 (int_lt_of_at h6 hx7) <| P1 (at_map (sl 1 I) hx7) <| P1 h8 <| P1 (int_lt_of_at h8 hx9) <| P1 (at_map I hx9) <| P1 (cs_kScore hr10) <| P1 (cs_kScore hr11) <| P2 ((decide (r10 > r11)) = false) (decide_eq_false h12) <| P0) hn))
        (fun h5 H =>
          eN H fun r hn => gO [rg [hF 1, hF 15], r0, .canon [0] [1, 4, 5, 12, 13, 14, 19, 20, 21]] (by kernel_rfl) (P2 ((decide (t7 > 0)) = false) (decide_eq_false h4) <| P2 ((decide (i0 > 0)) = false) (decide_eq_false h5) <| P0) hn)))
    (fun h1 H =>
      eN H fun r hn => gO [rg [hF 0], r0, .canon [0] [1, 12, 13, 14]] (by kernel_rfl) (P2 ((decide (t7 < t6)) = false) (decide_eq_false h1) <| P0) hn)
theorem ws_IsMonotone : ∀ s r, loop Bs_IsMonotone s = some r → Wc X 45 0 (Ks_IsMonotone s) (Zs_IsMonotone s) (Rs_IsMonotone r) ((fun _ => []) r) := Nx.all ns_IsMonotone
theorem cs_IsMonotone {a0 : Gi_CombatTable} {r : Bool × Bool} (H : Ds_IsMonotone a0 = some r) : Ct X.P X.gl 45 [.agg [sl 2 gi_Odds a0.Columns, I a0.Dice, sl 1 (sl 1 I) a0.Results]] [] (Rs_IsMonotone r) [] :=
  Ct.of func45 (c := bdy f45) (by kernel_rfl) (by kernel_rfl) <|
  eBind H fun r1 hr1 H =>
  gS [r0] (by kernel_rfl) P0 <|
  eIf H (fun h2 H =>
    gO [rg [{ i := 1, call := some { cl := true, auto := true, ins := [], res := (RB r1), G' := [] }, dec := some true }], r0, .canon [0] [1, 12, 13, 14]] (by kernel_rfl) (P1 (cs_kGood hr1) <| P2 (r1 = true) (h2) <| P0) (ws_IsMonotone _ _ H))
  (fun h2 H =>
    eW Rs_IsMonotone (fun _ => []) H <| gE func45 [rg [{ i := 1, call := some { cl := true, auto := true, ins := [], res := (RB r1), G' := [] }, dec := some false }], r0] (by kernel_rfl) (P1 (cs_kGood hr1) <| P2 (r1 = false) (eqF h2) <| P0))
/-! loop example/g00886/spec DrawShiftColumn -/
def Rs_DrawShiftColumn (r : Gi_CombatTable × Int × Int) : List D := [.agg [ow 2 gi_Odds r.1.Columns, I r.1.Dice, ow 1 (ow 1 I) r.1.Results], I r.2.1, I r.2.2]
theorem cs_DrawShiftColumn {a0 : (List Int)} {r : Gi_CombatTable × Int × Int} (H : Ds_DrawShiftColumn a0 = some r) : Ct X.P X.gl 46 [sl 1 (D.int .u8) a0] [] (Rs_DrawShiftColumn r) [] :=
  Ct.of func46 (c := bdy f46) (by kernel_rfl) (by kernel_rfl) <|
  eBind H fun r1 hr1 H =>
  eBind H fun r2 hr2 H =>
  eBind H fun r3 hr3 H =>
  eBind H fun r4 hr4 H =>
  eW Rs_DrawShiftColumn (fun _ => []) H <| gE func46 [r0, r0, rg [hC 1 true [1] (Rs_l1Cur_anyCombatTable r1) (Ns_l1Cur_anyCombatTable r1), hC 3 true [1] (Rs_l1Cur_pick r2) (Ns_l1Cur_pick r2), hC 5 true [1] (Rs_l1Cur_pick r3) (Ns_l1Cur_pick r3), { i := 10, frz := [5], call := some { cl := true, auto := true, ins := [1], res := (Rs_l1Cur_among r4), G' := (Ns_l1Cur_among r4) } }]] (by kernel_rfl) (PI (1 : Nat) <| P1 (cs_l1Cur_anyCombatTable hr1) <| PI (1 : Nat) <| P1 (cs_l1Cur_pick hr2) <| PI (1 : Nat) <| P1 (cs_l1Cur_pick hr3) <| P2 (¬ (7 : Int) = 0) (by decide) <| PI (1 : Nat) <| P1 (cs_l1Cur_among hr4) <| P0)
/-! loop example/g00886/impl isIndex -/
theorem ci_isIndex {a0 : Int} {a1 : Int} {r : Bool} (H : Di_isIndex a0 a1 = some r) : Ct X.P X.gl 78 [I a0, I a1] [] (RB r) [] :=
  Ct.of func78 (c := bdy f78) (by kernel_rfl) (by kernel_rfl) <|
  eBind H fun r1 hr1 H =>
  eW RB (fun _ => []) H <| gE func78 [r0, rg [hC 3 true [] (RB r1) []]] (by kernel_rfl) (P1 (ci_inRange hr1) <| P0)
/-! loop example/g00886/impl isColumn -/
theorem ci_isColumn {a0 : Gi_CombatTable} {a1 : Int} {r : Bool} (H : Di_isColumn a0 a1 = some r) : Ct X.P X.gl 92 [.agg [sl 2 gi_Odds a0.Columns, I a0.Dice, sl 1 (sl 1 I) a0.Results], I a1] [] (RB r) [] :=
  Ct.of func92 (c := bdy f92) (by kernel_rfl) (by kernel_rfl) <|
  eBind H fun r1 hr1 H =>
  gS [r0] (by kernel_rfl) P0 <|
  eIf H (fun h2 H =>
    eBind H fun r3 hr3 H =>
    eW RB (fun _ => []) H <| gE func92 [rg [{ i := 1, call := some { cl := true, auto := true, ins := [], res := (RB r1), G' := [] }, dec := some true }, hC 7 true [] (RB r3) []]] (by kernel_rfl) (P1 (ci_IsCombatTable hr1) <| P2 (r1 = true) (h2) <| P1 (ci_isIndex hr3) <| P0))
  (fun h2 H =>
    eW RB (fun _ => []) H <| gE func92 [rg [{ i := 1, call := some { cl := true, auto := true, ins := [], res := (RB r1), G' := [] }, dec := some false }]] (by kernel_rfl) (P1 (ci_IsCombatTable hr1) <| P2 (r1 = false) (eqF h2) <| P0))
/-! loop example/g00886/impl shiftColumn -/
theorem ci_shiftColumn {a0 : Gi_CombatTable} {a1 : Int} {a2 : Int} {r : Int} (H : Di_shiftColumn a0 a1 a2 = some r) : Ct X.P X.gl 93 [.agg [sl 2 gi_Odds a0.Columns, I a0.Dice, sl 1 (sl 1 I) a0.Results], I a1, I a2] [] (RI r) [] :=
  Ct.of func93 (c := bdy f93) (by kernel_rfl) (by kernel_rfl) <|
  eW RI (fun _ => []) H <| gE func93 [r0, r0] (by kernel_rfl) P0
/-! loop example/g00886/impl ShiftColumn -/
def Ri_ShiftColumn (r : Int × Bool) : List D := [I r.1, .bool r.2]
theorem ci_ShiftColumn {a0 : Gi_CombatTable} {a1 : Int} {a2 : Int} {r : Int × Bool} (H : Di_ShiftColumn a0 a1 a2 = some r) : Ct X.P X.gl 47 [.agg [sl 2 gi_Odds a0.Columns, I a0.Dice, sl 1 (sl 1 I) a0.Results], I a1, I a2] [] (Ri_ShiftColumn r) [] :=
  Ct.of func47 (c := bdy f47) (by kernel_rfl) (by kernel_rfl) <|
  eBind H fun r1 hr1 H =>
  gS [r0] (by kernel_rfl) P0 <|
  eIf H (fun h2 H =>
    eBind H fun r3 hr3 H =>
    eIf H (fun h4 H =>
      eBind H fun r5 hr5 H =>
      eW Ri_ShiftColumn (fun _ => []) H <| gE func47 [rg [{ i := 2, call := some { cl := true, auto := true, ins := [], res := (RB r1), G' := [] }, dec := some true }, { i := 6, call := some { cl := true, auto := true, ins := [], res := (RB r3), G' := [] }, dec := some true }], rg [hC 3 true [] (RI r5) []]] (by kernel_rfl) (P1 (ci_isColumn hr1) <| P2 (r1 = true) (h2) <| P1 (ci_inRange hr3) <| P2 (r3 = true) (h4) <| P1 (ci_shiftColumn hr5) <| P0))
    (fun h4 H =>
      eW Ri_ShiftColumn (fun _ => []) H <| gE func47 [rg [{ i := 2, call := some { cl := true, auto := true, ins := [], res := (RB r1), G' := [] }, dec := some true }, { i := 6, call := some { cl := true, auto := true, ins := [], res := (RB r3), G' := [] }, dec := some false }], r0] (by kernel_rfl) (P1 (ci_isColumn hr1) <| P2 (r1 = true) (h2) <| P1 (ci_inRange hr3) <| P2 (r3 = false) (eqF h4) <| P0)))
  (fun h2 H =>
    eW Ri_ShiftColumn (fun _ => []) H <| gE func47 [rg [{ i := 2, call := some { cl := true, auto := true, ins := [], res := (RB r1), G' := [] }, dec := some false }], r0] (by kernel_rfl) (P1 (ci_isColumn hr1) <| P2 (r1 = false) (eqF h2) <| P0))
/-! loop example/g00886/spec kAsked -/
theorem cs_kAsked {a0 : Gi_CombatTable} {a1 : Int} {r : Bool} (H : Ds_kAsked a0 a1 = some r) : Ct X.P X.gl 94 [.agg [sl 2 gi_Odds a0.Columns, I a0.Dice, sl 1 (sl 1 I) a0.Results], I a1] [] (RB r) [] :=
  Ct.of func94 (c := bdy f94) (by kernel_rfl) (by kernel_rfl) <|
  eBind H fun r1 hr1 H =>
  gS [r0] (by kernel_rfl) P0 <|
  eIf H (fun h2 H =>
    eBind H fun r3 hr3 H =>
    eW RB (fun _ => []) H <| gE func94 [rg [{ i := 1, call := some { cl := true, auto := true, ins := [], res := (RB r1), G' := [] }, dec := some true }, hC 8 true [] (RB r3) []]] (by kernel_rfl) (P1 (cs_kGood hr1) <| P2 (r1 = true) (h2) <| P1 (cs_l1In hr3) <| P0))
  (fun h2 H =>
    eW RB (fun _ => []) H <| gE func94 [rg [{ i := 1, call := some { cl := true, auto := true, ins := [], res := (RB r1), G' := [] }, dec := some false }]] (by kernel_rfl) (P1 (cs_kGood hr1) <| P2 (r1 = false) (eqF h2) <| P0))
/-! loop example/g00886/spec l1Most -/
theorem cs_l1Most {a0 : Int} {a1 : Int} {r : Int} (H : Ds_l1Most a0 a1 = some r) : Ct X.P X.gl 117 [I a0, I a1] [] (RI r) [] :=
  Ct.of func117 (c := bdy f117) (by kernel_rfl) (by kernel_rfl) <|
  gS [r0] (by kernel_rfl) P0 <|
  eIf H (fun h1 H =>
    eW RI (fun _ => []) H <| gE func117 [rg [hT 2], r0] (by kernel_rfl) (P2 ((decide (a0 > a1)) = true) (decide_eq_true h1) <| P0))
  (fun h1 H =>
    eW RI (fun _ => []) H <| gE func117 [rg [hF 2], r0] (by kernel_rfl) (P2 ((decide (a0 > a1)) = false) (decide_eq_false h1) <| P0))
/-! loop example/g00886/spec kShift -/
theorem cs_kShift {a0 : Gi_CombatTable} {a1 : Int} {a2 : Int} {r : Int} (H : Ds_kShift a0 a1 a2 = some r) : Ct X.P X.gl 95 [.agg [sl 2 gi_Odds a0.Columns, I a0.Dice, sl 1 (sl 1 I) a0.Results], I a1, I a2] [] (RI r) [] :=
  Ct.of func95 (c := bdy f95) (by kernel_rfl) (by kernel_rfl) <|
  eBind H fun r1 hr1 H =>
  eBind H fun r2 hr2 H =>
  eW RI (fun _ => []) H <| gE func95 [r0, rg [hC 7 true [] (RI r1) [], hC 8 true [] (RI r2) []]] (by kernel_rfl) (P1 (cs_l1Least hr1) <| P1 (cs_l1Most hr2) <| P0)
/-! loop example/g00886/spec ShiftColumn -/
def Rs_ShiftColumn (r : Int × Bool) : List D := [I r.1, .bool r.2]
theorem cs_ShiftColumn {a0 : Gi_CombatTable} {a1 : Int} {a2 : Int} {r : Int × Bool} (H : Ds_ShiftColumn a0 a1 a2 = some r) : Ct X.P X.gl 48 [.agg [sl 2 gi_Odds a0.Columns, I a0.Dice, sl 1 (sl 1 I) a0.Results], I a1, I a2] [] (Rs_ShiftColumn r) [] :=
  Ct.of func48 (c := bdy f48) (by kernel_rfl) (by kernel_rfl) <|
  eBind H fun r1 hr1 H =>
  gS [r0] (by kernel_rfl) P0 <|
  eIf H (fun h2 H =>
    eBind H fun r3 hr3 H =>
    eIf H (fun h4 H =>
      eBind H fun r5 hr5 H =>
      eW Rs_ShiftColumn (fun _ => []) H <| gE func48 [rg [{ i := 2, call := some { cl := true, auto := true, ins := [], res := (RB r1), G' := [] }, dec := some true }, { i := 6, call := some { cl := true, auto := true, ins := [], res := (RB r3), G' := [] }, dec := some true }], rg [hC 3 true [] (RI r5) []]] (by kernel_rfl) (P1 (cs_kAsked hr1) <| P2 (r1 = true) (h2) <| P1 (cs_l1In hr3) <| P2 (r3 = true) (h4) <| P1 (cs_kShift hr5) <| P0))
    (fun h4 H =>
      eW Rs_ShiftColumn (fun _ => []) H <| gE func48 [rg [{ i := 2, call := some { cl := true, auto := true, ins := [], res := (RB r1), G' := [] }, dec := some true }, { i := 6, call := some { cl := true, auto := true, ins := [], res := (RB r3), G' := [] }, dec := some false }], r0] (by kernel_rfl) (P1 (cs_kAsked hr1) <| P2 (r1 = true) (h2) <| P1 (cs_l1In hr3) <| P2 (r3 = false) (eqF h4) <| P0)))
  (fun h2 H =>
    eW Rs_ShiftColumn (fun _ => []) H <| gE func48 [rg [{ i := 2, call := some { cl := true, auto := true, ins := [], res := (RB r1), G' := [] }, dec := some false }], r0] (by kernel_rfl) (P1 (cs_kAsked hr1) <| P2 (r1 = false) (eqF h2) <| P0))
/-! loop example/g00886/spec DrawResultAt -/
def Rs_DrawResultAt (r : Gi_CombatTable × Int × Int) : List D := [.agg [ow 2 gi_Odds r.1.Columns, I r.1.Dice, ow 1 (ow 1 I) r.1.Results], I r.2.1, I r.2.2]
theorem cs_DrawResultAt {a0 : (List Int)} {r : Gi_CombatTable × Int × Int} (H : Ds_DrawResultAt a0 = some r) : Ct X.P X.gl 49 [sl 1 (D.int .u8) a0] [] (Rs_DrawResultAt r) [] :=
  Ct.of func49 (c := bdy f49) (by kernel_rfl) (by kernel_rfl) <|
  eBind H fun r1 hr1 H =>
  eBind H fun r2 hr2 H =>
  eBind H fun r3 hr3 H =>
  eW Rs_DrawResultAt (fun _ => []) H <| gE func49 [r0, r0, rg [hC 1 true [1] (Rs_l1Cur_anyCombatTable r1) (Ns_l1Cur_anyCombatTable r1), hC 3 true [1] (Rs_l1Cur_pick r2) (Ns_l1Cur_pick r2), hC 5 true [1] (Rs_l1Cur_pick r3) (Ns_l1Cur_pick r3)]] (by kernel_rfl) (PI (1 : Nat) <| P1 (cs_l1Cur_anyCombatTable hr1) <| PI (1 : Nat) <| P1 (cs_l1Cur_pick hr2) <| PI (1 : Nat) <| P1 (cs_l1Cur_pick hr3) <| P0)
/-! loop example/g00886/impl ResultAt -/
def Ri_ResultAt (r : Int × Bool) : List D := [I r.1, .bool r.2]
theorem ci_ResultAt {a0 : Gi_CombatTable} {a1 : Int} {a2 : Int} {r : Int × Bool} (H : Di_ResultAt a0 a1 a2 = some r) : Ct X.P X.gl 50 [.agg [sl 2 gi_Odds a0.Columns, I a0.Dice, sl 1 (sl 1 I) a0.Results], I a1, I a2] [] (Ri_ResultAt r) [] :=
  Ct.of func50 (c := bdy f50) (by kernel_rfl) (by kernel_rfl) <|
  eBind H fun r1 hr1 H =>
  gS [r0] (by kernel_rfl) P0 <|
  eIf H (fun h2 H =>
    eBind H fun r3 hr3 H =>
    eIf H (fun h4 H =>
      eCk H fun h5 H =>
      eBind H fun x6 hx6 H =>
      eCk H fun h7 H =>
      eBind H fun x8 hx8 H =>
      eW Ri_ResultAt (fun _ => []) H <| gE func50 [rg [{ i := 2, call := some { cl := true, auto := true, ins := [], res := (RB r1), G' := [] }, dec := some true }, { i := 11, call := some { cl := true, auto := true, ins := [], res := (RB r3), G' := [] }, dec := some true }], rg [hE 7 ((sl 1 I) x6), hE 10 (I x8)]] (by kernel_rfl) (P1 (ci_isColumn hr1) <| P2 (r1 = true) (h2) <| P1 (ci_inRange hr3) <| P2 (r3 = true) (h4) <| P1 h5 <| P1 (int_lt_of_at h5 hx6) <| P1 (at_map (sl 1 I) hx6) <| P1 h7 <| P1 (int_lt_of_at h7 hx8) <| P1 (at_map I hx8) <| P0))
    (fun h4 H =>
      eW Ri_ResultAt (fun _ => []) H <| gE func50 [rg [{ i := 2, call := some { cl := true, auto := true, ins := [], res := (RB r1), G' := [] }, dec := some true }, { i := 11, call := some { cl := true, auto := true, ins := [], res := (RB r3), G' := [] }, dec := some false }], r0] (by kernel_rfl) (P1 (ci_isColumn hr1) <| P2 (r1 = true) (h2) <| P1 (ci_inRange hr3) <| P2 (r3 = false) (eqF h4) <| P0)))
  (fun h2 H =>
    eW Ri_ResultAt (fun _ => []) H <| gE func50 [rg [{ i := 2, call := some { cl := true, auto := true, ins := [], res := (RB r1), G' := [] }, dec := some false }], r0] (by kernel_rfl) (P1 (ci_isColumn hr1) <| P2 (r1 = false) (eqF h2) <| P0))
/-! loop example/g00886/spec kResult -/
theorem cs_kResult {a0 : Gi_CombatTable} {a1 : Int} {a2 : Int} {r : Int} (H : Ds_kResult a0 a1 a2 = some r) : Ct X.P X.gl 96 [.agg [sl 2 gi_Odds a0.Columns, I a0.Dice, sl 1 (sl 1 I) a0.Results], I a1, I a2] [] (RI r) [] :=
  Ct.of func96 (c := bdy f96) (by kernel_rfl) (by kernel_rfl) <|
  eCk H fun h1 H =>
  eBind H fun x2 hx2 H =>
  eCk H fun h3 H =>
  eBind H fun x4 hx4 H =>
  eW RI (fun _ => []) H <| gE func96 [r0, rg [hE 7 ((sl 1 I) x2), hE 10 (I x4)]] (by kernel_rfl) (P1 h1 <| P1 (int_lt_of_at h1 hx2) <| P1 (at_map (sl 1 I) hx2) <| P1 h3 <| P1 (int_lt_of_at h3 hx4) <| P1 (at_map I hx4) <| P0)
/-! loop example/g00886/spec ResultAt -/
def Rs_ResultAt (r : Int × Bool) : List D := [I r.1, .bool r.2]
theorem cs_ResultAt {a0 : Gi_CombatTable} {a1 : Int} {a2 : Int} {r : Int × Bool} (H : Ds_ResultAt a0 a1 a2 = some r) : Ct X.P X.gl 51 [.agg [sl 2 gi_Odds a0.Columns, I a0.Dice, sl 1 (sl 1 I) a0.Results], I a1, I a2] [] (Rs_ResultAt r) [] :=
  Ct.of func51 (c := bdy f51) (by kernel_rfl) (by kernel_rfl) <|
  eBind H fun r1 hr1 H =>
  gS [r0] (by kernel_rfl) P0 <|
  eIf H (fun h2 H =>
    eBind H fun r3 hr3 H =>
    eIf H (fun h4 H =>
      eBind H fun r5 hr5 H =>
      eW Rs_ResultAt (fun _ => []) H <| gE func51 [rg [{ i := 2, call := some { cl := true, auto := true, ins := [], res := (RB r1), G' := [] }, dec := some true }, { i := 11, call := some { cl := true, auto := true, ins := [], res := (RB r3), G' := [] }, dec := some true }], rg [hC 3 true [] (RI r5) []]] (by kernel_rfl) (P1 (cs_kAsked hr1) <| P2 (r1 = true) (h2) <| P1 (cs_l1In hr3) <| P2 (r3 = true) (h4) <| P1 (cs_kResult hr5) <| P0))
    (fun h4 H =>
      eW Rs_ResultAt (fun _ => []) H <| gE func51 [rg [{ i := 2, call := some { cl := true, auto := true, ins := [], res := (RB r1), G' := [] }, dec := some true }, { i := 11, call := some { cl := true, auto := true, ins := [], res := (RB r3), G' := [] }, dec := some false }], r0] (by kernel_rfl) (P1 (cs_kAsked hr1) <| P2 (r1 = true) (h2) <| P1 (cs_l1In hr3) <| P2 (r3 = false) (eqF h4) <| P0)))
  (fun h2 H =>
    eW Rs_ResultAt (fun _ => []) H <| gE func51 [rg [{ i := 2, call := some { cl := true, auto := true, ins := [], res := (RB r1), G' := [] }, dec := some false }], r0] (by kernel_rfl) (P1 (cs_kAsked hr1) <| P2 (r1 = false) (eqF h2) <| P0))
/-! loop example/g00886/spec DrawCountResults -/
def Rs_DrawCountResults (r : Gi_CombatTable × Int) : List D := [.agg [ow 2 gi_Odds r.1.Columns, I r.1.Dice, ow 1 (ow 1 I) r.1.Results], I r.2]
theorem cs_DrawCountResults {a0 : (List Int)} {r : Gi_CombatTable × Int} (H : Ds_DrawCountResults a0 = some r) : Ct X.P X.gl 97 [sl 1 (D.int .u8) a0] [] (Rs_DrawCountResults r) [] :=
  Ct.of func97 (c := bdy f97) (by kernel_rfl) (by kernel_rfl) <|
  eBind H fun r1 hr1 H =>
  eBind H fun r2 hr2 H =>
  eBind H fun r3 hr3 H =>
  eW Rs_DrawCountResults (fun _ => []) H <| gE func97 [r0, r0, rg [hC 1 true [1] (Rs_l1Cur_anyCombatTable r1) (Ns_l1Cur_anyCombatTable r1), hC 3 true [1] (Rs_l1Cur_pick r2) (Ns_l1Cur_pick r2), hC 5 true [1] (Rs_l1Cur_pick r3) (Ns_l1Cur_pick r3)]] (by kernel_rfl) (PI (1 : Nat) <| P1 (cs_l1Cur_anyCombatTable hr1) <| PI (1 : Nat) <| P1 (cs_l1Cur_pick hr2) <| PI (1 : Nat) <| P1 (cs_l1Cur_pick hr3) <| P2 (¬ (7 : Int) = 0) (by decide) <| P0)
/-! loop example/g00886/spec DrawMeanScore -/
def Rs_DrawMeanScore (r : Gi_CombatTable × Int) : List D := [.agg [ow 2 gi_Odds r.1.Columns, I r.1.Dice, ow 1 (ow 1 I) r.1.Results], I r.2]
theorem cs_DrawMeanScore {a0 : (List Int)} {r : Gi_CombatTable × Int} (H : Ds_DrawMeanScore a0 = some r) : Ct X.P X.gl 52 [sl 1 (D.int .u8) a0] [] (Rs_DrawMeanScore r) [] :=
  Ct.of func52 (c := bdy f52) (by kernel_rfl) (by kernel_rfl) <|
  eBind H fun r1 hr1 H =>
  eW Rs_DrawMeanScore (fun _ => []) H <| gE func52 [r0, rg [hC 1 true [] (Rs_DrawCountResults r1) []]] (by kernel_rfl) (P1 (cs_DrawCountResults hr1) <| P0)
/-! loop example/g00886/impl absOf -/
theorem ci_absOf {a0 : Int} {r : Int} (H : Di_absOf a0 = some r) : Ct X.P X.gl 105 [I a0] [] (RI r) [] :=
  Ct.of func105 (c := bdy f105) (by kernel_rfl) (by kernel_rfl) <|
  gS [r0] (by kernel_rfl) P0 <|
  eIf H (fun h1 H =>
    eW RI (fun _ => []) H <| gE func105 [rg [hT 1], r0] (by kernel_rfl) (P2 ((decide (a0 < 0)) = true) (decide_eq_true h1) <| P0))
  (fun h1 H =>
    eW RI (fun _ => []) H <| gE func105 [rg [hF 1], r0] (by kernel_rfl) (P2 ((decide (a0 < 0)) = false) (decide_eq_false h1) <| P0))
/-! loop example/g00886/impl waysFor -/
theorem ci_waysFor {a0 : Gi_CombatTable} {a1 : Int} {r : Int} (H : Di_waysFor a0 a1 = some r) : Ct X.P X.gl 98 [.agg [sl 2 gi_Odds a0.Columns, I a0.Dice, sl 1 (sl 1 I) a0.Results], I a1] [] (RI r) [] :=
  Ct.of func98 (c := bdy f98) (by kernel_rfl) (by kernel_rfl) <|
  gS [r0] (by kernel_rfl) P0 <|
  eIf H (fun h1 H =>
    eW RI (fun _ => []) H <| gE func98 [rg [hT 2], r0] (by kernel_rfl) (P2 (((a0.Dice : Int) == 1) = true) (beqT h1) <| P0))
  (fun h1 H =>
    eBind H fun r2 hr2 H =>
    eW RI (fun _ => []) H <| gE func98 [rg [hF 2], rg [hC 2 true [] (RI r2) []]] (by kernel_rfl) (P2 (((a0.Dice : Int) == 1) = false) (beqF h1) <| P1 (ci_absOf hr2) <| P0))
/-! loop example/g00886/impl MeanScore -/
def Ri_MeanScore (r : Int × Int × Bool) : List D := [I r.1, I r.2.1, .bool r.2.2]
noncomputable def Ki_MeanScore : Si_MeanScore → List Item
  | .h1 .. => nav 300 4 [false] [.code (bdy f53)]
def Zi_MeanScore : Si_MeanScore → St
  | .h1 column0 sum1 many2 t3 t4 t5 b6 => ⟨sts 42 [(1, I column0), (2, .ptr 0 3 0 0), (7, I sum1), (8, I many2), (16, sl 1 (sl 1 I) t3), (17, I t4), (18, I t5)], [some ⟨false, true, 3, 1, [.agg [sl 2 gi_Odds b6.Columns, I b6.Dice, sl 1 (sl 1 I) b6.Results]]⟩]⟩
abbrev Qi_MeanScore := Nx X 53 0 Ki_MeanScore Zi_MeanScore Ri_MeanScore (fun _ => [])
theorem ni_MeanScore : ∀ s o, Bi_MeanScore s = some o → Qi_MeanScore (Ki_MeanScore s) (Zi_MeanScore s) o
  | .h1 column0 sum1 many2 t3 t4 t5 b6, o, H =>
    eIf H (fun h1 H =>
      eCk H fun h2 H =>
      eBind H fun x3 hx3 H =>
      eCk H fun h4 H =>
      eBind H fun x5 hx5 H =>
      eBind H fun r6 hr6 H =>
      eBind H fun r7 hr7 H =>
      eBind H fun r8 hr8 H =>
      eN H fun r hn => gO [rg [hT 0], rg [hE 2 ((sl 1 I) x3)], rg [hE 4 (I x5), hC 5 true [] (RI r6) [], hC 8 true [] (RI r7) []], rg [hC 3 true [] (RI r8) []], r0, .canon [0] [1, 2, 7, 8, 16, 17, 18]] (by kernel_rfl) (P2 ((decide (t5 < t4)) = true) (decide_eq_true h1) <| P1 h2 <| P1 (int_lt_of_at h2 hx3) <| P1 (at_map (sl 1 I) hx3) <| P1 h4 <| P1 (int_lt_of_at h4 hx5) <| P1 (at_map I hx5) <| P1 (ci_scoreOf hr6) <| P1 (ci_waysFor hr7) <| P1 (ci_waysFor hr8) <| P0) hn)
    (fun h1 H =>
      eN H <| gE func53 [rg [hF 0], r0] (by kernel_rfl) (P2 ((decide (t5 < t4)) = false) (decide_eq_false h1) <| P0))
theorem wi_MeanScore : ∀ s r, loop Bi_MeanScore s = some r → Wc X 53 0 (Ki_MeanScore s) (Zi_MeanScore s) (Ri_MeanScore r) ((fun _ => []) r) := Nx.all ni_MeanScore
theorem ci_MeanScore {a0 : Gi_CombatTable} {a1 : Int} {r : Int × Int × Bool} (H : Di_MeanScore a0 a1 = some r) : Ct X.P X.gl 53 [.agg [sl 2 gi_Odds a0.Columns, I a0.Dice, sl 1 (sl 1 I) a0.Results], I a1] [] (Ri_MeanScore r) [] :=
  Ct.of func53 (c := bdy f53) (by kernel_rfl) (by kernel_rfl) <|
  eBind H fun r1 hr1 H =>
  gS [r0] (by kernel_rfl) P0 <|
  eIf H (fun h2 H =>
    gO [rg [{ i := 2, call := some { cl := true, auto := true, ins := [], res := (RB r1), G' := [] }, dec := some true }], r0, r0, .canon [0] [1, 2, 7, 8, 16, 17, 18]] (by kernel_rfl) (P1 (ci_isColumn hr1) <| P2 (r1 = true) (h2) <| P0) (wi_MeanScore _ _ H))
  (fun h2 H =>
    eW Ri_MeanScore (fun _ => []) H <| gE func53 [rg [{ i := 2, call := some { cl := true, auto := true, ins := [], res := (RB r1), G' := [] }, dec := some false }], r0] (by kernel_rfl) (P1 (ci_isColumn hr1) <| P2 (r1 = false) (eqF h2) <| P0))
/-! loop example/g00886/spec l1Abs -/
theorem cs_l1Abs {a0 : Int} {r : Int} (H : Ds_l1Abs a0 = some r) : Ct X.P X.gl 122 [I a0] [] (RI r) [] :=
  Ct.of func122 (c := bdy f122) (by kernel_rfl) (by kernel_rfl) <|
  eBind H fun r1 hr1 H =>
  eW RI (fun _ => []) H <| gE func122 [r0, rg [hC 3 true [] (RI r1) []]] (by kernel_rfl) (P1 (cs_l1Most hr1) <| P0)
/-! loop example/g00886/spec kWays -/
theorem cs_kWays {a0 : Int} {a1 : Int} {r : Int} (H : Ds_kWays a0 a1 = some r) : Ct X.P X.gl 119 [I a0, I a1] [] (RI r) [] :=
  Ct.of func119 (c := bdy f119) (by kernel_rfl) (by kernel_rfl) <|
  gS [r0] (by kernel_rfl) P0 <|
  eIf H (fun h1 H =>
    eW RI (fun _ => []) H <| gE func119 [rg [hT 1], r0] (by kernel_rfl) (P2 (((a0 : Int) == 1) = true) (beqT h1) <| P0))
  (fun h1 H =>
    eBind H fun r2 hr2 H =>
    eW RI (fun _ => []) H <| gE func119 [rg [hF 1], rg [hC 2 true [] (RI r2) []]] (by kernel_rfl) (P2 (((a0 : Int) == 1) = false) (beqF h1) <| P1 (cs_l1Abs hr2) <| P0))
/-! loop example/g00886/spec kCounts -/
def Rs_kCounts (r : (List Int)) : List D := [ow 1 I r]
noncomputable def Ks_kCounts : Ss_kCounts → List Item
  | .h1 .. => nav 300 3 [] [.code (bdy f99)]
def Zs_kCounts : Ss_kCounts → St
  | .h1 column0 vroll1 b2 l3 => ⟨sts 31 [(1, I column0), (2, .ptr 0 3 0 0), (5, .ref 1 1 none), (6, I vroll1)], [some ⟨false, true, 3, 1, [.agg [sl 2 gi_Odds b2.Columns, I b2.Dice, sl 1 (sl 1 I) b2.Results]]⟩, some ⟨false, false, 1, l3.length, List.map I l3⟩]⟩
abbrev Qs_kCounts := Nx X 99 0 Ks_kCounts Zs_kCounts Rs_kCounts (fun _ => [])
theorem ns_kCounts : ∀ s o, Bs_kCounts s = some o → Qs_kCounts (Ks_kCounts s) (Zs_kCounts s) o
  | .h1 column0 vroll1 b2 l3, o, H =>
    eIf H (fun h1 H =>
      eBind H fun r2 hr2 H =>
      eCk H fun h3 H =>
      eBind H fun x4 hx4 H =>
      eBind H fun r5 hr5 H =>
      eCk H fun h6 H =>
      eBind H fun x7 hx7 H =>
      eN H fun r hn => gO [rg [hT 4], rg [hC 4 true [] (RI r2) [], hE 6 (I x4), hC 10 true [] (RI r5) [], hA 13 ((List.set l3 (Int.toNat r2) (IntKind.wrap .i64 (x4 + r5))).length) (List.map I (List.set l3 (Int.toNat r2) (IntKind.wrap .i64 (x4 + r5))))], r0, .canon [0, 1] [1, 2, 5, 6]] (by kernel_rfl) (P2 ((decide (vroll1 ≤ (IntKind.wrap .i64 (6 * b2.Dice)))) = true) (decide_eq_true h1) <| P1 (cs_kResult hr2) <| P1 h3 <| P1 (int_lt_of_at h3 hx4) <| P1 (at_map I hx4) <| P1 (cs_kWays hr5) <| P1 h6 <| P1 (int_lt_of_at h6 hx7) <| P1 (lt_of_at hx7) <| P2 (setCells (List.map I l3) (Int.toNat r2) 0 [I (IntKind.wrap .i64 (x4 + r5))] = List.map I (List.set l3 (Int.toNat r2) (IntKind.wrap .i64 (x4 + r5)))) (setCells_map hx7 rfl) <| P1 (setLen l3 (Int.toNat r2) (IntKind.wrap .i64 (x4 + r5))) <| P0) hn)
    (fun h1 H =>
      eN H <| gE func99 [rg [hF 4], r0] (by kernel_rfl) (P2 ((decide (vroll1 ≤ (IntKind.wrap .i64 (6 * b2.Dice)))) = false) (decide_eq_false h1) <| P0))
theorem ws_kCounts : ∀ s r, loop Bs_kCounts s = some r → Wc X 99 0 (Ks_kCounts s) (Zs_kCounts s) (Rs_kCounts r) ((fun _ => []) r) := Nx.all ns_kCounts
theorem cs_kCounts {a0 : Gi_CombatTable} {a1 : Int} {r : (List Int)} (H : Ds_kCounts a0 a1 = some r) : Ct X.P X.gl 99 [.agg [sl 2 gi_Odds a0.Columns, I a0.Dice, sl 1 (sl 1 I) a0.Results], I a1] [] (Rs_kCounts r) [] :=
  Ct.of func99 (c := bdy f99) (by kernel_rfl) (by kernel_rfl) <|
  eCk H fun h1 H =>
  gO [r0, rg [hA 0 ((List.replicate (Int.toNat 8) (0 : Int)).length) (List.map I (List.replicate (Int.toNat 8) (0 : Int)))], r0, .canon [0, 1] [1, 2, 5, 6]] (by kernel_rfl) (PI (8 : Int) <| P2 ((0 : Int) ≤ 8) (by decide) <| P2 (Int.toNat 8 * 8 ≤ 140737488355328) h1 <| P1 (repLen (Int.toNat 8) (0 : Int)) <| P1 (repMap I (Int.toNat 8) (0 : Int)) <| P0) (ws_kCounts _ _ H)
/-! loop example/g00886/spec MeanScore -/
def Rs_MeanScore (r : Int × Int × Bool) : List D := [I r.1, I r.2.1, .bool r.2.2]
noncomputable def Ks_MeanScore : Ss_MeanScore → List Item
  | .h1 .. => nav 300 4 [false] [.code (bdy f54)]
def Zs_MeanScore : Ss_MeanScore → St
  | .h1 sum0 n1 t2 t3 l4 => ⟨sts 36 [(7, I sum0), (8, I n1), (17, .ref 0 1 none), (18, I t2), (19, I t3)], [some ⟨false, false, 1, l4.length, List.map I l4⟩]⟩
abbrev Qs_MeanScore := Nx X 54 0 Ks_MeanScore Zs_MeanScore Rs_MeanScore (fun _ => [])
theorem ns_MeanScore : ∀ s o, Bs_MeanScore s = some o → Qs_MeanScore (Ks_MeanScore s) (Zs_MeanScore s) o
  | .h1 sum0 n1 t2 t3 l4, o, H =>
    eIf H (fun h1 H =>
      eCk H fun h2 H =>
      eBind H fun x3 hx3 H =>
      eBind H fun r4 hr4 H =>
      eN H fun r hn => gO [rg [hT 0], rg [hE 2 (I x3)], rg [hC 3 true [] (RI r4) []], r0, r0, .canon [0] [7, 8, 17, 18, 19]] (by kernel_rfl) (P2 ((decide (t3 < t2)) = true) (decide_eq_true h1) <| P1 h2 <| P1 (int_lt_of_at h2 hx3) <| P1 (at_map I hx3) <| P1 (cs_kScore hr4) <| P0) hn)
    (fun h1 H =>
      eN H <| gE func54 [rg [hF 0], r0] (by kernel_rfl) (P2 ((decide (t3 < t2)) = false) (decide_eq_false h1) <| P0))
theorem ws_MeanScore : ∀ s r, loop Bs_MeanScore s = some r → Wc X 54 0 (Ks_MeanScore s) (Zs_MeanScore s) (Rs_MeanScore r) ((fun _ => []) r) := Nx.all ns_MeanScore
theorem cs_MeanScore {a0 : Gi_CombatTable} {a1 : Int} {r : Int × Int × Bool} (H : Ds_MeanScore a0 a1 = some r) : Ct X.P X.gl 54 [.agg [sl 2 gi_Odds a0.Columns, I a0.Dice, sl 1 (sl 1 I) a0.Results], I a1] [] (Rs_MeanScore r) [] :=
  Ct.of func54 (c := bdy f54) (by kernel_rfl) (by kernel_rfl) <|
  eBind H fun r1 hr1 H =>
  gS [r0] (by kernel_rfl) P0 <|
  eIf H (fun h2 H =>
    eBind H fun r3 hr3 H =>
    gO [rg [{ i := 2, call := some { cl := true, auto := true, ins := [], res := (RB r1), G' := [] }, dec := some true }], r0, rg [hC 2 true [] (Rs_kCounts r3) []], .canon [1] [7, 8, 17, 18, 19]] (by kernel_rfl) (P1 (cs_kAsked hr1) <| P2 (r1 = true) (h2) <| P1 (cs_kCounts hr3) <| P0) (ws_MeanScore _ _ H))
  (fun h2 H =>
    eW Rs_MeanScore (fun _ => []) H <| gE func54 [rg [{ i := 2, call := some { cl := true, auto := true, ins := [], res := (RB r1), G' := [] }, dec := some false }], r0] (by kernel_rfl) (P1 (cs_kAsked hr1) <| P2 (r1 = false) (eqF h2) <| P0))
/-! loop example/g00886/impl ScoreOf -/
def Ri_ScoreOf (r : Int × Bool) : List D := [I r.1, .bool r.2]
theorem ci_ScoreOf {a0 : Int} {r : Int × Bool} (H : Di_ScoreOf a0 = some r) : Ct X.P X.gl 55 [I a0] [] (Ri_ScoreOf r) [] :=
  Ct.of func55 (c := bdy f55) (by kernel_rfl) (by kernel_rfl) <|
  eBind H fun r1 hr1 H =>
  gS [r0] (by kernel_rfl) P0 <|
  eIf H (fun h2 H =>
    eBind H fun r3 hr3 H =>
    eW Ri_ScoreOf (fun _ => []) H <| gE func55 [rg [{ i := 1, call := some { cl := true, auto := true, ins := [], res := (RB r1), G' := [] }, dec := some true }], rg [hC 1 true [] (RI r3) []]] (by kernel_rfl) (P1 (ci_isResult hr1) <| P2 (r1 = true) (h2) <| P1 (ci_scoreOf hr3) <| P0))
  (fun h2 H =>
    eW Ri_ScoreOf (fun _ => []) H <| gE func55 [rg [{ i := 1, call := some { cl := true, auto := true, ins := [], res := (RB r1), G' := [] }, dec := some false }], r0] (by kernel_rfl) (P1 (ci_isResult hr1) <| P2 (r1 = false) (eqF h2) <| P0))
/-! loop example/g00886/laws FnScores -/
noncomputable def Kw_FnScores : Sw_FnScores → List Item
  | .h1 .. => nav 300 18 [false, false, true, false] [.code (bdy f6)]
  | .h2 .. => nav 300 20 [false, false, true, false, false] [.code (bdy f6)]
def Zw_FnScores : Sw_FnScores → St
  | .h1 t0 t1 b2 l3 l4 => ⟨sts 216 [(5, .ptr 0 3 0 0), (6, .bool t0), (7, .bool t1)], [some ⟨false, true, 3, 1, [.agg [.ref 1 2 none, I b2, .ref 2 1 none]]⟩, some ⟨false, false, 2, l3.length, List.map gi_Odds l3⟩, some ⟨false, false, 1, l4.length, List.map (ow 1 I) l4⟩]⟩
  | .h2 t0 b1 l2 l3 => ⟨sts 216 [(5, .ptr 0 3 0 0), (34, I t0)], [some ⟨false, true, 3, 1, [.agg [.ref 1 2 none, I b1, .ref 2 1 none]]⟩, some ⟨false, false, 2, l2.length, List.map gi_Odds l2⟩, some ⟨false, false, 1, l3.length, List.map (ow 1 I) l3⟩]⟩
abbrev Qw_FnScores := Nx X 6 0 Kw_FnScores Zw_FnScores RB (fun _ => [])
theorem nw_FnScores : ∀ s o, Bw_FnScores s = some o → Qw_FnScores (Kw_FnScores s) (Zw_FnScores s) o
  | .h1 true true b2 l3 l4, o, H =>
    eN H fun r hn => gO [r0, r0, .canon [0, 1, 2] [5, 34]] (by kernel_rfl) P0 hn
  | .h1 true false b2 l3 l4, o, H =>
    eN H <| gE func6 [r0, r0] (by kernel_rfl) P0
  | .h1 false true b2 l3 l4, o, H =>
    eN H <| gE func6 [r0, r0] (by kernel_rfl) P0
  | .h1 false false b2 l3 l4, o, H =>
    eN H <| gE func6 [r0, r0] (by kernel_rfl) P0
  | .h2 t0 b1 l2 l3, o, H =>
    eIf H (fun h1 H =>
      eBind H fun r2 hr2 H =>
      gN [rg [hT 4]] (by kernel_rfl) (P2 ((decide (t0 < ((l2.length : Nat) : Int))) = true) (decide_eq_true h1) <| P0) <|
      eIf H (fun h3 H =>
        eBind H fun r4 hr4 H =>
        gN [rg [{ i := 3, call := some { cl := false, ins := [], args := [.agg [sl 2 gi_Odds l2, I b1, sl 1 (sl 1 I) l3], I (IntKind.wrap .i64 (t0 - 1))], res := Ri_MeanScore r2, G' := [] } }, hT 7]] (by kernel_rfl) (PL gi_Odds l2 <| PI (b1 : Int) <| PE ero_38 l3 <| PI (IntKind.wrap .i64 (t0 - 1) : Int) <| P1 (ci_MeanScore hr2) <| P2 (r2.2.2 = true) (h3) <| P0) <|
        eIf H (fun h5 H =>
          gN [rg [{ i := 2, call := some { cl := false, ins := [], args := [.agg [sl 2 gi_Odds l2, I b1, sl 1 (sl 1 I) l3], I t0], res := Ri_MeanScore r4, G' := [] } }, hT 6]] (by kernel_rfl) (PL gi_Odds l2 <| PI (b1 : Int) <| PE ero_38 l3 <| PI (t0 : Int) <| P1 (ci_MeanScore hr4) <| P2 (r4.2.2 = true) (h5) <| P0) <|
          eIf H (fun h6 H =>
            eN H <| gE func6 [rg [hT 9], r0] (by kernel_rfl) (P2 ((decide (r2.1 > r4.1)) = true) (decide_eq_true h6) <| P0))
          (fun h6 H =>
            eN H fun r hn => gO [rg [hF 9], r0, .canon [0, 1, 2] [5, 34]] (by kernel_rfl) (P2 ((decide (r2.1 > r4.1)) = false) (decide_eq_false h6) <| P0) hn))
        (fun h5 H =>
          eN H <| gE func6 [rg [{ i := 2, call := some { cl := false, ins := [], args := [.agg [sl 2 gi_Odds l2, I b1, sl 1 (sl 1 I) l3], I t0], res := Ri_MeanScore r4, G' := [] } }, hF 6], r0, r0] (by kernel_rfl) (PL gi_Odds l2 <| PI (b1 : Int) <| PE ero_38 l3 <| PI (t0 : Int) <| P1 (ci_MeanScore hr4) <| P2 (r4.2.2 = false) (eqF h5) <| P0)))
      (fun h3 H =>
        eBind H fun r4 hr4 H =>
        eN H <| gE func6 [rg [{ i := 3, call := some { cl := false, ins := [], args := [.agg [sl 2 gi_Odds l2, I b1, sl 1 (sl 1 I) l3], I (IntKind.wrap .i64 (t0 - 1))], res := Ri_MeanScore r2, G' := [] } }, hF 7], rg [{ i := 2, call := some { cl := false, ins := [], args := [.agg [sl 2 gi_Odds l2, I b1, sl 1 (sl 1 I) l3], I t0], res := Ri_MeanScore r4, G' := [] } }], r0, r0] (by kernel_rfl) (PL gi_Odds l2 <| PI (b1 : Int) <| PE ero_38 l3 <| PI (IntKind.wrap .i64 (t0 - 1) : Int) <| P1 (ci_MeanScore hr2) <| P2 (r2.2.2 = false) (eqF h3) <| PL gi_Odds l2 <| PI (b1 : Int) <| PE ero_38 l3 <| PI (t0 : Int) <| P1 (ci_MeanScore hr4) <| P0)))
    (fun h1 H =>
      eN H <| gE func6 [rg [hF 4], r0] (by kernel_rfl) (P2 ((decide (t0 < ((l2.length : Nat) : Int))) = false) (decide_eq_false h1) <| P0))
theorem ww_FnScores : ∀ s r, loop Bw_FnScores s = some r → Wc X 6 0 (Kw_FnScores s) (Zw_FnScores s) (RB r) ((fun _ => []) r) := Nx.all nw_FnScores
theorem cw_FnScores {a0 : (List Int)} {a1 : (List Int)} {r : Bool} (H : Dw_FnScores a0 a1 = some r) : Ct X.P X.gl 6 [sl 1 (D.int .u8) a0, sl 1 (D.int .u8) a1] [] (RB r) [] :=
  Ct.of func6 (c := bdy f6) (by kernel_rfl) (by kernel_rfl) <|
  gS [r0] (by kernel_rfl) P0 <|
  eIf H (fun h1 H =>
    eW RB (fun _ => []) H <| gE func6 [rg [hT 5], r0] (by kernel_rfl) (P2 ((decide ((IntKind.wrap .i64 (((a0.length : Nat) : Int) + ((a1.length : Nat) : Int))) > 1048576)) = true) (decide_eq_true h1) <| P0))
  (fun h1 H =>
    eBind H fun r2 hr2 H =>
    eBind H fun r3 hr3 H =>
    eBind H fun r4 hr4 H =>
    eBind H fun r5 hr5 H =>
    eBind H fun r6 hr6 H =>
    eBind H fun r7 hr7 H =>
    eBind H fun r8 hr8 H =>
    eBind H fun r9 hr9 H =>
    gS [rg [hF 5], rg [hC 1 true [] (Rs_DrawIsMonotone r2) []], rg [{ i := 1, call := some { cl := false, ins := [], args := [.agg [sl 2 gi_Odds r2.Columns, I r2.Dice, sl 1 (sl 1 I) r2.Results]], res := Ri_IsMonotone r3, G' := [] } }], rg [{ i := 1, call := some { cl := false, ins := [], args := [.agg [sl 2 gi_Odds r2.Columns, I r2.Dice, sl 1 (sl 1 I) r2.Results]], res := Rs_IsMonotone r4, G' := [] } }], rg [hC 1 true [] (Rs_DrawShiftColumn r5) []], rg [{ i := 3, call := some { cl := false, ins := [], args := [.agg [sl 2 gi_Odds r5.1.Columns, I r5.1.Dice, sl 1 (sl 1 I) r5.1.Results], I r5.2.1, I r5.2.2], res := Ri_ShiftColumn r6, G' := [] } }], rg [{ i := 3, call := some { cl := false, ins := [], args := [.agg [sl 2 gi_Odds r5.1.Columns, I r5.1.Dice, sl 1 (sl 1 I) r5.1.Results], I r5.2.1, I r5.2.2], res := Rs_ShiftColumn r7, G' := [] } }], rg [hC 1 true [] (Rs_DrawResultAt r8) []]] (by kernel_rfl) (P2 ((decide ((IntKind.wrap .i64 (((a0.length : Nat) : Int) + ((a1.length : Nat) : Int))) > 1048576)) = false) (decide_eq_false h1) <| P1 (cs_DrawIsMonotone hr2) <| PL gi_Odds r2.Columns <| PI (r2.Dice : Int) <| PE ero_38 r2.Results <| P1 (ci_IsMonotone hr3) <| PL gi_Odds r2.Columns <| PI (r2.Dice : Int) <| PE ero_38 r2.Results <| P1 (cs_IsMonotone hr4) <| P1 (cs_DrawShiftColumn hr5) <| PL gi_Odds r5.1.Columns <| PI (r5.1.Dice : Int) <| PE ero_38 r5.1.Results <| PI (r5.2.1 : Int) <| PI (r5.2.2 : Int) <| P1 (ci_ShiftColumn hr6) <| PL gi_Odds r5.1.Columns <| PI (r5.1.Dice : Int) <| PE ero_38 r5.1.Results <| PI (r5.2.1 : Int) <| PI (r5.2.2 : Int) <| P1 (cs_ShiftColumn hr7) <| P1 (cs_DrawResultAt hr8) <| P0) <|
    eIf H (fun h10 H =>
      eBind H fun r11 hr11 H =>
      eBind H fun r12 hr12 H =>
      eBind H fun r13 hr13 H =>
      eBind H fun r14 hr14 H =>
      gS [rg [{ i := 3, call := some { cl := false, ins := [], args := [.agg [sl 2 gi_Odds r8.1.Columns, I r8.1.Dice, sl 1 (sl 1 I) r8.1.Results], I r8.2.1, I r8.2.2], res := Ri_ResultAt r9, G' := [] } }, hT 6], rg [{ i := 3, call := some { cl := false, ins := [], args := [.agg [sl 2 gi_Odds r8.1.Columns, I r8.1.Dice, sl 1 (sl 1 I) r8.1.Results], I r8.2.1, I r8.2.2], res := Rs_ResultAt r11, G' := [] } }], rg [hC 1 true [] (Rs_DrawMeanScore r12) []], rg [{ i := 2, call := some { cl := false, ins := [], args := [.agg [sl 2 gi_Odds r12.1.Columns, I r12.1.Dice, sl 1 (sl 1 I) r12.1.Results], I r12.2], res := Ri_MeanScore r13, G' := [] } }], rg [{ i := 2, call := some { cl := false, ins := [], args := [.agg [sl 2 gi_Odds r12.1.Columns, I r12.1.Dice, sl 1 (sl 1 I) r12.1.Results], I r12.2], res := Rs_MeanScore r14, G' := [] } }]] (by kernel_rfl) (PL gi_Odds r8.1.Columns <| PI (r8.1.Dice : Int) <| PE ero_38 r8.1.Results <| PI (r8.2.1 : Int) <| PI (r8.2.2 : Int) <| P1 (ci_ResultAt hr9) <| P2 (r9.2 = true) (h10) <| PL gi_Odds r8.1.Columns <| PI (r8.1.Dice : Int) <| PE ero_38 r8.1.Results <| PI (r8.2.1 : Int) <| PI (r8.2.2 : Int) <| P1 (cs_ResultAt hr11) <| P1 (cs_DrawMeanScore hr12) <| PL gi_Odds r12.1.Columns <| PI (r12.1.Dice : Int) <| PE ero_38 r12.1.Results <| PI (r12.2 : Int) <| P1 (ci_MeanScore hr13) <| PL gi_Odds r12.1.Columns <| PI (r12.1.Dice : Int) <| PE ero_38 r12.1.Results <| PI (r12.2 : Int) <| P1 (cs_MeanScore hr14) <| P0) <|
      eIf H (fun h15 H =>
        eW RB (fun _ => []) H <| gE func6 [rg [hT 2], r0] (by kernel_rfl) (P2 ((!(r3.2 == r4.2)) = true) (h15) <| P0))
      (fun h15 H =>
        eIf H (fun h16 H =>
          eW RB (fun _ => []) H <| gE func6 [rg [hF 2, hT 6], r0] (by kernel_rfl) (P2 ((!(r3.2 == r4.2)) = false) (eqF h15) <| P2 ((!(r3.1 == r4.1)) = true) (h16) <| P0))
        (fun h16 H =>
          eIf H (fun h17 H =>
            eW RB (fun _ => []) H <| gE func6 [rg [hF 2, hF 6, hT 11], r0] (by kernel_rfl) (P2 ((!(r3.2 == r4.2)) = false) (eqF h15) <| P2 ((!(r3.1 == r4.1)) = false) (eqF h16) <| P2 ((!(r6.2 == r7.2)) = true) (h17) <| P0))
          (fun h17 H =>
            eIf H (fun h18 H =>
              eIf H (fun h19 H =>
                eW RB (fun _ => []) H <| gE func6 [rg [hF 2, hF 6, hF 11, hF 16, hT 21], r0] (by kernel_rfl) (P2 ((!(r3.2 == r4.2)) = false) (eqF h15) <| P2 ((!(r3.1 == r4.1)) = false) (eqF h16) <| P2 ((!(r6.2 == r7.2)) = false) (eqF h17) <| P2 (((r6.1 : Int) != r7.1) = false) (bneF h18) <| P2 ((!(true == r11.2)) = true) (h19) <| P0))
              (fun h19 H =>
                eIf H (fun h20 H =>
                  eIf H (fun h21 H =>
                    eW RB (fun _ => []) H <| gE func6 [rg [hF 2, hF 6, hF 11, hF 16, hF 21, hF 26, hT 31], r0] (by kernel_rfl) (P2 ((!(r3.2 == r4.2)) = false) (eqF h15) <| P2 ((!(r3.1 == r4.1)) = false) (eqF h16) <| P2 ((!(r6.2 == r7.2)) = false) (eqF h17) <| P2 (((r6.1 : Int) != r7.1) = false) (bneF h18) <| P2 ((!(true == r11.2)) = false) (eqF h19) <| P2 (((r9.1 : Int) != r11.1) = false) (bneF h20) <| P2 ((!(r13.2.2 == r14.2.2)) = true) (h21) <| P0))
                  (fun h21 H =>
                    eIf H (fun h22 H =>
                      eIf H (fun h23 H =>
                        eBind H fun r24 hr24 H =>
                        gS [rg [hF 2, hF 6, hF 11, hF 16, hF 21, hF 26, hF 31, hF 36, hF 41], r0] (by kernel_rfl) (P2 ((!(r3.2 == r4.2)) = false) (eqF h15) <| P2 ((!(r3.1 == r4.1)) = false) (eqF h16) <| P2 ((!(r6.2 == r7.2)) = false) (eqF h17) <| P2 (((r6.1 : Int) != r7.1) = false) (bneF h18) <| P2 ((!(true == r11.2)) = false) (eqF h19) <| P2 (((r9.1 : Int) != r11.1) = false) (bneF h20) <| P2 ((!(r13.2.2 == r14.2.2)) = false) (eqF h21) <| P2 (((r13.1 : Int) != r14.1) = false) (bneF h22) <| P2 (((r13.2.1 : Int) != r14.2.1) = false) (bneF h23) <| P0) <|
                        eIf H (fun h25 H =>
                          gS [rg [hC 1 true [] (Ri_ScoreOf r24) [], hT 4]] (by kernel_rfl) (P1 (ci_ScoreOf hr24) <| P2 (r24.2 = true) (h25) <| P0) <|
                          eIf H (fun h26 H =>
                            eW RB (fun _ => []) H <| gE func6 [rg [hT 4], r0] (by kernel_rfl) (P2 ((decide (r24.1 < (-3))) = true) (decide_eq_true h26) <| P0))
                          (fun h26 H =>
                            eIf H (fun h27 H =>
                              eW RB (fun _ => []) H <| gE func6 [rg [hF 4, hT 8], r0] (by kernel_rfl) (P2 ((decide (r24.1 < (-3))) = false) (decide_eq_false h26) <| P2 ((decide (r24.1 > 3)) = true) (decide_eq_true h27) <| P0))
                            (fun h27 H =>
                              gO [rg [hF 4, hF 8], .canon [3, 0, 2] [5, 6, 7]] (by kernel_rfl) (P2 ((decide (r24.1 < (-3))) = false) (decide_eq_false h26) <| P2 ((decide (r24.1 > 3)) = false) (decide_eq_false h27) <| P0) (ww_FnScores _ _ H))))
                        (fun h25 H =>
                          eW RB (fun _ => []) H <| gE func6 [rg [hC 1 true [] (Ri_ScoreOf r24) [], hF 4], r0, r0] (by kernel_rfl) (P1 (ci_ScoreOf hr24) <| P2 (r24.2 = false) (eqF h25) <| P0)))
                      (fun h23 H =>
                        eW RB (fun _ => []) H <| gE func6 [rg [hF 2, hF 6, hF 11, hF 16, hF 21, hF 26, hF 31, hF 36, hT 41], r0] (by kernel_rfl) (P2 ((!(r3.2 == r4.2)) = false) (eqF h15) <| P2 ((!(r3.1 == r4.1)) = false) (eqF h16) <| P2 ((!(r6.2 == r7.2)) = false) (eqF h17) <| P2 (((r6.1 : Int) != r7.1) = false) (bneF h18) <| P2 ((!(true == r11.2)) = false) (eqF h19) <| P2 (((r9.1 : Int) != r11.1) = false) (bneF h20) <| P2 ((!(r13.2.2 == r14.2.2)) = false) (eqF h21) <| P2 (((r13.1 : Int) != r14.1) = false) (bneF h22) <| P2 (((r13.2.1 : Int) != r14.2.1) = true) (bneT h23) <| P0)))
                    (fun h22 H =>
                      eW RB (fun _ => []) H <| gE func6 [rg [hF 2, hF 6, hF 11, hF 16, hF 21, hF 26, hF 31, hT 36], r0] (by kernel_rfl) (P2 ((!(r3.2 == r4.2)) = false) (eqF h15) <| P2 ((!(r3.1 == r4.1)) = false) (eqF h16) <| P2 ((!(r6.2 == r7.2)) = false) (eqF h17) <| P2 (((r6.1 : Int) != r7.1) = false) (bneF h18) <| P2 ((!(true == r11.2)) = false) (eqF h19) <| P2 (((r9.1 : Int) != r11.1) = false) (bneF h20) <| P2 ((!(r13.2.2 == r14.2.2)) = false) (eqF h21) <| P2 (((r13.1 : Int) != r14.1) = true) (bneT h22) <| P0))))
                (fun h20 H =>
                  eW RB (fun _ => []) H <| gE func6 [rg [hF 2, hF 6, hF 11, hF 16, hF 21, hT 26], r0] (by kernel_rfl) (P2 ((!(r3.2 == r4.2)) = false) (eqF h15) <| P2 ((!(r3.1 == r4.1)) = false) (eqF h16) <| P2 ((!(r6.2 == r7.2)) = false) (eqF h17) <| P2 (((r6.1 : Int) != r7.1) = false) (bneF h18) <| P2 ((!(true == r11.2)) = false) (eqF h19) <| P2 (((r9.1 : Int) != r11.1) = true) (bneT h20) <| P0))))
            (fun h18 H =>
              eW RB (fun _ => []) H <| gE func6 [rg [hF 2, hF 6, hF 11, hT 16], r0] (by kernel_rfl) (P2 ((!(r3.2 == r4.2)) = false) (eqF h15) <| P2 ((!(r3.1 == r4.1)) = false) (eqF h16) <| P2 ((!(r6.2 == r7.2)) = false) (eqF h17) <| P2 (((r6.1 : Int) != r7.1) = true) (bneT h18) <| P0))))))
    (fun h10 H =>
      eBind H fun r11 hr11 H =>
      eBind H fun r12 hr12 H =>
      eBind H fun r13 hr13 H =>
      eBind H fun r14 hr14 H =>
      gS [rg [{ i := 3, call := some { cl := false, ins := [], args := [.agg [sl 2 gi_Odds r8.1.Columns, I r8.1.Dice, sl 1 (sl 1 I) r8.1.Results], I r8.2.1, I r8.2.2], res := Ri_ResultAt r9, G' := [] } }, hF 6], rg [{ i := 3, call := some { cl := false, ins := [], args := [.agg [sl 2 gi_Odds r8.1.Columns, I r8.1.Dice, sl 1 (sl 1 I) r8.1.Results], I r8.2.1, I r8.2.2], res := Rs_ResultAt r11, G' := [] } }], rg [hC 1 true [] (Rs_DrawMeanScore r12) []], rg [{ i := 2, call := some { cl := false, ins := [], args := [.agg [sl 2 gi_Odds r12.1.Columns, I r12.1.Dice, sl 1 (sl 1 I) r12.1.Results], I r12.2], res := Ri_MeanScore r13, G' := [] } }], rg [{ i := 2, call := some { cl := false, ins := [], args := [.agg [sl 2 gi_Odds r12.1.Columns, I r12.1.Dice, sl 1 (sl 1 I) r12.1.Results], I r12.2], res := Rs_MeanScore r14, G' := [] } }]] (by kernel_rfl) (PL gi_Odds r8.1.Columns <| PI (r8.1.Dice : Int) <| PE ero_38 r8.1.Results <| PI (r8.2.1 : Int) <| PI (r8.2.2 : Int) <| P1 (ci_ResultAt hr9) <| P2 (r9.2 = false) (eqF h10) <| PL gi_Odds r8.1.Columns <| PI (r8.1.Dice : Int) <| PE ero_38 r8.1.Results <| PI (r8.2.1 : Int) <| PI (r8.2.2 : Int) <| P1 (cs_ResultAt hr11) <| P1 (cs_DrawMeanScore hr12) <| PL gi_Odds r12.1.Columns <| PI (r12.1.Dice : Int) <| PE ero_38 r12.1.Results <| PI (r12.2 : Int) <| P1 (ci_MeanScore hr13) <| PL gi_Odds r12.1.Columns <| PI (r12.1.Dice : Int) <| PE ero_38 r12.1.Results <| PI (r12.2 : Int) <| P1 (cs_MeanScore hr14) <| P0) <|
      eIf H (fun h15 H =>
        eW RB (fun _ => []) H <| gE func6 [rg [hT 2], r0] (by kernel_rfl) (P2 ((!(r3.2 == r4.2)) = true) (h15) <| P0))
      (fun h15 H =>
        eIf H (fun h16 H =>
          eW RB (fun _ => []) H <| gE func6 [rg [hF 2, hT 6], r0] (by kernel_rfl) (P2 ((!(r3.2 == r4.2)) = false) (eqF h15) <| P2 ((!(r3.1 == r4.1)) = true) (h16) <| P0))
        (fun h16 H =>
          eIf H (fun h17 H =>
            eW RB (fun _ => []) H <| gE func6 [rg [hF 2, hF 6, hT 11], r0] (by kernel_rfl) (P2 ((!(r3.2 == r4.2)) = false) (eqF h15) <| P2 ((!(r3.1 == r4.1)) = false) (eqF h16) <| P2 ((!(r6.2 == r7.2)) = true) (h17) <| P0))
          (fun h17 H =>
            eIf H (fun h18 H =>
              eIf H (fun h19 H =>
                eW RB (fun _ => []) H <| gE func6 [rg [hF 2, hF 6, hF 11, hF 16, hT 21], r0] (by kernel_rfl) (P2 ((!(r3.2 == r4.2)) = false) (eqF h15) <| P2 ((!(r3.1 == r4.1)) = false) (eqF h16) <| P2 ((!(r6.2 == r7.2)) = false) (eqF h17) <| P2 (((r6.1 : Int) != r7.1) = false) (bneF h18) <| P2 ((!(false == r11.2)) = true) (h19) <| P0))
              (fun h19 H =>
                eIf H (fun h20 H =>
                  eIf H (fun h21 H =>
                    eW RB (fun _ => []) H <| gE func6 [rg [hF 2, hF 6, hF 11, hF 16, hF 21, hF 26, hT 31], r0] (by kernel_rfl) (P2 ((!(r3.2 == r4.2)) = false) (eqF h15) <| P2 ((!(r3.1 == r4.1)) = false) (eqF h16) <| P2 ((!(r6.2 == r7.2)) = false) (eqF h17) <| P2 (((r6.1 : Int) != r7.1) = false) (bneF h18) <| P2 ((!(false == r11.2)) = false) (eqF h19) <| P2 (((r9.1 : Int) != r11.1) = false) (bneF h20) <| P2 ((!(r13.2.2 == r14.2.2)) = true) (h21) <| P0))
                  (fun h21 H =>
                    eIf H (fun h22 H =>
                      eIf H (fun h23 H =>
                        gO [rg [hF 2, hF 6, hF 11, hF 16, hF 21, hF 26, hF 31, hF 36, hF 41], r0, .canon [3, 0, 2] [5, 6, 7]] (by kernel_rfl) (P2 ((!(r3.2 == r4.2)) = false) (eqF h15) <| P2 ((!(r3.1 == r4.1)) = false) (eqF h16) <| P2 ((!(r6.2 == r7.2)) = false) (eqF h17) <| P2 (((r6.1 : Int) != r7.1) = false) (bneF h18) <| P2 ((!(false == r11.2)) = false) (eqF h19) <| P2 (((r9.1 : Int) != r11.1) = false) (bneF h20) <| P2 ((!(r13.2.2 == r14.2.2)) = false) (eqF h21) <| P2 (((r13.1 : Int) != r14.1) = false) (bneF h22) <| P2 (((r13.2.1 : Int) != r14.2.1) = false) (bneF h23) <| P0) (ww_FnScores _ _ H))
                      (fun h23 H =>
                        eW RB (fun _ => []) H <| gE func6 [rg [hF 2, hF 6, hF 11, hF 16, hF 21, hF 26, hF 31, hF 36, hT 41], r0] (by kernel_rfl) (P2 ((!(r3.2 == r4.2)) = false) (eqF h15) <| P2 ((!(r3.1 == r4.1)) = false) (eqF h16) <| P2 ((!(r6.2 == r7.2)) = false) (eqF h17) <| P2 (((r6.1 : Int) != r7.1) = false) (bneF h18) <| P2 ((!(false == r11.2)) = false) (eqF h19) <| P2 (((r9.1 : Int) != r11.1) = false) (bneF h20) <| P2 ((!(r13.2.2 == r14.2.2)) = false) (eqF h21) <| P2 (((r13.1 : Int) != r14.1) = false) (bneF h22) <| P2 (((r13.2.1 : Int) != r14.2.1) = true) (bneT h23) <| P0)))
                    (fun h22 H =>
                      eW RB (fun _ => []) H <| gE func6 [rg [hF 2, hF 6, hF 11, hF 16, hF 21, hF 26, hF 31, hT 36], r0] (by kernel_rfl) (P2 ((!(r3.2 == r4.2)) = false) (eqF h15) <| P2 ((!(r3.1 == r4.1)) = false) (eqF h16) <| P2 ((!(r6.2 == r7.2)) = false) (eqF h17) <| P2 (((r6.1 : Int) != r7.1) = false) (bneF h18) <| P2 ((!(false == r11.2)) = false) (eqF h19) <| P2 (((r9.1 : Int) != r11.1) = false) (bneF h20) <| P2 ((!(r13.2.2 == r14.2.2)) = false) (eqF h21) <| P2 (((r13.1 : Int) != r14.1) = true) (bneT h22) <| P0))))
                (fun h20 H =>
                  eW RB (fun _ => []) H <| gE func6 [rg [hF 2, hF 6, hF 11, hF 16, hF 21, hT 26], r0] (by kernel_rfl) (P2 ((!(r3.2 == r4.2)) = false) (eqF h15) <| P2 ((!(r3.1 == r4.1)) = false) (eqF h16) <| P2 ((!(r6.2 == r7.2)) = false) (eqF h17) <| P2 (((r6.1 : Int) != r7.1) = false) (bneF h18) <| P2 ((!(false == r11.2)) = false) (eqF h19) <| P2 (((r9.1 : Int) != r11.1) = true) (bneT h20) <| P0))))
            (fun h18 H =>
              eW RB (fun _ => []) H <| gE func6 [rg [hF 2, hF 6, hF 11, hT 16], r0] (by kernel_rfl) (P2 ((!(r3.2 == r4.2)) = false) (eqF h15) <| P2 ((!(r3.1 == r4.1)) = false) (eqF h16) <| P2 ((!(r6.2 == r7.2)) = false) (eqF h17) <| P2 (((r6.1 : Int) != r7.1) = true) (bneT h18) <| P0)))))))
end Go.Proofs.Ytlniejjcejackaa.Ab
