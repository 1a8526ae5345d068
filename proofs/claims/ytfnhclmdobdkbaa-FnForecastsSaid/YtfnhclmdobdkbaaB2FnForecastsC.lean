/- Part of the proof of FnForecasts: no condition of its own. -/
import Derived.Test.YtfnhclmdobdkbaaChecked
import Derived.Test.YtfnhclmdobdkbaaB2FnForecastsD
set_option linter.unusedVariables false
set_option linter.unusedSimpArgs false
open Go Go.Proofs Go.Proofs.Try
namespace Go.Proofs.Ytfnhclmdobdkbaa.Ab
def T : Tab := [(3, ⟨(Ab.TK.int IntKind.i64), 1, 8, (Ab.D.int IntKind.i64 (Int.ofNat 0))⟩),
  (4, ⟨Ab.TK.bool, 1, 1, (Ab.D.bool Bool.false)⟩),
  (5, ⟨(Ab.TK.int IntKind.u8), 1, 1, (Ab.D.int IntKind.u8 (Int.ofNat 0))⟩),
  (22, ⟨(Ab.TK.slice 5), 1, 24, Ab.D.nil⟩),
  (24, ⟨(Ab.TK.slice 29), 1, 24, Ab.D.nil⟩),
  (26, ⟨(Ab.TK.strct [(Ab.FI.mk 0 1 Bool.false)] Option.none), 1, 24, (Ab.D.agg [Ab.D.nil])⟩),
  (29, ⟨(Ab.TK.slice 3), 1, 24, Ab.D.nil⟩),
  (76, ⟨(Ab.TK.int IntKind.u64), 1, 8, (Ab.D.int IntKind.u64 (Int.ofNat 0))⟩),
  (78, ⟨(Ab.TK.strct [(Ab.FI.mk 0 1 Bool.false), (Ab.FI.mk 1 1 Bool.false), (Ab.FI.mk 2 1 Bool.false)] Option.none), 3, 40, (Ab.D.agg [Ab.D.nil, (Ab.D.int IntKind.i64 (Int.ofNat 0)), (Ab.D.int IntKind.u64 (Int.ofNat 0))])⟩)]
noncomputable def X : Ctx := ⟨Go.Proofs.Try.prog, T, []⟩
theorem T_ok : TabOK X.P X.T := ⟨by kernel_rfl, by kernel_rfl, by kernel_rfl, by kernel_rfl, by kernel_rfl, by kernel_rfl, by kernel_rfl, by kernel_rfl, by kernel_rfl, trivial⟩
theorem mixed : X.P.follows .mixedOrders = true := Go.Proofs.Try.checked.mixed
theorem gO {f : FuncId} {M : Nat} {k k' : List Item} {σ σ' : St} {res : List D} {G' : List Root} (cmds : List Cmd) {ps : List Prop} (h : run X M cmds k σ = some (ps, k', σ')) (hp : AllP ps) (hk : Wc X f M k' σ' res G') : Wc X f M k σ res G' := run_ok T_ok mixed h hp hk
theorem gE {f : FuncId} {M : Nat} {k : List Item} {σ : St} {res : List D} {G' : List Root} {fn : Func} (hf : X.P.funcs[f]? = some fn) (cmds : List Cmd) {ps : List Prop} (h : runFinC X M cmds k σ fn.results.toList res = some (ps, res, G')) (hp : AllP ps) : Wc X f M k σ res G' := runFinC_ok T_ok mixed hf h hp
theorem gS {f : FuncId} {M : Nat} {k : List Item} {σ : St} {res : List D} {G' : List Root} (cmds : List Cmd) {ps : List Prop} (h : runP X M cmds k σ = some ps) (hp : AllP ps) (hk : Wc X f M (runK X M cmds k σ) (runS X M cmds k σ) res G') : Wc X f M k σ res G' := seg_ok T_ok mixed cmds h hp hk
theorem gN {ς ρ : Type} {f : FuncId} {M : Nat} {K : ς → List Item} {Z : ς → St} {R : ρ → List D} {G : ρ → List Root} {k : List Item} {σ : St} {o : ς ⊕ ρ} (cmds : List Cmd) {ps : List Prop} (h : runP X M cmds k σ = some ps) (hp : AllP ps) (hk : Nx X f M K Z R G (runK X M cmds k σ) (runS X M cmds k σ) o) : Nx X f M K Z R G k σ o := segN_ok T_ok mixed cmds h hp hk
theorem nf_3 : ∀ x, (I x).nf := fun x => by simp [D.nf, nfL]
theorem ero_29 : ∀ x, ((ow 1 I) x).er = ((sl 1 I) x).er := fun x => er_ow (fun _ => rfl) _ x
theorem allOw_29 (l : List (List Int)) : AllOw (List.map (ow 1 I) l) := allOw_map (fun x c hc => by simp [ow, D.cells] at hc; rcases hc with rfl <;> rfl) l
theorem allFl_3 (l : List Int) : AllFl (List.map I l) := allFl_map (fun x c hc => by simp [D.cells] at hc; rcases hc with rfl <;> rfl) l
/-! loop example/g00886/laws big -/
theorem cw_big {a0 : (List Int)} {a1 : (List Int)} {r : Bool} (H : Dw_big a0 a1 = some r) : Ct X.P X.gl 6 [sl 1 (D.int .u8) a0, sl 1 (D.int .u8) a1] [] (RB r) [] :=
  Ct.of func6 (c := bdy f6) (by kernel_rfl) (by kernel_rfl) <|
  gS [r0] (by kernel_rfl) P0 <|
  eIf H (fun h1 H =>
    eW RB (fun _ => []) H <| gE func6 [rg [hT 2]] (by kernel_rfl) (P2 ((decide (((a0.length : Nat) : Int) > 1048576)) = true) (decide_eq_true h1) <| P0))
  (fun h1 H =>
    eW RB (fun _ => []) H <| gE func6 [rg [hF 2]] (by kernel_rfl) (P2 ((decide (((a0.length : Nat) : Int) > 1048576)) = false) (decide_eq_false h1) <| P0))
/-!   loop example/g00886/spec l1Cur  next -/
def Rs_l1Cur_next (r : Int × Gs_l1Cur) : List D := [I r.1]
def Ns_l1Cur_next (r : Int × Gs_l1Cur) : List Root := [⟨false, true, 3, 1, [.agg [sl 1 (D.int .u8) r.2.code, I r.2.at_, .int .u64 r.2.seed]]⟩]
theorem cs_l1Cur_next {a0 : Gs_l1Cur} {r : Int × Gs_l1Cur} (H : Ds_l1Cur_next a0 = some r) : Ct X.P X.gl 106 [.ptr 0 3 0 0] [⟨false, true, 3, 1, [.agg [sl 1 (D.int .u8) a0.code, I a0.at_, .int .u64 a0.seed]]⟩] (Rs_l1Cur_next r) (Ns_l1Cur_next r) :=
  Ct.of func106 (c := bdy f106) (by kernel_rfl) (by kernel_rfl) <|
  gS [r0, r0] (by kernel_rfl) P0 <|
  eIf H (fun h1 H =>
    eCk H fun h2 H =>
    eBind H fun x3 hx3 H =>
    gS [rg [hT 9], rg [hE 9 ((D.int .u8) x3)], r0, r0] (by kernel_rfl) (P2 ((decide (a0.at_ < ((a0.code.length : Nat) : Int))) = true) (decide_eq_true h1) <| P1 h2 <| P1 (int_lt_of_at h2 hx3) <| P1 (at_map (D.int .u8) hx3) <| P0) <|
    eIf H (fun h4 H =>
      eW Rs_l1Cur_next Ns_l1Cur_next H <| gE func106 [rg [hT 9], r0] (by kernel_rfl) (P2 ((decide ((IntKind.wrap .i64 (a0.at_ + 1)) ≤ ((a0.code.length : Nat) : Int))) = true) (decide_eq_true h4) <| P0))
    (fun h4 H =>
      eW Rs_l1Cur_next Ns_l1Cur_next H <| gE func106 [rg [hF 9], r0] (by kernel_rfl) (P2 ((decide ((IntKind.wrap .i64 (a0.at_ + 1)) ≤ ((a0.code.length : Nat) : Int))) = false) (decide_eq_false h4) <| P2 ((0 : Int) ≤ 40) (by decide) <| P0)))
  (fun h1 H =>
    gS [rg [hF 9], r0, r0] (by kernel_rfl) (P2 ((decide (a0.at_ < ((a0.code.length : Nat) : Int))) = false) (decide_eq_false h1) <| P0) <|
    eIf H (fun h2 H =>
      eW Rs_l1Cur_next Ns_l1Cur_next H <| gE func106 [rg [hT 9], r0] (by kernel_rfl) (P2 ((decide ((IntKind.wrap .i64 (a0.at_ + 1)) ≤ ((a0.code.length : Nat) : Int))) = true) (decide_eq_true h2) <| P0))
    (fun h2 H =>
      eW Rs_l1Cur_next Ns_l1Cur_next H <| gE func106 [rg [hF 9], r0] (by kernel_rfl) (P2 ((decide ((IntKind.wrap .i64 (a0.at_ + 1)) ≤ ((a0.code.length : Nat) : Int))) = false) (decide_eq_false h2) <| P2 ((0 : Int) ≤ 40) (by decide) <| P0)))
/-!   loop example/g00886/spec l1Cur  pick -/
def Rs_l1Cur_pick (r : Int × Gs_l1Cur) : List D := [I r.1]
def Ns_l1Cur_pick (r : Int × Gs_l1Cur) : List Root := [⟨false, true, 3, 1, [.agg [sl 1 (D.int .u8) r.2.code, I r.2.at_, .int .u64 r.2.seed]]⟩]
theorem cs_l1Cur_pick {a0 : Gs_l1Cur} {a1 : Int} {r : Int × Gs_l1Cur} (H : Ds_l1Cur_pick a0 a1 = some r) : Ct X.P X.gl 58 [.ptr 0 3 0 0, I a1] [⟨false, true, 3, 1, [.agg [sl 1 (D.int .u8) a0.code, I a0.at_, .int .u64 a0.seed]]⟩] (Rs_l1Cur_pick r) (Ns_l1Cur_pick r) :=
  Ct.of func58 (c := bdy f58) (by kernel_rfl) (by kernel_rfl) <|
  gS [r0] (by kernel_rfl) P0 <|
  eIf H (fun h1 H =>
    eW Rs_l1Cur_pick Ns_l1Cur_pick H <| gE func58 [rg [hT 1], r0] (by kernel_rfl) (P2 ((decide (a1 ≤ 1)) = true) (decide_eq_true h1) <| P0))
  (fun h1 H =>
    eBind H fun r2 hr2 H =>
    gS [rg [hF 1], rg [hC 1 true [0] (Rs_l1Cur_next r2) (Ns_l1Cur_next r2)]] (by kernel_rfl) (P2 ((decide (a1 ≤ 1)) = false) (decide_eq_false h1) <| PI (1 : Nat) <| P1 (cs_l1Cur_next hr2) <| P0) <|
    eIf H (fun h3 H =>
      eBind H fun r4 hr4 H =>
      eCk H fun h5 H =>
      eW Rs_l1Cur_pick Ns_l1Cur_pick H <| gE func58 [rg [hT 1], rg [hC 3 true [0] (Rs_l1Cur_next r4) (Ns_l1Cur_next r4)], r0] (by kernel_rfl) (P2 ((decide (a1 > 200)) = true) (decide_eq_true h3) <| PI (1 : Nat) <| P1 (cs_l1Cur_next hr4) <| P2 (¬ (a1 : Int) = 0) h5 <| P0))
    (fun h3 H =>
      eCk H fun h4 H =>
      eW Rs_l1Cur_pick Ns_l1Cur_pick H <| gE func58 [rg [hF 1], r0] (by kernel_rfl) (P2 ((decide (a1 > 200)) = false) (decide_eq_false h3) <| P2 (¬ (a1 : Int) = 0) h4 <| P0)))
/-!   loop example/g00886/spec l1Cur  among -/
def Rs_l1Cur_among (r : Int × Gs_l1Cur) : List D := [I r.1]
def Ns_l1Cur_among (r : Int × Gs_l1Cur) : List Root := [⟨false, true, 3, 1, [.agg [sl 1 (D.int .u8) r.2.code, I r.2.at_, .int .u64 r.2.seed]]⟩]
theorem cs_l1Cur_among {a0 : Gs_l1Cur} {a1 : (List Int)} {r : Int × Gs_l1Cur} (H : Ds_l1Cur_among a0 a1 = some r) : Ct X.P X.gl 104 [.ptr 0 3 0 0, sl 1 I a1] [⟨false, true, 3, 1, [.agg [sl 1 (D.int .u8) a0.code, I a0.at_, .int .u64 a0.seed]]⟩] (Rs_l1Cur_among r) (Ns_l1Cur_among r) :=
  Ct.of func104 (c := bdy f104) (by kernel_rfl) (by kernel_rfl) <|
  eBind H fun r1 hr1 H =>
  eCk H fun h2 H =>
  eBind H fun x3 hx3 H =>
  eW Rs_l1Cur_among Ns_l1Cur_among H <| gE func104 [r0, rg [hC 4 true [0] (Rs_l1Cur_pick r1) (Ns_l1Cur_pick r1), hE 6 (I x3)]] (by kernel_rfl) (PI (1 : Nat) <| P1 (cs_l1Cur_pick hr1) <| P1 h2 <| P1 (int_lt_of_at h2 hx3) <| P1 (at_map I hx3) <| P0)
/-! loop example/g00886/spec l1Least -/
theorem cs_l1Least {a0 : Int} {a1 : Int} {r : Int} (H : Ds_l1Least a0 a1 = some r) : Ct X.P X.gl 121 [I a0, I a1] [] (RI r) [] :=
  Ct.of func121 (c := bdy f121) (by kernel_rfl) (by kernel_rfl) <|
  gS [r0] (by kernel_rfl) P0 <|
  eIf H (fun h1 H =>
    eW RI (fun _ => []) H <| gE func121 [rg [hT 2], r0] (by kernel_rfl) (P2 ((decide (a0 < a1)) = true) (decide_eq_true h1) <| P0))
  (fun h1 H =>
    eW RI (fun _ => []) H <| gE func121 [rg [hF 2], r0] (by kernel_rfl) (P2 ((decide (a0 < a1)) = false) (decide_eq_false h1) <| P0))
/-! loop example/g00886/spec l1Own -/
def Rs_l1Own (r : (List Int)) : List D := [ow 1 I r]
theorem cs_l1Own {a0 : (List Int)} {r : (List Int)} (H : Ds_l1Own a0 = some r) : Ct X.P X.gl 126 [sl 1 I a0] [] (Rs_l1Own r) [] :=
  Ct.of func126 (c := bdy f126) (by kernel_rfl) (by kernel_rfl) <|
  eCk H fun h1 H =>
  eW Rs_l1Own (fun _ => []) H <| gE func126 [r0, rg [hA 2 a0.length (List.map I a0)]] (by kernel_rfl) (P2 (AllFl (List.map I a0)) (allFl_3 _) <| P2 (a0.length = ([] : List Int).length + a0.length) (by simp <;> omega) <| P2 ((([] : List Int).length + a0.length) * 8 ≤ 70368744177664) (by have := h1; simp at this ⊢ <;> omega) <| P2 (List.map I ([] : List Int) ++ List.map I a0 = List.map I a0) (by simp) <| P0)
/-!   loop example/g00886/spec l1Cur  climate -/
def Rs_l1Cur_climate (r : Gi_Climate × Gs_l1Cur) : List D := [.agg [ow 1 (ow 1 I) r.1.Weights]]
def Ns_l1Cur_climate (r : Gi_Climate × Gs_l1Cur) : List Root := [⟨false, true, 3, 1, [.agg [sl 1 (D.int .u8) r.2.code, I r.2.at_, .int .u64 r.2.seed]]⟩]
noncomputable def Ks_l1Cur_climate : Ss_l1Cur_climate → List Item
  | .h1 .. => nav 300 3 [] [.code (bdy f105)]
  | .h2 .. => nav 300 10 [true] [.code (bdy f105)]
def Zs_l1Cur_climate : Ss_l1Cur_climate → St
  | .h1 k0 b1 => ⟨sts 46 [(0, .ptr 0 3 0 0), (2, .ptr 1 1 0 0), (3, .ptr 2 1 0 0), (4, I k0)], [some ⟨false, true, 3, 1, [.agg [sl 1 (D.int .u8) b1.code, I b1.at_, .int .u64 b1.seed]]⟩, some ⟨false, true, 1, 1, [.agg [.nil]]⟩, some ⟨false, true, 1, 1, [.agg [.nil]]⟩]⟩
  | .h2 k0 b1 l2 => ⟨sts 46 [(0, .ptr 0 3 0 0), (2, .ptr 1 1 0 0), (3, .ptr 2 1 0 0), (4, I k0)], [some ⟨false, true, 3, 1, [.agg [sl 1 (D.int .u8) b1.code, I b1.at_, .int .u64 b1.seed]]⟩, some ⟨false, true, 1, 1, [.agg [.nil]]⟩, some ⟨false, true, 1, 1, [.agg [.ref 3 1 none]]⟩, some ⟨false, false, 1, l2.length, List.map (ow 1 I) l2⟩]⟩
abbrev Qs_l1Cur_climate := Nx X 105 1 Ks_l1Cur_climate Zs_l1Cur_climate Rs_l1Cur_climate Ns_l1Cur_climate
theorem ns_l1Cur_climate : ∀ s o, Bs_l1Cur_climate s = some o → Qs_l1Cur_climate (Ks_l1Cur_climate s) (Zs_l1Cur_climate s) o
  | .h1 k0 b1, o, H =>
    eIf H (fun h1 H =>
      eBind H fun r2 hr2 H =>
      eBind H fun r3 hr3 H =>
      eBind H fun r4 hr4 H =>
      eBind H fun r5 hr5 H =>
      eCk H fun h6 H =>
      eCk H fun h7 H =>
      eBind H fun r8 hr8 H =>
      eCk H fun h9 H =>
      eCk H fun h10 H =>
      eCk H fun h11 H =>
      eCk H fun h12 H =>
      eN H fun r hn => gO [rg [hT 1], rg [{ i := 2, frz := [3], call := some { cl := true, auto := true, ins := [0], res := (Rs_l1Cur_among r2), G' := (Ns_l1Cur_among r2) } }], rg [{ i := 2, frz := [4], call := some { cl := true, auto := true, ins := [0], res := (Rs_l1Cur_among r3), G' := (Ns_l1Cur_among r3) } }, hC 5 true [] (RI r4) []], r0, rg [hC 1 true [0] (Rs_l1Cur_pick r5) (Ns_l1Cur_pick r5)], rg [{ i := 5, call := some { cl := false, ins := [], args := [sl 1 I (List.take (([r2.1, r4, (IntKind.wrap .i64 ((IntKind.wrap .i64 (36 - r2.1)) - r4))].length) - (Int.toNat r5.1)) (List.drop (Int.toNat r5.1) [r2.1, r4, (IntKind.wrap .i64 ((IntKind.wrap .i64 (36 - r2.1)) - r4))]))], res := Rs_l1Own r8, G' := [] } }, { i := 9, keep := true, n := (r8 ++ (List.take ((Int.toNat r5.1) - 0) (List.drop 0 [r2.1, r4, (IntKind.wrap .i64 ((IntKind.wrap .i64 (36 - r2.1)) - r4))]))).length, xs := List.map I (r8 ++ (List.take ((Int.toNat r5.1) - 0) (List.drop 0 [r2.1, r4, (IntKind.wrap .i64 ((IntKind.wrap .i64 (36 - r2.1)) - r4))]))) }, { i := 10, post := [.put 8 0 0 7 (List.map (ow 1 I) [(r8 ++ (List.take ((Int.toNat r5.1) - 0) (List.drop 0 [r2.1, r4, (IntKind.wrap .i64 ((IntKind.wrap .i64 (36 - r2.1)) - r4))])))]), .own 8 1] }, hA 11 ([(r8 ++ (List.take ((Int.toNat r5.1) - 0) (List.drop 0 [r2.1, r4, (IntKind.wrap .i64 ((IntKind.wrap .i64 (36 - r2.1)) - r4))])))].length) (List.map (ow 1 I) [(r8 ++ (List.take ((Int.toNat r5.1) - 0) (List.drop 0 [r2.1, r4, (IntKind.wrap .i64 ((IntKind.wrap .i64 (36 - r2.1)) - r4))])))])], r0, .canon [0, 1, 2, 9] [0, 2, 3, 4]] (by kernel_rfl) (P2 ((decide (k0 < 3)) = true) (decide_eq_true h1) <| PI (1 : Nat) <| P1 (cs_l1Cur_among hr2) <| PI (1 : Nat) <| P1 (cs_l1Cur_among hr3) <| P1 (cs_l1Least hr4) <| PI (1 : Nat) <| P1 (cs_l1Cur_pick hr5) <| P2 ((0 : Int) ≤ r5.1) h6 <| P2 ((r5.1 : Int) ≤ (([r2.1, r4, (IntKind.wrap .i64 ((IntKind.wrap .i64 (36 - r2.1)) - r4))].length : Nat) : Int)) h7 <| P2 ((([r2.1, r4, (IntKind.wrap .i64 ((IntKind.wrap .i64 (36 - r2.1)) - r4))].length) - (Int.toNat r5.1)) = (List.take (([r2.1, r4, (IntKind.wrap .i64 ((IntKind.wrap .i64 (36 - r2.1)) - r4))].length) - (Int.toNat r5.1)) (List.drop (Int.toNat r5.1) [r2.1, r4, (IntKind.wrap .i64 ((IntKind.wrap .i64 (36 - r2.1)) - r4))])).length) (by first | (simp <;> omega) | (simp only [List.length_take, List.length_drop, List.length_nil] <;> omega)) <| P2 (erL (List.take (([r2.1, r4, (IntKind.wrap .i64 ((IntKind.wrap .i64 (36 - r2.1)) - r4))].length) - (Int.toNat r5.1)) (List.drop (Int.toNat r5.1) (List.map I [r2.1, r4, (IntKind.wrap .i64 ((IntKind.wrap .i64 (36 - r2.1)) - r4))]))) = erL (List.map I (List.take (([r2.1, r4, (IntKind.wrap .i64 ((IntKind.wrap .i64 (36 - r2.1)) - r4))].length) - (Int.toNat r5.1)) (List.drop (Int.toNat r5.1) [r2.1, r4, (IntKind.wrap .i64 ((IntKind.wrap .i64 (36 - r2.1)) - r4))])))) (by rw [List.map_take, List.map_drop]) <| P2 (nfL (List.flatMap D.cells (Rs_l1Own r8))) ⟨nfL_map nf_3 _, trivial⟩ <| P2 (nfG []) trivial <| P1 (cs_l1Own hr8) <| P2 ((0 : Int) ≤ r5.1) h9 <| P2 ((r5.1 : Int) ≤ (([r2.1, r4, (IntKind.wrap .i64 ((IntKind.wrap .i64 (36 - r2.1)) - r4))].length : Nat) : Int)) h10 <| P2 (AllFl (List.map I [r2.1, r4, (IntKind.wrap .i64 ((IntKind.wrap .i64 (36 - r2.1)) - r4))])) (allFl_3 _) <| P2 ((r8 ++ (List.take ((Int.toNat r5.1) - 0) (List.drop 0 [r2.1, r4, (IntKind.wrap .i64 ((IntKind.wrap .i64 (36 - r2.1)) - r4))]))).length = r8.length + ((Int.toNat r5.1) - 0)) (by first | (simp <;> omega) | (simp only [List.length_append, List.length_take, List.length_drop, List.length_nil] <;> omega)) <| P2 ((r8.length + ((Int.toNat r5.1) - 0)) * 8 ≤ 70368744177664) (by have := h11; first | (simp at this ⊢ <;> omega) | (simp only [List.length_append, List.length_take, List.length_drop, List.length_nil] at this ⊢ <;> omega)) <| P2 (List.map I r8 ++ List.take ((Int.toNat r5.1) - 0) (List.drop 0 (List.map I [r2.1, r4, (IntKind.wrap .i64 ((IntKind.wrap .i64 (36 - r2.1)) - r4))])) = List.map I (r8 ++ (List.take ((Int.toNat r5.1) - 0) (List.drop 0 [r2.1, r4, (IntKind.wrap .i64 ((IntKind.wrap .i64 (36 - r2.1)) - r4))])))) (by simp [List.map_take, List.map_drop]) <| P2 (getCells [.ref 7 1 none] 0 0 1 = some [.ref 7 1 none]) rfl <| P2 (setCells [.ref 7 1 none] 0 0 [ow 1 I (r8 ++ (List.take ((Int.toNat r5.1) - 0) (List.drop 0 [r2.1, r4, (IntKind.wrap .i64 ((IntKind.wrap .i64 (36 - r2.1)) - r4))])))] = List.map (ow 1 I) [(r8 ++ (List.take ((Int.toNat r5.1) - 0) (List.drop 0 [r2.1, r4, (IntKind.wrap .i64 ((IntKind.wrap .i64 (36 - r2.1)) - r4))])))]) rfl <| P1 (allOw_29 [(r8 ++ (List.take ((Int.toNat r5.1) - 0) (List.drop 0 [r2.1, r4, (IntKind.wrap .i64 ((IntKind.wrap .i64 (36 - r2.1)) - r4))])))]) <| P2 ((1 : Nat) = 1) rfl <| P2 ([(r8 ++ (List.take ((Int.toNat r5.1) - 0) (List.drop 0 [r2.1, r4, (IntKind.wrap .i64 ((IntKind.wrap .i64 (36 - r2.1)) - r4))])))].length = 0 + [(r8 ++ (List.take ((Int.toNat r5.1) - 0) (List.drop 0 [r2.1, r4, (IntKind.wrap .i64 ((IntKind.wrap .i64 (36 - r2.1)) - r4))])))].length) (by first | (simp <;> omega) | (simp only [List.length_append, List.length_take, List.length_drop, List.length_nil] <;> omega)) <| P2 ((0 + [(r8 ++ (List.take ((Int.toNat r5.1) - 0) (List.drop 0 [r2.1, r4, (IntKind.wrap .i64 ((IntKind.wrap .i64 (36 - r2.1)) - r4))])))].length) * 24 ≤ 70368744177664) (by have := h12; first | (simp at this ⊢ <;> omega) | (simp only [List.length_append, List.length_take, List.length_drop, List.length_nil] at this ⊢ <;> omega)) <| P2 (([] : List D) ++ List.map (ow 1 I) [(r8 ++ (List.take ((Int.toNat r5.1) - 0) (List.drop 0 [r2.1, r4, (IntKind.wrap .i64 ((IntKind.wrap .i64 (36 - r2.1)) - r4))])))] = List.map (ow 1 I) [(r8 ++ (List.take ((Int.toNat r5.1) - 0) (List.drop 0 [r2.1, r4, (IntKind.wrap .i64 ((IntKind.wrap .i64 (36 - r2.1)) - r4))])))]) (by simp [List.map_take, List.map_drop]) <| P0) hn)
    (fun h1 H =>
      eN H <| gE func105 [rg [hF 1], r0] (by kernel_rfl) (P2 ((decide (k0 < 3)) = false) (decide_eq_false h1) <| P0))
  | .h2 k0 b1 l2, o, H =>
    eIf H (fun h1 H =>
      eBind H fun r2 hr2 H =>
      eBind H fun r3 hr3 H =>
      eBind H fun r4 hr4 H =>
      eBind H fun r5 hr5 H =>
      eCk H fun h6 H =>
      eCk H fun h7 H =>
      eBind H fun r8 hr8 H =>
      eCk H fun h9 H =>
      eCk H fun h10 H =>
      eCk H fun h11 H =>
      eCk H fun h12 H =>
      eN H fun r hn => gO [rg [hT 1], rg [{ i := 2, frz := [4], call := some { cl := true, auto := true, ins := [0], res := (Rs_l1Cur_among r2), G' := (Ns_l1Cur_among r2) } }], rg [{ i := 2, frz := [5], call := some { cl := true, auto := true, ins := [0], res := (Rs_l1Cur_among r3), G' := (Ns_l1Cur_among r3) } }, hC 5 true [] (RI r4) []], r0, rg [hC 1 true [0] (Rs_l1Cur_pick r5) (Ns_l1Cur_pick r5)], rg [{ i := 5, call := some { cl := false, ins := [], args := [sl 1 I (List.take (([r2.1, r4, (IntKind.wrap .i64 ((IntKind.wrap .i64 (36 - r2.1)) - r4))].length) - (Int.toNat r5.1)) (List.drop (Int.toNat r5.1) [r2.1, r4, (IntKind.wrap .i64 ((IntKind.wrap .i64 (36 - r2.1)) - r4))]))], res := Rs_l1Own r8, G' := [] } }, { i := 9, keep := true, n := (r8 ++ (List.take ((Int.toNat r5.1) - 0) (List.drop 0 [r2.1, r4, (IntKind.wrap .i64 ((IntKind.wrap .i64 (36 - r2.1)) - r4))]))).length, xs := List.map I (r8 ++ (List.take ((Int.toNat r5.1) - 0) (List.drop 0 [r2.1, r4, (IntKind.wrap .i64 ((IntKind.wrap .i64 (36 - r2.1)) - r4))]))) }, { i := 10, post := [.put 9 0 0 8 (List.map (ow 1 I) [(r8 ++ (List.take ((Int.toNat r5.1) - 0) (List.drop 0 [r2.1, r4, (IntKind.wrap .i64 ((IntKind.wrap .i64 (36 - r2.1)) - r4))])))]), .own 9 1] }, hA 11 ((l2 ++ [(r8 ++ (List.take ((Int.toNat r5.1) - 0) (List.drop 0 [r2.1, r4, (IntKind.wrap .i64 ((IntKind.wrap .i64 (36 - r2.1)) - r4))])))]).length) (List.map (ow 1 I) (l2 ++ [(r8 ++ (List.take ((Int.toNat r5.1) - 0) (List.drop 0 [r2.1, r4, (IntKind.wrap .i64 ((IntKind.wrap .i64 (36 - r2.1)) - r4))])))]))], r0, .canon [0, 1, 2, 10] [0, 2, 3, 4]] (by kernel_rfl) (P2 ((decide (k0 < 3)) = true) (decide_eq_true h1) <| PI (1 : Nat) <| P1 (cs_l1Cur_among hr2) <| PI (1 : Nat) <| P1 (cs_l1Cur_among hr3) <| P1 (cs_l1Least hr4) <| PI (1 : Nat) <| P1 (cs_l1Cur_pick hr5) <| P2 ((0 : Int) ≤ r5.1) h6 <| P2 ((r5.1 : Int) ≤ (([r2.1, r4, (IntKind.wrap .i64 ((IntKind.wrap .i64 (36 - r2.1)) - r4))].length : Nat) : Int)) h7 <| P2 ((([r2.1, r4, (IntKind.wrap .i64 ((IntKind.wrap .i64 (36 - r2.1)) - r4))].length) - (Int.toNat r5.1)) = (List.take (([r2.1, r4, (IntKind.wrap .i64 ((IntKind.wrap .i64 (36 - r2.1)) - r4))].length) - (Int.toNat r5.1)) (List.drop (Int.toNat r5.1) [r2.1, r4, (IntKind.wrap .i64 ((IntKind.wrap .i64 (36 - r2.1)) - r4))])).length) (by first | (simp <;> omega) | (simp only [List.length_take, List.length_drop, List.length_nil] <;> omega)) <| P2 (erL (List.take (([r2.1, r4, (IntKind.wrap .i64 ((IntKind.wrap .i64 (36 - r2.1)) - r4))].length) - (Int.toNat r5.1)) (List.drop (Int.toNat r5.1) (List.map I [r2.1, r4, (IntKind.wrap .i64 ((IntKind.wrap .i64 (36 - r2.1)) - r4))]))) = erL (List.map I (List.take (([r2.1, r4, (IntKind.wrap .i64 ((IntKind.wrap .i64 (36 - r2.1)) - r4))].length) - (Int.toNat r5.1)) (List.drop (Int.toNat r5.1) [r2.1, r4, (IntKind.wrap .i64 ((IntKind.wrap .i64 (36 - r2.1)) - r4))])))) (by rw [List.map_take, List.map_drop]) <| P2 (nfL (List.flatMap D.cells (Rs_l1Own r8))) ⟨nfL_map nf_3 _, trivial⟩ <| P2 (nfG []) trivial <| P1 (cs_l1Own hr8) <| P2 ((0 : Int) ≤ r5.1) h9 <| P2 ((r5.1 : Int) ≤ (([r2.1, r4, (IntKind.wrap .i64 ((IntKind.wrap .i64 (36 - r2.1)) - r4))].length : Nat) : Int)) h10 <| P2 (AllFl (List.map I [r2.1, r4, (IntKind.wrap .i64 ((IntKind.wrap .i64 (36 - r2.1)) - r4))])) (allFl_3 _) <| P2 ((r8 ++ (List.take ((Int.toNat r5.1) - 0) (List.drop 0 [r2.1, r4, (IntKind.wrap .i64 ((IntKind.wrap .i64 (36 - r2.1)) - r4))]))).length = r8.length + ((Int.toNat r5.1) - 0)) (by first | (simp <;> omega) | (simp only [List.length_append, List.length_take, List.length_drop, List.length_nil] <;> omega)) <| P2 ((r8.length + ((Int.toNat r5.1) - 0)) * 8 ≤ 70368744177664) (by have := h11; first | (simp at this ⊢ <;> omega) | (simp only [List.length_append, List.length_take, List.length_drop, List.length_nil] at this ⊢ <;> omega)) <| P2 (List.map I r8 ++ List.take ((Int.toNat r5.1) - 0) (List.drop 0 (List.map I [r2.1, r4, (IntKind.wrap .i64 ((IntKind.wrap .i64 (36 - r2.1)) - r4))])) = List.map I (r8 ++ (List.take ((Int.toNat r5.1) - 0) (List.drop 0 [r2.1, r4, (IntKind.wrap .i64 ((IntKind.wrap .i64 (36 - r2.1)) - r4))])))) (by simp [List.map_take, List.map_drop]) <| P2 (getCells [.ref 8 1 none] 0 0 1 = some [.ref 8 1 none]) rfl <| P2 (setCells [.ref 8 1 none] 0 0 [ow 1 I (r8 ++ (List.take ((Int.toNat r5.1) - 0) (List.drop 0 [r2.1, r4, (IntKind.wrap .i64 ((IntKind.wrap .i64 (36 - r2.1)) - r4))])))] = List.map (ow 1 I) [(r8 ++ (List.take ((Int.toNat r5.1) - 0) (List.drop 0 [r2.1, r4, (IntKind.wrap .i64 ((IntKind.wrap .i64 (36 - r2.1)) - r4))])))]) rfl <| P1 (allOw_29 [(r8 ++ (List.take ((Int.toNat r5.1) - 0) (List.drop 0 [r2.1, r4, (IntKind.wrap .i64 ((IntKind.wrap .i64 (36 - r2.1)) - r4))])))]) <| P2 ((1 : Nat) = 1) rfl <| P1 (apL l2 [(r8 ++ (List.take ((Int.toNat r5.1) - 0) (List.drop 0 [r2.1, r4, (IntKind.wrap .i64 ((IntKind.wrap .i64 (36 - r2.1)) - r4))])))]) <| P1 (apB h12) <| P1 (apM (ow 1 I) l2 [(r8 ++ (List.take ((Int.toNat r5.1) - 0) (List.drop 0 [r2.1, r4, (IntKind.wrap .i64 ((IntKind.wrap .i64 (36 - r2.1)) - r4))])))]) <| P0) hn)
    (fun h1 H =>
      eN H <| gE func105 [rg [hF 1], r0] (by kernel_rfl) (P2 ((decide (k0 < 3)) = false) (decide_eq_false h1) <| P0))
theorem ws_l1Cur_climate : ∀ s r, loop Bs_l1Cur_climate s = some r → Wc X 105 1 (Ks_l1Cur_climate s) (Zs_l1Cur_climate s) (Rs_l1Cur_climate r) (Ns_l1Cur_climate r) := Nx.all ns_l1Cur_climate
theorem cs_l1Cur_climate {a0 : Gs_l1Cur} {r : Gi_Climate × Gs_l1Cur} (H : Ds_l1Cur_climate a0 = some r) : Ct X.P X.gl 105 [.ptr 0 3 0 0] [⟨false, true, 3, 1, [.agg [sl 1 (D.int .u8) a0.code, I a0.at_, .int .u64 a0.seed]]⟩] (Rs_l1Cur_climate r) (Ns_l1Cur_climate r) :=
  Ct.of func105 (c := bdy f105) (by kernel_rfl) (by kernel_rfl) <|
  gO [r0, r0, r0, .canon [0, 1, 2] [0, 2, 3, 4]] (by kernel_rfl) P0 (ws_l1Cur_climate _ _ H)
/-!   loop example/g00886/spec l1Cur  anyClimate -/
def Rs_l1Cur_anyClimate (r : Gi_Climate × Gs_l1Cur) : List D := [.agg [ow 1 (ow 1 I) r.1.Weights]]
def Ns_l1Cur_anyClimate (r : Gi_Climate × Gs_l1Cur) : List Root := [⟨false, true, 3, 1, [.agg [sl 1 (D.int .u8) r.2.code, I r.2.at_, .int .u64 r.2.seed]]⟩]
theorem cs_l1Cur_anyClimate {a0 : Gs_l1Cur} {r : Gi_Climate × Gs_l1Cur} (H : Ds_l1Cur_anyClimate a0 = some r) : Ct X.P X.gl 57 [.ptr 0 3 0 0] [⟨false, true, 3, 1, [.agg [sl 1 (D.int .u8) a0.code, I a0.at_, .int .u64 a0.seed]]⟩] (Rs_l1Cur_anyClimate r) (Ns_l1Cur_anyClimate r) :=
  Ct.of func57 (c := bdy f57) (by kernel_rfl) (by kernel_rfl) <|
  eBind H fun r1 hr1 H =>
  eBind H fun r2 hr2 H =>
  gS [r0, rg [hC 1 true [0] (Rs_l1Cur_climate r1) (Ns_l1Cur_climate r1)], rg [hC 1 true [0] (Rs_l1Cur_pick r2) (Ns_l1Cur_pick r2)]] (by kernel_rfl) (PI (1 : Nat) <| P1 (cs_l1Cur_climate hr1) <| PI (1 : Nat) <| P1 (cs_l1Cur_pick hr2) <| P0) <|
  eIf H (fun h3 H =>
    eBind H fun x4 hx4 H =>
    eBind H fun x5 hx5 H =>
    eBind H fun x6 hx6 H =>
    eW Rs_l1Cur_anyClimate Ns_l1Cur_anyClimate H <| gE func57 [rg [hT 0], rg [{ i := 3, pre := [.take 2 (Int.toNat 0) 0 1 x4.length (List.map I x4) (List.set (List.map (ow 1 I) r1.1.Weights) (Int.toNat 0) (.ref 4 1 none))], el := some (.ref 4 1 none) }, hE 5 (I x5), { i := 8, xs := List.map I (List.set x4 (Int.toNat 0) (IntKind.wrap .i64 (x5 + 1))), n := (List.set x4 (Int.toNat 0) (IntKind.wrap .i64 (x5 + 1))).length, post := [.put 2 (Int.toNat 0) 0 4 (List.map (ow 1 I) (List.set r1.1.Weights (Int.toNat 0) (List.set x4 (Int.toNat 0) (IntKind.wrap .i64 (x5 + 1))))), .own 2 (List.set r1.1.Weights (Int.toNat 0) (List.set x4 (Int.toNat 0) (IntKind.wrap .i64 (x5 + 1)))).length], xtra := [2] }], r0] (by kernel_rfl) (P2 (((r2.1 : Int) == 0) = true) (beqT h3) <| P2 ((0 : Int) ≤ 0) (by decide) <| P1 (int_lt_of_at (by decide : (0 : Int) ≤ 0) hx4) <| P2 (getCells (List.map (ow 1 I) r1.1.Weights) (Int.toNat 0) 0 1 = some [ow 1 I x4]) (getCells_at hx4 rfl) <| P2 (setCells (List.map (ow 1 I) r1.1.Weights) (Int.toNat 0) 0 [.ref 4 1 none] = List.set (List.map (ow 1 I) r1.1.Weights) (Int.toNat 0) (.ref 4 1 none)) (setCells_mapD hx4 rfl) <| P1 (at_set (f := (ow 1 I)) (.ref 4 1 none) hx4) <| P2 ((0 : Int) ≤ 0) (by decide) <| P1 (int_lt_of_at (by decide : (0 : Int) ≤ 0) hx5) <| P1 (at_map I hx5) <| P2 ((0 : Int) ≤ 0) (by decide) <| P1 (int_lt_of_at (by decide : (0 : Int) ≤ 0) hx6) <| P1 (lt_of_at hx6) <| P2 (setCells (List.map I x4) (Int.toNat 0) 0 [I (IntKind.wrap .i64 (x5 + 1))] = List.map I (List.set x4 (Int.toNat 0) (IntKind.wrap .i64 (x5 + 1)))) (setCells_map hx6 rfl) <| P1 (setLen x4 (Int.toNat 0) (IntKind.wrap .i64 (x5 + 1))) <| P2 (getCells (List.set (List.map (ow 1 I) r1.1.Weights) (Int.toNat 0) (.ref 4 1 none)) (Int.toNat 0) 0 1 = some [.ref 4 1 none]) (getCells_set hx4 rfl) <| P2 (setCells (List.set (List.map (ow 1 I) r1.1.Weights) (Int.toNat 0) (.ref 4 1 none)) (Int.toNat 0) 0 [ow 1 I (List.set x4 (Int.toNat 0) (IntKind.wrap .i64 (x5 + 1)))] = List.map (ow 1 I) (List.set r1.1.Weights (Int.toNat 0) (List.set x4 (Int.toNat 0) (IntKind.wrap .i64 (x5 + 1))))) (setCells_set hx4 rfl) <| P1 (allOw_29 (List.set r1.1.Weights (Int.toNat 0) (List.set x4 (Int.toNat 0) (IntKind.wrap .i64 (x5 + 1))))) <| P1 (setLen r1.1.Weights (Int.toNat 0) (List.set x4 (Int.toNat 0) (IntKind.wrap .i64 (x5 + 1)))) <| P0))
  (fun h3 H =>
    gS [rg [hF 0]] (by kernel_rfl) (P2 (((r2.1 : Int) == 0) = false) (beqF h3) <| P0) <|
    eIf H (fun h4 H =>
      eCk H fun h5 H =>
      eW Rs_l1Cur_anyClimate Ns_l1Cur_anyClimate H <| gE func57 [rg [hT 0], r0, .viewb 3 0 (List.take (r1.1.Weights.length - (Int.toNat 1)) (List.drop (Int.toNat 1) r1.1.Weights)).length (List.map (ow 1 I) (List.take (r1.1.Weights.length - (Int.toNat 1)) (List.drop (Int.toNat 1) r1.1.Weights))), r0] (by kernel_rfl) (P2 (((r2.1 : Int) == 1) = true) (beqT h4) <| P2 ((0 : Int) ≤ 1) (by decide) <| P2 ((1 : Int) ≤ ((r1.1.Weights.length : Nat) : Int)) h5 <| P2 ((r1.1.Weights.length - (Int.toNat 1)) = (List.take (r1.1.Weights.length - (Int.toNat 1)) (List.drop (Int.toNat 1) r1.1.Weights)).length) (by first | (simp <;> omega) | (simp only [List.length_take, List.length_drop, List.length_nil] <;> omega)) <| P2 (List.take (r1.1.Weights.length - (Int.toNat 1)) (List.drop (Int.toNat 1) (List.map (ow 1 I) r1.1.Weights)) = List.map (ow 1 I) (List.take (r1.1.Weights.length - (Int.toNat 1)) (List.drop (Int.toNat 1) r1.1.Weights))) (by rw [List.map_take, List.map_drop]) <| P0))
    (fun h4 H =>
      gS [rg [hF 0]] (by kernel_rfl) (P2 (((r2.1 : Int) == 1) = false) (beqF h4) <| P0) <|
      eIf H (fun h5 H =>
        eBind H fun x6 hx6 H =>
        eW Rs_l1Cur_anyClimate Ns_l1Cur_anyClimate H <| gE func57 [rg [hT 0], rg [{ i := 4, xs := List.set (List.map (ow 1 I) r1.1.Weights) (Int.toNat 1) (.ref 4 1 none), post := [.put 2 (Int.toNat 1) 0 4 (List.map (ow 1 I) (List.set r1.1.Weights (Int.toNat 1) [(-1), 37, 0])), .own 2 (List.set r1.1.Weights (Int.toNat 1) [(-1), 37, 0]).length] }], r0] (by kernel_rfl) (P2 (((r2.1 : Int) == 2) = true) (beqT h5) <| P2 ((0 : Int) ≤ 1) (by decide) <| P1 (int_lt_of_at (by decide : (0 : Int) ≤ 1) hx6) <| P1 (lt_of_at hx6) <| P2 (setCells (List.map (ow 1 I) r1.1.Weights) (Int.toNat 1) 0 [.ref 4 1 none] = List.set (List.map (ow 1 I) r1.1.Weights) (Int.toNat 1) (.ref 4 1 none)) (setCells_mapD hx6 rfl) <| P2 (getCells (List.set (List.map (ow 1 I) r1.1.Weights) (Int.toNat 1) (.ref 4 1 none)) (Int.toNat 1) 0 1 = some [.ref 4 1 none]) (getCells_set hx6 rfl) <| P2 (setCells (List.set (List.map (ow 1 I) r1.1.Weights) (Int.toNat 1) (.ref 4 1 none)) (Int.toNat 1) 0 [ow 1 I [(-1), 37, 0]] = List.map (ow 1 I) (List.set r1.1.Weights (Int.toNat 1) [(-1), 37, 0])) (setCells_set hx6 rfl) <| P1 (allOw_29 (List.set r1.1.Weights (Int.toNat 1) [(-1), 37, 0])) <| P1 (setLen r1.1.Weights (Int.toNat 1) [(-1), 37, 0]) <| P0))
      (fun h5 H =>
        eW Rs_l1Cur_anyClimate Ns_l1Cur_anyClimate H <| gE func57 [rg [hF 0], r0] (by kernel_rfl) (P2 (((r2.1 : Int) == 2) = false) (beqF h5) <| P0))))
/-!   loop example/g00886/spec l1Cur  weatherOf -/
def Rs_l1Cur_weatherOf (r : Int × Gs_l1Cur) : List D := [I r.1]
def Ns_l1Cur_weatherOf (r : Int × Gs_l1Cur) : List Root := [⟨false, true, 3, 1, [.agg [sl 1 (D.int .u8) r.2.code, I r.2.at_, .int .u64 r.2.seed]]⟩]
theorem cs_l1Cur_weatherOf {a0 : Gs_l1Cur} {r : Int × Gs_l1Cur} (H : Ds_l1Cur_weatherOf a0 = some r) : Ct X.P X.gl 66 [.ptr 0 3 0 0] [⟨false, true, 3, 1, [.agg [sl 1 (D.int .u8) a0.code, I a0.at_, .int .u64 a0.seed]]⟩] (Rs_l1Cur_weatherOf r) (Ns_l1Cur_weatherOf r) :=
  Ct.of func66 (c := bdy f66) (by kernel_rfl) (by kernel_rfl) <|
  eBind H fun r1 hr1 H =>
  eBind H fun r2 hr2 H =>
  eBind H fun r3 hr3 H =>
  eW Rs_l1Cur_weatherOf Ns_l1Cur_weatherOf H <| gE func66 [r0, rg [hC 2 true [0] (Rs_l1Cur_pick r1) (Ns_l1Cur_pick r1), hC 5 true [0] (Rs_l1Cur_pick r2) (Ns_l1Cur_pick r2), hC 7 true [0] (Rs_l1Cur_pick r3) (Ns_l1Cur_pick r3)]] (by kernel_rfl) (PI (1 : Nat) <| P1 (cs_l1Cur_pick hr1) <| P2 (¬ (19 : Int) = 0) (by decide) <| PI (1 : Nat) <| P1 (cs_l1Cur_pick hr2) <| PI (1 : Nat) <| P1 (cs_l1Cur_pick hr3) <| P2 (¬ (29 : Int) = 0) (by decide) <| P0)
/-! loop example/g00886/spec DrawChancesAfter -/
def Rs_DrawChancesAfter (r : Gi_Climate × Int × Int) : List D := [.agg [ow 1 (ow 1 I) r.1.Weights], I r.2.1, I r.2.2]
theorem cs_DrawChancesAfter {a0 : (List Int)} {r : Gi_Climate × Int × Int} (H : Ds_DrawChancesAfter a0 = some r) : Ct X.P X.gl 49 [sl 1 (D.int .u8) a0] [] (Rs_DrawChancesAfter r) [] :=
  Ct.of func49 (c := bdy f49) (by kernel_rfl) (by kernel_rfl) <|
  eBind H fun r1 hr1 H =>
  eBind H fun r2 hr2 H =>
  eBind H fun r3 hr3 H =>
  eBind H fun r4 hr4 H =>
  eW Rs_DrawChancesAfter (fun _ => []) H <| gE func49 [r0, r0, rg [hC 1 true [1] (Rs_l1Cur_anyClimate r1) (Ns_l1Cur_anyClimate r1), hC 3 true [1] (Rs_l1Cur_weatherOf r2) (Ns_l1Cur_weatherOf r2), hC 5 true [1] (Rs_l1Cur_pick r3) (Ns_l1Cur_pick r3), hC 7 true [1] (Rs_l1Cur_pick r4) (Ns_l1Cur_pick r4)]] (by kernel_rfl) (PI (1 : Nat) <| P1 (cs_l1Cur_anyClimate hr1) <| PI (1 : Nat) <| P1 (cs_l1Cur_weatherOf hr2) <| PI (1 : Nat) <| P1 (cs_l1Cur_pick hr3) <| PI (1 : Nat) <| P1 (cs_l1Cur_pick hr4) <| P2 (¬ (19 : Int) = 0) (by decide) <| P0)
/-! loop example/g00886/spec DrawMostLikely -/
def Rs_DrawMostLikely (r : Gi_Climate × Int × Int) : List D := [.agg [ow 1 (ow 1 I) r.1.Weights], I r.2.1, I r.2.2]
theorem cs_DrawMostLikely {a0 : (List Int)} {r : Gi_Climate × Int × Int} (H : Ds_DrawMostLikely a0 = some r) : Ct X.P X.gl 7 [sl 1 (D.int .u8) a0] [] (Rs_DrawMostLikely r) [] :=
  Ct.of func7 (c := bdy f7) (by kernel_rfl) (by kernel_rfl) <|
  eBind H fun r1 hr1 H =>
  eW Rs_DrawMostLikely (fun _ => []) H <| gE func7 [r0, rg [hC 1 true [] (Rs_DrawChancesAfter r1) []]] (by kernel_rfl) (P1 (cs_DrawChancesAfter hr1) <| P0)
/-! loop example/g00886/impl sumOf -/
noncomputable def Ki_sumOf : Si_sumOf → List Item
  | .h1 .. => nav 300 3 [] [.code (bdy f107)]
def Zi_sumOf : Si_sumOf → St
  | .h1 sum0 t1 t2 t3 => ⟨sts 17 [(3, I sum0), (6, sl 1 I t1), (7, I t2), (8, I t3)], []⟩
abbrev Qi_sumOf := Nx X 107 0 Ki_sumOf Zi_sumOf RI (fun _ => [])
theorem ni_sumOf : ∀ s o, Bi_sumOf s = some o → Qi_sumOf (Ki_sumOf s) (Zi_sumOf s) o
  | .h1 sum0 t1 t2 t3, o, H =>
    eIf H (fun h1 H =>
      eCk H fun h2 H =>
      eBind H fun x3 hx3 H =>
      eN H fun r hn => gO [rg [hT 0], rg [hE 1 (I x3)], r0, r0, .canon [] [3, 6, 7, 8]] (by kernel_rfl) (P2 ((decide (t3 < t2)) = true) (decide_eq_true h1) <| P1 h2 <| P1 (int_lt_of_at h2 hx3) <| P1 (at_map I hx3) <| P0) hn)
    (fun h1 H =>
      eN H <| gE func107 [rg [hF 0], r0] (by kernel_rfl) (P2 ((decide (t3 < t2)) = false) (decide_eq_false h1) <| P0))
theorem wi_sumOf : ∀ s r, loop Bi_sumOf s = some r → Wc X 107 0 (Ki_sumOf s) (Zi_sumOf s) (RI r) ((fun _ => []) r) := Nx.all ni_sumOf
theorem ci_sumOf {a0 : (List Int)} {r : Int} (H : Di_sumOf a0 = some r) : Ct X.P X.gl 107 [sl 1 I a0] [] (RI r) [] :=
  Ct.of func107 (c := bdy f107) (by kernel_rfl) (by kernel_rfl) <|
  gO [r0, r0, r0, .canon [] [3, 6, 7, 8]] (by kernel_rfl) P0 (wi_sumOf _ _ H)
/-! loop example/g00886/impl inRange -/
theorem ci_inRange {a0 : Int} {a1 : Int} {a2 : Int} {r : Bool} (H : Di_inRange a0 a1 a2 = some r) : Ct X.P X.gl 51 [I a0, I a1, I a2] [] (RB r) [] :=
  Ct.of func51 (c := bdy f51) (by kernel_rfl) (by kernel_rfl) <|
  gS [r0] (by kernel_rfl) P0 <|
  eIf H (fun h1 H =>
    eW RB (fun _ => []) H <| gE func51 [rg [hT 2]] (by kernel_rfl) (P2 ((decide (a1 ≤ a0)) = true) (decide_eq_true h1) <| P0))
  (fun h1 H =>
    eW RB (fun _ => []) H <| gE func51 [rg [hF 2]] (by kernel_rfl) (P2 ((decide (a1 ≤ a0)) = false) (decide_eq_false h1) <| P0))
/-! loop example/g00886/impl IsClimate -/
noncomputable def Ki_IsClimate : Si_IsClimate → List Item
  | .h1 .. => nav 300 3 [false] [.code (bdy f60)]
  | .h2 .. => nav 300 7 [false, true, false] [.code (bdy f60)]
def Zi_IsClimate : Si_IsClimate → St
  | .h1 t0 t1 t2 => ⟨sts 37 [(12, sl 1 (sl 1 I) t0), (13, I t1), (14, I t2)], []⟩
  | .h2 t0 t1 t2 t3 t4 t5 => ⟨sts 37 [(12, sl 1 (sl 1 I) t0), (13, I t1), (14, I t2), (26, sl 1 I t3), (27, I t4), (28, I t5)], []⟩
abbrev Qi_IsClimate := Nx X 60 0 Ki_IsClimate Zi_IsClimate RB (fun _ => [])
theorem ni_IsClimate : ∀ s o, Bi_IsClimate s = some o → Qi_IsClimate (Ki_IsClimate s) (Zi_IsClimate s) o
  | .h1 t0 t1 t2, o, H =>
    eIf H (fun h1 H =>
      eCk H fun h2 H =>
      eBind H fun x3 hx3 H =>
      gN [rg [hT 0], rg [hE 1 ((sl 1 I) x3)]] (by kernel_rfl) (P2 ((decide (t2 < t1)) = true) (decide_eq_true h1) <| P1 h2 <| P1 (int_lt_of_at h2 hx3) <| P1 (at_map (sl 1 I) hx3) <| P0) <|
      eIf H (fun h4 H =>
        eBind H fun r5 hr5 H =>
        eIf H (fun h6 H =>
          eN H fun r hn => gO [rg [hF 2, hC 5 true [] (RI r5) [], hF 6], r0, .canon [] [12, 13, 14, 26, 27, 28]] (by kernel_rfl) (P2 (((((x3.length : Nat) : Int) : Int) != 3) = false) (bneF h4) <| P1 (ci_sumOf hr5) <| P2 (((r5 : Int) != 36) = false) (bneF h6) <| P0) hn)
        (fun h6 H =>
          eN H <| gE func60 [rg [hF 2, hC 5 true [] (RI r5) [], hT 6], r0] (by kernel_rfl) (P2 (((((x3.length : Nat) : Int) : Int) != 3) = false) (bneF h4) <| P1 (ci_sumOf hr5) <| P2 (((r5 : Int) != 36) = true) (bneT h6) <| P0)))
      (fun h4 H =>
        eN H <| gE func60 [rg [hT 2], r0] (by kernel_rfl) (P2 (((((x3.length : Nat) : Int) : Int) != 3) = true) (bneT h4) <| P0)))
    (fun h1 H =>
      eN H <| gE func60 [rg [hF 0], r0] (by kernel_rfl) (P2 ((decide (t2 < t1)) = false) (decide_eq_false h1) <| P0))
  | .h2 t0 t1 t2 t3 t4 t5, o, H =>
    eIf H (fun h1 H =>
      eCk H fun h2 H =>
      eBind H fun x3 hx3 H =>
      eBind H fun r4 hr4 H =>
      gN [rg [hT 0], rg [hE 1 (I x3)]] (by kernel_rfl) (P2 ((decide (t5 < t4)) = true) (decide_eq_true h1) <| P1 h2 <| P1 (int_lt_of_at h2 hx3) <| P1 (at_map I hx3) <| P0) <|
      eIf H (fun h5 H =>
        eN H fun r hn => gO [rg [{ i := 1, call := some { cl := true, auto := true, ins := [], res := (RB r4), G' := [] }, dec := some true }], r0, .canon [] [12, 13, 14, 26, 27, 28]] (by kernel_rfl) (P1 (ci_inRange hr4) <| P2 (r4 = true) (h5) <| P0) hn)
      (fun h5 H =>
        eN H <| gE func60 [rg [{ i := 1, call := some { cl := true, auto := true, ins := [], res := (RB r4), G' := [] }, dec := some false }], r0] (by kernel_rfl) (P1 (ci_inRange hr4) <| P2 (r4 = false) (eqF h5) <| P0)))
    (fun h1 H =>
      eN H fun r hn => gO [rg [hF 0], r0, .canon [] [12, 13, 14]] (by kernel_rfl) (P2 ((decide (t5 < t4)) = false) (decide_eq_false h1) <| P0) hn)
theorem wi_IsClimate : ∀ s r, loop Bi_IsClimate s = some r → Wc X 60 0 (Ki_IsClimate s) (Zi_IsClimate s) (RB r) ((fun _ => []) r) := Nx.all ni_IsClimate
theorem ci_IsClimate {a0 : Gi_Climate} {r : Bool} (H : Di_IsClimate a0 = some r) : Ct X.P X.gl 60 [.agg [sl 1 (sl 1 I) a0.Weights]] [] (RB r) [] :=
  Ct.of func60 (c := bdy f60) (by kernel_rfl) (by kernel_rfl) <|
  gS [r0] (by kernel_rfl) P0 <|
  eIf H (fun h1 H =>
    gO [rg [hF 3], r0, .canon [] [12, 13, 14]] (by kernel_rfl) (P2 (((((a0.Weights.length : Nat) : Int) : Int) != 3) = false) (bneF h1) <| P0) (wi_IsClimate _ _ H))
  (fun h1 H =>
    eW RB (fun _ => []) H <| gE func60 [rg [hT 3], r0] (by kernel_rfl) (P2 (((((a0.Weights.length : Nat) : Int) : Int) != 3) = true) (bneT h1) <| P0))
/-! loop example/g00886/impl isWeather -/
theorem ci_isWeather {a0 : Int} {r : Bool} (H : Di_isWeather a0 = some r) : Ct X.P X.gl 63 [I a0] [] (RB r) [] :=
  Ct.of func63 (c := bdy f63) (by kernel_rfl) (by kernel_rfl) <|
  eBind H fun r1 hr1 H =>
  eW RB (fun _ => []) H <| gE func63 [r0, rg [hC 1 true [] (RB r1) []]] (by kernel_rfl) (P1 (ci_inRange hr1) <| P0)
/-! loop example/g00886/impl isWeatherOf -/
theorem ci_isWeatherOf {a0 : Gi_Climate} {a1 : Int} {r : Bool} (H : Di_isWeatherOf a0 a1 = some r) : Ct X.P X.gl 50 [.agg [sl 1 (sl 1 I) a0.Weights], I a1] [] (RB r) [] :=
  Ct.of func50 (c := bdy f50) (by kernel_rfl) (by kernel_rfl) <|
  eBind H fun r1 hr1 H =>
  gS [r0] (by kernel_rfl) P0 <|
  eIf H (fun h2 H =>
    eBind H fun r3 hr3 H =>
    eW RB (fun _ => []) H <| gE func50 [rg [{ i := 1, call := some { cl := true, auto := true, ins := [], res := (RB r1), G' := [] }, dec := some true }, hC 4 true [] (RB r3) []]] (by kernel_rfl) (P1 (ci_IsClimate hr1) <| P2 (r1 = true) (h2) <| P1 (ci_isWeather hr3) <| P0))
  (fun h2 H =>
    eW RB (fun _ => []) H <| gE func50 [rg [{ i := 1, call := some { cl := true, auto := true, ins := [], res := (RB r1), G' := [] }, dec := some false }]] (by kernel_rfl) (P1 (ci_IsClimate hr1) <| P2 (r1 = false) (eqF h2) <| P0))
/-! slices Clone -/
def Rslices_Clone_int (r : List Int) : List D := [ow 1 I r]
theorem cslices_Clone_int {l r : List Int} (H : Dslices_Clone_int l = some r) : Ct X.P X.gl 53 [sl 1 I l] [] (Rslices_Clone_int r) [] :=
  eCk H fun h H => eRet (P := fun r => Ct X.P X.gl 53 [sl 1 I l] [] (Rslices_Clone_int r) []) H <|
    Ct.of func53 (c := bdy f53) (by kernel_rfl) (by kernel_rfl) <| by
      by_cases h0 : 0 < l.length
      · exact gE func53 [r0, rg [{ i := 1, keep := true }], rg [{ i := 2, n := l.length, xs := List.map I l }]] (by kernel_rfl) (P1 h0 <| P1 (allFl_3 l) <| P2 (l.length = 0 + l.length) (by simp) <| P2 ((0 + l.length) * 8 ≤ 70368744177664) (by simpa using h) <| P2 (([] : List D) ++ List.map I l = List.map I l) rfl P0)
      · have e : l = [] := by cases l with | nil => rfl | cons x l => exact absurd (Nat.succ_pos _) h0
        subst e
        refine gO [r0, r0, .stop] (k' := nav 300 2 [] [.code (bdy f53)]) (σ' := ⟨sts 8 [(0, sl 1 I []), (2, .nil), (3, sl 1 I []), (4, .anyb)], []⟩) (by kernel_rfl) P0 (Wc.anyb 4 (by kernel_rfl) fun b => ?_)
        cases b with
        | true => exact gE func53 [r0] (by kernel_rfl) P0
        | false =>
          have h : ([] : List Int).length * 8 ≤ 70368744177664 := by decide
          have : Wc X 53 0 (nav 300 2 [] [.code (bdy f53)]) ⟨sts 8 [(0, sl 1 I []), (2, .nil), (3, sl 1 I []), (4, .bool false)], []⟩ (Rslices_Clone_int []) [] := by
            generalize hl : ([] : List Int) = l at h ⊢
            exact gE func53 [ rg [{ i := 2, n := l.length, xs := List.map I l }]] (by kernel_rfl) ( P1 (allFl_3 l) <| P2 (l.length = 0 + l.length) (by simp) <| P2 ((0 + l.length) * 8 ≤ 70368744177664) (by simpa using h) <| P2 (([] : List D) ++ List.map I l = List.map I l) rfl P0)
          exact this
/-! loop example/g00886/impl likelihood -/
noncomputable def Ki_likelihood : Si_likelihood → List Item
  | .h1 .. => nav 300 3 [] [.code (bdy f52)]
def Zi_likelihood : Si_likelihood → St
  | .h1 list0 out1 i2 b3 => ⟨sts 31 [(1, sl 1 I list0), (2, .ptr 0 1 0 0), (5, I out1), (6, I i2)], [some ⟨false, true, 1, 1, [.agg [sl 1 (sl 1 I) b3.Weights]]⟩]⟩
abbrev Qi_likelihood := Nx X 52 0 Ki_likelihood Zi_likelihood RI (fun _ => [])
theorem ni_likelihood : ∀ s o, Bi_likelihood s = some o → Qi_likelihood (Ki_likelihood s) (Zi_likelihood s) o
  | .h1 list0 out1 i2 b3, o, H =>
    eIf H (fun h1 H =>
      eCk H fun h2 H =>
      eBind H fun x3 hx3 H =>
      eCk H fun h4 H =>
      eBind H fun x5 hx5 H =>
      eCk H fun h6 H =>
      eBind H fun x7 hx7 H =>
      eCk H fun h8 H =>
      eBind H fun x9 hx9 H =>
      eN H fun r hn => gO [rg [hT 3], rg [hE 7 (I x3), hE 9 ((sl 1 I) x5), hE 13 (I x7), hE 15 (I x9)], r0, .canon [0] [1, 2, 5, 6]] (by kernel_rfl) (P2 ((decide (i2 < ((list0.length : Nat) : Int))) = true) (decide_eq_true h1) <| P1 h2 <| P1 (int_lt_of_at h2 hx3) <| P1 (at_map I hx3) <| P1 h4 <| P1 (int_lt_of_at h4 hx5) <| P1 (at_map (sl 1 I) hx5) <| P1 h6 <| P1 (int_lt_of_at h6 hx7) <| P1 (at_map I hx7) <| P1 h8 <| P1 (int_lt_of_at h8 hx9) <| P1 (at_map I hx9) <| P0) hn)
    (fun h1 H =>
      eN H <| gE func52 [rg [hF 3], r0] (by kernel_rfl) (P2 ((decide (i2 < ((list0.length : Nat) : Int))) = false) (decide_eq_false h1) <| P0))
theorem wi_likelihood : ∀ s r, loop Bi_likelihood s = some r → Wc X 52 0 (Ki_likelihood s) (Zi_likelihood s) (RI r) ((fun _ => []) r) := Nx.all ni_likelihood
theorem ci_likelihood {a0 : Gi_Climate} {a1 : (List Int)} {r : Int} (H : Di_likelihood a0 a1 = some r) : Ct X.P X.gl 52 [.agg [sl 1 (sl 1 I) a0.Weights], sl 1 I a1] [] (RI r) [] :=
  Ct.of func52 (c := bdy f52) (by kernel_rfl) (by kernel_rfl) <|
  gO [r0, r0, r0, .canon [0] [1, 2, 5, 6]] (by kernel_rfl) P0 (wi_likelihood _ _ H)
/-! loop example/g00886/impl MostLikely -/
def Ri_MostLikely (r : (List Int) × Bool) : List D := [ow 1 I r.1, .bool r.2]
noncomputable def Ki_MostLikely : Si_MostLikely → List Item
  | .h1 .. => nav 300 4 [false] [.code (bdy f8)]
  | .h2 .. => nav 300 7 [false, false] [.code (bdy f8)]
  | .h3 .. => nav 300 12 [false, false, true] [.code (bdy f8)]
def Zi_MostLikely : Si_MostLikely → St
  | .h1 t0 t1 t2 t3 t4 b5 => ⟨sts 67 [(1, I t0), (2, I t1), (3, .ptr 0 1 0 0), (8, I t2), (25, I t3), (26, I t4)], [some ⟨false, true, 1, 1, [.agg [sl 1 (sl 1 I) b5.Weights]]⟩]⟩
  | .h2 t0 t1 t2 t3 t4 b5 l6 => ⟨sts 67 [(1, I t0), (2, I t1), (3, .ptr 0 1 0 0), (9, .ref 1 1 none), (10, I t2), (32, I t3), (33, I t4)], [some ⟨false, true, 1, 1, [.agg [sl 1 (sl 1 I) b5.Weights]]⟩, some ⟨false, false, 1, l6.length, List.map I l6⟩]⟩
  | .h3 t0 t1 t2 t3 t4 t5 t6 b7 l8 l9 => ⟨sts 67 [(1, I t0), (2, I t1), (3, .ptr 0 1 0 0), (9, .ref 1 1 none), (10, I t2), (12, .ref 2 1 none), (13, I t3), (14, I t4), (32, I t5), (33, I t6)], [some ⟨false, true, 1, 1, [.agg [sl 1 (sl 1 I) b7.Weights]]⟩, some ⟨false, false, 1, l8.length, List.map I l8⟩, some ⟨false, false, 1, l9.length, List.map I l9⟩]⟩
abbrev Qi_MostLikely := Nx X 8 0 Ki_MostLikely Zi_MostLikely Ri_MostLikely (fun _ => [])
theorem ni_MostLikely : ∀ s o, Bi_MostLikely s = some o → Qi_MostLikely (Ki_MostLikely s) (Zi_MostLikely s) o
  | .h1 t0 t1 t2 t3 t4 b5, o, H =>
    eIf H (fun h1 H =>
      eN H fun r hn => gO [rg [hT 0], r0, r0, .canon [0] [1, 2, 3, 8, 25, 26]] (by kernel_rfl) (P2 ((decide (t4 < t3)) = true) (decide_eq_true h1) <| P0) hn)
    (fun h1 H =>
      eN H fun r hn => gO [rg [hF 0], r0, r0, .canon [0, 1] [1, 2, 3, 9, 10, 32, 33]] (by kernel_rfl) (P2 ((decide (t4 < t3)) = false) (decide_eq_false h1) <| P0) hn)
  | .h2 t0 t1 t2 t3 t4 b5 l6, o, H =>
    eIf H (fun h1 H =>
      eCk H fun h2 H =>
      eCk H fun h3 H =>
      eBind H fun x4 hx4 H =>
      eN H fun r hn => gO [rg [hT 0], r0, rg [hA 2 ((List.replicate (Int.toNat (IntKind.wrap .i64 (t1 + 1))) (0 : Int)).length) (List.map I (List.replicate (Int.toNat (IntKind.wrap .i64 (t1 + 1))) (0 : Int)))], rg [hA 3 ((List.set (List.replicate (Int.toNat (IntKind.wrap .i64 (t1 + 1))) (0 : Int)) (Int.toNat 0) t0).length) (List.map I (List.set (List.replicate (Int.toNat (IntKind.wrap .i64 (t1 + 1))) (0 : Int)) (Int.toNat 0) t0))], r0, .canon [0, 1, 2] [1, 2, 3, 9, 10, 12, 13, 14, 32, 33]] (by kernel_rfl) (P2 ((decide (t4 < t3)) = true) (decide_eq_true h1) <| PI (IntKind.wrap .i64 (t1 + 1) : Int) <| P2 ((0 : Int) ≤ (IntKind.wrap .i64 (t1 + 1))) h2 <| P2 (Int.toNat (IntKind.wrap .i64 (t1 + 1)) * 8 ≤ 140737488355328) h3 <| P1 (repLen (Int.toNat (IntKind.wrap .i64 (t1 + 1))) (0 : Int)) <| P1 (repMap I (Int.toNat (IntKind.wrap .i64 (t1 + 1))) (0 : Int)) <| P2 ((0 : Int) ≤ 0) (by decide) <| P1 (int_lt_of_at (by decide : (0 : Int) ≤ 0) hx4) <| P1 (lt_of_at hx4) <| P2 (setCells (List.map I (List.replicate (Int.toNat (IntKind.wrap .i64 (t1 + 1))) (0 : Int))) (Int.toNat 0) 0 [I t0] = List.map I (List.set (List.replicate (Int.toNat (IntKind.wrap .i64 (t1 + 1))) (0 : Int)) (Int.toNat 0) t0)) (setCells_map hx4 rfl) <| P1 (setLen (List.replicate (Int.toNat (IntKind.wrap .i64 (t1 + 1))) (0 : Int)) (Int.toNat 0) t0) <| P0) hn)
    (fun h1 H =>
      eBind H fun r2 hr2 H =>
      eN H <| gE func8 [rg [hF 0], rg [hC 1 false [] (Rslices_Clone_int r2) []]] (by kernel_rfl) (P2 ((decide (t4 < t3)) = false) (decide_eq_false h1) <| P2 (nfL (List.flatMap D.cells (Rslices_Clone_int r2))) ⟨nfL_map nf_3 _, trivial⟩ <| P2 (nfG []) trivial <| P1 (cslices_Clone_int hr2) <| P0))
  | .h3 t0 t1 t2 t3 t4 t5 t6 b7 l8 l9, o, H =>
    eIf H (fun h1 H =>
      eCk H fun h2 H =>
      eBind H fun x3 hx3 H =>
      eN H fun r hn => gO [rg [hT 1], rg [hA 5 ((List.set l9 (Int.toNat t4) (Int.tmod t3 3)).length) (List.map I (List.set l9 (Int.toNat t4) (Int.tmod t3 3)))], r0, r0, .canon [0, 1, 2] [1, 2, 3, 9, 10, 12, 13, 14, 32, 33]] (by kernel_rfl) (P2 ((decide (t4 ≥ 1)) = true) (decide_eq_true h1) <| P2 (¬ (3 : Int) = 0) (by decide) <| P1 h2 <| P1 (int_lt_of_at h2 hx3) <| P1 (lt_of_at hx3) <| P2 (setCells (List.map I l9) (Int.toNat t4) 0 [I (Int.tmod t3 3)] = List.map I (List.set l9 (Int.toNat t4) (Int.tmod t3 3))) (setCells_map hx3 rfl) <| P1 (setLen l9 (Int.toNat t4) (Int.tmod t3 3)) <| P2 (¬ (3 : Int) = 0) (by decide) <| P0) hn)
    (fun h1 H =>
      eBind H fun r2 hr2 H =>
      gN [rg [hF 1], rg [hC 2 false [] (RI r2) []]] (by kernel_rfl) (P2 ((decide (t4 ≥ 1)) = false) (decide_eq_false h1) <| P1 (ci_likelihood hr2) <| P0) <|
      eIf H (fun h3 H =>
        eCk H fun h4 H =>
        eN H fun r hn => gO [rg [hT 2], r0, r0, .view 9 (List.take (l9.length - (Int.toNat 1)) (List.drop (Int.toNat 1) l9)).length (List.map I (List.take (l9.length - (Int.toNat 1)) (List.drop (Int.toNat 1) l9))), .canon [0, 3] [1, 2, 3, 9, 10, 32, 33]] (by kernel_rfl) (P2 ((decide (r2 > t2)) = true) (decide_eq_true h3) <| P2 ((0 : Int) ≤ 1) (by decide) <| P2 ((1 : Int) ≤ ((l9.length : Nat) : Int)) h4 <| P2 ((l9.length - (Int.toNat 1)) = (List.take (l9.length - (Int.toNat 1)) (List.drop (Int.toNat 1) l9)).length) (by first | (simp <;> omega) | (simp only [List.length_take, List.length_drop, List.length_nil] <;> omega)) <| P2 (List.take (l9.length - (Int.toNat 1)) (List.drop (Int.toNat 1) (List.map I l9)) = List.map I (List.take (l9.length - (Int.toNat 1)) (List.drop (Int.toNat 1) l9))) (by rw [List.map_take, List.map_drop]) <| P0) hn)
      (fun h3 H =>
        eN H fun r hn => gO [rg [hF 2], r0, .canon [0, 1] [1, 2, 3, 9, 10, 32, 33]] (by kernel_rfl) (P2 ((decide (r2 > t2)) = false) (decide_eq_false h3) <| P0) hn))
theorem wi_MostLikely : ∀ s r, loop Bi_MostLikely s = some r → Wc X 8 0 (Ki_MostLikely s) (Zi_MostLikely s) (Ri_MostLikely r) ((fun _ => []) r) := Nx.all ni_MostLikely
theorem ci_MostLikely {a0 : Gi_Climate} {a1 : Int} {a2 : Int} {r : (List Int) × Bool} (H : Di_MostLikely a0 a1 a2 = some r) : Ct X.P X.gl 8 [.agg [sl 1 (sl 1 I) a0.Weights], I a1, I a2] [] (Ri_MostLikely r) [] :=
  Ct.of func8 (c := bdy f8) (by kernel_rfl) (by kernel_rfl) <|
  eBind H fun r1 hr1 H =>
  gS [r0] (by kernel_rfl) P0 <|
  eIf H (fun h2 H =>
    eBind H fun r3 hr3 H =>
    eIf H (fun h4 H =>
      gO [rg [{ i := 2, call := some { cl := true, auto := true, ins := [], res := (RB r1), G' := [] }, dec := some true }, { i := 6, call := some { cl := true, auto := true, ins := [], res := (RB r3), G' := [] }, dec := some true }], r0, r0, .canon [0] [1, 2, 3, 8, 25, 26]] (by kernel_rfl) (P1 (ci_isWeatherOf hr1) <| P2 (r1 = true) (h2) <| P1 (ci_inRange hr3) <| P2 (r3 = true) (h4) <| P0) (wi_MostLikely _ _ H))
    (fun h4 H =>
      eW Ri_MostLikely (fun _ => []) H <| gE func8 [rg [{ i := 2, call := some { cl := true, auto := true, ins := [], res := (RB r1), G' := [] }, dec := some true }, { i := 6, call := some { cl := true, auto := true, ins := [], res := (RB r3), G' := [] }, dec := some false }], r0] (by kernel_rfl) (P1 (ci_isWeatherOf hr1) <| P2 (r1 = true) (h2) <| P1 (ci_inRange hr3) <| P2 (r3 = false) (eqF h4) <| P0)))
  (fun h2 H =>
    eW Ri_MostLikely (fun _ => []) H <| gE func8 [rg [{ i := 2, call := some { cl := true, auto := true, ins := [], res := (RB r1), G' := [] }, dec := some false }], r0] (by kernel_rfl) (P1 (ci_isWeatherOf hr1) <| P2 (r1 = false) (eqF h2) <| P0))
/-! loop example/g00886/spec l1In -/
theorem cs_l1In {a0 : Int} {a1 : Int} {a2 : Int} {r : Bool} (H : Ds_l1In a0 a1 a2 = some r) : Ct X.P X.gl 55 [I a0, I a1, I a2] [] (RB r) [] :=
  Ct.of func55 (c := bdy f55) (by kernel_rfl) (by kernel_rfl) <|
  gS [r0] (by kernel_rfl) P0 <|
  eIf H (fun h1 H =>
    eW RB (fun _ => []) H <| gE func55 [rg [hT 2]] (by kernel_rfl) (P2 ((decide (a0 ≥ a1)) = true) (decide_eq_true h1) <| P0))
  (fun h1 H =>
    eW RB (fun _ => []) H <| gE func55 [rg [hF 2]] (by kernel_rfl) (P2 ((decide (a0 ≥ a1)) = false) (decide_eq_false h1) <| P0))
/-! loop example/g00886/spec l1All -/
noncomputable def Ks_l1All : Ss_l1All → List Item
  | .h1 .. => nav 300 2 [] [.code (bdy f65)]
def Zs_l1All : Ss_l1All → St
  | .h1 lo0 vhi1 t2 t3 t4 => ⟨sts 21 [(1, I lo0), (2, I vhi1), (9, sl 1 I t2), (10, I t3), (11, I t4)], []⟩
abbrev Qs_l1All := Nx X 65 0 Ks_l1All Zs_l1All RB (fun _ => [])
theorem ns_l1All : ∀ s o, Bs_l1All s = some o → Qs_l1All (Ks_l1All s) (Zs_l1All s) o
  | .h1 lo0 vhi1 t2 t3 t4, o, H =>
    eIf H (fun h1 H =>
      eCk H fun h2 H =>
      eBind H fun x3 hx3 H =>
      eBind H fun r4 hr4 H =>
      gN [rg [hT 0], rg [hE 1 (I x3)]] (by kernel_rfl) (P2 ((decide (t4 < t3)) = true) (decide_eq_true h1) <| P1 h2 <| P1 (int_lt_of_at h2 hx3) <| P1 (at_map I hx3) <| P0) <|
      eIf H (fun h5 H =>
        eN H fun r hn => gO [rg [{ i := 3, call := some { cl := true, auto := true, ins := [], res := (RB r4), G' := [] }, dec := some true }], r0, .canon [] [1, 2, 9, 10, 11]] (by kernel_rfl) (P1 (cs_l1In hr4) <| P2 (r4 = true) (h5) <| P0) hn)
      (fun h5 H =>
        eN H <| gE func65 [rg [{ i := 3, call := some { cl := true, auto := true, ins := [], res := (RB r4), G' := [] }, dec := some false }], r0] (by kernel_rfl) (P1 (cs_l1In hr4) <| P2 (r4 = false) (eqF h5) <| P0)))
    (fun h1 H =>
      eN H <| gE func65 [rg [hF 0], r0] (by kernel_rfl) (P2 ((decide (t4 < t3)) = false) (decide_eq_false h1) <| P0))
theorem ws_l1All : ∀ s r, loop Bs_l1All s = some r → Wc X 65 0 (Ks_l1All s) (Zs_l1All s) (RB r) ((fun _ => []) r) := Nx.all ns_l1All
theorem cs_l1All {a0 : (List Int)} {a1 : Int} {a2 : Int} {r : Bool} (H : Ds_l1All a0 a1 a2 = some r) : Ct X.P X.gl 65 [sl 1 I a0, I a1, I a2] [] (RB r) [] :=
  Ct.of func65 (c := bdy f65) (by kernel_rfl) (by kernel_rfl) <|
  gO [r0, r0, .canon [] [1, 2, 9, 10, 11]] (by kernel_rfl) P0 (ws_l1All _ _ H)
/-! loop example/g00886/spec wGood -/
noncomputable def Ks_wGood : Ss_wGood → List Item
  | .h1 .. => nav 300 3 [false] [.code (bdy f64)]
def Zs_wGood : Ss_wGood → St
  | .h1 t0 t1 t2 => ⟨sts 39 [(10, sl 1 (sl 1 I) t0), (11, I t1), (12, I t2)], []⟩
abbrev Qs_wGood := Nx X 64 0 Ks_wGood Zs_wGood RB (fun _ => [])
theorem ns_wGood : ∀ s o, Bs_wGood s = some o → Qs_wGood (Ks_wGood s) (Zs_wGood s) o
  | .h1 t0 t1 t2, o, H =>
    eIf H (fun h1 H =>
      eCk H fun h2 H =>
      eBind H fun x3 hx3 H =>
      gN [rg [hT 0], rg [hE 1 ((sl 1 I) x3)]] (by kernel_rfl) (P2 ((decide (t2 < t1)) = true) (decide_eq_true h1) <| P1 h2 <| P1 (int_lt_of_at h2 hx3) <| P1 (at_map (sl 1 I) hx3) <| P0) <|
      eIf H (fun h4 H =>
        eBind H fun r5 hr5 H =>
        eIf H (fun h6 H =>
          eBind H fun x7 hx7 H =>
          eBind H fun x8 hx8 H =>
          eBind H fun x9 hx9 H =>
          eIf H (fun h10 H =>
            eN H fun r hn => gO [rg [hF 2, { i := 5, call := some { cl := true, auto := true, ins := [], res := (RB r5), G' := [] }, dec := some true }, hE 11 (I x7), hE 14 (I x8), hE 18 (I x9), hF 20], r0, .canon [] [10, 11, 12]] (by kernel_rfl) (P2 (((((x3.length : Nat) : Int) : Int) != 3) = false) (bneF h4) <| P1 (cs_l1All hr5) <| P2 (r5 = true) (h6) <| P2 ((0 : Int) ≤ 0) (by decide) <| P1 (int_lt_of_at (by decide : (0 : Int) ≤ 0) hx7) <| P1 (at_map I hx7) <| P2 ((0 : Int) ≤ 1) (by decide) <| P1 (int_lt_of_at (by decide : (0 : Int) ≤ 1) hx8) <| P1 (at_map I hx8) <| P2 ((0 : Int) ≤ 2) (by decide) <| P1 (int_lt_of_at (by decide : (0 : Int) ≤ 2) hx9) <| P1 (at_map I hx9) <| P2 ((((IntKind.wrap .i64 ((IntKind.wrap .i64 (x7 + x8)) + x9)) : Int) != 36) = false) (bneF h10) <| P0) hn)
          (fun h10 H =>
            eN H <| gE func64 [rg [hF 2, { i := 5, call := some { cl := true, auto := true, ins := [], res := (RB r5), G' := [] }, dec := some true }, hE 11 (I x7), hE 14 (I x8), hE 18 (I x9), hT 20], r0] (by kernel_rfl) (P2 (((((x3.length : Nat) : Int) : Int) != 3) = false) (bneF h4) <| P1 (cs_l1All hr5) <| P2 (r5 = true) (h6) <| P2 ((0 : Int) ≤ 0) (by decide) <| P1 (int_lt_of_at (by decide : (0 : Int) ≤ 0) hx7) <| P1 (at_map I hx7) <| P2 ((0 : Int) ≤ 1) (by decide) <| P1 (int_lt_of_at (by decide : (0 : Int) ≤ 1) hx8) <| P1 (at_map I hx8) <| P2 ((0 : Int) ≤ 2) (by decide) <| P1 (int_lt_of_at (by decide : (0 : Int) ≤ 2) hx9) <| P1 (at_map I hx9) <| P2 ((((IntKind.wrap .i64 ((IntKind.wrap .i64 (x7 + x8)) + x9)) : Int) != 36) = true) (bneT h10) <| P0)))
        (fun h6 H =>
          eN H <| gE func64 [rg [hF 2, { i := 5, call := some { cl := true, auto := true, ins := [], res := (RB r5), G' := [] }, dec := some false }], r0] (by kernel_rfl) (P2 (((((x3.length : Nat) : Int) : Int) != 3) = false) (bneF h4) <| P1 (cs_l1All hr5) <| P2 (r5 = false) (eqF h6) <| P0)))
      (fun h4 H =>
        eN H <| gE func64 [rg [hT 2], r0] (by kernel_rfl) (P2 (((((x3.length : Nat) : Int) : Int) != 3) = true) (bneT h4) <| P0)))
    (fun h1 H =>
      eN H <| gE func64 [rg [hF 0], r0] (by kernel_rfl) (P2 ((decide (t2 < t1)) = false) (decide_eq_false h1) <| P0))
theorem ws_wGood : ∀ s r, loop Bs_wGood s = some r → Wc X 64 0 (Ks_wGood s) (Zs_wGood s) (RB r) ((fun _ => []) r) := Nx.all ns_wGood
theorem cs_wGood {a0 : Gi_Climate} {r : Bool} (H : Ds_wGood a0 = some r) : Ct X.P X.gl 64 [.agg [sl 1 (sl 1 I) a0.Weights]] [] (RB r) [] :=
  Ct.of func64 (c := bdy f64) (by kernel_rfl) (by kernel_rfl) <|
  gS [r0] (by kernel_rfl) P0 <|
  eIf H (fun h1 H =>
    gO [rg [hF 3], r0, .canon [] [10, 11, 12]] (by kernel_rfl) (P2 (((((a0.Weights.length : Nat) : Int) : Int) != 3) = false) (bneF h1) <| P0) (ws_wGood _ _ H))
  (fun h1 H =>
    eW RB (fun _ => []) H <| gE func64 [rg [hT 3], r0] (by kernel_rfl) (P2 (((((a0.Weights.length : Nat) : Int) : Int) != 3) = true) (bneT h1) <| P0))
/-! loop example/g00886/spec wAsked -/
theorem cs_wAsked {a0 : Gi_Climate} {a1 : Int} {r : Bool} (H : Ds_wAsked a0 a1 = some r) : Ct X.P X.gl 54 [.agg [sl 1 (sl 1 I) a0.Weights], I a1] [] (RB r) [] :=
  Ct.of func54 (c := bdy f54) (by kernel_rfl) (by kernel_rfl) <|
  eBind H fun r1 hr1 H =>
  gS [r0] (by kernel_rfl) P0 <|
  eIf H (fun h2 H =>
    eBind H fun r3 hr3 H =>
    eW RB (fun _ => []) H <| gE func54 [rg [{ i := 1, call := some { cl := true, auto := true, ins := [], res := (RB r1), G' := [] }, dec := some true }, hC 4 true [] (RB r3) []]] (by kernel_rfl) (P1 (cs_wGood hr1) <| P2 (r1 = true) (h2) <| P1 (cs_l1In hr3) <| P0))
  (fun h2 H =>
    eW RB (fun _ => []) H <| gE func54 [rg [{ i := 1, call := some { cl := true, auto := true, ins := [], res := (RB r1), G' := [] }, dec := some false }]] (by kernel_rfl) (P1 (cs_wGood hr1) <| P2 (r1 = false) (eqF h2) <| P0))
/-! loop example/g00886/spec wLikelihood -/
noncomputable def Ks_wLikelihood : Ss_wLikelihood → List Item
  | .h1 .. => nav 300 3 [] [.code (bdy f56)]
def Zs_wLikelihood : Ss_wLikelihood → St
  | .h1 list0 p1 i2 b3 => ⟨sts 31 [(1, sl 1 I list0), (2, .ptr 0 1 0 0), (5, I p1), (6, I i2)], [some ⟨false, true, 1, 1, [.agg [sl 1 (sl 1 I) b3.Weights]]⟩]⟩
abbrev Qs_wLikelihood := Nx X 56 0 Ks_wLikelihood Zs_wLikelihood RI (fun _ => [])
theorem ns_wLikelihood : ∀ s o, Bs_wLikelihood s = some o → Qs_wLikelihood (Ks_wLikelihood s) (Zs_wLikelihood s) o
  | .h1 list0 p1 i2 b3, o, H =>
    eIf H (fun h1 H =>
      eCk H fun h2 H =>
      eBind H fun x3 hx3 H =>
      eCk H fun h4 H =>
      eBind H fun x5 hx5 H =>
      eCk H fun h6 H =>
      eBind H fun x7 hx7 H =>
      eCk H fun h8 H =>
      eBind H fun x9 hx9 H =>
      eN H fun r hn => gO [rg [hT 3], rg [hE 7 (I x3), hE 9 ((sl 1 I) x5), hE 13 (I x7), hE 15 (I x9)], r0, .canon [0] [1, 2, 5, 6]] (by kernel_rfl) (P2 ((decide (i2 < ((list0.length : Nat) : Int))) = true) (decide_eq_true h1) <| P1 h2 <| P1 (int_lt_of_at h2 hx3) <| P1 (at_map I hx3) <| P1 h4 <| P1 (int_lt_of_at h4 hx5) <| P1 (at_map (sl 1 I) hx5) <| P1 h6 <| P1 (int_lt_of_at h6 hx7) <| P1 (at_map I hx7) <| P1 h8 <| P1 (int_lt_of_at h8 hx9) <| P1 (at_map I hx9) <| P0) hn)
    (fun h1 H =>
      eN H <| gE func56 [rg [hF 3], r0] (by kernel_rfl) (P2 ((decide (i2 < ((list0.length : Nat) : Int))) = false) (decide_eq_false h1) <| P0))
theorem ws_wLikelihood : ∀ s r, loop Bs_wLikelihood s = some r → Wc X 56 0 (Ks_wLikelihood s) (Zs_wLikelihood s) (RI r) ((fun _ => []) r) := Nx.all ns_wLikelihood
theorem cs_wLikelihood {a0 : Gi_Climate} {a1 : (List Int)} {r : Int} (H : Ds_wLikelihood a0 a1 = some r) : Ct X.P X.gl 56 [.agg [sl 1 (sl 1 I) a0.Weights], sl 1 I a1] [] (RI r) [] :=
  Ct.of func56 (c := bdy f56) (by kernel_rfl) (by kernel_rfl) <|
  gO [r0, r0, r0, .canon [0] [1, 2, 5, 6]] (by kernel_rfl) P0 (ws_wLikelihood _ _ H)
/-! loop example/g00886/spec MostLikely -/
def Rs_MostLikely (r : (List Int) × Bool) : List D := [ow 1 I r.1, .bool r.2]
noncomputable def Ks_MostLikely : Ss_MostLikely → List Item
  | .h1 .. => nav 300 4 [false] [.code (bdy f9)]
  | .h2 .. => nav 300 8 [false, false] [.code (bdy f9)]
  | .h3 .. => nav 300 12 [false, false, true] [.code (bdy f9)]
def Zs_MostLikely : Ss_MostLikely → St
  | .h1 t0 t1 t2 t3 b4 => ⟨sts 66 [(1, I t0), (2, I t1), (3, .ptr 0 1 0 0), (8, I t2), (9, I t3)], [some ⟨false, true, 1, 1, [.agg [sl 1 (sl 1 I) b4.Weights]]⟩]⟩
  | .h2 t0 t1 t2 t3 t4 b5 l6 => ⟨sts 66 [(1, I t0), (2, I t1), (3, .ptr 0 1 0 0), (8, I t2), (10, .ref 1 1 none), (11, I t3), (12, I t4)], [some ⟨false, true, 1, 1, [.agg [sl 1 (sl 1 I) b5.Weights]]⟩, some ⟨false, false, 1, l6.length, List.map I l6⟩]⟩
  | .h3 t0 t1 t2 t3 t4 t5 t6 b7 l8 l9 => ⟨sts 66 [(1, I t0), (2, I t1), (3, .ptr 0 1 0 0), (8, I t2), (10, .ref 1 1 none), (11, I t3), (12, I t4), (13, .ref 2 1 none), (14, I t5), (15, I t6)], [some ⟨false, true, 1, 1, [.agg [sl 1 (sl 1 I) b7.Weights]]⟩, some ⟨false, false, 1, l8.length, List.map I l8⟩, some ⟨false, false, 1, l9.length, List.map I l9⟩]⟩
abbrev Qs_MostLikely := Nx X 9 0 Ks_MostLikely Zs_MostLikely Rs_MostLikely (fun _ => [])
theorem ns_MostLikely : ∀ s o, Bs_MostLikely s = some o → Qs_MostLikely (Ks_MostLikely s) (Zs_MostLikely s) o
  | .h1 t0 t1 t2 t3 b4, o, H =>
    eIf H (fun h1 H =>
      eN H fun r hn => gO [rg [hT 2], r0, r0, .canon [0] [1, 2, 3, 8, 9]] (by kernel_rfl) (P2 ((decide (t3 < t1)) = true) (decide_eq_true h1) <| P0) hn)
    (fun h1 H =>
      eN H fun r hn => gO [rg [hF 2], r0, r0, r0, .own 10 1, .canon [0, 1] [1, 2, 3, 8, 10, 11, 12]] (by kernel_rfl) (P2 ((decide (t3 < t1)) = false) (decide_eq_false h1) <| P0) hn)
  | .h2 t0 t1 t2 t3 t4 b5 l6, o, H =>
    eIf H (fun h1 H =>
      eCk H fun h2 H =>
      eCk H fun h3 H =>
      eN H fun r hn => gO [rg [hT 2], rg [hA 1 ((List.replicate (Int.toNat t1) (0 : Int)).length) (List.map I (List.replicate (Int.toNat t1) (0 : Int)))], r0, r0, .canon [0, 1, 2] [1, 2, 3, 8, 10, 11, 12, 13, 14, 15]] (by kernel_rfl) (P2 ((decide (t4 < t2)) = true) (decide_eq_true h1) <| PI (t1 : Int) <| P2 ((0 : Int) ≤ t1) h2 <| P2 (Int.toNat t1 * 8 ≤ 140737488355328) h3 <| P1 (repLen (Int.toNat t1) (0 : Int)) <| P1 (repMap I (Int.toNat t1) (0 : Int)) <| P0) hn)
    (fun h1 H =>
      eN H <| gE func9 [rg [hF 2], r0] (by kernel_rfl) (P2 ((decide (t4 < t2)) = false) (decide_eq_false h1) <| P0))
  | .h3 t0 t1 t2 t3 t4 t5 t6 b7 l8 l9, o, H =>
    eIf H (fun h1 H =>
      eCk H fun h2 H =>
      eBind H fun x3 hx3 H =>
      eN H fun r hn => gO [rg [hT 1], rg [hA 5 ((List.set l9 (Int.toNat t6) (Int.tmod t5 3)).length) (List.map I (List.set l9 (Int.toNat t6) (Int.tmod t5 3)))], r0, r0, .canon [0, 1, 2] [1, 2, 3, 8, 10, 11, 12, 13, 14, 15]] (by kernel_rfl) (P2 ((decide (t6 ≥ 0)) = true) (decide_eq_true h1) <| P2 (¬ (3 : Int) = 0) (by decide) <| P1 h2 <| P1 (int_lt_of_at h2 hx3) <| P1 (lt_of_at hx3) <| P2 (setCells (List.map I l9) (Int.toNat t6) 0 [I (Int.tmod t5 3)] = List.map I (List.set l9 (Int.toNat t6) (Int.tmod t5 3))) (setCells_map hx3 rfl) <| P1 (setLen l9 (Int.toNat t6) (Int.tmod t5 3)) <| P2 (¬ (3 : Int) = 0) (by decide) <| P0) hn)
    (fun h1 H =>
      eCk H fun h2 H =>
      eBind H fun r3 hr3 H =>
      gN [rg [hF 1], rg [{ i := 4, keep := true, n := ([t0] ++ l9).length, xs := List.map I ([t0] ++ l9) }, hC 5 false [] (RI r3) []]] (by kernel_rfl) (P2 ((decide (t6 ≥ 0)) = false) (decide_eq_false h1) <| P2 (AllFl (List.map I l9)) (allFl_3 _) <| P1 (apL [t0] l9) <| P1 (apB h2) <| P1 (apM I [t0] l9) <| P1 (cs_wLikelihood hr3) <| P0) <|
      eIf H (fun h4 H =>
        eN H fun r hn => gO [rg [hT 2], r0, r0, r0, .canon [0, 2] [1, 2, 3, 8, 10, 11, 12]] (by kernel_rfl) (P2 ((decide (r3 > t3)) = true) (decide_eq_true h4) <| P0) hn)
      (fun h4 H =>
        eN H fun r hn => gO [rg [hF 2], r0, .canon [0, 1] [1, 2, 3, 8, 10, 11, 12]] (by kernel_rfl) (P2 ((decide (r3 > t3)) = false) (decide_eq_false h4) <| P0) hn))
theorem ws_MostLikely : ∀ s r, loop Bs_MostLikely s = some r → Wc X 9 0 (Ks_MostLikely s) (Zs_MostLikely s) (Rs_MostLikely r) ((fun _ => []) r) := Nx.all ns_MostLikely
theorem cs_MostLikely {a0 : Gi_Climate} {a1 : Int} {a2 : Int} {r : (List Int) × Bool} (H : Ds_MostLikely a0 a1 a2 = some r) : Ct X.P X.gl 9 [.agg [sl 1 (sl 1 I) a0.Weights], I a1, I a2] [] (Rs_MostLikely r) [] :=
  Ct.of func9 (c := bdy f9) (by kernel_rfl) (by kernel_rfl) <|
  eBind H fun r1 hr1 H =>
  gS [r0] (by kernel_rfl) P0 <|
  eIf H (fun h2 H =>
    eBind H fun r3 hr3 H =>
    eIf H (fun h4 H =>
      gO [rg [{ i := 2, call := some { cl := true, auto := true, ins := [], res := (RB r1), G' := [] }, dec := some true }, { i := 6, call := some { cl := true, auto := true, ins := [], res := (RB r3), G' := [] }, dec := some true }], r0, r0, .canon [0] [1, 2, 3, 8, 9]] (by kernel_rfl) (P1 (cs_wAsked hr1) <| P2 (r1 = true) (h2) <| P1 (cs_l1In hr3) <| P2 (r3 = true) (h4) <| P0) (ws_MostLikely _ _ H))
    (fun h4 H =>
      eW Rs_MostLikely (fun _ => []) H <| gE func9 [rg [{ i := 2, call := some { cl := true, auto := true, ins := [], res := (RB r1), G' := [] }, dec := some true }, { i := 6, call := some { cl := true, auto := true, ins := [], res := (RB r3), G' := [] }, dec := some false }], r0] (by kernel_rfl) (P1 (cs_wAsked hr1) <| P2 (r1 = true) (h2) <| P1 (cs_l1In hr3) <| P2 (r3 = false) (eqF h4) <| P0)))
  (fun h2 H =>
    eW Rs_MostLikely (fun _ => []) H <| gE func9 [rg [{ i := 2, call := some { cl := true, auto := true, ins := [], res := (RB r1), G' := [] }, dec := some false }], r0] (by kernel_rfl) (P1 (cs_wAsked hr1) <| P2 (r1 = false) (eqF h2) <| P0))
/-! loop example/g00886/laws sameInts -/
noncomputable def Kw_sameInts : Sw_sameInts → List Item
  | .h1 .. => nav 300 3 [false] [.code (bdy f10)]
def Zw_sameInts : Sw_sameInts → St
  | .h1 va0 b1 t2 t3 => ⟨sts 26 [(0, sl 1 I va0), (1, sl 1 I b1), (12, I t2), (13, I t3)], []⟩
abbrev Qw_sameInts := Nx X 10 0 Kw_sameInts Zw_sameInts RB (fun _ => [])
theorem nw_sameInts : ∀ s o, Bw_sameInts s = some o → Qw_sameInts (Kw_sameInts s) (Zw_sameInts s) o
  | .h1 va0 b1 t2 t3, o, H =>
    eIf H (fun h1 H =>
      eCk H fun h2 H =>
      eBind H fun x3 hx3 H =>
      eCk H fun h4 H =>
      eBind H fun x5 hx5 H =>
      gN [rg [hT 0], r0] (by kernel_rfl) (P2 ((decide (t3 < t2)) = true) (decide_eq_true h1) <| P0) <|
      eIf H (fun h6 H =>
        eN H fun r hn => gO [rg [hE 3 (I x3), hE 7 (I x5), hF 8], r0, .canon [] [0, 1, 12, 13]] (by kernel_rfl) (P1 h2 <| P1 (int_lt_of_at h2 hx3) <| P1 (at_map I hx3) <| P1 h4 <| P1 (int_lt_of_at h4 hx5) <| P1 (at_map I hx5) <| P2 (((x3 : Int) != x5) = false) (bneF h6) <| P0) hn)
      (fun h6 H =>
        eN H <| gE func10 [rg [hE 3 (I x3), hE 7 (I x5), hT 8], r0] (by kernel_rfl) (P1 h2 <| P1 (int_lt_of_at h2 hx3) <| P1 (at_map I hx3) <| P1 h4 <| P1 (int_lt_of_at h4 hx5) <| P1 (at_map I hx5) <| P2 (((x3 : Int) != x5) = true) (bneT h6) <| P0)))
    (fun h1 H =>
      eN H <| gE func10 [rg [hF 0], r0] (by kernel_rfl) (P2 ((decide (t3 < t2)) = false) (decide_eq_false h1) <| P0))
theorem ww_sameInts : ∀ s r, loop Bw_sameInts s = some r → Wc X 10 0 (Kw_sameInts s) (Zw_sameInts s) (RB r) ((fun _ => []) r) := Nx.all nw_sameInts
theorem cw_sameInts {a0 : (List Int)} {a1 : (List Int)} {r : Bool} (H : Dw_sameInts a0 a1 = some r) : Ct X.P X.gl 10 [sl 1 I a0, sl 1 I a1] [] (RB r) [] :=
  Ct.of func10 (c := bdy f10) (by kernel_rfl) (by kernel_rfl) <|
  gS [r0] (by kernel_rfl) P0 <|
  eIf H (fun h1 H =>
    gO [rg [hF 4], r0, .canon [] [0, 1, 12, 13]] (by kernel_rfl) (P2 (((((a0.length : Nat) : Int) : Int) != ((a1.length : Nat) : Int)) = false) (bneF h1) <| P0) (ww_sameInts _ _ H))
  (fun h1 H =>
    eW RB (fun _ => []) H <| gE func10 [rg [hT 4], r0] (by kernel_rfl) (P2 (((((a0.length : Nat) : Int) : Int) != ((a1.length : Nat) : Int)) = true) (bneT h1) <| P0))
/-!   loop example/g00886/spec l1Cur  one -/
def Rs_l1Cur_one (r : Bool × Gs_l1Cur) : List D := [.bool r.1]
def Ns_l1Cur_one (r : Bool × Gs_l1Cur) : List Root := [⟨false, true, 3, 1, [.agg [sl 1 (D.int .u8) r.2.code, I r.2.at_, .int .u64 r.2.seed]]⟩]
theorem cs_l1Cur_one {a0 : Gs_l1Cur} {a1 : Int} {r : Bool × Gs_l1Cur} (H : Ds_l1Cur_one a0 a1 = some r) : Ct X.P X.gl 59 [.ptr 0 3 0 0, I a1] [⟨false, true, 3, 1, [.agg [sl 1 (D.int .u8) a0.code, I a0.at_, .int .u64 a0.seed]]⟩] (Rs_l1Cur_one r) (Ns_l1Cur_one r) :=
  Ct.of func59 (c := bdy f59) (by kernel_rfl) (by kernel_rfl) <|
  eBind H fun r1 hr1 H =>
  eW Rs_l1Cur_one Ns_l1Cur_one H <| gE func59 [r0, rg [hC 2 true [0] (Rs_l1Cur_pick r1) (Ns_l1Cur_pick r1)]] (by kernel_rfl) (PI (1 : Nat) <| P1 (cs_l1Cur_pick hr1) <| P0)
/-! loop example/g00886/spec DrawLikelihoodOf -/
def Rs_DrawLikelihoodOf (r : Gi_Climate × (List Int)) : List D := [.agg [ow 1 (ow 1 I) r.1.Weights], ow 1 I r.2]
noncomputable def Ks_DrawLikelihoodOf : Ss_DrawLikelihoodOf → List Item
  | .h1 .. => nav 300 5 [] [.code (bdy f11)]
def Zs_DrawLikelihoodOf : Ss_DrawLikelihoodOf → St
  | .h1 k0 b1 l2 l3 => ⟨sts 31 [(2, .ptr 0 1 0 0), (4, .ptr 1 3 0 0), (5, .ptr 2 1 0 0), (6, .ref 3 1 none), (7, I k0)], [some ⟨false, true, 1, 1, [.agg [.nil]]⟩, some ⟨false, true, 3, 1, [.agg [sl 1 (D.int .u8) b1.code, I b1.at_, .int .u64 b1.seed]]⟩, some ⟨false, true, 1, 1, [.agg [.ref 4 1 none]]⟩, some ⟨false, false, 1, l2.length, List.map I l2⟩, some ⟨false, false, 1, l3.length, List.map (ow 1 I) l3⟩]⟩
abbrev Qs_DrawLikelihoodOf := Nx X 11 0 Ks_DrawLikelihoodOf Zs_DrawLikelihoodOf Rs_DrawLikelihoodOf (fun _ => [])
theorem ns_DrawLikelihoodOf : ∀ s o, Bs_DrawLikelihoodOf s = some o → Qs_DrawLikelihoodOf (Ks_DrawLikelihoodOf s) (Zs_DrawLikelihoodOf s) o
  | .h1 k0 b1 l2 l3, o, H =>
    eIf H (fun h1 H =>
      eBind H fun r2 hr2 H =>
      eCk H fun h3 H =>
      eN H fun r hn => gO [rg [hT 1], rg [hC 2 true [1] (Rs_l1Cur_pick r2) (Ns_l1Cur_pick r2), hA 4 ((l2 ++ [r2.1]).length) (List.map I (l2 ++ [r2.1]))], r0, .canon [0, 1, 2, 6, 4] [2, 4, 5, 6, 7]] (by kernel_rfl) (P2 ((decide (k0 > 0)) = true) (decide_eq_true h1) <| PI (1 : Nat) <| P1 (cs_l1Cur_pick hr2) <| P1 (apL l2 [r2.1]) <| P1 (apB h3) <| P1 (apM I l2 [r2.1]) <| P0) hn)
    (fun h1 H =>
      eBind H fun r2 hr2 H =>
      gN [rg [hF 1]] (by kernel_rfl) (P2 ((decide (k0 > 0)) = false) (decide_eq_false h1) <| P0) <|
      eIf H (fun h3 H =>
        eCk H fun h4 H =>
        eN H <| gE func11 [rg [{ i := 1, call := some { cl := true, auto := true, ins := [1], res := (Rs_l1Cur_one r2), G' := (Ns_l1Cur_one r2) }, dec := some true }], rg [hA 2 ((l2 ++ [3]).length) (List.map I (l2 ++ [3]))], r0] (by kernel_rfl) (PI (1 : Nat) <| P1 (cs_l1Cur_one hr2) <| P2 (r2.1 = true) (h3) <| P1 (apL l2 [3]) <| P1 (apB h4) <| P1 (apM I l2 [3]) <| P0))
      (fun h3 H =>
        eN H <| gE func11 [rg [{ i := 1, call := some { cl := true, auto := true, ins := [1], res := (Rs_l1Cur_one r2), G' := (Ns_l1Cur_one r2) }, dec := some false }], r0] (by kernel_rfl) (PI (1 : Nat) <| P1 (cs_l1Cur_one hr2) <| P2 (r2.1 = false) (eqF h3) <| P0)))
theorem ws_DrawLikelihoodOf : ∀ s r, loop Bs_DrawLikelihoodOf s = some r → Wc X 11 0 (Ks_DrawLikelihoodOf s) (Zs_DrawLikelihoodOf s) (Rs_DrawLikelihoodOf r) ((fun _ => []) r) := Nx.all ns_DrawLikelihoodOf
theorem cs_DrawLikelihoodOf {a0 : (List Int)} {r : Gi_Climate × (List Int)} (H : Ds_DrawLikelihoodOf a0 = some r) : Ct X.P X.gl 11 [sl 1 (D.int .u8) a0] [] (Rs_DrawLikelihoodOf r) [] :=
  Ct.of func11 (c := bdy f11) (by kernel_rfl) (by kernel_rfl) <|
  eBind H fun r1 hr1 H =>
  eBind H fun r2 hr2 H =>
  gO [r0, r0, rg [hC 1 true [1] (Rs_l1Cur_anyClimate r1) (Ns_l1Cur_anyClimate r1)], r0, rg [hC 1 true [1] (Rs_l1Cur_pick r2) (Ns_l1Cur_pick r2)], .own 6 1, .canon [0, 1, 3, 4, 2] [2, 4, 5, 6, 7]] (by kernel_rfl) (PI (1 : Nat) <| P1 (cs_l1Cur_anyClimate hr1) <| PI (1 : Nat) <| P1 (cs_l1Cur_pick hr2) <| P0) (ws_DrawLikelihoodOf _ _ H)
/-! loop example/g00886/impl LikelihoodOf 1 -/
theorem ci_LikelihoodOf_1 {a0 : Int} {r : Bool} (H : Di_LikelihoodOf_1 a0 = some r) : Ct X.P X.gl 62 [I a0] [] (RB r) [] :=
  Ct.of func62 (c := bdy f62) (by kernel_rfl) (by kernel_rfl) <|
  eBind H fun r1 hr1 H =>
  eW RB (fun _ => []) H <| gE func62 [r0, rg [hC 1 true [] (RB r1) []]] (by kernel_rfl) (P1 (ci_isWeather hr1) <| P0)
/-! slices IndexFunc   int int  -/
noncomputable def Kslices_IndexFunc_int_i_LikelihoodOf_1 : Sslices_IndexFunc_int_i_LikelihoodOf_1 → List Item
  | .h1 .. => nav 300 2 [] [.code (bdy f108)]
def Zslices_IndexFunc_int_i_LikelihoodOf_1 : Sslices_IndexFunc_int_i_LikelihoodOf_1 → St
  | .h1 s0 t1 t2 => ⟨sts 19 [(0, sl 1 I s0), (1, .fn 62 []), (7, I t1), (8, I t2)], []⟩
abbrev Qslices_IndexFunc_int_i_LikelihoodOf_1 := Nx X 108 0 Kslices_IndexFunc_int_i_LikelihoodOf_1 Zslices_IndexFunc_int_i_LikelihoodOf_1 RI (fun _ => [])
theorem nslices_IndexFunc_int_i_LikelihoodOf_1 : ∀ s o, Bslices_IndexFunc_int_i_LikelihoodOf_1 s = some o → Qslices_IndexFunc_int_i_LikelihoodOf_1 (Kslices_IndexFunc_int_i_LikelihoodOf_1 s) (Zslices_IndexFunc_int_i_LikelihoodOf_1 s) o
  | .h1 s0 t1 t2, o, H =>
    eIf H (fun h1 H =>
      eCk H fun h2 H =>
      eBind H fun x3 hx3 H =>
      eBind H fun r4 hr4 H =>
      gN [rg [hT 0], r0] (by kernel_rfl) (P2 ((decide (t2 < t1)) = true) (decide_eq_true h1) <| P0) <|
      eIf H (fun h5 H =>
        eN H <| gE func108 [rg [hE 4 (I x3), { i := 5, call := some { cl := true, auto := true, ins := [], res := (RB r4), G' := [] }, dec := some true }], r0] (by kernel_rfl) (P1 h2 <| P1 (int_lt_of_at h2 hx3) <| P1 (at_map I hx3) <| P1 (ci_LikelihoodOf_1 hr4) <| P2 (r4 = true) (h5) <| P0))
      (fun h5 H =>
        eN H fun r hn => gO [rg [hE 4 (I x3), { i := 5, call := some { cl := true, auto := true, ins := [], res := (RB r4), G' := [] }, dec := some false }], r0, .canon [] [0, 1, 7, 8]] (by kernel_rfl) (P1 h2 <| P1 (int_lt_of_at h2 hx3) <| P1 (at_map I hx3) <| P1 (ci_LikelihoodOf_1 hr4) <| P2 (r4 = false) (eqF h5) <| P0) hn))
    (fun h1 H =>
      eN H <| gE func108 [rg [hF 0], r0] (by kernel_rfl) (P2 ((decide (t2 < t1)) = false) (decide_eq_false h1) <| P0))
theorem wslices_IndexFunc_int_i_LikelihoodOf_1 : ∀ s r, loop Bslices_IndexFunc_int_i_LikelihoodOf_1 s = some r → Wc X 108 0 (Kslices_IndexFunc_int_i_LikelihoodOf_1 s) (Zslices_IndexFunc_int_i_LikelihoodOf_1 s) (RI r) ((fun _ => []) r) := Nx.all nslices_IndexFunc_int_i_LikelihoodOf_1
theorem cslices_IndexFunc_int_i_LikelihoodOf_1 {a0 : (List Int)} {r : Int} (H : Dslices_IndexFunc_int_i_LikelihoodOf_1 a0 = some r) : Ct X.P X.gl 108 [sl 1 I a0, .fn 62 []] [] (RI r) [] :=
  Ct.of func108 (c := bdy f108) (by kernel_rfl) (by kernel_rfl) <|
  gO [r0, r0, .canon [] [0, 1, 7, 8]] (by kernel_rfl) P0 (wslices_IndexFunc_int_i_LikelihoodOf_1 _ _ H)
/-! slices ContainsFunc   int int  -/
theorem cslices_ContainsFunc_int_i_LikelihoodOf_1 {a0 : (List Int)} {r : Bool} (H : Dslices_ContainsFunc_int_i_LikelihoodOf_1 a0 = some r) : Ct X.P X.gl 61 [sl 1 I a0, .fn 62 []] [] (RB r) [] :=
  Ct.of func61 (c := bdy f61) (by kernel_rfl) (by kernel_rfl) <|
  eBind H fun r1 hr1 H =>
  eW RB (fun _ => []) H <| gE func61 [r0, rg [hC 2 true [] (RI r1) []]] (by kernel_rfl) (P1 (cslices_IndexFunc_int_i_LikelihoodOf_1 hr1) <| P0)
/-! loop example/g00886/impl LikelihoodOf -/
def Ri_LikelihoodOf (r : Int × Bool) : List D := [I r.1, .bool r.2]
theorem ci_LikelihoodOf {a0 : Gi_Climate} {a1 : (List Int)} {r : Int × Bool} (H : Di_LikelihoodOf a0 a1 = some r) : Ct X.P X.gl 12 [.agg [sl 1 (sl 1 I) a0.Weights], sl 1 I a1] [] (Ri_LikelihoodOf r) [] :=
  Ct.of func12 (c := bdy f12) (by kernel_rfl) (by kernel_rfl) <|
  eBind H fun r1 hr1 H =>
  gS [r0] (by kernel_rfl) P0 <|
  eIf H (fun h2 H =>
    eBind H fun r3 hr3 H =>
    eIf H (fun h4 H =>
      eBind H fun r5 hr5 H =>
      eIf H (fun h6 H =>
        eW Ri_LikelihoodOf (fun _ => []) H <| gE func12 [rg [{ i := 1, call := some { cl := true, auto := true, ins := [], res := (RB r1), G' := [] }, dec := some true }, { i := 6, call := some { cl := true, auto := true, ins := [], res := (RB r3), G' := [] }, dec := some true }, { i := 11, call := some { cl := true, auto := true, ins := [], res := (RB r5), G' := [] }, dec := some true }], r0] (by kernel_rfl) (P1 (ci_IsClimate hr1) <| P2 (r1 = true) (h2) <| P1 (ci_inRange hr3) <| P2 (r3 = true) (h4) <| P1 (cslices_ContainsFunc_int_i_LikelihoodOf_1 hr5) <| P2 (r5 = true) (h6) <| P0))
      (fun h6 H =>
        eBind H fun r7 hr7 H =>
        eW Ri_LikelihoodOf (fun _ => []) H <| gE func12 [rg [{ i := 1, call := some { cl := true, auto := true, ins := [], res := (RB r1), G' := [] }, dec := some true }, { i := 6, call := some { cl := true, auto := true, ins := [], res := (RB r3), G' := [] }, dec := some true }, { i := 11, call := some { cl := true, auto := true, ins := [], res := (RB r5), G' := [] }, dec := some false }], rg [hC 2 true [] (RI r7) []]] (by kernel_rfl) (P1 (ci_IsClimate hr1) <| P2 (r1 = true) (h2) <| P1 (ci_inRange hr3) <| P2 (r3 = true) (h4) <| P1 (cslices_ContainsFunc_int_i_LikelihoodOf_1 hr5) <| P2 (r5 = false) (eqF h6) <| P1 (ci_likelihood hr7) <| P0)))
    (fun h4 H =>
      eW Ri_LikelihoodOf (fun _ => []) H <| gE func12 [rg [{ i := 1, call := some { cl := true, auto := true, ins := [], res := (RB r1), G' := [] }, dec := some true }, { i := 6, call := some { cl := true, auto := true, ins := [], res := (RB r3), G' := [] }, dec := some false }], r0] (by kernel_rfl) (P1 (ci_IsClimate hr1) <| P2 (r1 = true) (h2) <| P1 (ci_inRange hr3) <| P2 (r3 = false) (eqF h4) <| P0)))
  (fun h2 H =>
    eW Ri_LikelihoodOf (fun _ => []) H <| gE func12 [rg [{ i := 1, call := some { cl := true, auto := true, ins := [], res := (RB r1), G' := [] }, dec := some false }], r0] (by kernel_rfl) (P1 (ci_IsClimate hr1) <| P2 (r1 = false) (eqF h2) <| P0))
/-! loop example/g00886/spec LikelihoodOf -/
def Rs_LikelihoodOf (r : Int × Bool) : List D := [I r.1, .bool r.2]
theorem cs_LikelihoodOf {a0 : Gi_Climate} {a1 : (List Int)} {r : Int × Bool} (H : Ds_LikelihoodOf a0 a1 = some r) : Ct X.P X.gl 13 [.agg [sl 1 (sl 1 I) a0.Weights], sl 1 I a1] [] (Rs_LikelihoodOf r) [] :=
  Ct.of func13 (c := bdy f13) (by kernel_rfl) (by kernel_rfl) <|
  eBind H fun r1 hr1 H =>
  gS [r0] (by kernel_rfl) P0 <|
  eIf H (fun h2 H =>
    eBind H fun r3 hr3 H =>
    eIf H (fun h4 H =>
      eBind H fun r5 hr5 H =>
      eIf H (fun h6 H =>
        eBind H fun r7 hr7 H =>
        eW Rs_LikelihoodOf (fun _ => []) H <| gE func13 [rg [{ i := 1, call := some { cl := true, auto := true, ins := [], res := (RB r1), G' := [] }, dec := some true }, { i := 6, call := some { cl := true, auto := true, ins := [], res := (RB r3), G' := [] }, dec := some true }, { i := 11, call := some { cl := true, auto := true, ins := [], res := (RB r5), G' := [] }, dec := some true }], rg [hC 2 true [] (RI r7) []]] (by kernel_rfl) (P1 (cs_wGood hr1) <| P2 (r1 = true) (h2) <| P1 (cs_l1In hr3) <| P2 (r3 = true) (h4) <| P1 (cs_l1All hr5) <| P2 (r5 = true) (h6) <| P1 (cs_wLikelihood hr7) <| P0))
      (fun h6 H =>
        eW Rs_LikelihoodOf (fun _ => []) H <| gE func13 [rg [{ i := 1, call := some { cl := true, auto := true, ins := [], res := (RB r1), G' := [] }, dec := some true }, { i := 6, call := some { cl := true, auto := true, ins := [], res := (RB r3), G' := [] }, dec := some true }, { i := 11, call := some { cl := true, auto := true, ins := [], res := (RB r5), G' := [] }, dec := some false }], r0] (by kernel_rfl) (P1 (cs_wGood hr1) <| P2 (r1 = true) (h2) <| P1 (cs_l1In hr3) <| P2 (r3 = true) (h4) <| P1 (cs_l1All hr5) <| P2 (r5 = false) (eqF h6) <| P0)))
    (fun h4 H =>
      eW Rs_LikelihoodOf (fun _ => []) H <| gE func13 [rg [{ i := 1, call := some { cl := true, auto := true, ins := [], res := (RB r1), G' := [] }, dec := some true }, { i := 6, call := some { cl := true, auto := true, ins := [], res := (RB r3), G' := [] }, dec := some false }], r0] (by kernel_rfl) (P1 (cs_wGood hr1) <| P2 (r1 = true) (h2) <| P1 (cs_l1In hr3) <| P2 (r3 = false) (eqF h4) <| P0)))
  (fun h2 H =>
    eW Rs_LikelihoodOf (fun _ => []) H <| gE func13 [rg [{ i := 1, call := some { cl := true, auto := true, ins := [], res := (RB r1), G' := [] }, dec := some false }], r0] (by kernel_rfl) (P1 (cs_wGood hr1) <| P2 (r1 = false) (eqF h2) <| P0))
/-! loop example/g00886/spec DrawCanFollow -/
def Rs_DrawCanFollow (r : Gi_Climate × Int × Int) : List D := [.agg [ow 1 (ow 1 I) r.1.Weights], I r.2.1, I r.2.2]
theorem cs_DrawCanFollow {a0 : (List Int)} {r : Gi_Climate × Int × Int} (H : Ds_DrawCanFollow a0 = some r) : Ct X.P X.gl 14 [sl 1 (D.int .u8) a0] [] (Rs_DrawCanFollow r) [] :=
  Ct.of func14 (c := bdy f14) (by kernel_rfl) (by kernel_rfl) <|
  eBind H fun r1 hr1 H =>
  eBind H fun r2 hr2 H =>
  eBind H fun r3 hr3 H =>
  eW Rs_DrawCanFollow (fun _ => []) H <| gE func14 [r0, r0, rg [hC 1 true [1] (Rs_l1Cur_anyClimate r1) (Ns_l1Cur_anyClimate r1), hC 3 true [1] (Rs_l1Cur_weatherOf r2) (Ns_l1Cur_weatherOf r2), hC 5 true [1] (Rs_l1Cur_weatherOf r3) (Ns_l1Cur_weatherOf r3)]] (by kernel_rfl) (PI (1 : Nat) <| P1 (cs_l1Cur_anyClimate hr1) <| PI (1 : Nat) <| P1 (cs_l1Cur_weatherOf hr2) <| PI (1 : Nat) <| P1 (cs_l1Cur_weatherOf hr3) <| P0)
/-! loop example/g00886/impl chancesAfter -/
def Ri_chancesAfter (r : (List Int)) : List D := [ow 1 I r]
noncomputable def Ki_chancesAfter : Si_chancesAfter → List Item
  | .h1 .. => nav 300 4 [] [.code (bdy f67)]
  | .h2 .. => nav 300 7 [true] [.code (bdy f67)]
  | .h3 .. => nav 300 10 [true, true] [.code (bdy f67)]
def Zi_chancesAfter : Si_chancesAfter → St
  | .h1 t0 t1 b2 l3 => ⟨sts 53 [(3, .ptr 0 1 0 0), (7, .ref 1 1 none), (17, I t0), (18, I t1)], [some ⟨false, true, 1, 1, [.agg [sl 1 (sl 1 I) b2.Weights]]⟩, some ⟨false, false, 1, l3.length, List.map I l3⟩]⟩
  | .h2 t0 t1 t2 t3 b4 l5 l6 => ⟨sts 53 [(3, .ptr 0 1 0 0), (8, .ref 1 1 none), (17, I t0), (18, I t1), (21, .ref 2 1 none), (22, I t2), (23, I t3)], [some ⟨false, true, 1, 1, [.agg [sl 1 (sl 1 I) b4.Weights]]⟩, some ⟨false, false, 1, l5.length, List.map I l5⟩, some ⟨false, false, 1, l6.length, List.map I l6⟩]⟩
  | .h3 many0 t1 t2 t3 t4 t5 t6 t7 b8 l9 l10 => ⟨sts 53 [(3, .ptr 0 1 0 0), (8, .ref 1 1 none), (10, I many0), (17, I t1), (18, I t2), (21, .ref 2 1 none), (22, I t3), (23, I t4), (32, sl 1 I t5), (33, I t6), (34, I t7)], [some ⟨false, true, 1, 1, [.agg [sl 1 (sl 1 I) b8.Weights]]⟩, some ⟨false, false, 1, l9.length, List.map I l9⟩, some ⟨false, false, 1, l10.length, List.map I l10⟩]⟩
abbrev Qi_chancesAfter := Nx X 67 0 Ki_chancesAfter Zi_chancesAfter Ri_chancesAfter (fun _ => [])
theorem ni_chancesAfter : ∀ s o, Bi_chancesAfter s = some o → Qi_chancesAfter (Ki_chancesAfter s) (Zi_chancesAfter s) o
  | .h1 t0 t1 b2 l3, o, H =>
    eIf H (fun h1 H =>
      eCk H fun h2 H =>
      eN H fun r hn => gO [rg [hT 0], rg [hA 0 ((List.replicate (Int.toNat 3) (0 : Int)).length) (List.map I (List.replicate (Int.toNat 3) (0 : Int)))], r0, .canon [0, 2, 1] [3, 8, 17, 18, 21, 22, 23]] (by kernel_rfl) (P2 ((decide (t1 < t0)) = true) (decide_eq_true h1) <| PI (3 : Int) <| P2 ((0 : Int) ≤ 3) (by decide) <| P2 (Int.toNat 3 * 8 ≤ 140737488355328) h2 <| P1 (repLen (Int.toNat 3) (0 : Int)) <| P1 (repMap I (Int.toNat 3) (0 : Int)) <| P0) hn)
    (fun h1 H =>
      eN H <| gE func67 [rg [hF 0], r0] (by kernel_rfl) (P2 ((decide (t1 < t0)) = false) (decide_eq_false h1) <| P0))
  | .h2 t0 t1 t2 t3 b4 l5 l6, o, H =>
    eIf H (fun h1 H =>
      eCk H fun h2 H =>
      eBind H fun x3 hx3 H =>
      eCk H fun h4 H =>
      eBind H fun x5 hx5 H =>
      eN H fun r hn => gO [rg [hT 0], rg [hE 2 (I x3)], rg [hE 4 ((sl 1 I) x5)], .canon [0, 1, 2] [3, 8, 10, 17, 18, 21, 22, 23, 32, 33, 34]] (by kernel_rfl) (P2 ((decide (t3 < t2)) = true) (decide_eq_true h1) <| P1 h2 <| P1 (int_lt_of_at h2 hx3) <| P1 (at_map I hx3) <| P1 h4 <| P1 (int_lt_of_at h4 hx5) <| P1 (at_map (sl 1 I) hx5) <| P0) hn)
    (fun h1 H =>
      eN H fun r hn => gO [rg [hF 0], r0, r0, .canon [0, 1] [3, 7, 17, 18]] (by kernel_rfl) (P2 ((decide (t3 < t2)) = false) (decide_eq_false h1) <| P0) hn)
  | .h3 many0 t1 t2 t3 t4 t5 t6 t7 b8 l9 l10, o, H =>
    eIf H (fun h1 H =>
      eCk H fun h2 H =>
      eBind H fun x3 hx3 H =>
      eCk H fun h4 H =>
      eBind H fun x5 hx5 H =>
      eCk H fun h6 H =>
      eBind H fun x7 hx7 H =>
      eN H fun r hn => gO [rg [hT 0], rg [hE 2 (I x3)], rg [hE 3 (I x5), hA 9 ((List.set l9 (Int.toNat t7) (IntKind.wrap .i64 (x5 + (IntKind.wrap .i64 (many0 * x3))))).length) (List.map I (List.set l9 (Int.toNat t7) (IntKind.wrap .i64 (x5 + (IntKind.wrap .i64 (many0 * x3))))))], r0, .canon [0, 1, 2] [3, 8, 10, 17, 18, 21, 22, 23, 32, 33, 34]] (by kernel_rfl) (P2 ((decide (t7 < t6)) = true) (decide_eq_true h1) <| P1 h2 <| P1 (int_lt_of_at h2 hx3) <| P1 (at_map I hx3) <| P1 h4 <| P1 (int_lt_of_at h4 hx5) <| P1 (at_map I hx5) <| P1 h6 <| P1 (int_lt_of_at h6 hx7) <| P1 (lt_of_at hx7) <| P2 (setCells (List.map I l9) (Int.toNat t7) 0 [I (IntKind.wrap .i64 (x5 + (IntKind.wrap .i64 (many0 * x3))))] = List.map I (List.set l9 (Int.toNat t7) (IntKind.wrap .i64 (x5 + (IntKind.wrap .i64 (many0 * x3)))))) (setCells_map hx7 rfl) <| P1 (setLen l9 (Int.toNat t7) (IntKind.wrap .i64 (x5 + (IntKind.wrap .i64 (many0 * x3))))) <| P0) hn)
    (fun h1 H =>
      eN H fun r hn => gO [rg [hF 0], r0, .canon [0, 1, 2] [3, 8, 17, 18, 21, 22, 23]] (by kernel_rfl) (P2 ((decide (t7 < t6)) = false) (decide_eq_false h1) <| P0) hn)
theorem wi_chancesAfter : ∀ s r, loop Bi_chancesAfter s = some r → Wc X 67 0 (Ki_chancesAfter s) (Zi_chancesAfter s) (Ri_chancesAfter r) ((fun _ => []) r) := Nx.all ni_chancesAfter
theorem ci_chancesAfter {a0 : Gi_Climate} {a1 : Int} {a2 : Int} {r : (List Int)} (H : Di_chancesAfter a0 a1 a2 = some r) : Ct X.P X.gl 67 [.agg [sl 1 (sl 1 I) a0.Weights], I a1, I a2] [] (Ri_chancesAfter r) [] :=
  Ct.of func67 (c := bdy f67) (by kernel_rfl) (by kernel_rfl) <|
  eCk H fun h1 H =>
  eCk H fun h2 H =>
  eBind H fun x3 hx3 H =>
  gO [r0, rg [hA 0 ((List.replicate (Int.toNat 3) (0 : Int)).length) (List.map I (List.replicate (Int.toNat 3) (0 : Int)))], rg [hA 3 ((List.set (List.replicate (Int.toNat 3) (0 : Int)) (Int.toNat a1) 1).length) (List.map I (List.set (List.replicate (Int.toNat 3) (0 : Int)) (Int.toNat a1) 1))], r0, .canon [0, 1] [3, 7, 17, 18]] (by kernel_rfl) (PI (3 : Int) <| P2 ((0 : Int) ≤ 3) (by decide) <| P2 (Int.toNat 3 * 8 ≤ 140737488355328) h1 <| P1 (repLen (Int.toNat 3) (0 : Int)) <| P1 (repMap I (Int.toNat 3) (0 : Int)) <| P1 h2 <| P1 (int_lt_of_at h2 hx3) <| P1 (lt_of_at hx3) <| P2 (setCells (List.map I (List.replicate (Int.toNat 3) (0 : Int))) (Int.toNat a1) 0 [I 1] = List.map I (List.set (List.replicate (Int.toNat 3) (0 : Int)) (Int.toNat a1) 1)) (setCells_map hx3 rfl) <| P1 (setLen (List.replicate (Int.toNat 3) (0 : Int)) (Int.toNat a1) 1) <| P0) (wi_chancesAfter _ _ H)
/-! loop example/g00886/impl CanFollow -/
def Ri_CanFollow (r : Bool × Bool) : List D := [.bool r.1, .bool r.2]
noncomputable def Ki_CanFollow : Si_CanFollow → List Item
  | .h1 .. => nav 300 3 [false] [.code (bdy f15)]
def Zi_CanFollow : Si_CanFollow → St
  | .h1 w0 vx1 n2 b3 => ⟨sts 30 [(1, I w0), (2, I vx1), (3, .ptr 0 1 0 0), (8, I n2)], [some ⟨false, true, 1, 1, [.agg [sl 1 (sl 1 I) b3.Weights]]⟩]⟩
abbrev Qi_CanFollow := Nx X 15 0 Ki_CanFollow Zi_CanFollow Ri_CanFollow (fun _ => [])
theorem ni_CanFollow : ∀ s o, Bi_CanFollow s = some o → Qi_CanFollow (Ki_CanFollow s) (Zi_CanFollow s) o
  | .h1 w0 vx1 n2 b3, o, H =>
    eIf H (fun h1 H =>
      eBind H fun r2 hr2 H =>
      eCk H fun h3 H =>
      eBind H fun x4 hx4 H =>
      gN [rg [hT 1]] (by kernel_rfl) (P2 ((decide (n2 ≤ 3)) = true) (decide_eq_true h1) <| P0) <|
      eIf H (fun h5 H =>
        eN H <| gE func15 [rg [hC 3 true [] (Ri_chancesAfter r2) [], hE 6 (I x4), hT 7], r0] (by kernel_rfl) (P1 (ci_chancesAfter hr2) <| P1 h3 <| P1 (int_lt_of_at h3 hx4) <| P1 (at_map I hx4) <| P2 ((decide (x4 > 0)) = true) (decide_eq_true h5) <| P0))
      (fun h5 H =>
        eN H fun r hn => gO [rg [hC 3 true [] (Ri_chancesAfter r2) [], hE 6 (I x4), hF 7], r0, .canon [0] [1, 2, 3, 8]] (by kernel_rfl) (P1 (ci_chancesAfter hr2) <| P1 h3 <| P1 (int_lt_of_at h3 hx4) <| P1 (at_map I hx4) <| P2 ((decide (x4 > 0)) = false) (decide_eq_false h5) <| P0) hn))
    (fun h1 H =>
      eN H <| gE func15 [rg [hF 1], r0] (by kernel_rfl) (P2 ((decide (n2 ≤ 3)) = false) (decide_eq_false h1) <| P0))
theorem wi_CanFollow : ∀ s r, loop Bi_CanFollow s = some r → Wc X 15 0 (Ki_CanFollow s) (Zi_CanFollow s) (Ri_CanFollow r) ((fun _ => []) r) := Nx.all ni_CanFollow
theorem ci_CanFollow {a0 : Gi_Climate} {a1 : Int} {a2 : Int} {r : Bool × Bool} (H : Di_CanFollow a0 a1 a2 = some r) : Ct X.P X.gl 15 [.agg [sl 1 (sl 1 I) a0.Weights], I a1, I a2] [] (Ri_CanFollow r) [] :=
  Ct.of func15 (c := bdy f15) (by kernel_rfl) (by kernel_rfl) <|
  eBind H fun r1 hr1 H =>
  gS [r0] (by kernel_rfl) P0 <|
  eIf H (fun h2 H =>
    eBind H fun r3 hr3 H =>
    eIf H (fun h4 H =>
      gO [rg [{ i := 2, call := some { cl := true, auto := true, ins := [], res := (RB r1), G' := [] }, dec := some true }, { i := 6, call := some { cl := true, auto := true, ins := [], res := (RB r3), G' := [] }, dec := some true }], r0, .canon [0] [1, 2, 3, 8]] (by kernel_rfl) (P1 (ci_isWeatherOf hr1) <| P2 (r1 = true) (h2) <| P1 (ci_isWeather hr3) <| P2 (r3 = true) (h4) <| P0) (wi_CanFollow _ _ H))
    (fun h4 H =>
      eW Ri_CanFollow (fun _ => []) H <| gE func15 [rg [{ i := 2, call := some { cl := true, auto := true, ins := [], res := (RB r1), G' := [] }, dec := some true }, { i := 6, call := some { cl := true, auto := true, ins := [], res := (RB r3), G' := [] }, dec := some false }], r0] (by kernel_rfl) (P1 (ci_isWeatherOf hr1) <| P2 (r1 = true) (h2) <| P1 (ci_isWeather hr3) <| P2 (r3 = false) (eqF h4) <| P0)))
  (fun h2 H =>
    eW Ri_CanFollow (fun _ => []) H <| gE func15 [rg [{ i := 2, call := some { cl := true, auto := true, ins := [], res := (RB r1), G' := [] }, dec := some false }], r0] (by kernel_rfl) (P1 (ci_isWeatherOf hr1) <| P2 (r1 = false) (eqF h2) <| P0))
/-! loop example/g00886/spec wChances -/
def Rs_wChances (r : (List Int)) : List D := [ow 1 I r]
noncomputable def Ks_wChances : Ss_wChances → List Item
  | .h1 .. => nav 300 3 [] [.code (bdy f68)]
  | .h2 .. => nav 300 6 [true] [.code (bdy f68)]
  | .h3 .. => nav 300 9 [true, true] [.code (bdy f68)]
def Zs_wChances : Ss_wChances → St
  | .h1 n0 b1 l2 => ⟨sts 53 [(2, I n0), (3, .ptr 0 1 0 0), (7, .ref 1 1 none)], [some ⟨false, true, 1, 1, [.agg [sl 1 (sl 1 I) b1.Weights]]⟩, some ⟨false, false, 1, l2.length, List.map I l2⟩]⟩
  | .h2 n0 t1 t2 b3 l4 l5 => ⟨sts 53 [(2, I n0), (3, .ptr 0 1 0 0), (8, .ref 1 1 none), (22, .ref 2 1 none), (23, I t1), (24, I t2)], [some ⟨false, true, 1, 1, [.agg [sl 1 (sl 1 I) b3.Weights]]⟩, some ⟨false, false, 1, l4.length, List.map I l4⟩, some ⟨false, false, 1, l5.length, List.map I l5⟩]⟩
  | .h3 n0 vx1 t2 t3 t4 t5 t6 b7 l8 l9 => ⟨sts 53 [(2, I n0), (3, .ptr 0 1 0 0), (8, .ref 1 1 none), (10, I vx1), (22, .ref 2 1 none), (23, I t2), (24, I t3), (33, sl 1 I t4), (34, I t5), (35, I t6)], [some ⟨false, true, 1, 1, [.agg [sl 1 (sl 1 I) b7.Weights]]⟩, some ⟨false, false, 1, l8.length, List.map I l8⟩, some ⟨false, false, 1, l9.length, List.map I l9⟩]⟩
abbrev Qs_wChances := Nx X 68 0 Ks_wChances Zs_wChances Rs_wChances (fun _ => [])
theorem ns_wChances : ∀ s o, Bs_wChances s = some o → Qs_wChances (Ks_wChances s) (Zs_wChances s) o
  | .h1 n0 b1 l2, o, H =>
    eIf H (fun h1 H =>
      eCk H fun h2 H =>
      eN H fun r hn => gO [rg [hT 1], rg [hA 0 ((List.replicate (Int.toNat 3) (0 : Int)).length) (List.map I (List.replicate (Int.toNat 3) (0 : Int)))], r0, .canon [0, 2, 1] [2, 3, 8, 22, 23, 24]] (by kernel_rfl) (P2 ((decide (n0 > 0)) = true) (decide_eq_true h1) <| PI (3 : Int) <| P2 ((0 : Int) ≤ 3) (by decide) <| P2 (Int.toNat 3 * 8 ≤ 140737488355328) h2 <| P1 (repLen (Int.toNat 3) (0 : Int)) <| P1 (repMap I (Int.toNat 3) (0 : Int)) <| P0) hn)
    (fun h1 H =>
      eN H <| gE func68 [rg [hF 1], r0] (by kernel_rfl) (P2 ((decide (n0 > 0)) = false) (decide_eq_false h1) <| P0))
  | .h2 n0 t1 t2 b3 l4 l5, o, H =>
    eIf H (fun h1 H =>
      eCk H fun h2 H =>
      eBind H fun x3 hx3 H =>
      eCk H fun h4 H =>
      eBind H fun x5 hx5 H =>
      eN H fun r hn => gO [rg [hT 0], rg [hE 2 (I x3)], rg [hE 4 ((sl 1 I) x5)], .canon [0, 1, 2] [2, 3, 8, 10, 22, 23, 24, 33, 34, 35]] (by kernel_rfl) (P2 ((decide (t2 < t1)) = true) (decide_eq_true h1) <| P1 h2 <| P1 (int_lt_of_at h2 hx3) <| P1 (at_map I hx3) <| P1 h4 <| P1 (int_lt_of_at h4 hx5) <| P1 (at_map (sl 1 I) hx5) <| P0) hn)
    (fun h1 H =>
      eN H fun r hn => gO [rg [hF 0], r0, r0, .canon [0, 1] [2, 3, 7]] (by kernel_rfl) (P2 ((decide (t2 < t1)) = false) (decide_eq_false h1) <| P0) hn)
  | .h3 n0 vx1 t2 t3 t4 t5 t6 b7 l8 l9, o, H =>
    eIf H (fun h1 H =>
      eCk H fun h2 H =>
      eBind H fun x3 hx3 H =>
      eCk H fun h4 H =>
      eBind H fun x5 hx5 H =>
      eCk H fun h6 H =>
      eBind H fun x7 hx7 H =>
      eN H fun r hn => gO [rg [hT 0], rg [hE 2 (I x3)], rg [hE 3 (I x5), hA 9 ((List.set l8 (Int.toNat t6) (IntKind.wrap .i64 (x5 + (IntKind.wrap .i64 (vx1 * x3))))).length) (List.map I (List.set l8 (Int.toNat t6) (IntKind.wrap .i64 (x5 + (IntKind.wrap .i64 (vx1 * x3))))))], r0, .canon [0, 1, 2] [2, 3, 8, 10, 22, 23, 24, 33, 34, 35]] (by kernel_rfl) (P2 ((decide (t6 < t5)) = true) (decide_eq_true h1) <| P1 h2 <| P1 (int_lt_of_at h2 hx3) <| P1 (at_map I hx3) <| P1 h4 <| P1 (int_lt_of_at h4 hx5) <| P1 (at_map I hx5) <| P1 h6 <| P1 (int_lt_of_at h6 hx7) <| P1 (lt_of_at hx7) <| P2 (setCells (List.map I l8) (Int.toNat t6) 0 [I (IntKind.wrap .i64 (x5 + (IntKind.wrap .i64 (vx1 * x3))))] = List.map I (List.set l8 (Int.toNat t6) (IntKind.wrap .i64 (x5 + (IntKind.wrap .i64 (vx1 * x3)))))) (setCells_map hx7 rfl) <| P1 (setLen l8 (Int.toNat t6) (IntKind.wrap .i64 (x5 + (IntKind.wrap .i64 (vx1 * x3))))) <| P0) hn)
    (fun h1 H =>
      eN H fun r hn => gO [rg [hF 0], r0, .canon [0, 1, 2] [2, 3, 8, 22, 23, 24]] (by kernel_rfl) (P2 ((decide (t6 < t5)) = false) (decide_eq_false h1) <| P0) hn)
theorem ws_wChances : ∀ s r, loop Bs_wChances s = some r → Wc X 68 0 (Ks_wChances s) (Zs_wChances s) (Rs_wChances r) ((fun _ => []) r) := Nx.all ns_wChances
theorem cs_wChances {a0 : Gi_Climate} {a1 : Int} {a2 : Int} {r : (List Int)} (H : Ds_wChances a0 a1 a2 = some r) : Ct X.P X.gl 68 [.agg [sl 1 (sl 1 I) a0.Weights], I a1, I a2] [] (Rs_wChances r) [] :=
  Ct.of func68 (c := bdy f68) (by kernel_rfl) (by kernel_rfl) <|
  eCk H fun h1 H =>
  eCk H fun h2 H =>
  eBind H fun x3 hx3 H =>
  gO [r0, rg [hA 0 ((List.replicate (Int.toNat 3) (0 : Int)).length) (List.map I (List.replicate (Int.toNat 3) (0 : Int)))], rg [hA 3 ((List.set (List.replicate (Int.toNat 3) (0 : Int)) (Int.toNat a1) 1).length) (List.map I (List.set (List.replicate (Int.toNat 3) (0 : Int)) (Int.toNat a1) 1))], .canon [0, 1] [2, 3, 7]] (by kernel_rfl) (PI (3 : Int) <| P2 ((0 : Int) ≤ 3) (by decide) <| P2 (Int.toNat 3 * 8 ≤ 140737488355328) h1 <| P1 (repLen (Int.toNat 3) (0 : Int)) <| P1 (repMap I (Int.toNat 3) (0 : Int)) <| P1 h2 <| P1 (int_lt_of_at h2 hx3) <| P1 (lt_of_at hx3) <| P2 (setCells (List.map I (List.replicate (Int.toNat 3) (0 : Int))) (Int.toNat a1) 0 [I 1] = List.map I (List.set (List.replicate (Int.toNat 3) (0 : Int)) (Int.toNat a1) 1)) (setCells_map hx3 rfl) <| P1 (setLen (List.replicate (Int.toNat 3) (0 : Int)) (Int.toNat a1) 1) <| P0) (ws_wChances _ _ H)
/-! loop example/g00886/spec CanFollow -/
def Rs_CanFollow (r : Bool × Bool) : List D := [.bool r.1, .bool r.2]
noncomputable def Ks_CanFollow : Ss_CanFollow → List Item
  | .h1 .. => nav 300 3 [false] [.code (bdy f16)]
def Zs_CanFollow : Ss_CanFollow → St
  | .h1 w0 vx1 n2 b3 => ⟨sts 30 [(1, I w0), (2, I vx1), (3, .ptr 0 1 0 0), (8, I n2)], [some ⟨false, true, 1, 1, [.agg [sl 1 (sl 1 I) b3.Weights]]⟩]⟩
abbrev Qs_CanFollow := Nx X 16 0 Ks_CanFollow Zs_CanFollow Rs_CanFollow (fun _ => [])
theorem ns_CanFollow : ∀ s o, Bs_CanFollow s = some o → Qs_CanFollow (Ks_CanFollow s) (Zs_CanFollow s) o
  | .h1 w0 vx1 n2 b3, o, H =>
    eIf H (fun h1 H =>
      eBind H fun r2 hr2 H =>
      eCk H fun h3 H =>
      eBind H fun x4 hx4 H =>
      gN [rg [hT 1]] (by kernel_rfl) (P2 ((decide (n2 ≤ 3)) = true) (decide_eq_true h1) <| P0) <|
      eIf H (fun h5 H =>
        eN H <| gE func16 [rg [hC 3 true [] (Rs_wChances r2) [], hE 6 (I x4), hT 7], r0] (by kernel_rfl) (P1 (cs_wChances hr2) <| P1 h3 <| P1 (int_lt_of_at h3 hx4) <| P1 (at_map I hx4) <| P2 ((decide (x4 > 0)) = true) (decide_eq_true h5) <| P0))
      (fun h5 H =>
        eN H fun r hn => gO [rg [hC 3 true [] (Rs_wChances r2) [], hE 6 (I x4), hF 7], r0, .canon [0] [1, 2, 3, 8]] (by kernel_rfl) (P1 (cs_wChances hr2) <| P1 h3 <| P1 (int_lt_of_at h3 hx4) <| P1 (at_map I hx4) <| P2 ((decide (x4 > 0)) = false) (decide_eq_false h5) <| P0) hn))
    (fun h1 H =>
      eN H <| gE func16 [rg [hF 1], r0] (by kernel_rfl) (P2 ((decide (n2 ≤ 3)) = false) (decide_eq_false h1) <| P0))
theorem ws_CanFollow : ∀ s r, loop Bs_CanFollow s = some r → Wc X 16 0 (Ks_CanFollow s) (Zs_CanFollow s) (Rs_CanFollow r) ((fun _ => []) r) := Nx.all ns_CanFollow
theorem cs_CanFollow {a0 : Gi_Climate} {a1 : Int} {a2 : Int} {r : Bool × Bool} (H : Ds_CanFollow a0 a1 a2 = some r) : Ct X.P X.gl 16 [.agg [sl 1 (sl 1 I) a0.Weights], I a1, I a2] [] (Rs_CanFollow r) [] :=
  Ct.of func16 (c := bdy f16) (by kernel_rfl) (by kernel_rfl) <|
  eBind H fun r1 hr1 H =>
  gS [r0] (by kernel_rfl) P0 <|
  eIf H (fun h2 H =>
    eBind H fun r3 hr3 H =>
    eIf H (fun h4 H =>
      gO [rg [{ i := 2, call := some { cl := true, auto := true, ins := [], res := (RB r1), G' := [] }, dec := some true }, { i := 6, call := some { cl := true, auto := true, ins := [], res := (RB r3), G' := [] }, dec := some true }], r0, .canon [0] [1, 2, 3, 8]] (by kernel_rfl) (P1 (cs_wAsked hr1) <| P2 (r1 = true) (h2) <| P1 (cs_l1In hr3) <| P2 (r3 = true) (h4) <| P0) (ws_CanFollow _ _ H))
    (fun h4 H =>
      eW Rs_CanFollow (fun _ => []) H <| gE func16 [rg [{ i := 2, call := some { cl := true, auto := true, ins := [], res := (RB r1), G' := [] }, dec := some true }, { i := 6, call := some { cl := true, auto := true, ins := [], res := (RB r3), G' := [] }, dec := some false }], r0] (by kernel_rfl) (P1 (cs_wAsked hr1) <| P2 (r1 = true) (h2) <| P1 (cs_l1In hr3) <| P2 (r3 = false) (eqF h4) <| P0)))
  (fun h2 H =>
    eW Rs_CanFollow (fun _ => []) H <| gE func16 [rg [{ i := 2, call := some { cl := true, auto := true, ins := [], res := (RB r1), G' := [] }, dec := some false }], r0] (by kernel_rfl) (P1 (cs_wAsked hr1) <| P2 (r1 = false) (eqF h2) <| P0))
/-! slices Index   int int  -/
noncomputable def Kslices_Index_int : Sslices_Index_int → List Item
  | .h1 .. => nav 300 2 [] [.code (bdy f109)]
def Zslices_Index_int : Sslices_Index_int → St
  | .h1 s0 v1 t2 t3 => ⟨sts 19 [(0, sl 1 I s0), (1, I v1), (7, I t2), (8, I t3)], []⟩
abbrev Qslices_Index_int := Nx X 109 0 Kslices_Index_int Zslices_Index_int RI (fun _ => [])
theorem nslices_Index_int : ∀ s o, Bslices_Index_int s = some o → Qslices_Index_int (Kslices_Index_int s) (Zslices_Index_int s) o
  | .h1 s0 v1 t2 t3, o, H =>
    eIf H (fun h1 H =>
      eCk H fun h2 H =>
      eBind H fun x3 hx3 H =>
      gN [rg [hT 0], r0] (by kernel_rfl) (P2 ((decide (t3 < t2)) = true) (decide_eq_true h1) <| P0) <|
      eIf H (fun h4 H =>
        eN H <| gE func109 [rg [hE 4 (I x3), hT 5], r0] (by kernel_rfl) (P1 h2 <| P1 (int_lt_of_at h2 hx3) <| P1 (at_map I hx3) <| P2 (((v1 : Int) == x3) = true) (beqT h4) <| P0))
      (fun h4 H =>
        eN H fun r hn => gO [rg [hE 4 (I x3), hF 5], r0, .canon [] [0, 1, 7, 8]] (by kernel_rfl) (P1 h2 <| P1 (int_lt_of_at h2 hx3) <| P1 (at_map I hx3) <| P2 (((v1 : Int) == x3) = false) (beqF h4) <| P0) hn))
    (fun h1 H =>
      eN H <| gE func109 [rg [hF 0], r0] (by kernel_rfl) (P2 ((decide (t3 < t2)) = false) (decide_eq_false h1) <| P0))
theorem wslices_Index_int : ∀ s r, loop Bslices_Index_int s = some r → Wc X 109 0 (Kslices_Index_int s) (Zslices_Index_int s) (RI r) ((fun _ => []) r) := Nx.all nslices_Index_int
theorem cslices_Index_int {a0 : (List Int)} {a1 : Int} {r : Int} (H : Dslices_Index_int a0 a1 = some r) : Ct X.P X.gl 109 [sl 1 I a0, I a1] [] (RI r) [] :=
  Ct.of func109 (c := bdy f109) (by kernel_rfl) (by kernel_rfl) <|
  gO [r0, r0, .canon [] [0, 1, 7, 8]] (by kernel_rfl) P0 (wslices_Index_int _ _ H)
/-! slices Contains   int int  -/
theorem cslices_Contains_int {a0 : (List Int)} {a1 : Int} {r : Bool} (H : Dslices_Contains_int a0 a1 = some r) : Ct X.P X.gl 69 [sl 1 I a0, I a1] [] (RB r) [] :=
  Ct.of func69 (c := bdy f69) (by kernel_rfl) (by kernel_rfl) <|
  eBind H fun r1 hr1 H =>
  eW RB (fun _ => []) H <| gE func69 [r0, rg [hC 2 true [] (RI r1) []]] (by kernel_rfl) (P1 (cslices_Index_int hr1) <| P0)
/-! loop example/g00886/impl EvenTurn -/
def Ri_EvenTurn (r : Int × Bool) : List D := [I r.1, .bool r.2]
noncomputable def Ki_EvenTurn : Si_EvenTurn → List Item
  | .h1 .. => nav 300 3 [false] [.code (bdy f17)]
def Zi_EvenTurn : Si_EvenTurn → St
  | .h1 w0 most1 n2 b3 => ⟨sts 30 [(1, I w0), (2, I most1), (3, .ptr 0 1 0 0), (8, I n2)], [some ⟨false, true, 1, 1, [.agg [sl 1 (sl 1 I) b3.Weights]]⟩]⟩
abbrev Qi_EvenTurn := Nx X 17 0 Ki_EvenTurn Zi_EvenTurn Ri_EvenTurn (fun _ => [])
theorem ni_EvenTurn : ∀ s o, Bi_EvenTurn s = some o → Qi_EvenTurn (Ki_EvenTurn s) (Zi_EvenTurn s) o
  | .h1 w0 most1 n2 b3, o, H =>
    eIf H (fun h1 H =>
      eBind H fun r2 hr2 H =>
      eBind H fun r3 hr3 H =>
      gN [rg [hT 2]] (by kernel_rfl) (P2 ((decide (n2 ≤ most1)) = true) (decide_eq_true h1) <| P0) <|
      eIf H (fun h4 H =>
        eN H fun r hn => gO [rg [hC 3 true [] (Ri_chancesAfter r2) [], { i := 4, call := some { cl := false, auto := true, ins := [], res := (RB r3), G' := [] }, dec := some true }], r0, .canon [0] [1, 2, 3, 8]] (by kernel_rfl) (P1 (ci_chancesAfter hr2) <| P1 (cslices_Contains_int hr3) <| P2 (r3 = true) (h4) <| P0) hn)
      (fun h4 H =>
        eN H <| gE func17 [rg [hC 3 true [] (Ri_chancesAfter r2) [], { i := 4, call := some { cl := false, auto := true, ins := [], res := (RB r3), G' := [] }, dec := some false }], r0] (by kernel_rfl) (P1 (ci_chancesAfter hr2) <| P1 (cslices_Contains_int hr3) <| P2 (r3 = false) (eqF h4) <| P0)))
    (fun h1 H =>
      eN H <| gE func17 [rg [hF 2], r0] (by kernel_rfl) (P2 ((decide (n2 ≤ most1)) = false) (decide_eq_false h1) <| P0))
theorem wi_EvenTurn : ∀ s r, loop Bi_EvenTurn s = some r → Wc X 17 0 (Ki_EvenTurn s) (Zi_EvenTurn s) (Ri_EvenTurn r) ((fun _ => []) r) := Nx.all ni_EvenTurn
theorem ci_EvenTurn {a0 : Gi_Climate} {a1 : Int} {a2 : Int} {r : Int × Bool} (H : Di_EvenTurn a0 a1 a2 = some r) : Ct X.P X.gl 17 [.agg [sl 1 (sl 1 I) a0.Weights], I a1, I a2] [] (Ri_EvenTurn r) [] :=
  Ct.of func17 (c := bdy f17) (by kernel_rfl) (by kernel_rfl) <|
  eBind H fun r1 hr1 H =>
  gS [r0] (by kernel_rfl) P0 <|
  eIf H (fun h2 H =>
    eBind H fun r3 hr3 H =>
    eIf H (fun h4 H =>
      gO [rg [{ i := 2, call := some { cl := true, auto := true, ins := [], res := (RB r1), G' := [] }, dec := some true }, { i := 6, call := some { cl := true, auto := true, ins := [], res := (RB r3), G' := [] }, dec := some true }], r0, .canon [0] [1, 2, 3, 8]] (by kernel_rfl) (P1 (ci_isWeatherOf hr1) <| P2 (r1 = true) (h2) <| P1 (ci_inRange hr3) <| P2 (r3 = true) (h4) <| P0) (wi_EvenTurn _ _ H))
    (fun h4 H =>
      eW Ri_EvenTurn (fun _ => []) H <| gE func17 [rg [{ i := 2, call := some { cl := true, auto := true, ins := [], res := (RB r1), G' := [] }, dec := some true }, { i := 6, call := some { cl := true, auto := true, ins := [], res := (RB r3), G' := [] }, dec := some false }], r0] (by kernel_rfl) (P1 (ci_isWeatherOf hr1) <| P2 (r1 = true) (h2) <| P1 (ci_inRange hr3) <| P2 (r3 = false) (eqF h4) <| P0)))
  (fun h2 H =>
    eW Ri_EvenTurn (fun _ => []) H <| gE func17 [rg [{ i := 2, call := some { cl := true, auto := true, ins := [], res := (RB r1), G' := [] }, dec := some false }], r0] (by kernel_rfl) (P1 (ci_isWeatherOf hr1) <| P2 (r1 = false) (eqF h2) <| P0))
/-! loop example/g00886/spec EvenTurn -/
def Rs_EvenTurn (r : Int × Bool) : List D := [I r.1, .bool r.2]
noncomputable def Ks_EvenTurn : Ss_EvenTurn → List Item
  | .h1 .. => nav 300 3 [false] [.code (bdy f18)]
def Zs_EvenTurn : Ss_EvenTurn → St
  | .h1 w0 most1 n2 b3 => ⟨sts 45 [(1, I w0), (2, I most1), (3, .ptr 0 1 0 0), (8, I n2)], [some ⟨false, true, 1, 1, [.agg [sl 1 (sl 1 I) b3.Weights]]⟩]⟩
abbrev Qs_EvenTurn := Nx X 18 0 Ks_EvenTurn Zs_EvenTurn Rs_EvenTurn (fun _ => [])
theorem ns_EvenTurn : ∀ s o, Bs_EvenTurn s = some o → Qs_EvenTurn (Ks_EvenTurn s) (Zs_EvenTurn s) o
  | .h1 w0 most1 n2 b3, o, H =>
    eIf H (fun h1 H =>
      eBind H fun r2 hr2 H =>
      eBind H fun x3 hx3 H =>
      gN [rg [hT 2], rg [hC 3 true [] (Rs_wChances r2) []]] (by kernel_rfl) (P2 ((decide (n2 ≤ most1)) = true) (decide_eq_true h1) <| P1 (cs_wChances hr2) <| P0) <|
      eIf H (fun h4 H =>
        eBind H fun x5 hx5 H =>
        eIf H (fun h6 H =>
          eBind H fun x7 hx7 H =>
          eIf H (fun h8 H =>
            eN H <| gE func18 [rg [hE 2 (I x3), hT 3, hE 7 (I x5), hT 8, hE 13 (I x7), hT 14], r0] (by kernel_rfl) (P2 ((0 : Int) ≤ 0) (by decide) <| P1 (int_lt_of_at (by decide : (0 : Int) ≤ 0) hx3) <| P1 (at_map I hx3) <| P2 ((decide (x3 > 0)) = true) (decide_eq_true h4) <| P2 ((0 : Int) ≤ 1) (by decide) <| P1 (int_lt_of_at (by decide : (0 : Int) ≤ 1) hx5) <| P1 (at_map I hx5) <| P2 ((decide (x5 > 0)) = true) (decide_eq_true h6) <| P2 ((0 : Int) ≤ 2) (by decide) <| P1 (int_lt_of_at (by decide : (0 : Int) ≤ 2) hx7) <| P1 (at_map I hx7) <| P2 ((decide (x7 > 0)) = true) (decide_eq_true h8) <| P0))
          (fun h8 H =>
            eN H fun r hn => gO [rg [hE 2 (I x3), hT 3, hE 7 (I x5), hT 8, hE 13 (I x7), hF 14], r0, .canon [0] [1, 2, 3, 8]] (by kernel_rfl) (P2 ((0 : Int) ≤ 0) (by decide) <| P1 (int_lt_of_at (by decide : (0 : Int) ≤ 0) hx3) <| P1 (at_map I hx3) <| P2 ((decide (x3 > 0)) = true) (decide_eq_true h4) <| P2 ((0 : Int) ≤ 1) (by decide) <| P1 (int_lt_of_at (by decide : (0 : Int) ≤ 1) hx5) <| P1 (at_map I hx5) <| P2 ((decide (x5 > 0)) = true) (decide_eq_true h6) <| P2 ((0 : Int) ≤ 2) (by decide) <| P1 (int_lt_of_at (by decide : (0 : Int) ≤ 2) hx7) <| P1 (at_map I hx7) <| P2 ((decide (x7 > 0)) = false) (decide_eq_false h8) <| P0) hn))
        (fun h6 H =>
          eN H fun r hn => gO [rg [hE 2 (I x3), hT 3, hE 7 (I x5), hF 8], r0, .canon [0] [1, 2, 3, 8]] (by kernel_rfl) (P2 ((0 : Int) ≤ 0) (by decide) <| P1 (int_lt_of_at (by decide : (0 : Int) ≤ 0) hx3) <| P1 (at_map I hx3) <| P2 ((decide (x3 > 0)) = true) (decide_eq_true h4) <| P2 ((0 : Int) ≤ 1) (by decide) <| P1 (int_lt_of_at (by decide : (0 : Int) ≤ 1) hx5) <| P1 (at_map I hx5) <| P2 ((decide (x5 > 0)) = false) (decide_eq_false h6) <| P0) hn))
      (fun h4 H =>
        eN H fun r hn => gO [rg [hE 2 (I x3), hF 3], r0, .canon [0] [1, 2, 3, 8]] (by kernel_rfl) (P2 ((0 : Int) ≤ 0) (by decide) <| P1 (int_lt_of_at (by decide : (0 : Int) ≤ 0) hx3) <| P1 (at_map I hx3) <| P2 ((decide (x3 > 0)) = false) (decide_eq_false h4) <| P0) hn))
    (fun h1 H =>
      eN H <| gE func18 [rg [hF 2], r0] (by kernel_rfl) (P2 ((decide (n2 ≤ most1)) = false) (decide_eq_false h1) <| P0))
theorem ws_EvenTurn : ∀ s r, loop Bs_EvenTurn s = some r → Wc X 18 0 (Ks_EvenTurn s) (Zs_EvenTurn s) (Rs_EvenTurn r) ((fun _ => []) r) := Nx.all ns_EvenTurn
theorem cs_EvenTurn {a0 : Gi_Climate} {a1 : Int} {a2 : Int} {r : Int × Bool} (H : Ds_EvenTurn a0 a1 a2 = some r) : Ct X.P X.gl 18 [.agg [sl 1 (sl 1 I) a0.Weights], I a1, I a2] [] (Rs_EvenTurn r) [] :=
  Ct.of func18 (c := bdy f18) (by kernel_rfl) (by kernel_rfl) <|
  eBind H fun r1 hr1 H =>
  gS [r0] (by kernel_rfl) P0 <|
  eIf H (fun h2 H =>
    eBind H fun r3 hr3 H =>
    eIf H (fun h4 H =>
      gO [rg [{ i := 2, call := some { cl := true, auto := true, ins := [], res := (RB r1), G' := [] }, dec := some true }, { i := 6, call := some { cl := true, auto := true, ins := [], res := (RB r3), G' := [] }, dec := some true }], r0, .canon [0] [1, 2, 3, 8]] (by kernel_rfl) (P1 (cs_wAsked hr1) <| P2 (r1 = true) (h2) <| P1 (cs_l1In hr3) <| P2 (r3 = true) (h4) <| P0) (ws_EvenTurn _ _ H))
    (fun h4 H =>
      eW Rs_EvenTurn (fun _ => []) H <| gE func18 [rg [{ i := 2, call := some { cl := true, auto := true, ins := [], res := (RB r1), G' := [] }, dec := some true }, { i := 6, call := some { cl := true, auto := true, ins := [], res := (RB r3), G' := [] }, dec := some false }], r0] (by kernel_rfl) (P1 (cs_wAsked hr1) <| P2 (r1 = true) (h2) <| P1 (cs_l1In hr3) <| P2 (r3 = false) (eqF h4) <| P0)))
  (fun h2 H =>
    eW Rs_EvenTurn (fun _ => []) H <| gE func18 [rg [{ i := 2, call := some { cl := true, auto := true, ins := [], res := (RB r1), G' := [] }, dec := some false }], r0] (by kernel_rfl) (P1 (cs_wAsked hr1) <| P2 (r1 = false) (eqF h2) <| P0))
/-! loop example/g00886/laws FnForecasts -/
theorem cw_FnForecasts {a0 : (List Int)} {a1 : (List Int)} {r : Bool} (H : Dw_FnForecasts a0 a1 = some r) : Ct X.P X.gl 3 [sl 1 (D.int .u8) a0, sl 1 (D.int .u8) a1] [] (RB r) [] :=
  Ct.of func3 (c := bdy f3) (by kernel_rfl) (by kernel_rfl) <|
  eBind H fun r1 hr1 H =>
  gS [r0] (by kernel_rfl) P0 <|
  eIf H (fun h2 H =>
    eW RB (fun _ => []) H <| gE func3 [rg [{ i := 2, call := some { cl := true, auto := true, ins := [], res := (RB r1), G' := [] }, dec := some true }], r0] (by kernel_rfl) (P1 (cw_big hr1) <| P2 (r1 = true) (h2) <| P0))
  (fun h2 H =>
    eBind H fun r3 hr3 H =>
    eBind H fun r4 hr4 H =>
    eBind H fun r5 hr5 H =>
    gS [rg [{ i := 2, call := some { cl := true, auto := true, ins := [], res := (RB r1), G' := [] }, dec := some false }], rg [hC 1 true [] (Rs_DrawMostLikely r3) []], rg [{ i := 3, call := some { cl := false, ins := [], args := [.agg [sl 1 (sl 1 I) r3.1.Weights], I r3.2.1, I r3.2.2], res := Ri_MostLikely r4, G' := [] } }], rg [{ i := 3, call := some { cl := false, ins := [], args := [.agg [sl 1 (sl 1 I) r3.1.Weights], I r3.2.1, I r3.2.2], res := Rs_MostLikely r5, G' := [] } }]] (by kernel_rfl) (P1 (cw_big hr1) <| P2 (r1 = false) (eqF h2) <| P1 (cs_DrawMostLikely hr3) <| PE ero_29 r3.1.Weights <| PI (r3.2.1 : Int) <| PI (r3.2.2 : Int) <| P2 (nfL (List.flatMap D.cells (Ri_MostLikely r4))) ⟨nfL_map nf_3 _, trivial, trivial⟩ <| P2 (nfG []) trivial <| P1 (ci_MostLikely hr4) <| PE ero_29 r3.1.Weights <| PI (r3.2.1 : Int) <| PI (r3.2.2 : Int) <| P2 (nfL (List.flatMap D.cells (Rs_MostLikely r5))) ⟨nfL_map nf_3 _, trivial, trivial⟩ <| P2 (nfG []) trivial <| P1 (cs_MostLikely hr5) <| P0) <|
    eIf H (fun h6 H =>
      eW RB (fun _ => []) H <| gE func3 [rg [hT 2], r0] (by kernel_rfl) (P2 ((!(r4.2 == r5.2)) = true) (h6) <| P0))
    (fun h6 H =>
      eBind H fun r7 hr7 H =>
      eIf H (fun h8 H =>
        eBind H fun r9 hr9 H =>
        eBind H fun r10 hr10 H =>
        gS [rg [hF 2, { i := 6, call := some { cl := false, auto := true, ins := [], res := (RB r7), G' := [] }, dec := some true }], rg [hC 1 true [] (Rs_DrawLikelihoodOf r9) []]] (by kernel_rfl) (P2 ((!(r4.2 == r5.2)) = false) (eqF h6) <| P1 (cw_sameInts hr7) <| P2 (r7 = true) (h8) <| P1 (cs_DrawLikelihoodOf hr9) <| P0) <|
        eIf H (fun h11 H =>
          eBind H fun r12 hr12 H =>
          gS [rg [{ i := 2, call := some { cl := false, ins := [], args := [.agg [sl 1 (sl 1 I) r9.1.Weights], sl 1 I r9.2], res := Ri_LikelihoodOf r10, G' := [] } }, hT 5], rg [{ i := 2, call := some { cl := false, ins := [], args := [.agg [sl 1 (sl 1 I) r9.1.Weights], sl 1 I r9.2], res := Rs_LikelihoodOf r12, G' := [] } }]] (by kernel_rfl) (PE ero_29 r9.1.Weights <| PL I r9.2 <| P1 (ci_LikelihoodOf hr10) <| P2 (r10.2 = true) (h11) <| PE ero_29 r9.1.Weights <| PL I r9.2 <| P1 (cs_LikelihoodOf hr12) <| P0) <|
          eIf H (fun h13 H =>
            eW RB (fun _ => []) H <| gE func3 [rg [hT 2], r0] (by kernel_rfl) (P2 ((!(true == r12.2)) = true) (h13) <| P0))
          (fun h13 H =>
            eIf H (fun h14 H =>
              eBind H fun x15 hx15 H =>
              eBind H fun r16 hr16 H =>
              gS [rg [hF 2, hF 6], r0] (by kernel_rfl) (P2 ((!(true == r12.2)) = false) (eqF h13) <| P2 (((r10.1 : Int) != r12.1) = false) (bneF h14) <| P0) <|
              eIf H (fun h17 H =>
                eBind H fun x18 hx18 H =>
                eCk H fun h19 H =>
                eBind H fun r20 hr20 H =>
                gS [rg [hE 3 (I x15), { i := 7, call := some { cl := false, ins := [], args := [.agg [sl 1 (sl 1 I) r9.1.Weights], I x15, I (IntKind.wrap .i64 (((r9.2.length : Nat) : Int) - 1))], res := Ri_MostLikely r16, G' := [] } }, hT 10], r0] (by kernel_rfl) (P2 ((0 : Int) ≤ 0) (by decide) <| P1 (int_lt_of_at (by decide : (0 : Int) ≤ 0) hx15) <| P1 (at_map I hx15) <| PE ero_29 r9.1.Weights <| PI (x15 : Int) <| PI (IntKind.wrap .i64 (((r9.2.length : Nat) : Int) - 1) : Int) <| P2 (nfL (List.flatMap D.cells (Ri_MostLikely r16))) ⟨nfL_map nf_3 _, trivial, trivial⟩ <| P2 (nfG []) trivial <| P1 (ci_MostLikely hr16) <| P2 (r16.2 = true) (h17) <| P0) <|
                eIf H (fun h21 H =>
                  gS [rg [hE 3 (I x18), { i := 6, keep := true, n := ([x18] ++ r16.1).length, xs := List.map I ([x18] ++ r16.1) }, { i := 7, call := some { cl := false, ins := [], args := [.agg [sl 1 (sl 1 I) r9.1.Weights], sl 1 I ([x18] ++ r16.1)], res := Ri_LikelihoodOf r20, G' := [] } }, hT 10]] (by kernel_rfl) (P2 ((0 : Int) ≤ 0) (by decide) <| P1 (int_lt_of_at (by decide : (0 : Int) ≤ 0) hx18) <| P1 (at_map I hx18) <| P2 (AllFl (List.map I r16.1)) (allFl_3 _) <| P1 (apL [x18] r16.1) <| P1 (apB h19) <| P1 (apM I [x18] r16.1) <| PE ero_29 r9.1.Weights <| PL I ([x18] ++ r16.1) <| P1 (ci_LikelihoodOf hr20) <| P2 (r20.2 = true) (h21) <| P0) <|
                  eIf H (fun h22 H =>
                    eW RB (fun _ => []) H <| gE func3 [rg [hT 5], r0] (by kernel_rfl) (P2 ((decide (r20.1 < r10.1)) = true) (decide_eq_true h22) <| P0))
                  (fun h22 H =>
                    eBind H fun r23 hr23 H =>
                    eBind H fun r24 hr24 H =>
                    eBind H fun r25 hr25 H =>
                    eBind H fun r26 hr26 H =>
                    eBind H fun r27 hr27 H =>
                    gS [rg [hF 5], rg [hC 1 true [] (Rs_DrawCanFollow r23) []], rg [{ i := 3, call := some { cl := false, ins := [], args := [.agg [sl 1 (sl 1 I) r23.1.Weights], I r23.2.1, I r23.2.2], res := Ri_CanFollow r24, G' := [] } }], rg [{ i := 3, call := some { cl := false, ins := [], args := [.agg [sl 1 (sl 1 I) r23.1.Weights], I r23.2.1, I r23.2.2], res := Rs_CanFollow r25, G' := [] } }], rg [{ i := 3, call := some { cl := false, ins := [], args := [.agg [sl 1 (sl 1 I) r3.1.Weights], I r3.2.1, I r3.2.2], res := Ri_EvenTurn r26, G' := [] } }], rg [{ i := 3, call := some { cl := false, ins := [], args := [.agg [sl 1 (sl 1 I) r3.1.Weights], I r3.2.1, I r3.2.2], res := Rs_EvenTurn r27, G' := [] } }]] (by kernel_rfl) (P2 ((decide (r20.1 < r10.1)) = false) (decide_eq_false h22) <| P1 (cs_DrawCanFollow hr23) <| PE ero_29 r23.1.Weights <| PI (r23.2.1 : Int) <| PI (r23.2.2 : Int) <| P1 (ci_CanFollow hr24) <| PE ero_29 r23.1.Weights <| PI (r23.2.1 : Int) <| PI (r23.2.2 : Int) <| P1 (cs_CanFollow hr25) <| PE ero_29 r3.1.Weights <| PI (r3.2.1 : Int) <| PI (r3.2.2 : Int) <| P1 (ci_EvenTurn hr26) <| PE ero_29 r3.1.Weights <| PI (r3.2.1 : Int) <| PI (r3.2.2 : Int) <| P1 (cs_EvenTurn hr27) <| P0) <|
                    eIf H (fun h28 H =>
                      eIf H (fun h29 H =>
                        eIf H (fun h30 H =>
                          eW RB (fun _ => []) H <| gE func3 [rg [hT 2, hT 6, hT 11]] (by kernel_rfl) (P2 ((r24.2 == r25.2) = true) (h28) <| P2 ((r24.1 == r25.1) = true) (h29) <| P2 ((r26.2 == r27.2) = true) (h30) <| P0))
                        (fun h30 H =>
                          eW RB (fun _ => []) H <| gE func3 [rg [hT 2, hT 6, hF 11]] (by kernel_rfl) (P2 ((r24.2 == r25.2) = true) (h28) <| P2 ((r24.1 == r25.1) = true) (h29) <| P2 ((r26.2 == r27.2) = false) (eqF h30) <| P0)))
                      (fun h29 H =>
                        eW RB (fun _ => []) H <| gE func3 [rg [hT 2, hF 6]] (by kernel_rfl) (P2 ((r24.2 == r25.2) = true) (h28) <| P2 ((r24.1 == r25.1) = false) (eqF h29) <| P0)))
                    (fun h28 H =>
                      eW RB (fun _ => []) H <| gE func3 [rg [hF 2]] (by kernel_rfl) (P2 ((r24.2 == r25.2) = false) (eqF h28) <| P0))))
                (fun h21 H =>
                  eW RB (fun _ => []) H <| gE func3 [rg [hE 3 (I x18), { i := 6, keep := true, n := ([x18] ++ r16.1).length, xs := List.map I ([x18] ++ r16.1) }, { i := 7, call := some { cl := false, ins := [], args := [.agg [sl 1 (sl 1 I) r9.1.Weights], sl 1 I ([x18] ++ r16.1)], res := Ri_LikelihoodOf r20, G' := [] } }, hF 10], r0, r0] (by kernel_rfl) (P2 ((0 : Int) ≤ 0) (by decide) <| P1 (int_lt_of_at (by decide : (0 : Int) ≤ 0) hx18) <| P1 (at_map I hx18) <| P2 (AllFl (List.map I r16.1)) (allFl_3 _) <| P1 (apL [x18] r16.1) <| P1 (apB h19) <| P1 (apM I [x18] r16.1) <| PE ero_29 r9.1.Weights <| PL I ([x18] ++ r16.1) <| P1 (ci_LikelihoodOf hr20) <| P2 (r20.2 = false) (eqF h21) <| P0)))
              (fun h17 H =>
                eW RB (fun _ => []) H <| gE func3 [rg [hE 3 (I x15), { i := 7, call := some { cl := false, ins := [], args := [.agg [sl 1 (sl 1 I) r9.1.Weights], I x15, I (IntKind.wrap .i64 (((r9.2.length : Nat) : Int) - 1))], res := Ri_MostLikely r16, G' := [] } }, hF 10], r0, r0] (by kernel_rfl) (P2 ((0 : Int) ≤ 0) (by decide) <| P1 (int_lt_of_at (by decide : (0 : Int) ≤ 0) hx15) <| P1 (at_map I hx15) <| PE ero_29 r9.1.Weights <| PI (x15 : Int) <| PI (IntKind.wrap .i64 (((r9.2.length : Nat) : Int) - 1) : Int) <| P2 (nfL (List.flatMap D.cells (Ri_MostLikely r16))) ⟨nfL_map nf_3 _, trivial, trivial⟩ <| P2 (nfG []) trivial <| P1 (ci_MostLikely hr16) <| P2 (r16.2 = false) (eqF h17) <| P0)))
            (fun h14 H =>
              eW RB (fun _ => []) H <| gE func3 [rg [hF 2, hT 6], r0] (by kernel_rfl) (P2 ((!(true == r12.2)) = false) (eqF h13) <| P2 (((r10.1 : Int) != r12.1) = true) (bneT h14) <| P0))))
        (fun h11 H =>
          eBind H fun r12 hr12 H =>
          gS [rg [{ i := 2, call := some { cl := false, ins := [], args := [.agg [sl 1 (sl 1 I) r9.1.Weights], sl 1 I r9.2], res := Ri_LikelihoodOf r10, G' := [] } }, hF 5], rg [{ i := 2, call := some { cl := false, ins := [], args := [.agg [sl 1 (sl 1 I) r9.1.Weights], sl 1 I r9.2], res := Rs_LikelihoodOf r12, G' := [] } }]] (by kernel_rfl) (PE ero_29 r9.1.Weights <| PL I r9.2 <| P1 (ci_LikelihoodOf hr10) <| P2 (r10.2 = false) (eqF h11) <| PE ero_29 r9.1.Weights <| PL I r9.2 <| P1 (cs_LikelihoodOf hr12) <| P0) <|
          eIf H (fun h13 H =>
            eW RB (fun _ => []) H <| gE func3 [rg [hT 2], r0] (by kernel_rfl) (P2 ((!(false == r12.2)) = true) (h13) <| P0))
          (fun h13 H =>
            eIf H (fun h14 H =>
              eBind H fun r15 hr15 H =>
              eBind H fun r16 hr16 H =>
              eBind H fun r17 hr17 H =>
              eBind H fun r18 hr18 H =>
              eBind H fun r19 hr19 H =>
              gS [rg [hF 2, hF 6], r0, rg [hC 1 true [] (Rs_DrawCanFollow r15) []], rg [{ i := 3, call := some { cl := false, ins := [], args := [.agg [sl 1 (sl 1 I) r15.1.Weights], I r15.2.1, I r15.2.2], res := Ri_CanFollow r16, G' := [] } }], rg [{ i := 3, call := some { cl := false, ins := [], args := [.agg [sl 1 (sl 1 I) r15.1.Weights], I r15.2.1, I r15.2.2], res := Rs_CanFollow r17, G' := [] } }], rg [{ i := 3, call := some { cl := false, ins := [], args := [.agg [sl 1 (sl 1 I) r3.1.Weights], I r3.2.1, I r3.2.2], res := Ri_EvenTurn r18, G' := [] } }], rg [{ i := 3, call := some { cl := false, ins := [], args := [.agg [sl 1 (sl 1 I) r3.1.Weights], I r3.2.1, I r3.2.2], res := Rs_EvenTurn r19, G' := [] } }]] (by kernel_rfl) (P2 ((!(false == r12.2)) = false) (eqF h13) <| P2 (((r10.1 : Int) != r12.1) = false) (bneF h14) <| P1 (cs_DrawCanFollow hr15) <| PE ero_29 r15.1.Weights <| PI (r15.2.1 : Int) <| PI (r15.2.2 : Int) <| P1 (ci_CanFollow hr16) <| PE ero_29 r15.1.Weights <| PI (r15.2.1 : Int) <| PI (r15.2.2 : Int) <| P1 (cs_CanFollow hr17) <| PE ero_29 r3.1.Weights <| PI (r3.2.1 : Int) <| PI (r3.2.2 : Int) <| P1 (ci_EvenTurn hr18) <| PE ero_29 r3.1.Weights <| PI (r3.2.1 : Int) <| PI (r3.2.2 : Int) <| P1 (cs_EvenTurn hr19) <| P0) <|
              eIf H (fun h20 H =>
                eIf H (fun h21 H =>
                  eIf H (fun h22 H =>
                    eW RB (fun _ => []) H <| gE func3 [rg [hT 2, hT 6, hT 11]] (by kernel_rfl) (P2 ((r16.2 == r17.2) = true) (h20) <| P2 ((r16.1 == r17.1) = true) (h21) <| P2 ((r18.2 == r19.2) = true) (h22) <| P0))
                  (fun h22 H =>
                    eW RB (fun _ => []) H <| gE func3 [rg [hT 2, hT 6, hF 11]] (by kernel_rfl) (P2 ((r16.2 == r17.2) = true) (h20) <| P2 ((r16.1 == r17.1) = true) (h21) <| P2 ((r18.2 == r19.2) = false) (eqF h22) <| P0)))
                (fun h21 H =>
                  eW RB (fun _ => []) H <| gE func3 [rg [hT 2, hF 6]] (by kernel_rfl) (P2 ((r16.2 == r17.2) = true) (h20) <| P2 ((r16.1 == r17.1) = false) (eqF h21) <| P0)))
              (fun h20 H =>
                eW RB (fun _ => []) H <| gE func3 [rg [hF 2]] (by kernel_rfl) (P2 ((r16.2 == r17.2) = false) (eqF h20) <| P0)))
            (fun h14 H =>
              eW RB (fun _ => []) H <| gE func3 [rg [hF 2, hT 6], r0] (by kernel_rfl) (P2 ((!(false == r12.2)) = false) (eqF h13) <| P2 (((r10.1 : Int) != r12.1) = true) (bneT h14) <| P0)))))
      (fun h8 H =>
        eW RB (fun _ => []) H <| gE func3 [rg [hF 2, { i := 6, call := some { cl := false, auto := true, ins := [], res := (RB r7), G' := [] }, dec := some false }], r0] (by kernel_rfl) (P2 ((!(r4.2 == r5.2)) = false) (eqF h6) <| P1 (cw_sameInts hr7) <| P2 (r7 = false) (eqF h8) <| P0))))
end Go.Proofs.Ytfnhclmdobdkbaa.Ab
